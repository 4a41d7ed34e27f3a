/-
  HELPERS of the claim: part 8 of its texts.
-/
import Derived.Shelf.Strconv.Itoa3
import Derived.Test.YtndjhpjcankkaaaGreatDoorProg
import Derived.KernelRfl
import Derived.Lib.AtoiAll
import Derived.Test.YtndjhpjcankkaaaGreatDoorAudg
noncomputable section
set_option linter.unusedVariables false
namespace Go.Proofs
open Go.Shelf
def Tryz.laysM171_ren:Go.Shelf.Ren:=⟨fun | 171=>79 | 243=>96 | 246=>110 | 283=>123 | 284=>124 | 285=>125 | 286=>126 | 129=>138 | 317=>137 | 318=>139 | 319=>140 | 320=>141 | 337=>146 | 338=>147|n=>n,fun | 3=>3 | 9=>9 | 2=>2 | 4=>4 | 171=>145 | 0=>0 | 53=>146 | 37=>42 | 5=>5 | 173=>149 | 212=>161 | 51=>43 | 20=>20 | 213=>162 | 46=>105 | 232=>175 | 233=>176|n=>n,fun | 17=>3 | 18=>6 | 19=>7|n=>n⟩
theorem Tryz.laysM171:Go.Proofs.LaysM.n171 Tryz.prog Tryz.laysM171_ren:={
 mixed:=by kernel_rfl
 f129:=Tryz.func138.trans (congrArg some (by kernel_rfl))
 f171:=Tryz.func79.trans (congrArg some (by kernel_rfl))
 f243:=Tryz.func96.trans (congrArg some (by kernel_rfl))
 f246:=Tryz.func110.trans (congrArg some (by kernel_rfl))
 f283:=Tryz.func123.trans (congrArg some (by kernel_rfl))
 f284:=Tryz.func124.trans (congrArg some (by kernel_rfl))
 f285:=Tryz.func125.trans (congrArg some (by kernel_rfl))
 f286:=Tryz.func126.trans (congrArg some (by kernel_rfl))
 f317:=Tryz.func137.trans (congrArg some (by kernel_rfl))
 f318:=Tryz.func139.trans (congrArg some (by kernel_rfl))
 f319:=Tryz.func140.trans (congrArg some (by kernel_rfl))
 f320:=Tryz.func141.trans (congrArg some (by kernel_rfl))
 f337:=Tryz.func146.trans (congrArg some (by kernel_rfl))
 f338:=Tryz.func147.trans (congrArg some (by kernel_rfl))
 t0:=Tryz.underlying0
 a0:=Tryz.isAgg0
 z0:=Tryz.sizeOf0
 v0:=Tryz.zeroValue0
 t2:=Tryz.underlying2
 a2:=Tryz.isAgg2
 z2:=Tryz.sizeOf2
 v2:=Tryz.zeroValue2
 t3:=Tryz.underlying3
 a3:=Tryz.isAgg3
 z3:=Tryz.sizeOf3
 v3:=Tryz.zeroValue3
 t4:=Tryz.underlying4
 a4:=Tryz.isAgg4
 z4:=Tryz.sizeOf4
 v4:=Tryz.zeroValue4
 t5:=Tryz.underlying5
 a5:=Tryz.isAgg5
 z5:=Tryz.sizeOf5
 v5:=Tryz.zeroValue5
 t9:=Tryz.underlying9
 a9:=Tryz.isAgg9
 z9:=Tryz.sizeOf9
 v9:=Tryz.zeroValue9
 t20:=Tryz.underlying20
 a20:=Tryz.isAgg20
 z20:=Tryz.sizeOf20
 v20:=Tryz.zeroValue20
 t37:=Tryz.underlying42
 a37:=Tryz.isAgg42
 z37:=Tryz.sizeOf42
 v37:=Tryz.zeroValue42
 t46:=Tryz.underlying105
 a46:=Tryz.isAgg105
 z46:=Tryz.sizeOf105
 v46:=Tryz.zeroValue105
 t51:=Tryz.underlying43
 a51:=Tryz.isAgg43
 z51:=Tryz.sizeOf43
 v51:=Tryz.zeroValue43
 t53:=Tryz.underlying146
 a53:=Tryz.isAgg146
 z53:=Tryz.sizeOf146
 v53:=Tryz.zeroValue146
 t171:=Tryz.underlying145
 a171:=Tryz.isAgg145
 z171:=Tryz.sizeOf145
 v171:=Tryz.zeroValue145
 t173:=Tryz.underlying149
 a173:=Tryz.isAgg149
 z173:=Tryz.sizeOf149
 v173:=Tryz.zeroValue149
 t212:=Tryz.underlying161
 a212:=Tryz.isAgg161
 z212:=Tryz.sizeOf161
 v212:=Tryz.zeroValue161
 t213:=Tryz.underlying162
 a213:=Tryz.isAgg162
 z213:=Tryz.sizeOf162
 t232:=Tryz.underlying175
 a232:=Tryz.isAgg175
 z232:=Tryz.sizeOf175
 v232:=Tryz.zeroValue175
 t233:=Tryz.underlying176
 a233:=Tryz.isAgg176
 z233:=Tryz.sizeOf176
 v233:=Tryz.zeroValue176
 g17:=by kernel_rfl
 g18:=by kernel_rfl
 g19:=by kernel_rfl
 i0:=by kernel_rfl
 i2:=by kernel_rfl
 i3:=by kernel_rfl
 i4:=by kernel_rfl
 i5:=by kernel_rfl
 i9:=by kernel_rfl
 i20:=by kernel_rfl
 i37:=by kernel_rfl
 i46:=by kernel_rfl
 i51:=by kernel_rfl
 i53:=by kernel_rfl
 i171:=by kernel_rfl
 i173:=by kernel_rfl
 i212:=by kernel_rfl
 i232:=by kernel_rfl
 i233:=by kernel_rfl
 m17:=by kernel_rfl
 m18:=by kernel_rfl
 m19:=by kernel_rfl }
open Go.RowKit Go.Sort Go.Lib in
theorem Tryz.strconv_Itoa (n : Int) (h0 : -9223372036854775808 ≤ n) (h1 : n ≤ 9223372036854775807) (w : World) (htab : Lib.TabIs Tryz.prog w "internal/strconv.uint64pow10" .u64 Lib.pow10Tab) :
  Calls Tryz.prog 79 #[.int .i64 n] w fun e w'=>e=.returned (.string ⟨(Lib.itoa n).toArray⟩)∧∃ k os,w'=grow (w.drewN k) os:=Any.strconv_Itoa Tryz.laysM171 n h0 h1 w htab
end Go.Proofs
set_option maxHeartbeats 4000000
set_option maxRecDepth 100000
set_option linter.unusedSimpArgs false
namespace Go.Proofs.YtndjhpjcankkaaaGreatDoor
open Go.Eng (IC IOper DReg IFn IsFn Callable)
open Go.Sym Go.Pb Go.RowKit
theorem dec_eq:∀ (m u:Nat),u<m→Lib.decDigits u=decB u:=by
 intro m
 induction m with
 | zero=>intro u h;omega
 | succ m ih =>
  intro u h
  unfold Lib.decDigits
  by_cases h0:u<10
  ·rw [dif_pos h0,decB_lt h0];rfl
  ·rw [dif_neg h0,decB_ge h0,ih (u / 10) (by omega)];rfl
theorem itoa_eq (n:Int):Lib.itoa n=decI n:=by
 unfold Lib.itoa decI
 by_cases h:n<0
 ·rw [if_pos h,if_pos h,dec_eq (n.natAbs+1) _ (by omega)]
 ·rw [if_neg h,if_neg h,dec_eq (n.toNat+1) _ (by omega)]
  congr 1;omega
theorem arg1 {ρ : Ren} {x:DV} {u:Value} {vs:Array Value} (hA:ARel ρ [x] vs) (h:∀ y,VRel ρ x y→y=u):vs = #[u]:=by
 obtain ⟨y,h1,h2⟩:=hA.get (i:=0) rfl
 have hs:vs.size=1:=hA.1.symm
 obtain rfl:=h y h2
 cases vs with|mk l=>match l,hs,h1 with
  | [a],_,h1=>simp at h1;subst h1;rfl
theorem c_Itoa (n:Int) (h0 : -9223372036854775808≤n) (h1:n≤9223372036854775807):PC Tryz.prog 79 [I64 n] (.str (decI n)):=by
 refine PC.of_calls (by kernel_rfl) rfl rfl fun ρ w vs hf hA=>?_
 have hvs:vs = #[.int .i64 n]:=arg1 hA fun y h=>h.int_inv
 rw [hvs]
 obtain ⟨r,hr,rfl⟩ := ρ.tab _ (List.mem_cons_self)
 obtain ⟨e,fr,hb⟩:=hf _ _ hr
 have ht : Lib.TabIs Tryz.prog w "internal/strconv.uint64pow10" .u64 Lib.pow10Tab := by
  unfold Lib.TabIs World.var?
  rw [Tryz.laysM171.m17]
  show (match w.heap[3]? with|some (.cells cs _ _)=>some cs|_=>none)=_
  rw [hb]
 refine (Tryz.strconv_Itoa n h0 h1 w ht).mono ?_
 rintro e w' ⟨rfl,k,os,rfl⟩
 exact ⟨_,rfl,fun ρ'=>by rw [itoa_eq];exact .mkStr,⟨rfl,rfl,rfl,by show w.heap.size≤(w.heap++os).size;rw [Array.size_append];omega,fun j hj=>by
  show (w.heap++os)[j]? = w.heap[j]?
  rw [Array.getElem?_append,if_pos hj]⟩⟩
theorem arg2 {ρ : Ren} {x x2:DV} {u u2:Value} {vs:Array Value} (hA:ARel ρ [x,x2] vs) (h:∀ y,VRel ρ x y→y=u) (h2:∀ y,VRel ρ x2 y→y=u2):vs = #[u,u2]:=by
 obtain ⟨y,g1,g2⟩:=hA.get (i:=0) rfl
 obtain ⟨z,g3,g4⟩:=hA.get (i:=1) rfl
 obtain rfl:=h y g2
 obtain rfl:=h2 z g4
 have hs:vs.size=2:=hA.1.symm
 cases vs with|mk r=>match r,hs,g1,g3 with
  | [a,b],_,h1,h3=>simp at h1 h3;subst h1 h3;rfl
theorem c_Join (l:List (List UInt8)) (sp:List UInt8) (h1:l.length≤140737488355328) (h2:(Lib.join l sp).length≤140737488355328):PC Tryz.prog 80 [strs l,.str sp] (.str (Lib.join l sp)):=by
 refine PC.of_calls (by kernel_rfl) (by simp [DV.nlL,DV.nl,nlL_strs]) rfl fun ρ w vs hf hA=>?_
 obtain ⟨y,g1,g2⟩:=hA.get (i:=0) rfl
 obtain ⟨z,g3,g4⟩:=hA.get (i:=1) rfl
 obtain rfl:=g4.str_inv
 have hvs:vs = #[y,.string ⟨sp.toArray⟩]:=by
  have hs:vs.size=2:=hA.1.symm
  cases vs with|mk r=>match r,hs,g1,g3 with
   | [a,b],_,h1,h3=>simp at h1 h3;subst h1 h3;rfl
 rw [hvs]
 rcases g2.lst_inv with ⟨e0,e1|⟨a,c,e1⟩⟩|⟨u,b,off,c,row,e1,e2,e3,e4,e5,e6⟩
 ·subst e1
  have:l=[]:=by simpa using e0
  subst this
  refine (Tryz.strings_Join_none none 0 ⟨sp.toArray⟩ w).mono ?_
  rintro e w' ⟨rfl,rfl⟩
  exact ⟨_,rfl,fun ρ'=>.mkStr,Below.refl _ _⟩
 ·subst e1
  have:l=[]:=by simpa using e0
  subst this
  refine (Tryz.strings_Join_none (some a) c ⟨sp.toArray⟩ w).mono ?_
  rintro e w' ⟨rfl,rfl⟩
  exact ⟨_,rfl,fun ρ'=>.mkStr,Below.refl _ _⟩
 ·subst e1
  obtain ⟨e,fr,hb⟩:=hf b row e2
  obtain ⟨bs,hbs⟩:∃ bs:List ByteArray,bs=l.map fun s=>(⟨s.toArray⟩:ByteArray):=⟨_,rfl⟩
  have hL:(l.map DV.str).length=bs.length:=by rw [hbs];simp
  have hmap:bs.map (fun x=>x.data.toList)=l:=by
   rw [hbs,List.map_map]
   exact (List.map_congr_left fun s _=>rfl).trans (List.map_id l)
  have hmap2:bs.map (·.data.toList)=l:=hmap
  have p1:∀ (j:Nat) x,bs[j]? = some x→w.cell? ⟨b,off+j,none⟩=some (.string x):=by
   intro j x hx
   rw [hbs,List.getElem?_map] at hx
   obtain ⟨s,hs,rfl⟩:=Option.map_eq_some_iff.1 hx
   have hc:(cellsL (l.map DV.str))[j]? = some (DV.str s):=by rw [cellsL_map1 (fun _=>rfl),List.getElem?_map,hs];rfl
   obtain ⟨v,v1,v2⟩:=e6.get hc
   rw [v2.str_inv] at v1
   simp only [World.cell?,hb]
   exact v1
  have p2:b<w.heap.size:=(Array.getElem?_eq_some_iff.1 hb).1
  have p3:bs.length≤140737488355328:=by rw [hbs];simpa using h1
  have p4:bs.length≤c:=by rw [← hL];exact e3
  have p5:(Lib.join (bs.map (·.data.toList)) (⟨sp.toArray⟩:ByteArray).data.toList).length≤140737488355328:=by
   rw [hmap2];exact h2
  rw [hL]
  have key:=Tryz.strings_Join b off c bs ⟨sp.toArray⟩ w p1 p2 p3 p4 p5
  rw [hmap2] at key
  refine key.mono fun e w' hq=>⟨_,hq.1,fun ρ'=>?_,hq.2⟩
  exact .mkStr
theorem c_Dec:∀ (m:Nat) (n:Int),n.natAbs<m → -9223372036854775808≤n→n≤9223372036854775807→PC Tryz.prog 53 [I64 n] (.str (decI n)):=by
 intro m
 induction m with
 | zero=>intro n h;omega
 | succ m ih =>
  intro n h h1 h2
  have b:=dig_u8 (d:=lo10 n) (lo10_lt n)
  have hl:=lo10_lt n
  by_cases h0:n<0
  ·have hd:decide (n<0)=true:=by simpa using h0
   have e1:=neg_div h0
   have e2:=neg_mod h0
   have hh:=hi10_le (n:=n) (by omega)
   have w1:=w64 (n := -((hi10 n:Nat):Int)) (by omega) (by omega)
   have w2:=w64 (n:=0 - -((lo10 n:Nat):Int)) (by omega) (by omega)
   have w3:0 - -((lo10 n:Nat):Int)=(lo10 n:Int):=by omega
   rw [w3] at w2
   have hlen:=decI_len (n := -((hi10 n:Nat):Int)) (by omega) (by omega)
   have a0:=sadd (s:=decI (-((hi10 n:Nat):Int))) (t:=[digB (lo10 n)]) (by simp;omega)
   have a2:cvbsR (nil.upd 5 ⟨1,true,[DV.int .u8 ((digB (lo10 n)).toNat:Int)]⟩) (.slc 5 0 1)=some (.str [digB (lo10 n)]):=cv_own h_same rfl rfl
   have a1:=sadd (s:=[45]) (t:=[digB (lo10 n)]) (by simp)
   refine PC.of mixedU isU53 (Nat.le_of_ble_eq_true rfl) (by simp [DV.nlL,DV.nl,nlL_ints,nlL_strs,nlL_adjs,nlL_scos]) (by simp [DV.nlL,DV.nl,nlL_ints,nlL_strs,nlL_adjs,nlL_scos]) ?_
   show IW Tryz.prog 43 u53_1 ⟨argT _,_,_⟩ (rt [.tmp 2] _)
   repeat' ((first|(with_reducible first|refine wr ?_|refine cpc (ih (-((hi10 n:Nat):Int)) (by omega) (by omega) (by omega)) ?_|refine k_cu ?_ ?_)|(with_reducible refine wb2 ?_ ?_<;>(intro hb;try simp only [hb]))|((with_reducible refine k_val (cv_own (l:=[digB (lo10 n)]) h_same rfl rfl) ?_))|fail)<;>try simp only [go_sem,seval,hd,r_rem,r_quo,e1,e2,w1,w3,w2,b,a0,a1,a2])
   ·rw [decI_neg0 h0 (by simpa using hb)];exact pc_ret rfl
   ·rw [decI_neg h0 (by simpa using hb)]
    exact pc_ret rfl
  ·have hd:decide (n<0)=false:=by simpa using h0
   have e1:=pos_div (n:=n) (by omega)
   have e2:=pos_mod (n:=n) (by omega)
   have hh:hi10 n≤n.natAbs:=by unfold hi10;omega
   have w1:=w64 (n:=((hi10 n:Nat):Int)) (by omega) (by omega)
   have hlen:=decI_len (n:=((hi10 n:Nat):Int)) (by omega) (by omega)
   have a0:=sadd (s:=decI ((hi10 n:Nat):Int)) (t:=[digB (lo10 n)]) (by simp;omega)
   by_cases h9:n<10
   ·have hd9:decide (n<10)=true:=by simpa using h9
    refine PC.of mixedU isU53 (Nat.le_of_ble_eq_true rfl) (by simp [DV.nlL,DV.nl,nlL_ints,nlL_strs,nlL_adjs,nlL_scos]) (by simp [DV.nlL,DV.nl,nlL_ints,nlL_strs,nlL_adjs,nlL_scos]) ?_
    show IW Tryz.prog 43 u53_1 ⟨argT _,_,_⟩ (rt [.tmp 2] _)
    repeat' ((first|(with_reducible first|refine wr ?_|refine k_cu ?_ ?_)|(with_reducible refine wb2 ?_ ?_<;>(intro hb;try simp only [hb]))|((with_reducible refine k_val (cv_own (l:=[digB (lo10 n)]) h_same rfl rfl) ?_))|fail)<;>try simp only [go_sem,seval,hd,hd9,r_rem,r_quo,e1,e2,w1,b])
    rw [decI_lt (by omega) h9];exact pc_ret rfl
   ·have hd9:decide (n<10)=false:=by simpa using h9
    have hh:=hi10_le (n:=n) (by omega)
    refine PC.of mixedU isU53 (Nat.le_of_ble_eq_true rfl) (by simp [DV.nlL,DV.nl,nlL_ints,nlL_strs,nlL_adjs,nlL_scos]) (by simp [DV.nlL,DV.nl,nlL_ints,nlL_strs,nlL_adjs,nlL_scos]) ?_
    show IW Tryz.prog 43 u53_1 ⟨argT _,_,_⟩ (rt [.tmp 2] _)
    repeat' ((first|(with_reducible first|refine wr ?_|refine cpc (ih ((hi10 n:Nat):Int) (by omega) (by omega) (by omega)) ?_|refine k_cu ?_ ?_)|(with_reducible refine wb2 ?_ ?_<;>(intro hb;try simp only [hb]))|((with_reducible refine k_val (cv_own (l:=[digB (lo10 n)]) h_same rfl rfl) ?_))|fail)<;>try simp only [go_sem,seval,hd,hd9,r_rem,r_quo,e1,e2,w1,b,a0])
    rw [decI_ge h9];exact pc_ret rfl
end Go.Proofs.YtndjhpjcankkaaaGreatDoor
set_option linter.unusedSectionVars false
namespace Go.Pb
variable [Go.Sym.Tab]
open Go.Sym
def insM (y:Sco) (l:List Sco):List Sco:=l.take (placeM y.points l)++y :: l.drop (placeM y.points l)
theorem place_le (p:Int):∀ l:List Sco,placeM p l≤l.length
 | []=>Nat.le_refl _
 | x :: l=>by
  have:=place_le p l
  simp only [placeM,List.length_cons];split<;>omega
theorem place_lt {p:Int}:∀ {l:List Sco} {j:Nat} {x:Sco},j<placeM p l→l[j]? = some x→p≤x.points
 | [],j,x,h,_=>by simp [placeM] at h
 | a :: l,j,x,h,hx=>by
  simp only [placeM] at h
  split at h
  ·omega
  ·rename_i h1
   cases j with
   | zero=>cases hx;omega
   | succ j=>exact place_lt (l:=l) (j:=j) (by omega) (by simpa using hx)
theorem place_at {p:Int}:∀ {l:List Sco} {x:Sco},l[placeM p l]? = some x→x.points<p
 | [],x,h=>by simp at h
 | a :: l,x,h=>by
  simp only [placeM] at h
  split at h
  ·rename_i h1;cases h;exact h1
  ·rw [List.getElem?_cons_succ] at h;exact place_at h
theorem place_take (p:Int):∀ (l:List Sco) (n:Nat),placeM p (l.take n)=min (placeM p l) n
 | [],n=>by simp [placeM]
 | a :: l,0=>by simp [placeM]
 | a :: l,n+1=>by
  rw [List.take_succ_cons]
  simp only [placeM]
  split
  ·omega
  ·rw [place_take p l n];omega
theorem ord_iff:∀ {l:List Sco},ordM l=true↔∀ j a b,l[j]? = some a→l[j+1]? = some b→b.points≤a.points
 | []=>by simp [ordM]
 | [x]=>by simp [ordM]
 | x :: y :: l=>by
  simp only [ordM,Bool.and_eq_true,decide_eq_true_eq,ord_iff (l:=y :: l)]
  constructor
  ·rintro ⟨h1,h2⟩ j a b ha hb
   cases j with
   | zero=>simp at ha hb;subst ha hb;exact h1
   | succ j=>exact h2 j a b (by simpa using ha) (by simpa using hb)
  ·intro h
   exact ⟨h 0 x y rfl rfl,fun j a b ha hb=>h (j+1) a b (by simpa using ha) (by simpa using hb)⟩
theorem ord_tail {x:Sco} {l:List Sco} (h:ordM (x :: l)=true):ordM l=true:=by
 cases l with
 | nil=>rfl
 | cons y l=>simp only [ordM,Bool.and_eq_true] at h;exact h.2
theorem ord_head:∀ {x:Sco} {l:List Sco} {j:Nat} {y:Sco},ordM (x :: l)=true→l[j]? = some y→y.points≤x.points
 | x,[],j,y,_,h=>by simp at h
 | x,a :: l,0,y,h,hy=>by
  simp only [ordM,Bool.and_eq_true,decide_eq_true_eq] at h
  cases hy;exact h.1
 | x,a :: l,j+1,y,h,hy=>by
  have h1:=ord_head (ord_tail h) (j:=j) (y:=y) (by simpa using hy)
  simp only [ordM,Bool.and_eq_true,decide_eq_true_eq] at h
  omega
theorem ins_ord (y:Sco):∀ {l:List Sco},ordM l=true→ordM (insM y l)=true
 | [],_=>rfl
 | x :: l,h=>by
  have ih:=ins_ord y (ord_tail h)
  unfold insM at ih ⊢
  simp only [placeM]
  split
  ·rename_i h1
   simp only [List.take_zero,List.nil_append,List.drop_zero,ordM,Bool.and_eq_true,decide_eq_true_eq]
   exact ⟨by omega,h⟩
  ·rename_i h1
   rw [List.take_succ_cons,List.drop_succ_cons,List.cons_append]
   generalize hr:l.take (placeM y.points l)++y :: l.drop (placeM y.points l)=r at *
   cases r with
   | nil=>rfl
   | cons b r =>
    simp only [ordM,Bool.and_eq_true,decide_eq_true_eq]
    refine ⟨?_,ih⟩
    cases hp:l.take (placeM y.points l) with
    | nil=>rw [hp] at hr;simp at hr;rw [← hr.1];omega
    | cons z q =>
     rw [hp] at hr
     simp at hr
     have hz:l[0]? = some z:=by
      have:(l.take (placeM y.points l))[0]? = some z:=by rw [hp];rfl
      rw [List.getElem?_take] at this
      split at this
      ·exact this
      ·cases this
     rw [← hr.1]
     exact ord_head h hz
theorem ins_mem {y z:Sco} {l:List Sco} (h:z∈insM y l):z=y∨z∈l:=by
 unfold insM at h
 rcases List.mem_append.1 h with h|h
 ·exact .inr (List.mem_of_mem_take h)
 ·rcases List.mem_cons.1 h with h|h
  ·exact .inl h
  ·exact .inr (List.mem_of_mem_drop h)
theorem ins_len (y:Sco) (l:List Sco):(insM y l).length=l.length+1:=by
 have:=place_le y.points l
 unfold insM
 rw [List.length_append,List.length_take,List.length_cons,List.length_drop];omega
theorem ins_take {y:Sco} {l:List Sco} {n:Nat} (hn:n≤l.length):(insM y l).take n=if placeM y.points (l.take n)=n then l.take n else (insM y (l.take n)).take n:=by
 have hp:=place_take y.points l n
 have hle:=place_le y.points l
 by_cases h:placeM y.points (l.take n)=n
 ·rw [if_pos h]
  unfold insM
  rw [List.take_append_of_le_length (by rw [List.length_take];omega),List.take_take]
  congr 1;omega
 ·rw [if_neg h]
  have h2:placeM y.points (l.take n)=placeM y.points l:=by omega
  unfold insM
  rw [h2,List.take_take,show min (placeM y.points l) n=placeM y.points l by omega]
  generalize placeM y.points l=p at *
  have hlp:(l.take p).length=p:=by rw [List.length_take];omega
  rw [List.take_append,List.take_append,hlp]
  congr 1
  obtain ⟨k,hk⟩:∃ k,n-p=k+1:=⟨n-p-1,by omega⟩
  rw [hk,List.take_succ_cons,List.take_succ_cons]
  congr 1
  rw [List.drop_take,List.take_take]
  congr 1;omega
theorem place_stop {p:Int} {l:List Sco} {k:Nat} (ho:ordM l=true) (hk:k≤l.length) (h1:∀ j x,k≤j→l[j]? = some x→x.points<p) (h2:k=0∨∃ x,l[k-1]? = some x∧p≤x.points):placeM p l=k:=by
 have hle:=place_le p l
 rcases Nat.lt_trichotomy (placeM p l) k with h|h|h
 ·exfalso
  rcases h2 with h2|⟨x,hx,hp⟩
  ·omega
  ·obtain ⟨z,hz⟩:∃ z,l[placeM p l]? = some z:=⟨_,List.getElem?_eq_getElem (by omega)⟩
   have hz2:=place_at hz
   have mono:∀ (d j:Nat) (a b:Sco),l[j]? = some a→l[j+d]? = some b→b.points≤a.points:=by
    intro d
    induction d with
    | zero=>intro j a b ha hb;rw [Nat.add_zero,ha] at hb;cases hb;exact Int.le_refl _
    | succ d ih =>
     intro j a b ha hb
     have hlt:=(List.getElem?_eq_some_iff.1 hb).1
     obtain ⟨w,hw⟩:∃ w,l[j+d]? = some w:=⟨_,List.getElem?_eq_getElem (by omega)⟩
     have g1:=ih j a w ha hw
     have g2:=(ord_iff.1 ho) (j+d) w b hw (by rw [Nat.add_assoc];exact hb)
     omega
   have:=mono (k-1-placeM p l) (placeM p l) z x hz (by rw [show placeM p l+(k-1-placeM p l)=k-1 by omega];exact hx)
   omega
 ·exact h
 ·exfalso
  obtain ⟨z,hz⟩:∃ z,l[k]? = some z:=⟨_,List.getElem?_eq_getElem (by omega)⟩
  have g1:=place_lt h hz
  have g2:=h1 k z (Nat.le_refl _) hz
  omega
theorem scos_iff {l:List Sco}:scosM l=0↔(∀ x∈l,isScoM x=true)∧ordM l=true:=by
 unfold scosM
 constructor
 ·intro h
  split at h
  ·omega
  ·rename_i h1
   split at h
   ·omega
   ·rename_i h2
    have h1:l.all isScoM=true:=by simpa using h1
    exact ⟨List.all_eq_true.1 h1,by simpa using h2⟩
 ·rintro ⟨h1,h2⟩
  rw [if_neg (by rw [List.all_eq_true.2 h1];simp),if_neg (by rw [h2];simp)]
theorem ord_take:∀ {l:List Sco} (n:Nat),ordM l=true→ordM (l.take n)=true:=by
 intro l n h
 rw [ord_iff] at h ⊢
 intro j a b ha hb
 rw [List.getElem?_take] at ha hb
 split at ha<;>split at hb
 ·exact h j a b ha hb
 all_goals simp at *
theorem enter_ok {c:Book} {s:BSt} {y:Sco} (h:isStM c s=true) (hy:isScoM y=true) :
  (enterM c s y).2.2=0∧isStM c (enterM c s y).1=true∧(enterM c s y).1.scores=(insM y s.scores).take s.scores.length ∧
   ((enterM c s y).2.1 = -1∧(enterM c s y).1=s∨∃ k:Nat,(enterM c s y).2.1=(k:Int)∧k<(enterM c s y).1.scores.length∧(enterM c s y).1.scores[k]? = some y):=by
 have hi:=ins_take (y:=y) (l:=s.scores) (n:=s.scores.length) (Nat.le_refl _)
 rw [List.take_length] at hi
 have hle:=place_le y.points s.scores
 obtain ⟨h1,h2,h3,h4,h5,h6,h7⟩:=isSt_iff.1 h
 obtain ⟨g1,g2⟩:=scos_iff.1 h5
 have hst:isStM c { s with scores:=(insM y s.scores).take s.scores.length }=true:=by
  rw [isSt_iff]
  refine ⟨h1,h2,h3,?_,?_,h6,h7⟩
  ·simp only [List.length_take,ins_len];omega
  ·rw [scos_iff]
   refine ⟨fun x hx=>?_,ord_take _ (ins_ord y g2)⟩
   rcases ins_mem (List.mem_of_mem_take hx) with rfl|hx
   ·exact hy
   ·exact g1 x hx
 unfold enterM
 rw [if_neg (by simp [h]),if_neg (by simp [hy])]
 by_cases hp:placeM y.points s.scores=s.scores.length
 ·rw [if_pos hp] at hi
  rw [if_pos hp]
  exact ⟨rfl,h,hi.symm,.inl ⟨rfl,rfl⟩⟩
 ·rw [if_neg hp]
  refine ⟨rfl,hst,rfl,.inr ⟨_,rfl,?_,?_⟩⟩
  ·simp only [List.length_take,List.length_append,List.length_cons,List.length_drop];omega
  ·simp only
   have hlp:(s.scores.take (placeM y.points s.scores)).length=placeM y.points s.scores:=by rw [List.length_take];omega
   rw [List.getElem?_take,if_pos (by omega),List.getElem?_append_right (by omega),hlp,Nat.sub_self];rfl
end Go.Pb
namespace Go.Pb
variable [Go.Sym.Tab]
open Go.Sym
def T0:Tok:=⟨0,[],0,0⟩
end Go.Pb
namespace Go.Pb
variable [Go.Sym.Tab]
open Go.Sym
theorem numV_app (s:List UInt8) (c:UInt8):numV (s++[c])=10 * numV s+(c.toNat-48):=by
 unfold numV;rw [List.foldl_append];rfl
end Go.Pb
namespace Go.Pb
variable [Go.Sym.Tab]
open Go.Sym
theorem dg_digB {d:Nat} (h:d<10):dgB (digB d)=true∧(digB d).toNat=48+d:=by
 have e:(digB d).toNat=48+d:=by unfold digB;simp;omega
 exact ⟨by simp [dgB,e];omega,e⟩
theorem dec_dig:∀ (m n:Nat),n<m→(∀ c∈decB n,dgB c=true)∧numV (decB n)=n∧decB n≠[]:=by
 intro m
 induction m with
 | zero=>intro n h;omega
 | succ m ih =>
  intro n h
  by_cases h0:n<10
  ·obtain ⟨h1,h2⟩:=dg_digB h0
   rw [decB_lt h0]
   refine ⟨fun c hc=>by rw [List.mem_singleton.1 hc];exact h1,?_,by simp⟩
   show 10 * 0+((digB n).toNat-48)=n
   omega
  ·obtain ⟨i1,i2,i3⟩:=ih (n / 10) (by omega)
   obtain ⟨h1,h2⟩:=dg_digB (d:=n % 10) (by omega)
   rw [decB_ge h0]
   refine ⟨fun c hc=>?_,?_,by simp⟩
   ·rcases List.mem_append.1 hc with hc|hc
    ·exact i1 c hc
    ·rw [List.mem_singleton.1 hc];exact h1
   ·rw [numV_app,i2,h2];omega
theorem dec_all (n:Nat):∀ c∈decB n,dgB c=true:=(dec_dig (n+1) n (by omega)).1
theorem dec_numV (n:Nat):numV (decB n)=n:=(dec_dig (n+1) n (by omega)).2.1
theorem dec_ne (n:Nat):decB n≠[]:=(dec_dig (n+1) n (by omega)).2.2
theorem p10_ok:∀ (l:List UInt8) (acc:Nat),(∀ c∈l,dgB c=true)→numA acc l≤9223372036854775808→Lib.parseUint10 acc l=.ok (numA acc l)
 | [],acc,_,_=>by rw [Lib.parseUint10];rfl
 | c :: r,acc,h,hb=>by
  have hc:=h c List.mem_cons_self
  simp only [dgB,Bool.and_eq_true,decide_eq_true_eq] at hc
  rw [numA_cons] at hb ⊢
  have hg:=numA_ge r (10 * acc+(c.toNat-48))
  rw [Lib.parseUint10,if_pos hc,if_neg (by omega),if_neg (by omega),Nat.mul_comm acc 10]
  exact p10_ok r _ (fun d hd=>h d (List.mem_cons_of_mem _ hd)) hb
theorem atoi_dec {n:Int} (h1 : -9223372036854775808≤n) (h2:n≤9223372036854775807):Lib.atoiAll (decI n)=.ok n:=by
 have key:∀ k:Nat,k≤9223372036854775808→Lib.parseMag (decB k)=.ok k:=by
  intro k hk
  unfold Lib.parseMag
  have hv:numA 0 (decB k)=k:=dec_numV k
  rw [if_neg (dec_ne k),p10_ok _ _ (dec_all k) (by rw [hv];exact hk),hv]
 unfold decI
 by_cases h:n<0
 ·rw [if_pos h]
  unfold Lib.atoiAll
  have e:(45:UInt8).toNat=45:=rfl
  simp only [e,or_true,if_true,key _ (show n.natAbs≤9223372036854775808 by omega)]
  rw [if_neg (by simp),if_neg (by omega)]
  congr 1
  omega
 ·rw [if_neg h]
  have ha:=dec_all n.natAbs
  have hk:=key n.natAbs (by omega)
  cases hd:decB n.natAbs with
  | nil=>exact absurd hd (dec_ne _)
  | cons c r =>
   rw [hd] at ha hk
   have hc:=ha c List.mem_cons_self
   simp only [dgB,Bool.and_eq_true,decide_eq_true_eq] at hc
   unfold Lib.atoiAll
   have n1:¬ (c.toNat=43∨c.toNat=45):=by omega
   have n2:¬ c.toNat=45:=by omega
   have n3:¬ c.toNat=43:=by omega
   simp only [n3,n2,or_self,if_false]
   rw [hk]
   simp only
   rw [if_neg (by omega),if_neg (by simp)]
   congr 1
   omega
def numP (l:List UInt8):Int:=match Lib.atoiAll l with
 | .ok v=>v
 | _=>0
theorem numP_dec {n:Int} (h1 : -9223372036854775808≤n) (h2:n≤9223372036854775807):numP (decI n)=n:=by
 unfold numP;rw [atoi_dec h1 h2]
def negB (l:List UInt8):Bool:=match l with
 | c :: _=>decide (c.toNat=45)
 | []=>false
def magB (l:List UInt8):List UInt8:=if negB l=true then l.drop 1 else l
def sgnV (l:List UInt8):Int:=if negB l=true then -(numV (magB l):Int) else (numV (magB l):Int)
def numR (l:List UInt8):Option Int :=
 if (magB l).length<1∨12<(magB l).length then none
 else if (magB l).all dgB=false then none
 else if decI (sgnV l)=l then some (sgnV l) else none
theorem numR_some {l:List UInt8} {n:Int} (h:numR l=some n):decI n=l:=by
 unfold numR at h
 split at h
 ·cases h
 ·split at h
  ·cases h
  ·split at h
   ·rename_i h3;cases h;exact h3
   ·cases h
theorem numR_dec {n:Int} (h1 : -999999999999≤n) (h2:n≤999999999999):numR (decI n)=some n:=by
 have ha:=dec_all n.natAbs
 have hn:=dec_ne n.natAbs
 have hv:=dec_numV n.natAbs
 have hl:=decB_len 11 n.natAbs (by omega)
 have hl1:1≤(decB n.natAbs).length:=List.length_pos_iff.2 hn
 have hm:negB (decI n)=decide (n<0)∧magB (decI n)=decB n.natAbs:=by
  unfold magB decI
  by_cases h:n<0
  ·rw [if_pos h]
   have:negB (45 :: decB n.natAbs)=true:=rfl
   rw [this,if_pos rfl]
   exact ⟨by simp [h],rfl⟩
  ·rw [if_neg h]
   have:negB (decB n.natAbs)=false:=by
    cases hd:decB n.natAbs with
    | nil=>rfl
    | cons c r =>
     have hc:=ha c (by rw [hd];exact List.mem_cons_self)
     simp only [dgB,Bool.and_eq_true,decide_eq_true_eq] at hc
     simp [negB];omega
   rw [this,if_neg (by simp)]
   exact ⟨by simp [h],rfl⟩
 have hs:sgnV (decI n)=n:=by
  unfold sgnV
  rw [hm.1,hm.2,hv]
  by_cases h:n<0
  ·rw [if_pos (by simpa using h)];omega
  ·rw [if_neg (by simpa using h)];omega
 unfold numR
 rw [hs,hm.2,if_neg (by omega),if_neg (by rw [List.all_eq_true.2 ha];simp),if_pos rfl]
def splitM:List UInt8→List (List UInt8)
 | []=>[[]]
 | c :: r=>if c=10 then [] :: splitM r else match splitM r with
  | a :: l=>(c :: a) :: l
  | []=>[[c]]
def unl (l:List (List UInt8)):List UInt8:=l.flatMap (· ++ [10])
theorem splitM_ne:∀ t,splitM t≠[]
 | []=>by simp [splitM]
 | c :: r=>by
  simp only [splitM]
  split
  ·simp
  ·split<;>simp
theorem split_line:∀ (a r:List UInt8),(∀ c∈a,c≠10)→splitM (a++10 :: r)=a :: splitM r
 | [],r,_=>by simp [splitM]
 | c :: a,r,h=>by
  have ih:=split_line a r fun x hx=>h x (List.mem_cons_of_mem _ hx)
  rw [List.cons_append,splitM,if_neg (h c List.mem_cons_self),ih]
theorem split_unl:∀ L:List (List UInt8),(∀ l∈L, ∀ c∈l,c≠10)→splitM (unl L)=L++[[]]
 | [],_=>rfl
 | a :: L,h=>by
  have ih:=split_unl L fun l hl=>h l (List.mem_cons_of_mem _ hl)
  have e:unl (a :: L)=a++10 :: unl L:=by simp [unl]
  rw [e,split_line a _ (h a List.mem_cons_self),ih];rfl
theorem unl_split:∀ t,t=unl ((splitM t).dropLast)++(splitM t).getLast (splitM_ne t)
 | []=>by simp [splitM,unl]
 | c :: r=>by
  have ih:=unl_split r
  have hne:=splitM_ne r
  by_cases hc:c=10
  ·have e:splitM (c :: r)=[] :: splitM r:=by rw [splitM,if_pos hc]
   simp only [e]
   rw [List.dropLast_cons_of_ne_nil hne,List.getLast_cons hne]
   have:unl ([] :: (splitM r).dropLast)=10 :: unl (splitM r).dropLast:=by simp [unl]
   rw [this,List.cons_append, ← ih,hc]
  ·cases hs:splitM r with
   | nil=>exact absurd hs hne
   | cons a l =>
    have e:splitM (c :: r)=(c :: a) :: l:=by rw [splitM,if_neg hc,hs]
    simp only [e]
    simp only [hs] at ih
    cases l with
    | nil =>
     simp [unl] at ih ⊢
     exact ih
    | cons b l =>
     rw [List.dropLast_cons_of_ne_nil (by simp),List.getLast_cons (by simp)] at ih ⊢
     have:unl ((c :: a) :: (b :: l).dropLast)=c :: unl (a :: (b :: l).dropLast):=by simp [unl]
     rw [this,List.cons_append, ← ih]
def scoL (x:Sco):List (List UInt8):=[x.name,decI x.points]
def lnsM (s:BSt):List (List UInt8):=(s.sets++s.counts).map decI++s.scores.flatMap scoL
theorem encS_lns (s:BSt):encS s=unl (lnsM s):=by
 unfold encS unl lnsM
 conv=>rhs;rw [List.flatMap_append,List.flatMap_map]
 congr 1
 induction s.scores with
 | nil=>rfl
 | cons x l ih =>
  rw [List.flatMap_cons,List.flatMap_cons,List.flatMap_append,ih]
  simp [scoL]
theorem st_num {c:Book} {s:BSt} (h:isStM c s=true):(∀ n∈s.sets, -1000000000≤n∧n≤1000000000)∧(∀ n∈s.counts,0≤n∧n≤999999999)∧∀ x∈s.scores,x.name.length=3∧(∀ c∈x.name,capB c=true)∧0≤x.points∧x.points≤999999999999:=by
 obtain ⟨h1,h2,h3,h4,h5,h6,h7⟩:=isSt_iff.1 h
 refine ⟨fun n hn=>?_,h7,fun x hx=>?_⟩
 ·obtain ⟨k,hk,e⟩:=List.getElem_of_mem hn
  have hz:=(zipVal_iff (by omega)).1 h6 k (by omega)
  have ha:=(valid_adj h1).1 _ (getD_mem (show k<c.adjs.length by omega) A0)
  have hl:=adj_lim ha
  rw [List.getD_eq_getElem?_getD (l:=s.sets),List.getElem?_eq_getElem hk,Option.getD_some,e] at hz
  simp only [isValM,Bool.and_eq_true,inB_iff] at hz
  omega
 ·have hsc:=(scos_iff.1 h5).1 x hx
  simp only [isScoM,Bool.and_eq_true,decide_eq_true_eq,inB_iff] at hsc
  exact ⟨hsc.2.1,List.all_eq_true.1 hsc.1,hsc.2.2⟩
theorem dec_no10 (n:Int):∀ c∈decI n,c≠10:=by
 have ha:=dec_all n.natAbs
 have h2:∀ c∈decB n.natAbs,c≠10:=fun c hc e=>by have:=ha c hc;rw [e] at this;cases this
 intro c hc
 unfold decI at hc
 split at hc
 ·rcases List.mem_cons.1 hc with e|hc
  ·rw [e];decide
  ·exact h2 c hc
 ·exact h2 c hc
theorem lns_no10 {c:Book} {s:BSt} (h:isStM c s=true):∀ l∈lnsM s, ∀ b∈l,b≠10:=by
 intro l hl b hb
 unfold lnsM at hl
 rcases List.mem_append.1 hl with hl|hl
 ·obtain ⟨n, -,rfl⟩:=List.mem_map.1 hl
  exact dec_no10 n b hb
 ·obtain ⟨x,hx,hl⟩:=List.mem_flatMap.1 hl
  have hn:=(st_num h).2.2 x hx
  simp only [scoL,List.mem_cons,List.not_mem_nil,or_false] at hl
  rcases hl with rfl|rfl
  ·intro e;have:=hn.2.1 b hb;rw [e] at this;cases this
  ·exact dec_no10 _ b hb
theorem flat2_len (l:List Sco):(l.flatMap scoL).length=2 * l.length:=by
 induction l with
 | nil=>rfl
 | cons x l ih=>rw [List.flatMap_cons,List.length_append,ih,List.length_cons];simp [scoL];omega
theorem lns_len (s:BSt):(lnsM s).length=s.sets.length+s.counts.length+2 * s.scores.length:=by
 unfold lnsM;rw [List.length_append,List.length_map,List.length_append,flat2_len]
def scoP:List (List UInt8)→List Sco
 | n :: p :: r=>⟨n,numP p⟩ :: scoP r
 | _=>[]
def parP (a b k:Nat) (L:List (List UInt8)):BSt:=⟨(L.take a).map numP,((L.take b).drop a).map numP,scoP ((L.drop b).take (2 * k))⟩
def bOf (c:Book):Nat:=c.adjs.length+c.cnt.toNat
def decP41 (c:Book) (t:List UInt8):BSt × Int :=
 if validBM c≠0 then (noSt,1)
 else if (splitM t).length≠bOf c+2 * c.scores.length+1 then (noSt,62)
 else if isStM c (parP c.adjs.length (bOf c) c.scores.length (splitM t))=false∨encS (parP c.adjs.length (bOf c) c.scores.length (splitM t))≠t then (noSt,62)
 else (parP c.adjs.length (bOf c) c.scores.length (splitM t),0)
theorem map_numP:∀ {l:List Int},(∀ n∈l, -9223372036854775808≤n∧n≤9223372036854775807)→(l.map decI).map numP=l
 | [],_=>rfl
 | n :: l,h=>by
  have h1:=h n List.mem_cons_self
  rw [List.map_cons,List.map_cons,numP_dec h1.1 h1.2,map_numP fun x hx=>h x (List.mem_cons_of_mem _ hx)]
theorem scoP_flat:∀ {l:List Sco},(∀ x∈l,0≤x.points∧x.points≤999999999999)→scoP (l.flatMap scoL)=l
 | [],_=>rfl
 | x :: l,h=>by
  have h1:=h x List.mem_cons_self
  have ih:=scoP_flat (l:=l) fun y hy=>h y (List.mem_cons_of_mem _ hy)
  rw [List.flatMap_cons]
  show (⟨x.name,numP (decI x.points)⟩:Sco) :: scoP (l.flatMap scoL)=x :: l
  rw [numP_dec (by omega) (by omega),ih]
theorem par_lns {c:Book} {s:BSt} (h:isStM c s=true) (tl:List (List UInt8)):parP c.adjs.length (bOf c) c.scores.length (lnsM s++tl)=s:=by
 obtain ⟨h1,h2,h3,h4,h5,h6,h7⟩:=isSt_iff.1 h
 obtain ⟨n1,n2,n3⟩:=st_num h
 have hb:bOf c=s.sets.length+s.counts.length:=by unfold bOf;omega
 have e:lnsM s++tl=s.sets.map decI++(s.counts.map decI++(s.scores.flatMap scoL++tl)):=by unfold lnsM;simp
 have t1:(lnsM s++tl).take c.adjs.length=s.sets.map decI:=by
  rw [e, ← h2];exact List.take_left' (by simp)
 have t2:((lnsM s++tl).take (bOf c)).drop c.adjs.length=s.counts.map decI:=by
  have:(lnsM s++tl).take (bOf c)=s.sets.map decI++s.counts.map decI:=by
   rw [e, ← List.append_assoc];exact List.take_left' (by simp [hb])
  rw [this, ← h2];exact List.drop_left' (by simp)
 have t3:((lnsM s++tl).drop (bOf c)).take (2 * c.scores.length)=s.scores.flatMap scoL:=by
  have:(lnsM s++tl).drop (bOf c)=s.scores.flatMap scoL++tl:=by
   rw [e, ← List.append_assoc];exact List.drop_left' (by simp [hb])
  rw [this];exact List.take_left' (by rw [flat2_len];omega)
 unfold parP
 rw [t1,t2,t3,map_numP fun n hn=>by have:=n1 n hn;omega,map_numP fun n hn=>by have:=n2 n hn;omega,scoP_flat fun x hx=>(n3 x hx).2.2]
theorem dec_enc41 {c:Book} {s:BSt} (h:isStM c s=true):decP41 c (encS s)=(s,0):=by
 obtain ⟨h1,h2,h3,h4, -⟩:=isSt_iff.1 h
 have hs:splitM (encS s)=lnsM s++[[]]:=by rw [encS_lns];exact split_unl _ (lns_no10 h)
 have hp:=par_lns h [[]]
 unfold decP41
 rw [if_neg (by simp [h1]),hs,if_neg,hp,if_neg (by simp [h])]
 rw [List.length_append,lns_len,List.length_singleton]
 unfold bOf
 simp
 omega
theorem dec_spec41 {c:Book} (hv:validBM c=0) (t:List UInt8):(∃ s,isStM c s=true∧encS s=t∧decP41 c t=(s,0))∨(∀ s,isStM c s=true→encS s≠t)∧decP41 c t=(noSt,62):=by
 by_cases h:∃ s,isStM c s=true∧encS s=t
 ·obtain ⟨s,h1,h2⟩:=h
  exact .inl ⟨s,h1,h2,by rw [← h2];exact dec_enc41 h1⟩
 ·refine .inr ⟨fun s h1 h2=>h ⟨s,h1,h2⟩,?_⟩
  unfold decP41
  rw [if_neg (by simp [hv])]
  split
  ·rfl
  ·split
   ·rfl
   ·rename_i h3
    refine absurd ⟨parP c.adjs.length (bOf c) c.scores.length (splitM t),?_,?_⟩ h
    ·cases e:isStM c (parP c.adjs.length (bOf c) c.scores.length (splitM t)) with
     | true=>rfl
     | false=>exact absurd (.inl e) h3
    ·exact Classical.byContradiction fun e=>h3 (.inr e)
theorem enc_inj41 {c:Book} {s s':BSt} (h:isStM c s=true) (h':isStM c s'=true) (e:encS s=encS s'):s=s':=by
 have h1:=dec_enc41 h
 have h2:=dec_enc41 h'
 rw [e,h2] at h1
 exact (Prod.ext_iff.1 h1).1.symm
theorem enc_len41 {c:Book} {s:BSt} (h:isStM c s=true):(encS s).length≤840:=by
 obtain ⟨h1,h2,h3,h4,h5,h6,h7⟩:=isSt_iff.1 h
 obtain ⟨-,g2,g3,g4,g5, -⟩:=valid_adj h1
 obtain ⟨n1,n2,n3⟩:=st_num h
 have l1:∀ n:Int, -1000000000≤n→n≤1000000000→(decI n).length≤11:=fun n a b=>by
  have:=decB_len 9 n.natAbs
  unfold decI
  split
  ·have:=decB_len 9 n.natAbs (by omega);rw [List.length_cons];omega
  ·have:=decB_len 9 n.natAbs (by omega);omega
 have l2:∀ n:Int,0≤n→n≤999999999→(decI n).length≤9:=fun n a b=>by
  have:=decB_len 8 n.natAbs (by omega)
  unfold decI;rw [if_neg (by omega)];omega
 have l3:∀ n:Int,0≤n→n≤999999999999→(decI n).length≤12:=fun n a b=>by
  have:=decB_len 11 n.natAbs (by omega)
  unfold decI;rw [if_neg (by omega)];omega
 have f1:∀ (l:List Int) (m:Nat),(∀ n∈l,(decI n).length≤m)→(l.flatMap fun n=>decI n++[10]).length≤(m+1) * l.length:=by
  intro l m hm
  induction l with
  | nil=>simp
  | cons n l ih =>
   have i1:=ih fun x hx=>hm x (List.mem_cons_of_mem _ hx)
   have i2:=hm n List.mem_cons_self
   rw [List.flatMap_cons,List.length_append,List.length_append,List.length_singleton,List.length_cons,Nat.mul_succ]
   omega
 have f2:∀ l:List Sco,(∀ x∈l,x.name.length=3∧(decI x.points).length≤12)→(l.flatMap fun x=>x.name++[10]++decI x.points++[10]).length≤17 * l.length:=by
  intro l hm
  induction l with
  | nil=>simp
  | cons n l ih =>
   have i1:=ih fun x hx=>hm x (List.mem_cons_of_mem _ hx)
   have i2:=hm n List.mem_cons_self
   rw [List.flatMap_cons,List.length_append,List.length_append,List.length_append,List.length_append,List.length_singleton,List.length_cons]
   omega
 have a1:=f1 s.sets 11 fun n hn=>l1 n (n1 n hn).1 (n1 n hn).2
 have a2:=f1 s.counts 9 fun n hn=>l2 n (n2 n hn).1 (n2 n hn).2
 have a3:=f2 s.scores fun x hx=>⟨(n3 x hx).1,l3 _ (n3 x hx).2.2.1 (n3 x hx).2.2.2⟩
 unfold encS
 rw [List.flatMap_append,List.length_append,List.length_append]
 omega
end Go.Pb
namespace Go.Proofs.YtndjhpjcankkaaaGreatDoor
open Go.Eng (IC IOper DReg IFn IsFn Callable)
open Go.Sym Go.Pb
def lnI (n:Int):List UInt8:=decI n++[10]
def scI (x:Sco):List UInt8:=x.name++[10]++decI x.points++[10]
theorem encS_eq (s:BSt):encS s=s.sets.flatMap lnI++s.counts.flatMap lnI++s.scores.flatMap scI:=by
 unfold encS
 rw [List.flatMap_append];rfl
theorem c_EncodeR (c:Book) (s:BSt) (hl:lenB c) (ht:lenT s):PC Tryz.prog 20 [c.v,s.v] (.tup [.str (encM41 c s).1,I64 (encM41 c s).2]):=by
 have hk:=c_IsStateR c s hl ht
 refine PC.of mixedU isU20 (Nat.le_of_ble_eq_true rfl) (by simp [DV.nlL,DV.nl,nlL_ints,nlL_strs,nlL_adjs,nlL_scos]) (by simp [DV.nlL,DV.nl,nlL_ints,nlL_strs,nlL_adjs,nlL_scos]) ?_
 show IW Tryz.prog 72 u20_1 ⟨argT _,_,_⟩ (rt [.tmp 4,.tmp 5] _)
 by_cases e1:isStM c s=true
 rotate_left
 ·have e1:isStM c s=false:=by simpa using e1
  repeat' ((with_reducible first|refine wr ?_|refine cpc hk ?_|refine k_cu ?_ ?_|refine wb2 ?_ ?_<;>(intro hb;try simp only [hb])|fail)<;>try simp only [go_sem,seval,e1])
  refine pc_ret ?_
  simp [encM41,e1]
 obtain ⟨s1,s2,s3,s4,s5⟩:=st_fit e1
 obtain ⟨f1,f2,f3,f4,f5⟩:=valid_fit s1
 obtain ⟨n1,n2,n3⟩:=st_num e1
 have hf7:∀ x∈s.sets,(lnI x).length≤40:=fun x hx=>by have:=n1 x hx;have:=decI_len (n:=x) (by omega) (by omega);simp [lnI];omega
 have hf8:∀ x∈s.counts,(lnI x).length≤40:=fun x hx=>by have:=n2 x hx;have:=decI_len (n:=x) (by omega) (by omega);simp [lnI];omega
 have hf9:∀ x∈s.scores,(scI x).length≤40:=fun x hx=>by have:=n3 x hx;have:=decI_len (n:=x.points) (by omega) (by omega);simp [scI];omega
 have hb1:=flat_len lnI 40 s.sets hf7
 have hb2:=flat_len lnI 40 s.counts hf8
 have henc:encM41 c s=(encS s,0):=by simp [encM41,e1]
 rw [henc,encS_eq]
 repeat' ((with_reducible first|refine wr ?_|refine cpc hk ?_|refine k_cu ?_ ?_|refine wb2 ?_ ?_<;>(intro hb;try simp only [hb])|fail)<;>try simp only [go_sem,seval,e1])
 refine i_loop (fun k:Nat=>[(3,.ptr 1 0),(6,.str ((s.sets.take k).flatMap lnI)),(7,I64 k)]) (fun _=>(nil.upd 0 ⟨0,true,csB c⟩).upd 1 ⟨0,true,csS s⟩) (fun k cc=>2≤cc∧k≤s.sets.length) (fun k=>s.sets.length-k) 0 (by simp [tmLe,tm,Tm.upd]) (Sub.refl _) ⟨by omega,by omega⟩ ?_
 rintro k cc ⟨h2c,hk⟩
 by_cases hlt:k<s.sets.length
 ·have hd:decide ((k:Int)<s.sets.length)=true:=by simpa using hlt
  have hg:=List.getElem?_eq_getElem hlt
  have hw:=w64 (n:=(k:Int)+1) (by omega) (by omega)
  have hb:=n1 _ (List.getElem_mem hlt)
  have hst:(s.sets.take (k+1)).flatMap lnI=(s.sets.take k).flatMap lnI++lnI s.sets[k]:=by rw [List.take_add_one,hg,List.flatMap_append];simp
  have hL:=flat_len lnI 40 (s.sets.take k) (fun x hx=>hf7 x (List.mem_of_mem_take hx))
  rw [List.length_take] at hL
  generalize s.sets[k]=y at hg hb hst
  generalize (s.sets.take k).flatMap lnI=A at hst hL ⊢
  have hdl:=decI_len (n:=y) (by omega) (by omega)
  have hc:=c_Dec (y.natAbs+1) y (by omega) (by omega) (by omega)
  have a1:=sadd (s:=A) (t:=decI y) (by (try simp only [List.length_append,List.length_singleton]);omega)
  have a2:=sadd (s:=A++decI y) (t:=[10]) (by (try simp only [List.length_append,List.length_singleton]);omega)
  repeat' ((with_reducible first|refine wr ?_|refine cpc hc ?_|refine k_cu ?_ ?_|refine wb2 ?_ ?_<;>(intro hb;try simp only [hb])|fail)<;>try simp only [go_sem,seval,hd,hg,hw,a1,a2])
  exact ⟨k+1,⟨by rw [hst];simp [lnI],rfl⟩,Sub.refl _,inv ⟨by omega,by omega⟩,by omega⟩
 have hd:decide ((k:Int)<s.sets.length)=false:=by simpa using hlt
 rw [List.take_of_length_le (by omega)]
 clear hk
 repeat' ((with_reducible first|refine wr ?_|refine k_cu ?_ ?_|refine wb2 ?_ ?_<;>(intro hb;try simp only [hb])|fail)<;>try simp only [go_sem,seval,hd])
 clear hd hlt
 generalize hT1:s.sets.flatMap lnI=T1
 have hT1l:T1.length≤40 * s.sets.length:=by rw [← hT1];simpa using hb1
 clear hT1 k
 refine i_loop (fun k:Nat=>[(3,.ptr 1 0),(6,.str (T1++(s.counts.take k).flatMap lnI)),(8,I64 k)]) (fun _=>(nil.upd 0 ⟨0,true,csB c⟩).upd 1 ⟨0,true,csS s⟩) (fun k cc=>2≤cc∧k≤s.counts.length) (fun k=>s.counts.length-k) 0 (by simp [tmLe,tm,Tm.upd]) (Sub.refl _) ⟨by omega,by omega⟩ ?_
 clear h2c cc
 rintro k cc ⟨h2c,hk⟩
 by_cases hlt:k<s.counts.length
 ·have hd:decide ((k:Int)<s.counts.length)=true:=by simpa using hlt
  have hg:=List.getElem?_eq_getElem hlt
  have hw:=w64 (n:=(k:Int)+1) (by omega) (by omega)
  have hb:=n2 _ (List.getElem_mem hlt)
  have hst:(s.counts.take (k+1)).flatMap lnI=(s.counts.take k).flatMap lnI++lnI s.counts[k]:=by rw [List.take_add_one,hg,List.flatMap_append];simp
  have hL:=flat_len lnI 40 (s.counts.take k) (fun x hx=>hf8 x (List.mem_of_mem_take hx))
  rw [List.length_take] at hL
  generalize s.counts[k]=y at hg hb hst
  generalize (s.counts.take k).flatMap lnI=A at hst hL ⊢
  have hdl:=decI_len (n:=y) (by omega) (by omega)
  have hc:=c_Dec (y.natAbs+1) y (by omega) (by omega) (by omega)
  have a1:=sadd (s:=T1++A) (t:=decI y) (by (try simp only [List.length_append,List.length_singleton]);omega)
  have a2:=sadd (s:=T1++A++decI y) (t:=[10]) (by (try simp only [List.length_append,List.length_singleton]);omega)
  repeat' ((with_reducible first|refine wr ?_|refine cpc hc ?_|refine k_cu ?_ ?_|refine wb2 ?_ ?_<;>(intro hb;try simp only [hb])|fail)<;>try simp only [go_sem,seval,hd,hg,hw,a1,a2])
  exact ⟨k+1,⟨by rw [hst];simp [lnI],rfl⟩,Sub.refl _,inv ⟨by omega,by omega⟩,by omega⟩
 have hd:decide ((k:Int)<s.counts.length)=false:=by simpa using hlt
 rw [List.take_of_length_le (by omega)]
 clear hk
 repeat' ((with_reducible first|refine wr ?_|refine k_cu ?_ ?_|refine wb2 ?_ ?_<;>(intro hb;try simp only [hb])|fail)<;>try simp only [go_sem,seval,hd])
 clear hd hlt
 generalize hT2:T1++s.counts.flatMap lnI=T2
 have hT2l:T2.length≤40 * s.sets.length+40 * s.counts.length:=by rw [← hT2,List.length_append];omega
 clear hT2 k
 refine i_loop (fun k:Nat=>[(3,.ptr 1 0),(6,.str (T2++(s.scores.take k).flatMap scI)),(9,I64 k)]) (fun _=>(nil.upd 0 ⟨0,true,csB c⟩).upd 1 ⟨0,true,csS s⟩) (fun k cc=>2≤cc∧k≤s.scores.length) (fun k=>s.scores.length-k) 0 (by simp [tmLe,tm,Tm.upd]) (Sub.refl _) ⟨by omega,by omega⟩ ?_
 clear h2c cc
 rintro k cc ⟨h2c,hk⟩
 by_cases hlt:k<s.scores.length
 ·have hd:decide ((k:Int)<s.scores.length)=true:=by simpa using hlt
  have hg:=List.getElem?_eq_getElem hlt
  have hw:=w64 (n:=(k:Int)+1) (by omega) (by omega)
  have hb:=n3 _ (List.getElem_mem hlt)
  have hst:(s.scores.take (k+1)).flatMap scI=(s.scores.take k).flatMap scI++scI s.scores[k]:=by rw [List.take_add_one,hg,List.flatMap_append];simp
  have hL:=flat_len scI 40 (s.scores.take k) (fun x hx=>hf9 x (List.mem_of_mem_take hx))
  rw [List.length_take] at hL
  generalize s.scores[k]=y at hg hb hst
  generalize (s.scores.take k).flatMap scI=A at hst hL ⊢
  have hdl:=decI_len (n:=y.points) (by omega) (by omega)
  have hc:=c_Dec (y.points.natAbs+1) y.points (by omega) (by omega) (by omega)
  have a1:=sadd (s:=T2++A) (t:=y.name) (by (try simp only [List.length_append,List.length_singleton]);omega)
  have a2:=sadd (s:=T2++A++y.name) (t:=[10]) (by (try simp only [List.length_append,List.length_singleton]);omega)
  have a3:=sadd (s:=T2++A++y.name++[10]) (t:=decI y.points) (by (try simp only [List.length_append,List.length_singleton]);omega)
  have a4:=sadd (s:=T2++A++y.name++[10]++decI y.points) (t:=[10]) (by (try simp only [List.length_append,List.length_singleton]);omega)
  have ne0:=nes4 0 1 cc (cc+1) (by omega)
  repeat' ((with_reducible first|refine wr ?_|refine cpc hc ?_|refine k_cu ?_ ?_|refine wb2 ?_ ?_<;>(intro hb;try simp only [hb])|fail)<;>try simp only [go_sem,seval,hd,hg,hw,a1,a2,a3,a4,ne0])
  all_goals trace_state
  exact ⟨k+1,⟨by rw [hst];simp [scI],rfl⟩,Sub.refl _,inv ⟨by omega,by omega⟩,by omega⟩
 have hd:decide ((k:Int)<s.scores.length)=false:=by simpa using hlt
 rw [List.take_of_length_le (by omega)]
 repeat' ((with_reducible first|refine wr ?_|refine k_cu ?_ ?_|refine wb2 ?_ ?_<;>(intro hb;try simp only [hb])|fail)<;>try simp only [go_sem,seval,hd])
 exact pc_ret rfl
end Go.Proofs.YtndjhpjcankkaaaGreatDoor
namespace Go.Proofs.YtndjhpjcankkaaaGreatDoor
open Go.Eng (IC IOper DReg IFn IsFn)
open Go.Sym
section
abbrev u95_4:IC:=qK .bad .skip (.t 6) [0,1,6]
abbrev u95_3:IC:=qS [oM 5 1,oK 6 5 .lss 0] u95_4 [0,1]
abbrev u95_9:IC:=qE [oM 17 0,oM 18 0,⟨some 19,.eff (.cap0 (.t 18)),none⟩,oP 20 (.slc 1 (.t 17) none (some (.t 19))),oM 21 1,⟨some 22,.eff (.appz 1 8 #[.int .i64 0] (.t 20) (.t 21)),none⟩,oM 23 0,oH 24 23,oP 25 (.slc 1 (.t 22) none (some (.t 24))),oM 0 25] [0,1]
abbrev u95_8:IC:=qK u95_9 .skip (.t 16) [0,1,16]
abbrev u95_7:IC:=qS [oM 15 1,oK 16 15 .gtr 0] u95_8 [0,1]
abbrev u95_6:IC:=qS [oM 8 1,oM 9 0,⟨some 10,.eff (.cap0 (.t 9)),none⟩,oM 11 0,oH 12 11,oB 13 10 12 .sub,oB 14 8 13 .sub,oM 1 14] u95_7 [0,1]
abbrev u95_10:IC:=qS [oM 26 0,oM 4 26] .ret [0]
abbrev u95_5:IC:=qQ u95_6 u95_10 [0,1]
abbrev u95_2:IC:=qQ u95_3 u95_5 [0,1]
abbrev u95_1:IC:=qS [oV 4 (.slice none 0 0)] u95_2 [0,1]
def u95:IFn:=⟨27,u95_1,[.tmp 4]⟩
end
theorem isU95:IsFn Tryz.prog 95 u95:=by unfold IsFn;kernel_rfl
end Go.Proofs.YtndjhpjcankkaaaGreatDoor
namespace Go.Proofs.YtndjhpjcankkaaaGreatDoor
open Go.Eng (IC IOper DReg IFn IsFn Callable)
open Go.Sym Go.Pb
theorem c_Grow0:PC Tryz.prog 95 [.snil,I64 0] .snil:=by
 have w0:IntKind.i64.wrap 0=0:=w64 (by omega) (by omega)
 refine PC.of mixedU isU95 (Nat.le_of_ble_eq_true rfl) (by simp [DV.nlL,DV.nl,nlL_ints,nlL_strs,nlL_adjs,nlL_scos]) (by simp [DV.nlL,DV.nl,nlL_ints,nlL_strs,nlL_adjs,nlL_scos]) ?_
 show IW Tryz.prog 27 u95_1 ⟨argT _,_,_⟩ (rt [.tmp 4] _)
 repeat' ((with_reducible first|refine wr ?_|refine k_cu ?_ ?_|refine wb2 ?_ ?_<;>(intro hb;try simp only [hb])|fail)<;>try simp only [go_sem,seval,w0,Int.sub_zero])
 all_goals exact pc_ret rfl
theorem c_GrowN (n:Nat) (h1:1≤n) (h2:n≤100000) (H:Hp) (cc:Nat):AC Tryz.prog 95 [.snil,I64 n] H cc (fun v H' c'=>v=.slc cc 0 0∧H'=H.upd cc ⟨1,true,List.replicate n (I64 0)⟩∧c'=cc+1):=by
 refine AC.own (V:=fun id=>.slc id 0 0) (cs:=List.replicate n (I64 0)) (u:=1) ?_ rfl (fun d hd=>by rw [(List.mem_replicate.1 hd).2];rfl) (fun ρ ρ' id id' v h1 h2 h3=>nl3 h1 h3) H cc
 have w0:IntKind.i64.wrap 0=0:=w64 (by omega) (by omega)
 have q1:decide ((n:Int)<0)=false:=by simp
 have q2:decide ((n:Int)>0)=true:=by simp;omega
 have q3:=w64 (n:=(n:Int)) (by omega) (by omega)
 have haz:∀ H c,azR H c 1 8 [DV.int .i64 0] .snil (I64 (n:Int))=some (.slc c 0 n,H.upd c ⟨1,true,List.replicate n (I64 0)⟩,c+1):=fun H c=>by
  simp only [azR]
  rw [if_pos ⟨by omega,by omega,by omega,rfl,rfl⟩,Int.toNat_natCast,madeL_one]
 have hs0:∀ H,slcR H 1 .snil none (some (I64 0))=some .snil:=fun _=>rfl
 have hs1:∀ (H:Hp) id,slcR H 1 (.slc id 0 n) none (some (I64 0))=some (.slc id 0 0):=fun H id=>by
  have:=r_slch (H:=H) (id:=id) (off:=0) (l:=n) (h:=0) (sz:=1) (k:=.i64) (by omega)
  simpa using this
 refine AC.body mixedU isU95 (Nat.le_of_ble_eq_true rfl) fun hfr=>?_
 show IW Tryz.prog 27 u95_1 ⟨argT _,_,_⟩ (rt [.tmp 4] _)
 repeat' ((with_reducible first|refine wr ?_|refine k_cu ?_ ?_|refine wb2 ?_ ?_<;>(intro hb;try simp only [hb])|fail)<;>try simp only [go_sem,seval,q1,q2,q3,haz,hs0,hs1,w0,Int.sub_zero])
 all_goals exact own_end (V:=fun id=>.slc id 0 0) _ rfl (by first|rfl|exact h_same)
theorem flat_take {L:List (List Int)} {k:Nat} {l:List Int} (h:L[k]? = some l):(L.take (k+1)).flatten=(L.take k).flatten++l:=by
 rw [List.take_add_one,h,List.flatten_append];simp
theorem flat_le (L:List (List Int)) (k:Nat):(L.take k).flatten.length≤L.flatten.length:=by
 have:L.flatten=(L.take k).flatten++(L.drop k).flatten:=by rw [← List.flatten_append,List.take_append_drop]
 rw [this,List.length_append];omega
theorem c_Concat (L:List (List Int)) (hl:L.length≤100) (hf:L.flatten.length≤10000):PC Tryz.prog 78 [.lst (L.map intsV)] (intsV L.flatten):=by
 have nlm:DV.nlL (L.map intsV)=true:=nlL_map (fun l=>by simp [DV.nl,nlL_ints]) L
 refine PC.of mixedU isU78 (Nat.le_of_ble_eq_true rfl) (by simp [DV.nlL,DV.nl,nlm]) (nlL_ints _) ?_
 show IW Tryz.prog 36 u78_1 ⟨argT _,_,_⟩ (rt [.tmp 2] _)
 repeat' ((with_reducible first|refine wr ?_|refine k_cu ?_ ?_|refine wb2 ?_ ?_<;>(intro hb;try simp only [hb])|fail)<;>try simp only [go_sem,seval])
 refine i_loop (fun k:Nat=>[(0,.lst (L.map intsV)),(3,I64 (L.take k).flatten.length),(9,.lst (L.map intsV)),(10,I64 L.length),(11,I64 k)]) (fun _=>Sym.nil) (fun k cc=>k≤L.length) (fun k=>L.length-k) 0 (by simp [tmLe,tm,Tm.upd]) (Sub.nil _) (by simp) ?_
 intro k cc hk
 have hle:=flat_le L k
 by_cases hlt:k<L.length
 ·have hd:decide ((k:Int)<L.length)=true:=by simpa using hlt
  have hg:=List.getElem?_eq_getElem hlt
  have hw:=w64 (n:=(k:Int)+1) (by omega) (by omega)
  have hst:=flat_take hg
  have hle2:=flat_le L (k+1)
  generalize L[k]=l at hg hst
  rw [hst,List.length_append] at hle2
  have hw2:=w64 (n:=((L.take k).flatten.length:Int)+(l.length:Int)) (by omega) (by omega)
  have hneg:decide (((L.take k).flatten.length:Int)+(l.length:Int)<0)=false:=by simp;omega
  repeat' ((with_reducible first|refine wr ?_|refine k_cu ?_ ?_|refine wb2 ?_ ?_<;>(intro hb;try simp only [hb])|fail)<;>try simp only [go_sem,seval,List.length_map,hd,hg,hw,hw2,hneg])
  all_goals exact ⟨k+1,⟨by rw [hst,List.length_append];simp,rfl⟩,Sub.nil _,inv (by omega),by omega⟩
 have hd:decide ((k:Int)<L.length)=false:=by simpa using hlt
 rw [List.take_of_length_le (by omega)]
 clear hle
 by_cases h0:L.flatten.length=0
 ·have hall:∀ l∈L,l=[]:=by
   have:=List.eq_nil_of_length_eq_zero h0
   rw [List.flatten_eq_nil_iff] at this;exact this
  rw [h0]
  repeat' ((with_reducible first|refine wr ?_|refine cpc c_Grow0 ?_|refine k_cu ?_ ?_|refine wb2 ?_ ?_<;>(intro hb;try simp only [hb])|fail)<;>try simp only [go_sem,seval,List.length_map,hd])
  clear hd hlt hk k
  refine i_loop (fun k:Nat=>[(6,.snil),(25,.lst (L.map intsV)),(26,I64 L.length),(27,I64 k)]) (fun _=>Sym.nil) (fun k cc=>k≤L.length) (fun k=>L.length-k) 0 (by simp [tmLe,tm,Tm.upd]) (Sub.nil _) (by simp) ?_
  intro k cc hk
  by_cases hlt:k<L.length
  ·have hd:decide ((k:Int)<L.length)=true:=by simpa using hlt
   have hg:=List.getElem?_eq_getElem hlt
   have hw:=w64 (n:=(k:Int)+1) (by omega) (by omega)
   rw [hall _ (List.getElem_mem hlt)] at hg
   have ha1:∀ H cc,apX H cc 1 8 .snil (srcOf H 1 (intsV []))=some (.snil,H,cc):=fun H cc=>rfl
   have ha2:∀ H cc,apX H cc 1 8 .snil (srcOf H 1 (.lst []))=some (.snil,H,cc):=fun H cc=>rfl
   repeat' ((with_reducible first|refine wr ?_|refine k_cu ?_ ?_|refine wb2 ?_ ?_<;>(intro hb;try simp only [hb])|fail)<;>try simp only [go_sem,seval,List.length_map,hd,hg,hw,ha1,ha2])
   all_goals exact ⟨k+1,rfl,Sub.nil _,inv (by omega),by omega⟩
  ·have hd:decide ((k:Int)<L.length)=false:=by simpa using hlt
   repeat' ((with_reducible first|refine wr ?_|refine k_cu ?_ ?_|refine wb2 ?_ ?_<;>(intro hb;try simp only [hb])|fail)<;>try simp only [go_sem,seval,List.length_map,hd])
   rw [List.eq_nil_of_length_eq_zero h0]
   exact pc_snil
 ·have hgr:=fun H cc=>c_GrowN L.flatten.length (by omega) (by omega) H cc
  repeat' ((first|(with_reducible first|refine wr ?_|refine k_cu ?_ ?_)|(with_reducible refine wb2 ?_ ?_<;>(intro hb;try simp only [hb]))|((with_reducible refine AC.call (hgr _ _) ?_);(rintro v H' c' ⟨rfl,rfl,rfl⟩ hcc))|fail)<;>try simp only [go_sem,seval,List.length_map,hd])
  clear hd hlt hk k
  refine i_loop (fun q:Nat × Nat × List DV=>[(6,.slc q.2.1 0 (L.take q.1).flatten.length),(25,.lst (L.map intsV)),(26,I64 L.length),(27,I64 q.1)]) (fun q=>Sym.nil.upd q.2.1 ⟨1,true,cellsL ((L.take q.1).flatten.map I64)++q.2.2⟩) (fun q cc=>q.1≤L.length∧q.2.1<cc) (fun q=>L.length-q.1) (0,cc,List.replicate L.flatten.length (I64 0)) (by simp [tmLe,tm,Tm.upd]) (Sub.refl _) ⟨by simp,by simp⟩ ?_
  rintro ⟨k,id,junk⟩ c3 ⟨hk,hid⟩
  simp only at hk hid ⊢
  have hle:=flat_le L k
  by_cases hlt:k<L.length
  ·have hd:decide ((k:Int)<L.length)=true:=by simpa using hlt
   have hg:=List.getElem?_eq_getElem hlt
   have hw:=w64 (n:=(k:Int)+1) (by omega) (by omega)
   have hst:=flat_take hg
   have hle2:=flat_le L (k+1)
   generalize L[k]=l at hg hst
   rw [hst,List.length_append] at hle2
   have hun:=unit_ints l
   repeat' ((with_reducible first|refine wr ?_|refine k_cu ?_ ?_|refine wb2 ?_ ?_<;>(intro hb;try simp only [hb])|fail)<;>try simp only [go_sem,seval,List.length_map,hd,hg,hw,hun])
   refine k_eval (b_appj (by rw [cells_ints,List.length_map];omega) (by omega) (by omega)) ?_
   simp only [go_sem,seval,hw]
   repeat' ((with_reducible first|refine wr ?_|refine k_cu ?_ ?_|refine wb2 ?_ ?_<;>(intro hb;try simp only [hb])|fail)<;>try simp only [go_sem,seval,hw])
   refine ⟨(k+1,c3,[]),⟨by simp only [hst,List.length_append],rfl⟩,?_,inv ⟨by simp only;omega,by simp only;omega⟩,by simp only;omega⟩
   intro j q hj
   by_cases e:j=c3
   ·subst e;rw [h_same] at hj ⊢;rw [← hj];simp only [hst,List.append_nil,List.map_append,cellsL_append]
   ·rw [h_ne e] at hj;cases hj
  ·have hd:decide ((k:Int)<L.length)=false:=by simpa using hlt
   have hkk:L.take k=L:=List.take_of_length_le (by omega)
   repeat' ((with_reducible first|refine wr ?_|refine k_cu ?_ ?_|refine wb2 ?_ ?_<;>(intro hb;try simp only [hb])|fail)<;>try simp only [go_sem,seval,List.length_map,hd])
   rw [hkk]
   exact pc_slc (id:=id) h_same rfl (by rw [List.length_map]) (ints_unit _) ⟨junk,rfl⟩
end Go.Proofs.YtndjhpjcankkaaaGreatDoor
namespace Go.Proofs.YtndjhpjcankkaaaGreatDoor
open Go.Eng (IC IOper DReg IFn IsFn Callable)
open Go.Sym Go.Pb
def l2I (n:Int):List (List UInt8):=[decI n,[10]]
def l4S (x:Sco):List (List UInt8):=[x.name,[10],decI x.points,[10]]
theorem l2_len (l:List Int):(l.flatMap l2I).length=2 * l.length:=by
 induction l with
 | nil=>rfl
 | cons x r ih=>rw [List.flatMap_cons,List.length_append,ih];simp [l2I];omega
theorem l4_len (l:List Sco):(l.flatMap l4S).length=4 * l.length:=by
 induction l with
 | nil=>rfl
 | cons x r ih=>rw [List.flatMap_cons,List.length_append,ih];simp [l4S];omega
theorem enc_flat (s:BSt):(([s.sets,s.counts].flatten).flatMap l2I++s.scores.flatMap l4S).flatten=encS s:=by
 have h1:∀ l:List Int,(l.flatMap l2I).flatten=l.flatMap lnI:=fun l=>by
  induction l with
  | nil=>rfl
  | cons x r ih=>rw [List.flatMap_cons,List.flatten_append,ih];simp [l2I,lnI]
 have h2:∀ l:List Sco,(l.flatMap l4S).flatten=l.flatMap scI:=fun l=>by
  induction l with
  | nil=>rfl
  | cons x r ih=>rw [List.flatMap_cons,List.flatten_append,ih];simp [l4S,scI]
 rw [List.flatten_append,h1,h2,encS_eq]
 simp
theorem join_nil (l:List (List UInt8)):Lib.join l []=l.flatten:=by
 unfold Lib.join
 cases l with
 | nil=>rfl
 | cons x r=>exact (Lib.join_cons x r []).trans (by simp [Lib.joinTail])
theorem strs_cells (l:List (List UInt8)):(cellsL (l.map DV.str)).length=l.length * 1:=by rw [cellsL_map1 (fun _=>rfl),List.length_map];omega
theorem c_enc (c:Book) (s:BSt) (e1:isStM c s=true):PC Tryz.prog 52 [s.v] (.str (encS s)):=by
 obtain ⟨s1,s2,s3,s4,s5⟩:=st_fit e1
 obtain ⟨f1,f2,f3,f4,f5⟩:=valid_fit s1
 obtain ⟨n1,n2,n3⟩:=st_num e1
 have hlen:=enc_len41 e1
 have hcon:=c_Concat [s.sets,s.counts] (by simp) (by simp;omega)
 obtain ⟨L,hL⟩:∃ L,L=([s.sets,s.counts]:List (List Int)).flatten:=⟨_,rfl⟩
 have hLl:L.length≤64:=by rw [hL];simp;omega
 have hLn:∀ n∈L, -1000000000≤n∧n≤1000000000:=fun n hn=>by
  rw [hL] at hn
  simp at hn
  rcases hn with h|h
  ·exact n1 n h
  ·have:=n2 n h;omega
 have hflat:=enc_flat s
 rw [← hL] at hcon hflat
 refine PC.of mixedU isU52 (Nat.le_of_ble_eq_true rfl) (by simp [DV.nlL,DV.nl,nlL_ints,nlL_strs,nlL_adjs,nlL_scos]) (by simp [DV.nlL,DV.nl,nlL_ints,nlL_strs,nlL_adjs,nlL_scos]) ?_
 show IW Tryz.prog 43 u52_1 ⟨argT _,_,_⟩ (rt [.tmp 2] _)
 repeat' ((with_reducible first|refine wr ?_|refine k_cu ?_ ?_|refine wb2 ?_ ?_<;>(intro hb;try simp only [hb])|fail)<;>try simp only [go_sem,seval])
 refine AC.call (hcon.give (H0:=Sym.nil.upd 0 ⟨0,true,csS s⟩) (GL.frzS (id:=1) (b:=⟨1,true,[intsV s.sets,intsV s.counts]⟩) rfl rfl (fun j=>?_) (.cons _ _ _ _ (fz_slc (u:=1) (xs:=[intsV s.sets,intsV s.counts]) rfl (by simp;exact ⟨rfl,rfl⟩) ⟨[],rfl⟩) .nil))) ?_
 ·by_cases e:j=0
  ·subst e;right;exact ⟨by decide,rfl⟩
  ·left;rw [h_ne e];rfl
 rintro v H' c' ⟨rfl,rfl,rfl⟩ hcc
 simp only [go_sem,seval]
 repeat' ((with_reducible first|refine wr ?_|refine k_cu ?_ ?_|refine wb2 ?_ ?_<;>(intro hb;try simp only [hb])|fail)<;>try simp only [go_sem,seval])
 refine i_loop (fun q:Nat × Option Nat=>[(1,.ptr 0 0),(3,todoV q.2 (2 * q.1)),(13,intsV L),(14,I64 L.length),(15,I64 q.1)]) (fun q=>optH (Sym.nil.upd 0 ⟨0,true,csS s⟩) q.2 ⟨1,true,cellsL (((L.take q.1).flatMap l2I).map DV.str)⟩)
  (fun q cc=>1≤cc∧q.1≤L.length∧(q.2=none→q.1=0)∧∀ i,q.2=some i→i<cc∧1≤i) (fun q=>L.length-q.1) (0,none)
  (by simp [tmLe,tm,Tm.upd,todoV]) (Sub.refl _) ⟨by omega,by simp,by simp,by simp⟩ ?_
 rintro ⟨k,o⟩ cc ⟨h1c,hk,hno,ho⟩
 simp only at hk hno ho
 simp only
 have hkl:((L.take k).flatMap l2I).length=2 * k:=by rw [l2_len,List.length_take];omega
 by_cases hlt:k<L.length
 ·have hd:decide ((k:Int)<L.length)=true:=by simpa using hlt
  have hg:=List.getElem?_eq_getElem hlt
  have hw:IntKind.i64.wrap ((k:Int)+1)=((k+1:Nat):Int):=by rw [w64 (by omega) (by omega)];omega
  have hb:=hLn _ (List.getElem_mem hlt)
  have est:cellsL (((L.take (k+1)).flatMap l2I).map DV.str)=cellsL (((L.take k).flatMap l2I).map DV.str)++[DV.str (decI L[k]),DV.str [10]]:=by
   rw [List.take_add_one,hg,List.flatMap_append,List.map_append,cellsL_append];rfl
  generalize L[k]=y at hg est hb
  have hit:=c_Itoa y (by omega) (by omega)
  obtain ⟨cs,hcs⟩:∃ cs,cs=cellsL (((L.take k).flatMap l2I).map DV.str):=⟨_,rfl⟩
  have hcl:cs.length=2 * k * 1:=by rw [hcs,strs_cells,hkl]
  rw [← hcs] at est ⊢
  have hno2:o=none→2 * k=0∧cs=[]:=fun e=>⟨by rw [hno e],by rw [hcs,hno e];rfl⟩
  have ne0:=nes4 0 cc (cc+1) (cc+2) (by omega)
  repeat' ((with_reducible first|refine wr ?_|refine cpc hit ?_|refine k_cu ?_ ?_|refine wb2 ?_ ?_<;>(intro hb;try simp only [hb])|fail)<;>try simp only [go_sem,seval,hd,hg,hw,ne0])
  refine k_eval (r_apptodo (cs:=cs) hno2 (fun i hi=>?_) hcl (by omega) (by omega) (by omega)) ?_
  ·have:=ho i hi
   (repeat rw [h_ne (by omega)])
   exact opt_at hi
  simp only [go_sem,seval,ne0,hw]
  repeat' ((with_reducible first|refine wr ?_|refine k_cu ?_ ?_|refine wb2 ?_ ?_<;>(intro hb;try simp only [hb])|fail)<;>try simp only [go_sem,seval,hd,hg,hw,ne0])
  exact ⟨(k+1,some (cc+1)),⟨rfl,rfl⟩,sub_any (c:=cc) (fun j q hj=>upd0_lt h1c hj) (fun i hi=>upd0_no (by have:=ho i hi;omega)) (fun j hj=>by (repeat rw [h_ne (by omega)])) (by omega) (by rw [est]),inv ⟨by omega,hlt,by simp,fun i hi=>by cases hi;omega⟩,by simp only;omega⟩
 have hd:decide ((k:Int)<L.length)=false:=by simpa using hlt
 obtain rfl:k=L.length:=by omega
 rw [List.take_length] at hkl ⊢
 have g0:∀ b',optH (Sym.nil.upd 0 ⟨0,true,csS s⟩) o b' 0=some ⟨0,true,csS s⟩:=fun b'=>by rw [optH_ne (fun i hi=>by have:=ho i hi;omega),h_same]
 have hn3:s.scores.length≤8:=by omega
 repeat' ((with_reducible first|refine wr ?_|refine k_cu ?_ ?_|refine wb2 ?_ ?_<;>(intro hb;try simp only [hb])|fail)<;>try simp only [go_sem,seval,hd,g0])
 clear hd hlt hk g0
 refine i_loop (fun q:Nat × Option Nat=>[(3,todoV q.2 (2 * L.length+4 * q.1)),(26,scosV s.scores),(27,I64 s.scores.length),(28,I64 q.1)]) (fun q=>optH Sym.nil q.2 ⟨1,true,cellsL ((L.flatMap l2I++(s.scores.take q.1).flatMap l4S).map DV.str)⟩)
  (fun q cc=>1≤cc∧q.1≤s.scores.length∧(q.2=none→2 * L.length+4 * q.1=0)∧∀ i,q.2=some i→i<cc∧1≤i) (fun q=>s.scores.length-q.1) (0,o)
  (by simp [tmLe,tm,Tm.upd]) ?_ ⟨h1c,by simp,fun h=>by have:=hno h;simp only;omega,ho⟩ ?_
 ·simp only [List.take_zero,List.flatMap_nil,List.append_nil]
  intro j q hj
  cases o with
  | none=>cases hj
  | some i =>
   simp only [optH] at hj ⊢
   by_cases e:j=i
   ·subst e;rw [h_same] at hj ⊢;exact hj
   ·rw [h_ne e] at hj;cases hj
 clear hno ho h1c hkl cc o
 rintro ⟨k,o⟩ cc ⟨h1c,hk,hno,ho⟩
 simp only at hk hno ho
 simp only
 have hkl:(L.flatMap l2I++(s.scores.take k).flatMap l4S).length=2 * L.length+4 * k:=by rw [List.length_append,l2_len,l4_len,List.length_take];omega
 by_cases hlt:k<s.scores.length
 ·have hd:decide ((k:Int)<s.scores.length)=true:=by simpa using hlt
  have hg:=List.getElem?_eq_getElem hlt
  have hw:IntKind.i64.wrap ((k:Int)+1)=((k+1:Nat):Int):=by rw [w64 (by omega) (by omega)];omega
  have hb:=n3 _ (List.getElem_mem hlt)
  have est:cellsL ((L.flatMap l2I++(s.scores.take (k+1)).flatMap l4S).map DV.str)=cellsL ((L.flatMap l2I++(s.scores.take k).flatMap l4S).map DV.str)++[DV.str s.scores[k].name,DV.str [10],DV.str (decI s.scores[k].points),DV.str [10]]:=by
   rw [List.take_add_one,hg,List.flatMap_append, ← List.append_assoc,List.map_append,cellsL_append];rfl
  generalize s.scores[k]=y at hg est hb
  have hit:=c_Itoa y.points (by omega) (by omega)
  obtain ⟨cs,hcs⟩:∃ cs,cs=cellsL ((L.flatMap l2I++(s.scores.take k).flatMap l4S).map DV.str):=⟨_,rfl⟩
  have hcl:cs.length=(2 * L.length+4 * k) * 1:=by rw [hcs,strs_cells,hkl]
  rw [← hcs] at est ⊢
  have hno2:o=none→2 * L.length+4 * k=0∧cs=[]:=fun e=>⟨hno e,by
   have:=hno e
   apply List.eq_nil_of_length_eq_zero;rw [hcl];omega⟩
  have hfr:∀ j,cc≤j→∀ b',optH Sym.nil o b' j=none:=fun j hj b'=>by rw [optH_ne (fun i hi=>by have:=ho i hi;omega)];rfl
  have x1:=hfr (cc+1) (by omega)
  have x2:=hfr (cc+1+1) (by omega)
  have x3:=hfr (cc+1+2) (by omega)
  have x4:=hfr (cc+1+3) (by omega)
  have x5:=hfr (cc+1+4) (by omega)
  have x6:=hfr (cc+1+5) (by omega)
  have ne0:=nes7 cc (cc+1) (cc+1+1) (cc+1+2) (cc+1+3) (cc+1+4) (cc+1+5) (by omega)
  repeat' ((with_reducible first|refine wr ?_|refine cpc hit ?_|refine k_cu ?_ ?_|refine wb2 ?_ ?_<;>(intro hb;try simp only [hb])|fail)<;>try simp only [go_sem,seval,hd,hg,hw,x1,x2,x3,x4,x5,x6,ne0])
  refine x_eval (r_apptodo (cs:=cs) hno2 (fun i hi=>?_) hcl (by omega) (by omega) (by omega)) ?_
  ·have:=ho i hi
   (repeat rw [h_ne (by omega)])
   exact opt_at hi
  have dk:∀ X j,cc≤j→delO X o j=X j:=fun X j hj=>delO_ne (fun i hi=>by have:=ho i hi;omega)
  have d0:=fun X=>dk X cc (by omega)
  have d1:=fun X=>dk X (cc+1) (by omega)
  have d2:=fun X=>dk X (cc+1+6) (by omega)
  have d3:=fun X=>dk X (cc+1+7) (by omega)
  have d4:=fun X=>dk X (cc+1+8) (by omega)
  have x7:=hfr (cc+1+7) (by omega)
  have x8:=hfr (cc+1+8) (by omega)
  have ne1:=nes6 cc (cc+1) (cc+1+6) (cc+1+7) (cc+1+8) (cc+1+9) (by omega)
  simp only [go_sem,seval,ne1,hw,d0,d1,d2,d3,d4,x7,x8]
  repeat' ((with_reducible first|refine wr ?_|refine k_cu ?_ ?_|refine wb2 ?_ ?_<;>(intro hb;try simp only [hb])|fail)<;>try simp only [go_sem,seval,hd,hg,hw,ne1,d0,d1,d2,d3,d4,x7,x8])
  refine ⟨(k+1,some (cc+1+9)),⟨by simp only [todoV];rfl,rfl⟩,?_,inv ⟨by omega,hlt,by simp,fun i hi=>by cases hi;omega⟩,by simp only;omega⟩
  simp only [optH]
  intro j q hj
  by_cases e:j=cc+1+9
  ·subst e;rw [h_same] at hj ⊢;rw [← hj,est]
  ·rw [h_ne e] at hj;cases hj
 have hd:decide ((k:Int)<s.scores.length)=false:=by simpa using hlt
 obtain rfl:k=s.scores.length:=by omega
 rw [List.take_length] at hkl ⊢
 have hj:=c_Join (L.flatMap l2I++s.scores.flatMap l4S) [] (by omega) (by rw [join_nil,hflat];omega)
 rw [join_nil,hflat] at hj
 rcases o with _|id
 ·have h00:=hno rfl
  have h01:L.flatMap l2I++s.scores.flatMap l4S=[]:=List.eq_nil_of_length_eq_zero (by omega)
  rw [h01] at hj
  repeat' ((with_reducible first|refine wr ?_|refine k_cu ?_ ?_|refine wb2 ?_ ?_<;>(intro hb;try simp only [hb])|fail)<;>try simp only [go_sem,seval,hd])
  refine AC.call (hj.give (H0:=Sym.nil) ⟨fun _ h=>h,fun ρ w vs h1 h2=>⟨ρ,rfl,h1,?_,Ext.refl _ _ _⟩⟩) ?_
  ·exact ⟨h2.1,fun i x y hx hy=>by
    match i with
    | 0=>cases hx;exact (h2.2 0 _ y rfl hy).snil_lst
    | 1=>cases hx;exact h2.2 1 _ y rfl hy
    | _+2=>cases hx⟩
  ·rintro v H' c' ⟨rfl,rfl,rfl⟩ -
   simp only [go_sem,seval]
   repeat' ((with_reducible first|refine wr ?_|refine k_cu ?_ ?_|refine wb2 ?_ ?_<;>(intro hb;try simp only [hb])|fail)<;>try simp only [go_sem,seval])
   exact pc_ret rfl
 ·repeat' ((with_reducible first|refine wr ?_|refine k_cu ?_ ?_|refine wb2 ?_ ?_<;>(intro hb;try simp only [hb])|fail)<;>try simp only [go_sem,seval,hd])
  refine AC.call (hj.give (H0:=Sym.nil) (GL.one (id:=id) h_same rfl (.cons _ _ _ _ (fz_slc (u:=1) (by rw [List.length_map,hkl]) (str_unit _) ⟨[],by simp⟩) (.cons _ _ _ _ (.same _) .nil)))) ?_
  rintro v H' c' ⟨rfl,rfl,rfl⟩ -
  simp only [go_sem,seval]
  repeat' ((with_reducible first|refine wr ?_|refine k_cu ?_ ?_|refine wb2 ?_ ?_<;>(intro hb;try simp only [hb])|fail)<;>try simp only [go_sem,seval])
  exact pc_ret rfl
end Go.Proofs.YtndjhpjcankkaaaGreatDoor
end
