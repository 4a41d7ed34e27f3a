/-
  HELPERS of the claim: part 10 of its texts.
-/
import Derived.Shelf.Strings.Split
import Derived.Shelf.Strings.SplitShaped
import Derived.Test.YtndjhpjcankkaaaGreatDoorProg
import Derived.Test.YtndjhpjcankkaaaGreatDoorAudi
noncomputable section
set_option linter.unusedVariables false
namespace Go.Proofs
open Go.Shelf
def Tryz.lays146_ren:Go.Shelf.Ren:=⟨fun | 146=>54 | 221=>81 | 268=>100 | 138=>101 | 143=>102 | 195=>113 | 197=>114 | 218=>115 | 219=>116 | 260=>129 | 217=>130 | 225=>131 | 224=>132 | 267=>133 | 266=>142 | 314=>143|n=>n,fun | 9=>9 | 31=>53 | 3=>3 | 4=>4 | 0=>0 | 105=>135 | 21=>21 | 5=>5 | 46=>105 | 119=>164 | 139=>167 | 138=>166 | 146=>168 | 51=>43|n=>n,fun | 1=>0 | 3=>4 | 4=>5|n=>n⟩
theorem Tryz.lays146:Go.Proofs.Lays.n146 Tryz.prog Tryz.lays146_ren:={
 mixed:=by kernel_rfl
 f138:=Tryz.func101.trans (congrArg some (by kernel_rfl))
 f143:=Tryz.func102.trans (congrArg some (by kernel_rfl))
 f146:=Tryz.func54.trans (congrArg some (by kernel_rfl))
 f195:=Tryz.func113.trans (congrArg some (by kernel_rfl))
 f197:=Tryz.func114.trans (congrArg some (by kernel_rfl))
 f217:=Tryz.func130.trans (congrArg some (by kernel_rfl))
 f218:=Tryz.func115.trans (congrArg some (by kernel_rfl))
 f219:=Tryz.func116.trans (congrArg some (by kernel_rfl))
 f221:=Tryz.func81.trans (congrArg some (by kernel_rfl))
 f224:=Tryz.func132.trans (congrArg some (by kernel_rfl))
 f225:=Tryz.func131.trans (congrArg some (by kernel_rfl))
 f260:=Tryz.func129.trans (congrArg some (by kernel_rfl))
 f266:=Tryz.func142.trans (congrArg some (by kernel_rfl))
 f267:=Tryz.func133.trans (congrArg some (by kernel_rfl))
 f268:=Tryz.func100.trans (congrArg some (by kernel_rfl))
 f314:=Tryz.func143.trans (congrArg some (by kernel_rfl))
 t0:=Tryz.underlying0
 a0:=Tryz.isAgg0
 z0:=Tryz.sizeOf0
 v0:=Tryz.zeroValue0
 t3:=Tryz.underlying3
 a3:=Tryz.isAgg3
 z3:=Tryz.sizeOf3
 v3:=Tryz.zeroValue3
 t4:=Tryz.underlying4
 a4:=Tryz.isAgg4
 z4:=Tryz.sizeOf4
 v4:=Tryz.zeroValue4
 t5:=Tryz.underlying5
 a5:=Tryz.isAgg5
 z5:=Tryz.sizeOf5
 v5:=Tryz.zeroValue5
 t9:=Tryz.underlying9
 a9:=Tryz.isAgg9
 z9:=Tryz.sizeOf9
 v9:=Tryz.zeroValue9
 t21:=Tryz.underlying21
 a21:=Tryz.isAgg21
 z21:=Tryz.sizeOf21
 v21:=Tryz.zeroValue21
 t31:=Tryz.underlying53
 a31:=Tryz.isAgg53
 z31:=Tryz.sizeOf53
 v31:=Tryz.zeroValue53
 t46:=Tryz.underlying105
 a46:=Tryz.isAgg105
 z46:=Tryz.sizeOf105
 v46:=Tryz.zeroValue105
 t51:=Tryz.underlying43
 a51:=Tryz.isAgg43
 z51:=Tryz.sizeOf43
 v51:=Tryz.zeroValue43
 t105:=Tryz.underlying135
 a105:=Tryz.isAgg135
 z105:=Tryz.sizeOf135
 v105:=Tryz.zeroValue135
 t119:=Tryz.underlying164
 a119:=Tryz.isAgg164
 z119:=Tryz.sizeOf164
 t138:=Tryz.underlying166
 a138:=Tryz.isAgg166
 z138:=Tryz.sizeOf166
 v138:=Tryz.zeroValue166
 t139:=Tryz.underlying167
 a139:=Tryz.isAgg167
 z139:=Tryz.sizeOf167
 v139:=Tryz.zeroValue167
 t146:=Tryz.underlying168
 a146:=Tryz.isAgg168
 z146:=Tryz.sizeOf168
 v146:=Tryz.zeroValue168
 g1:=by kernel_rfl
 g3:=by kernel_rfl
 g4:=by kernel_rfl }
open Go.RowKit Go.Lib in
theorem Tryz.strings_Split (s sep:ByteArray) (m:Int) (w:World) (hs:s.size<4294967281) (hm:w.cell? ⟨0,0,none⟩=some (.int .i64 m)) (h1:1≤sep.size) :
  Calls Tryz.prog 54 #[.string s,.string sep] w fun e w' =>
   e=.returned (.slice (some ⟨w.heap.size,0,none⟩) (Lib.countB s sep+1) (Lib.countB s sep+1))∧w'=w.alloc (.cells ((Lib.splitB sep 0 (Lib.countB s sep) s).map Value.string).toArray 9):=Any.strings_Split Tryz.lays146 (by kernel_rfl) s sep m w hs hm h1
end Go.Proofs
set_option maxHeartbeats 4000000
set_option maxRecDepth 100000
set_option linter.unusedSimpArgs false
namespace Go.Proofs.YtndjhpjcankkaaaGreatDoor
open Go.Eng (IC IOper DReg IFn IsFn Callable)
open Go.Sym Go.Pb Go.RowKit
theorem ix_split:∀ t:List UInt8,(Lib.index t [10] = -1→splitM t=[t])∧(∀ i:Nat,Lib.index t [10]=(i:Int)→splitM t=t.take i :: splitM (t.drop (i+1)))
 | []=>⟨fun _=>rfl,fun i h=>by
   have:Lib.index [] [10] = -1:=rfl
   omega⟩
 | c :: r=>by
  obtain ⟨h1,h2⟩:=ix_split r
  have hge:=Lib.index_ge r [10]
  unfold Lib.index
  by_cases hc:c=10
  ·subst hc
   have hp:([10]:List UInt8).isPrefixOf (10 :: r)=true:=by simp
   rw [if_pos hp]
   refine ⟨fun h=>by omega,fun i h=>?_⟩
   obtain rfl:i=0:=by omega
   simp [splitM]
  ·have hp:¬ ([10]:List UInt8).isPrefixOf (c :: r)=true:=by simp;exact fun h=>hc h.symm
   rw [if_neg hp]
   by_cases hm:Lib.index r [10] = -1
   ·rw [if_pos (by rw [hm];rfl)]
    refine ⟨fun _=>?_,fun i h=>by omega⟩
    rw [splitM,if_neg hc,h1 hm]
   ·rw [if_neg (by simpa using hm)]
    refine ⟨fun h=>by omega,fun i h=>?_⟩
    obtain ⟨j,rfl⟩:∃ j,i=j+1:=⟨i-1,by omega⟩
    rw [splitM,if_neg hc,h2 j (by omega)]
    simp
theorem splitK_M:∀ (n:Nat) (t:List UInt8),t.length<n→Lib.splitK [10] 0 (Lib.count t [10]) t=splitM t
 | 0,t,h=>by omega
 | n+1,t,h=>by
  obtain ⟨h1,h2⟩:=ix_split t
  have hge:=Lib.index_ge t [10]
  have hle:=Lib.index_le t [10]
  by_cases hm:Lib.index t [10] = -1
  ·rw [Lib.count_miss hm,h1 hm];rfl
  ·obtain ⟨i,hi⟩:∃ i:Nat,Lib.index t [10]=(i:Int):=⟨(Lib.index t [10]).toNat,by omega⟩
   have hcnt:=Lib.count_hit (s:=t) (sub:=[10]) (by simp) hi
   have hlt:0<t.length:=by
    cases t with
    | nil=>exact absurd rfl hm
    | cons c r=>simp
   rw [hcnt,Nat.add_comm 1,Lib.splitK,if_neg (by simpa using hm),hi,h2 i hi,Int.toNat_natCast,Nat.add_zero]
   rw [show i+([10]:List UInt8).length=i+1 from rfl,splitK_M n (t.drop (i+1)) (by rw [List.length_drop];omega)]
theorem c_Split (t:List UInt8) (ht:t.length<4294967281):PC Tryz.prog 54 [.str t,.str [10]] (strs (splitM t)):=by
 refine PC.of_callsF (by kernel_rfl) rfl (nlL_strs _) fun ρ w vs hf hA=>?_
 rw [arg2 hA (fun y h=>h.str_inv) (fun y h=>h.str_inv)]
 obtain ⟨r,hr,m,rfl⟩ := ρ.tab _ (List.mem_cons_of_mem _ List.mem_cons_self)
 obtain ⟨e,fr,hb⟩:=hf _ _ hr
 have hb':w.heap[0]? = _:=hb
 refine (Tryz.strings_Split ⟨t.toArray⟩ ⟨([10]:List UInt8).toArray⟩ m w (by show t.toArray.size<_;rw [List.size_toArray];exact ht) (by simp only [World.cell?,hb'];rfl) (by decide)).mono ?_
 rintro e w' ⟨rfl,rfl⟩
 have hd:=Lib.splitB_data ⟨([10]:List UInt8).toArray⟩ 0 (Lib.countB ⟨t.toArray⟩ ⟨([10]:List UInt8).toArray⟩) ⟨t.toArray⟩
 have hk:Lib.splitK [10] 0 (Lib.count t [10]) t=splitM t:=splitK_M (t.length+1) t (Nat.lt_succ_self _)
 have hall:=Lib.splitB_all ⟨([10]:List UInt8).toArray⟩ (by decide) 0 _ ⟨t.toArray⟩ rfl
 generalize hL:Lib.splitB ⟨([10]:List UInt8).toArray⟩ 0 (Lib.countB ⟨t.toArray⟩ ⟨([10]:List UInt8).toArray⟩) ⟨t.toArray⟩=L at hd hall
 have hd2:L.map (fun x=>x.data.toList)=splitM t:=hd.trans hk
 have hrow:(L.map Value.string).toArray=((splitM t).map fun s=>Value.string ⟨s.toArray⟩).toArray:=by
  rw [← hd2,List.map_map]
  rfl
 have hlen:Lib.countB ⟨t.toArray⟩ ⟨([10]:List UInt8).toArray⟩+1=(splitM t).length:=by rw [← hall, ← hd2,List.length_map]
 have hmax:(splitM t).length≤maxLen:=by
  have:=Lib.countB_le ⟨([10]:List UInt8).toArray⟩ (by decide) _ ⟨t.toArray⟩ (Nat.le_refl _)
  have h3:(⟨t.toArray⟩:ByteArray).size=t.length:=by show t.toArray.size=_;rw [List.size_toArray]
  unfold maxLen
  omega
 rw [hrow,hlen]
 exact ⟨_,w.heap.size,_,9,_,rfl,Nat.le_refl _,(by show (w.heap.push _)[w.heap.size]? = _;rw [Array.getElem?_push_size]),fun ρ' hρ => VRel.strs hρ rfl (Nat.le_refl _) hmax,Below.alloc (Below.refl _ _) (Nat.le_refl _) _⟩
end Go.Proofs.YtndjhpjcankkaaaGreatDoor
namespace Go.Proofs.YtndjhpjcankkaaaGreatDoor
open Go.Eng (IC IOper DReg IFn IsFn Callable)
open Go.Sym Go.Pb
theorem split_le:∀ (t:List UInt8), ∀ l∈splitM t,l.length≤t.length
 | [],l,h=>by simp [splitM] at h;subst h;simp
 | c :: r,l,h=>by
  have ih:=split_le r
  rw [splitM] at h
  split at h
  ·rcases List.mem_cons.1 h with rfl|h
   ·simp
   ·have:=ih l h;simp;omega
  ·split at h
   ·rename_i a l2 he
    rcases List.mem_cons.1 h with rfl|h
    ·have:=ih a (by rw [he];exact List.mem_cons_self);simp;omega
    ·have:=ih l (by rw [he];exact List.mem_cons_of_mem _ h);simp;omega
   ·simp at h;subst h;simp
theorem scoP_step:∀ (k:Nat) (l:List (List UInt8)) (x y:List UInt8),l[2 * k]? = some x→l[2 * k+1]? = some y→scoP (l.take (2 * (k+1)))=scoP (l.take (2 * k))++[⟨x,numP y⟩]
 | 0,l,x,y,hx,hy=>by
  match l,hx,hy with
  | a :: b :: r,hx,hy=>simp at hx hy;subst hx hy;simp [scoP]
 | k+1,l,x,y,hx,hy=>by
  match l,hx,hy with
  | a :: b :: r,hx,hy =>
   have ih:=scoP_step k r x y (by rw [show 2 * (k+1)=2 * k+2 by omega] at hx;simpa using hx) (by rw [show 2 * (k+1)+1=2 * k+1+2 by omega] at hy;simpa using hy)
   rw [show 2 * (k+1+1)=2 * (k+1)+2 by omega,show 2 * (k+1)=2 * k+2 by omega]
   simp only [List.take_succ_cons,scoP,List.cons_append]
   rw [show 2 * k+2=2 * (k+1) by omega,ih]
  | [a],hx,hy=>simp at hx
  | [],hx,hy=>simp at hx
theorem scoP_len:∀ (k:Nat) (l:List (List UInt8)),2 * k≤l.length→(scoP (l.take (2 * k))).length=k
 | 0,l,h=>by simp [scoP]
 | k+1,l,h=>by
  match l,h with
  | a :: b :: r,h =>
   rw [show 2 * (k+1)=2 * k+2 by omega]
   simp only [List.take_succ_cons,scoP,List.length_cons]
   rw [scoP_len k r (by simp at h;omega)]
  | [a],h=>simp at h;omega
  | [],h=>simp at h
theorem scoP_mem:∀ (l:List (List UInt8)) (x:Sco),x∈scoP l→x.name∈l
 | [],x,h=>by simp [scoP] at h
 | [a],x,h=>by simp [scoP] at h
 | a :: b :: r,x,h=>by
  rw [scoP] at h
  rcases List.mem_cons.1 h with rfl|h
  ·simp
  ·have:=scoP_mem r x h;simp [this]
theorem unit_strs (l:List (List UInt8)):unit 1 (l.map DV.str)=true:=by
 induction l with
 | nil=>rfl
 | cons x r ih=>simp [unit,DV.cells]
theorem c_Decode (c:Book) (hl:lenB c) (t:List UInt8) (ht:t.length≤1000000):PC Tryz.prog 21 [c.v,.str t] (.tup [(decP41 c t).1.v,I64 (decP41 c t).2]):=by
 have hv:=c_valid c hl
 refine PC.of mixedU isU21 (Nat.le_of_ble_eq_true rfl) (by simp [DV.nlL,DV.nl,nlL_ints,nlL_scos,nlL_adjs]) (by simp [DV.nlL,DV.nl,nlL_ints,nlL_scos,nlL_adjs]) ?_
 show IW Tryz.prog 90 u21_1 ⟨argT _,_,_⟩ (rt [.cell 4 3 true,.tmp 5] _)
 by_cases e1:validBM c=0
 rotate_left
 ·have e1':(validBM c != 0)=true:=by simpa using e1
  repeat' ((with_reducible first|refine wr ?_|refine cpc hv ?_|refine k_cu ?_ ?_|refine wb2 ?_ ?_<;>(intro hb;try simp only [hb])|fail)<;>try simp only [go_sem,seval,e1'])
  have er:decP41 c t=(noSt,1):=by simp [decP41,e1]
  rw [er]
  exact pc_no
 have e1':(validBM c != 0)=false:=by simpa using e1
 obtain ⟨f1,f2,f3,f4,f5⟩:=valid_fit e1
 obtain ⟨m,hm⟩:∃ m:Nat,c.cnt=(m:Int):=⟨c.cnt.toNat,by omega⟩
 have hm32:m≤32:=by omega
 have hsp:=c_Split t (by omega)
 have hb0:bOf c=c.adjs.length+m:=by unfold bOf;rw [hm];simp
 have hsl:=split_le t
 have hdec:decP41 c t=if (splitM t).length≠bOf c+2 * c.scores.length+1 then (noSt,62)
   else if isStM c (parP c.adjs.length (bOf c) c.scores.length (splitM t))=false∨encS (parP c.adjs.length (bOf c) c.scores.length (splitM t))≠t then (noSt,62)
   else (parP c.adjs.length (bOf c) c.scores.length (splitM t),0):=by
  rw [decP41,if_neg (by simp [e1])]
 obtain ⟨P,hP⟩:∃ P,P=splitM t:=⟨_,rfl⟩
 rw [hdec,hb0]
 rw [← hP] at hsp hsl ⊢
 have w1:IntKind.i64.wrap ((c.adjs.length:Int)+c.cnt)=((c.adjs.length+m:Nat):Int):=by rw [hm,w64 (by omega) (by omega)];omega
 have w2:IntKind.i64.wrap (2 * (c.scores.length:Int))=((2 * c.scores.length:Nat):Int):=by rw [w64 (by omega) (by omega)];omega
 have w3:IntKind.i64.wrap (((c.adjs.length+m:Nat):Int)+((2 * c.scores.length:Nat):Int))=((c.adjs.length+m+2 * c.scores.length:Nat):Int):=by rw [w64 (by omega) (by omega)];omega
 have w4:IntKind.i64.wrap (((c.adjs.length+m+2 * c.scores.length:Nat):Int)+1)=((c.adjs.length+m+2 * c.scores.length+1:Nat):Int):=by rw [w64 (by omega) (by omega)];omega
 by_cases e2:P.length=c.adjs.length+m+2 * c.scores.length+1
 rotate_left
 ·have e2':((P.length:Int) != ((c.adjs.length+m+2 * c.scores.length+1:Nat):Int))=true:=by simp;omega
  repeat' ((with_reducible first|refine wr ?_|refine cpc hv ?_|refine cpc hsp ?_|refine k_cu ?_ ?_|refine wb2 ?_ ?_<;>(intro hb;try simp only [hb])|fail)<;>try simp only [go_sem,seval,e1',w1,w2,w3,w4,e2',List.length_map])
  rw [if_pos e2]
  exact pc_no
 have e2':((P.length:Int) != ((c.adjs.length+m+2 * c.scores.length+1:Nat):Int))=false:=by simp;omega
 rw [if_neg (by simpa using e2)]
 have hs1:∀ H,slcR H 1 (strs P) none (some (I64 (c.adjs.length:Int)))=some (strs (P.take c.adjs.length)):=fun H=>by
  rw [show strs (P.take c.adjs.length)=.lst ((P.map DV.str).take c.adjs.length) by simp [List.map_take]]
  exact slc_to (by rw [List.length_map];omega) (unit_strs _)
 have hs2:∀ H,slcR H 1 (strs P) (some (I64 (c.adjs.length:Int))) (some (I64 ((c.adjs.length+m:Nat):Int)))=some (strs ((P.take (c.adjs.length+m)).drop c.adjs.length)):=fun H=>by
  simp only [slcR,boundOf,Int.natCast_nonneg,if_true,Int.toNat_natCast,unit_strs,List.length_map,and_true]
  rw [if_pos ⟨by omega,by omega⟩,List.drop_take];simp [List.map_take,List.map_drop]
 have hn1:=c_numbers (P.take c.adjs.length) (by rw [List.length_take];omega) (fun x hx=>by have:=hsl x (List.mem_of_mem_take hx);omega)
 have hn2:=c_numbers ((P.take (c.adjs.length+m)).drop c.adjs.length) (by rw [List.length_drop,List.length_take];omega) (fun x hx=>by have:=hsl x (List.mem_of_mem_take (List.mem_of_mem_drop hx));omega)
 repeat' ((with_reducible first|refine wr ?_|refine cpc hv ?_|refine cpc hsp ?_|refine cpc hn1 ?_|refine cpc hn2 ?_|refine k_cu ?_ ?_|refine wb2 ?_ ?_<;>(intro hb;try simp only [hb])|fail)<;>try simp only [go_sem,seval,e1',w1,w2,w3,w4,e2',List.length_map,hs1,hs2])
 obtain ⟨B,hB⟩:∃ B:Hp,B=(Sym.nil.upd 0 ⟨0,true,csB c⟩).upd 1 ⟨0,true,[.snil,.snil,.snil]⟩:=⟨_,rfl⟩
 have hB0:B 0=some ⟨0,true,csB c⟩:=by rw [hB];rfl
 have hB1:B 1=some ⟨0,true,[.snil,.snil,.snil]⟩:=by rw [hB];rfl
 have hBn:∀ j,2≤j→B j=none:=fun j hj=>by rw [hB,h_ne (by omega),h_ne (by omega)];rfl
 obtain ⟨A,hA⟩:∃ A,A=(P.take c.adjs.length).map numP:=⟨_,rfl⟩
 obtain ⟨D,hD⟩:∃ D,D=((P.take (c.adjs.length+m)).drop c.adjs.length).map numP:=⟨_,rfl⟩
 obtain ⟨Q,hQ⟩:∃ Q,Q=P.drop (c.adjs.length+m):=⟨_,rfl⟩
 have hqd:∀ j,Q[j]? = P[c.adjs.length+m+j]? := fun j=>by rw [hQ,List.getElem?_drop]
 have hQl:Q.length=2 * c.scores.length+1:=by rw [hQ,List.length_drop];omega
 have hpar:parP c.adjs.length (c.adjs.length+m) c.scores.length P=⟨A,D,scoP (Q.take (2 * c.scores.length))⟩:=by rw [hA,hD,hQ];rfl
 have hAl0:A.length≤32:=by rw [hA,List.length_map,List.length_take];omega
 have hDl0:D.length≤64:=by rw [hD,List.length_map,List.length_drop,List.length_take];omega
 rw [hpar]
 rw [← hA, ← hD]
 clear hs1 hs2 hn1 hn2 hA hD hpar
 refine i_loop (fun q:Nat × Option Nat=>[(1,.str t),(2,.ptr 0 0),(4,.ptr 1 0),(6,strs P),(8,I64 (c.adjs.length+m:Nat)),(9,.ptr 23 0),(49,I64 c.scores.length),(50,I64 q.1)]) (fun q=>optH (B.upd 23 ⟨0,true,[intsV A,intsV D]++[todoV q.2 q.1]++[]⟩) q.2 ⟨2,true,cellsL ((scoP (Q.take (2 * q.1))).map Sco.v)⟩)
  (fun q cc=>24≤cc∧q.1≤c.scores.length∧(q.2=none→q.1=0)∧∀ i,q.2=some i→i<cc∧24≤i) (fun q=>c.scores.length-q.1) (0,none)
  (by simp [tmLe,tm,Tm.upd]) ?_ ⟨by omega,by simp,by simp,by simp⟩ ?_
 ·intro j q hj
  simp only [optH] at hj
  rw [hB] at hj
  by_cases e:j=23
  ·subst e;rw [h_same] at hj ⊢;exact hj
  ·rw [h_ne e] at hj;rw [h_ne e,h_ne e];exact hj
 rintro ⟨k,o⟩ cc ⟨h24,hk,hno,ho⟩
 simp only at hk hno ho
 simp only
 have g0:∀ b b',optH (B.upd 23 b) o b' 0=some ⟨0,true,csB c⟩:=fun b b'=>by rw [optH_ne (fun i hi=>by have:=ho i hi;omega),h_ne (by omega),hB0]
 have g1:∀ b b',optH (B.upd 23 b) o b' 1=some ⟨0,true,[.snil,.snil,.snil]⟩:=fun b b'=>by rw [optH_ne (fun i hi=>by have:=ho i hi;omega),h_ne (by omega),hB1]
 have g23:∀ b b',optH (B.upd 23 b) o b' 23=some b:=fun b b'=>by rw [optH_ne (fun i hi=>by have:=ho i hi;omega),h_same]
 have hkl:(scoP (Q.take (2 * k))).length=k:=scoP_len k Q (by omega)
 by_cases hlt:k<c.scores.length
 ·have hd:decide ((k:Int)<c.scores.length)=true:=by simpa using hlt
  have hw:IntKind.i64.wrap ((k:Int)+1)=((k+1:Nat):Int):=by rw [w64 (by omega) (by omega)];omega
  have w5:IntKind.i64.wrap (2 * (k:Int))=((2 * k:Nat):Int):=by rw [w64 (by omega) (by omega)];omega
  have w6:IntKind.i64.wrap (((c.adjs.length+m:Nat):Int)+((2 * k:Nat):Int))=((c.adjs.length+m+2 * k:Nat):Int):=by rw [w64 (by omega) (by omega)];omega
  have w7:IntKind.i64.wrap (((c.adjs.length+m+2 * k:Nat):Int)+1)=((c.adjs.length+m+2 * k+1:Nat):Int):=by rw [w64 (by omega) (by omega)];omega
  have hg:=List.getElem?_eq_getElem (show c.adjs.length+m+2 * k<P.length by omega)
  have hg2:=List.getElem?_eq_getElem (show c.adjs.length+m+2 * k+1<P.length by omega)
  have hq1:Q[2 * k]? = some P[c.adjs.length+m+2 * k]:=(hqd _).trans hg
  have hq2:Q[2 * k+1]? = some P[c.adjs.length+m+2 * k+1]:=(hqd _).trans hg2
  have hdr:P.drop (c.adjs.length+m+2 * k+1)=P[c.adjs.length+m+2 * k+1] :: P.drop (c.adjs.length+m+2 * k+1+1):=List.drop_eq_getElem_cons (by omega)
  have hpl:=hsl _ (List.getElem_mem (show c.adjs.length+m+2 * k+1<P.length by omega))
  have hst:=scoP_step k Q _ _ hq1 hq2
  generalize P[c.adjs.length+m+2 * k]=nm at hg hst hq1
  generalize P[c.adjs.length+m+2 * k+1]=pt at hg2 hst hdr hpl hq2
  have hs3:∀ H,slcR H 1 (strs P) (some (I64 ((c.adjs.length+m+2 * k+1:Nat):Int))) none=some (strs (P.drop (c.adjs.length+m+2 * k+1))):=fun H=>by
   simp only [slcR,boundOf,Int.natCast_nonneg,if_true,Int.toNat_natCast,unit_strs,List.length_map,and_true]
   rw [if_pos ⟨Nat.le_refl _,by omega⟩]
   congr 2
   rw [List.map_drop,List.take_of_length_le (by rw [List.length_drop,List.length_map];omega)]
  have hs4:∀ H,slcR H 1 (strs (P.drop (c.adjs.length+m+2 * k+1))) none (some (I64 1))=some (strs [pt]):=fun H=>by
   rw [hdr]
   exact slc_to (H:=H) (n:=1) (xs:=(pt :: P.drop (c.adjs.length+m+2 * k+1+1)).map DV.str) (by simp) (unit_strs _)
  have hnu:=c_numbers [pt] (by simp) (fun x hx=>by simp at hx;subst hx;omega)
  have est:cellsL ((scoP (Q.take (2 * (k+1)))).map Sco.v)=cellsL ((scoP (Q.take (2 * k))).map Sco.v)++[.str nm,I64 (numP pt)]:=by
   rw [hst,List.map_append,cellsL_append];rfl
  obtain ⟨cs,hcs⟩:∃ cs,cs=cellsL ((scoP (Q.take (2 * k))).map Sco.v):=⟨_,rfl⟩
  have hcl:cs.length=k * 2:=by rw [hcs,scos_len,hkl]
  rw [← hcs] at est ⊢
  have hno2:o=none→k=0∧cs=[]:=fun e=>⟨hno e,by apply List.eq_nil_of_length_eq_zero;rw [hcl,hno e]⟩
  have ne0:=nes5 0 1 23 (cc+21) (cc+25) (by omega)
  repeat' ((with_reducible first|refine wr ?_|refine cpc hnu ?_|refine k_cu ?_ ?_|refine wb2 ?_ ?_<;>(intro hb;try simp only [hb])|fail)<;>try simp only [go_sem,seval,hd,hg,hw,w5,w6,w7,hs3,hs4,g0,g1,g23,ne0])
  have hfr:∀ j,cc≤j→∀ b b',optH (B.upd 23 b) o b' j=none:=fun j hj b b'=>by rw [optH_ne (fun i hi=>by have:=ho i hi;omega),h_ne (by omega),hBn j (by omega)]
  refine ⟨by and_intros<;>exact hfr _ (by omega) _ _,?_⟩
  refine x_eval (r_apptodo (cs:=cs) hno2 (fun i hi=>?_) hcl (by omega) (by omega) (by omega)) ?_
  ·have:=ho i hi
   (repeat rw [h_ne (by omega)])
   exact opt_at hi
  have dk:∀ X j,j=0∨j=1∨j=23∨cc≤j→delO X o j=X j:=fun X j hj=>delO_ne (fun i hi=>by have:=ho i hi;omega)
  have d0:=fun X=>dk X 0 (by omega)
  have d1:=fun X=>dk X 1 (by omega)
  have d2:=fun X=>dk X 23 (by omega)
  simp only [go_sem,seval,ne0,hw,g0,g1,g23,d0,d1,d2,hg,w5,w6,w7]
  repeat' ((with_reducible first|refine wr ?_|refine k_cu ?_ ?_|refine wb2 ?_ ?_<;>(intro hb;try simp only [hb])|fail)<;>try simp only [go_sem,seval,hd,hg,hw,w5,w6,w7,g0,g1,g23,d0,d1,d2,ne0])
  refine ⟨(k+1,some (cc+25)),rfl,?_,inv ⟨by omega,hlt,by simp,fun i hi=>by cases hi;omega⟩,by simp only;omega⟩
  intro j q hj
  simp only [optH,todo_s] at hj
  by_cases e12:j=cc+25
  ·subst e12;rw [h_same] at hj;rw [h_ne (by omega),h_same, ← hj,est]
  rw [h_ne e12] at hj
  by_cases e9:j=23
  ·subst e9;rw [h_same] at hj ⊢;exact hj
  rw [h_ne e9] at hj
  have hj2:j=0∨j=1:=by
   by_cases h2:2≤j
   ·rw [hBn j h2] at hj;cases hj
   ·omega
  rw [h_ne e9,h_ne e12,dk _ j (by omega),h_ne (by omega),optH_ne (fun i hi=>by have:=ho i hi;omega),h_ne e9]
  exact hj
 ·have hd:decide ((k:Int)<c.scores.length)=false:=by simpa using hlt
  obtain rfl:k=c.scores.length:=by omega
  obtain ⟨X,hX⟩:∃ X,X=scoP (Q.take (2 * c.scores.length)):=⟨_,rfl⟩
  have hmem:∀ x∈X,x.name∈P:=fun x hx=>by
   rw [hX] at hx
   have:=List.mem_of_mem_take (scoP_mem _ x hx)
   rw [hQ] at this
   exact List.mem_of_mem_drop this
  rw [← hX] at hkl ⊢
  have hAl:lenT ⟨A,D,X⟩:=⟨by show A.length≤_;omega,by show D.length≤_;omega,by show X.length≤_;omega,fun x hx=>by have:=hsl _ (hmem x hx);omega⟩
  have his:=c_IsState c ⟨A,D,X⟩ hl hAl
  repeat' ((with_reducible first|refine hold (p:=IW _ _ u21_22 _ _) ?_|refine wr ?_|refine k_cu ?_ ?_|refine wb2 ?_ ?_<;>(intro hb;try simp only [hb])|fail)<;>try simp only [go_sem,seval,hd,g0,g1,g23])
  refine IW.stage (L:=[(1,.str t),(2,.ptr 0 0),(4,.ptr 1 0),(9,.ptr 23 0)]) (by simp [tmLe,tm,Tm.upd]) ?_
  refine IW.keep [1,2,4,9] [.str t,.ptr 0 0,.ptr 1 0,.ptr 23 0] (g_fin (Hb:=B) (ci:=23) (u:=2) (n:=c.scores.length) (o:=o) (pre:=[intsV A,intsV D]) (suf:=[]) (xs:=X.map Sco.v) (by simp [DV.one]) (fun h=>by have:=hno h;rw [List.eq_nil_of_length_eq_zero (hkl.trans this)];rfl) (fun i hi=>⟨by have:=ho i hi;omega,hBn i (by have:=ho i hi;omega)⟩) (by rw [List.length_map,hkl]) (scos_unit _)) ?_
  show IW Tryz.prog 90 u21_22 ⟨tm [(1,.str t),(2,.ptr 0 0),(4,.ptr 1 0),(9,.ptr 23 0)],_,_⟩ _
  by_cases e3:isStM c ⟨A,D,X⟩=true
  rotate_left
  ·have e3:isStM c ⟨A,D,X⟩=false:=by simpa using e3
   rw [if_pos (.inl e3)]
   repeat' ((with_reducible first|refine wr ?_|refine cpc his ?_|refine k_cu ?_ ?_|refine wb2 ?_ ?_<;>(intro hb;try simp only [hb])|fail)<;>try simp only [go_sem,seval,hB0,hB1,e3])
   exact pc_no
  have hen:=c_enc c ⟨A,D,X⟩ e3
  by_cases e4:encS ⟨A,D,X⟩=t
  rotate_left
  ·have e4':(encS ⟨A,D,X⟩ == t)=false:=by simpa using e4
   rw [if_pos (.inr e4)]
   repeat' ((with_reducible first|refine wr ?_|refine cpc his ?_|refine cpc hen ?_|refine k_cu ?_ ?_|refine wb2 ?_ ?_<;>(intro hb;try simp only [hb])|fail)<;>try simp only [go_sem,seval,hB0,hB1,e3,e4',bne])
   exact pc_no
  have e4':(encS ⟨A,D,X⟩ == t)=true:=by simpa using e4
  rw [if_neg (by simp [e3,e4])]
  repeat' ((with_reducible first|refine wr ?_|refine cpc his ?_|refine cpc hen ?_|refine k_cu ?_ ?_|refine wb2 ?_ ?_<;>(intro hb;try simp only [hb])|fail)<;>try simp only [go_sem,seval,hB0,hB1,e3,e4',bne])
  exact pc_ret rfl
end Go.Proofs.YtndjhpjcankkaaaGreatDoor
namespace Go.Proofs.YtndjhpjcankkaaaGreatDoor
open Go.Eng (IC IOper DReg IFn IsFn Callable)
open Go.Sym Go.Pb
theorem numV_b:∀ (k:Nat) (d:List UInt8),(∀ c∈d,dgB c=true)→k≤d.length→numV (d.take k)+1≤10 ^ k
 | 0,d,_,_=>by simp [numV]
 | k+1,d,h,hk=>by
  have ih:=numV_b k d h (by omega)
  have hg:=List.getElem?_eq_getElem (show k<d.length by omega)
  have hc:=h _ (List.getElem_mem (show k<d.length by omega))
  rw [numV_step hg]
  simp only [dgB,Bool.and_eq_true,decide_eq_true_eq] at hc
  rw [Nat.pow_succ]
  omega
def numRV (l:List UInt8):DV:=match numR l with
 | some n=>.tup [I64 n,.bool true]
 | none=>.tup [.bot,.bool false]
theorem numRV_nl (l:List UInt8):(numRV l).nl=true:=by unfold numRV;split<;>rfl
theorem num_bad {l:List UInt8} {H:Hp} {x:DV} (h:numR l=none):∃ H2,GL H [.tup [x,.bool false]] H2 [numRV l]:=by
 rw [numRV,h]
 exact pc_view1 fun _ _ _=>.bot _
theorem c_number (l:List UInt8) (hl:l.length≤1000000):PC Tryz.prog 57 [.str l] (numRV l):=by
 refine PC.of mixedU isU57 (Nat.le_of_ble_eq_true rfl) rfl (numRV_nl l) ?_
 show IW Tryz.prog 60 u57_1 ⟨argT _,_,_⟩ (rt [.tmp 2,.tmp 3] _)
 have hmag:∃ neg d,neg=negB l∧d=magB l:=⟨_,_,rfl,rfl⟩
 obtain ⟨neg,d,hneg,hd0⟩:=hmag
 have hnum:numR l=if d.length<1∨12<d.length then none else if d.all dgB=false then none else if decI (if neg=true then -(numV d:Int) else (numV d:Int))=l then some (if neg=true then -(numV d:Int) else (numV d:Int)) else none:=by
  rw [hneg,hd0];rfl
 cases neg with
 | true =>
  simp only [if_true] at hnum
  obtain ⟨r,hr⟩:∃ r,l=45 :: r:=by
   cases l with
   | nil=>cases hneg
   | cons c r =>
    have:c.toNat=45:=by simpa [negB] using hneg.symm
    exact ⟨r,by rw [show c=45 from UInt8.toNat_inj.1 this]⟩
  have hdr:d=r:=by rw [hd0,magB, ← hneg,if_pos rfl,hr];rfl
  have z1:decide ((l.length:Int)>0)=true:=by rw [hr];simp
  obtain ⟨c0,hc0,z2⟩:∃ c0,l[0]? = some c0∧((c0.toNat:Int) == 45)=true:=⟨45,by rw [hr];rfl,rfl⟩
  have z3:slsR l (some (I64 1)) none=some (.str d):=by
   rw [hdr,hr];simp only [slsR,boundOf];simp
  have hix:idxR (.str l) (.int .i64 0)=some (.int .u8 (c0.toNat:Int)):=by rw [r_idx,if_pos (by omega),show (0:Int).toNat=0 from rfl,hc0];rfl
  clear hd0 hdr hr r hneg
  by_cases hlen:d.length<1∨12<d.length
  ·have hn:numR l=none:=by rw [hnum,if_pos hlen]
   repeat' ((with_reducible first|refine wr ?_|refine k_cu ?_ ?_|refine wb2 ?_ ?_<;>(intro hb;try simp only [hb])|fail)<;>try simp only [go_sem,seval,z1,hix,z2,z3])
   all_goals first
    | exact num_bad hn
    | (exfalso;simp only [decide_eq_false_iff_not,decide_eq_true_eq] at *;omega)
  have k1:decide ((d.length:Int)<1)=false:=by simp;omega
  have k2:decide ((d.length:Int)>12)=false:=by simp;omega
  rw [if_neg hlen] at hnum
  repeat' ((with_reducible first|refine wr ?_|refine k_cu ?_ ?_|refine wb2 ?_ ?_<;>(intro hb;try simp only [hb])|fail)<;>try simp only [go_sem,seval,z1,hix,z2,z3,k1,k2])
  refine i_loop (fun k:Nat=>[(0,.str l),(4,.bool true),(5,.str d),(6,I64 (numV (d.take k))),(7,I64 k)]) (fun _=>Sym.nil) (fun k cc=>k≤d.length∧(d.take k).all dgB=true) (fun k=>d.length-k) 0 (by simp [tmLe,tm,Tm.upd,numV]) (Sub.nil _) (by simp) ?_
  rintro k cc ⟨hk,he⟩
  by_cases hlt:k<d.length
  ·have hd:decide ((k:Int)<d.length)=true:=by simpa using hlt
   have hg:=List.getElem?_eq_getElem hlt
   have hw:=w64 (n:=(k:Int)+1) (by omega) (by omega)
   have hst:=numV_step hg
   have hbd:=numV_b k (d.take k) (fun c hc=>List.all_eq_true.1 he c hc) (by rw [List.length_take];omega)
   rw [List.take_take,Nat.min_self] at hbd
   have hp:10 ^ k≤10 ^ 11:=Nat.pow_le_pow_right (by omega) (by omega)
   generalize d[k]=c at hg hst
   have hc256:=c.toNat_lt
   have m1:=w64 (n:=10 * ((numV (d.take k):Nat):Int)) (by omega) (by omega)
   by_cases hdg:dgB c=true
   ·have hdg':48≤c.toNat∧c.toNat≤57:=by simpa [dgB] using hdg
    have c1:decide ((c.toNat:Int)<48)=false:=by simp;omega
    have c2:decide ((c.toNat:Int)>57)=false:=by simp;omega
    have m2:IntKind.u8.wrap ((c.toNat:Int)-48)=((c.toNat-48:Nat):Int):=by rw [wu8 (by omega) (by omega)];omega
    have m3:=w64 (n:=((c.toNat-48:Nat):Int)) (by omega) (by omega)
    have m4:IntKind.i64.wrap (10 * ((numV (d.take k):Nat):Int)+((c.toNat-48:Nat):Int))=((numV (d.take (k+1)):Nat):Int):=by rw [w64 (by omega) (by omega),hst];omega
    repeat' ((with_reducible first|refine wr ?_|refine k_cu ?_ ?_|refine wb2 ?_ ?_<;>(intro hb;try simp only [hb])|fail)<;>try simp only [go_sem,seval,hd,hg,hw,c1,c2,m1,m2,m3,m4])
    all_goals exact ⟨k+1,⟨rfl,rfl⟩,Sub.nil _,inv ⟨by omega,by rw [all_take dgB d k c hg he,hdg]⟩,by omega⟩
   ·have hdg:dgB c=false:=by simpa using hdg
    have hn:numR l=none:=by rw [hnum,if_pos (all_fail dgB d k c hg hdg)]
    have hdg':c.toNat<48∨57<c.toNat:=by
     by_cases h1:c.toNat<48
     ·exact .inl h1
     ·right;simp [dgB] at hdg;omega
    repeat' ((with_reducible first|refine wr ?_|refine k_cu ?_ ?_|refine wb2 ?_ ?_<;>(intro hb;try simp only [hb])|fail)<;>try simp only [go_sem,seval,hd,hg,hw])
    all_goals first
     | exact num_bad hn
     | (exfalso;simp at *;omega)
  ·have hd:decide ((k:Int)<d.length)=false:=by simpa using hlt
   have hall:=all_done dgB d k (by omega) he
   have hkk:d.take k=d:=List.take_of_length_le (by omega)
   have hbd:=numV_b d.length d (fun c hc=>List.all_eq_true.1 hall c hc) (Nat.le_refl _)
   rw [List.take_length] at hbd
   have hp:10 ^ d.length≤10 ^ 12:=Nat.pow_le_pow_right (by omega) (by omega)
   rw [if_neg (by rw [hall];simp)] at hnum
   rw [hkk]
   have m1:IntKind.i64.wrap (0-(numV d:Int)) = -(numV d:Int):=by rw [w64 (by omega) (by omega)];omega
   have hcd:=c_Dec ((-(numV d:Int)).natAbs+1) (-(numV d:Int)) (by omega) (by omega) (by omega)
   by_cases heq:decI (-(numV d:Int))=l
   ·have heq':(decI (-(numV d:Int)) == l)=true:=by simpa using heq
    repeat' ((with_reducible first|refine wr ?_|refine cpc hcd ?_|refine k_cu ?_ ?_|refine wb2 ?_ ?_<;>(intro hb;try simp only [hb])|fail)<;>try simp only [go_sem,seval,hd,m1,heq'])
    have hn:numR l=some (-(numV d:Int)):=by rw [hnum];simp [heq]
    rw [numRV,hn]
    exact pc_ret rfl
   ·have heq':(decI (-(numV d:Int)) == l)=false:=by simpa using heq
    repeat' ((with_reducible first|refine wr ?_|refine cpc hcd ?_|refine k_cu ?_ ?_|refine wb2 ?_ ?_<;>(intro hb;try simp only [hb])|fail)<;>try simp only [go_sem,seval,hd,m1,heq'])
    exact num_bad (by rw [hnum];simp [heq])
 | false =>
  simp only [Bool.false_eq_true,if_false] at hnum
  obtain rfl:d=l:=by rw [hd0,magB, ← hneg];rfl
  by_cases hz:0<d.length
  rotate_left
  ·have hn:numR d=none:=by rw [hnum,if_pos (.inl (by omega))]
   have z1:decide ((d.length:Int)>0)=false:=by simp only [decide_eq_false_iff_not];omega
   have k1:decide ((d.length:Int)<1)=true:=by simp only [decide_eq_true_eq];omega
   repeat' ((with_reducible first|refine wr ?_|refine k_cu ?_ ?_|refine wb2 ?_ ?_<;>(intro hb;try simp only [hb])|fail)<;>try simp only [go_sem,seval,z1,k1])
   all_goals exact num_bad hn
  have z1:decide ((d.length:Int)>0)=true:=by simp only [decide_eq_true_eq];omega
  obtain ⟨c0,hc0⟩:∃ c0,d[0]? = some c0:=⟨_,List.getElem?_eq_getElem hz⟩
  have z3:((c0.toNat:Int) == 45)=false:=by
   cases d with
   | nil=>simp at hz
   | cons a r =>
    simp at hc0;subst hc0
    have:¬ a.toNat=45:=by simpa [negB] using hneg.symm
    simp;omega
  have hix:idxR (.str d) (.int .i64 0)=some (.int .u8 (c0.toNat:Int)):=by rw [r_idx,if_pos (by omega),show (0:Int).toNat=0 from rfl,hc0];rfl
  clear hd0 hneg
  by_cases hlen:d.length<1∨12<d.length
  ·have hn:numR d=none:=by rw [hnum,if_pos hlen]
   repeat' ((with_reducible first|refine wr ?_|refine k_cu ?_ ?_|refine wb2 ?_ ?_<;>(intro hb;try simp only [hb])|fail)<;>try simp only [go_sem,seval,z1,hix,z3])
   all_goals first
    | exact num_bad hn
    | (exfalso;simp only [decide_eq_false_iff_not,decide_eq_true_eq] at *;omega)
  have k1:decide ((d.length:Int)<1)=false:=by simp;omega
  have k2:decide ((d.length:Int)>12)=false:=by simp;omega
  rw [if_neg hlen] at hnum
  repeat' ((with_reducible first|refine wr ?_|refine k_cu ?_ ?_|refine wb2 ?_ ?_<;>(intro hb;try simp only [hb])|fail)<;>try simp only [go_sem,seval,z1,hix,z3,k1,k2])
  refine i_loop (fun k:Nat=>[(0,.str d),(4,.bool false),(5,.str d),(6,I64 (numV (d.take k))),(7,I64 k)]) (fun _=>Sym.nil) (fun k cc=>k≤d.length∧(d.take k).all dgB=true) (fun k=>d.length-k) 0 (by simp [tmLe,tm,Tm.upd,numV]) (Sub.nil _) (by simp) ?_
  rintro k cc ⟨hk,he⟩
  by_cases hlt:k<d.length
  ·have hd:decide ((k:Int)<d.length)=true:=by simpa using hlt
   have hg:=List.getElem?_eq_getElem hlt
   have hw:=w64 (n:=(k:Int)+1) (by omega) (by omega)
   have hst:=numV_step hg
   have hbd:=numV_b k (d.take k) (fun c hc=>List.all_eq_true.1 he c hc) (by rw [List.length_take];omega)
   rw [List.take_take,Nat.min_self] at hbd
   have hp:10 ^ k≤10 ^ 11:=Nat.pow_le_pow_right (by omega) (by omega)
   generalize d[k]=c at hg hst
   have hc256:=c.toNat_lt
   have m1:=w64 (n:=10 * ((numV (d.take k):Nat):Int)) (by omega) (by omega)
   by_cases hdg:dgB c=true
   ·have hdg':48≤c.toNat∧c.toNat≤57:=by simpa [dgB] using hdg
    have c1:decide ((c.toNat:Int)<48)=false:=by simp;omega
    have c2:decide ((c.toNat:Int)>57)=false:=by simp;omega
    have m2:IntKind.u8.wrap ((c.toNat:Int)-48)=((c.toNat-48:Nat):Int):=by rw [wu8 (by omega) (by omega)];omega
    have m3:=w64 (n:=((c.toNat-48:Nat):Int)) (by omega) (by omega)
    have m4:IntKind.i64.wrap (10 * ((numV (d.take k):Nat):Int)+((c.toNat-48:Nat):Int))=((numV (d.take (k+1)):Nat):Int):=by rw [w64 (by omega) (by omega),hst];omega
    repeat' ((with_reducible first|refine wr ?_|refine k_cu ?_ ?_|refine wb2 ?_ ?_<;>(intro hb;try simp only [hb])|fail)<;>try simp only [go_sem,seval,hd,hg,hw,c1,c2,m1,m2,m3,m4])
    all_goals exact ⟨k+1,⟨rfl,rfl⟩,Sub.nil _,inv ⟨by omega,by rw [all_take dgB d k c hg he,hdg]⟩,by omega⟩
   ·have hdg:dgB c=false:=by simpa using hdg
    have hn:numR d=none:=by rw [hnum,if_pos (all_fail dgB d k c hg hdg)]
    have hdg':c.toNat<48∨57<c.toNat:=by
     by_cases h1:c.toNat<48
     ·exact .inl h1
     ·right;simp [dgB] at hdg;omega
    repeat' ((with_reducible first|refine wr ?_|refine k_cu ?_ ?_|refine wb2 ?_ ?_<;>(intro hb;try simp only [hb])|fail)<;>try simp only [go_sem,seval,hd,hg,hw])
    all_goals first
     | exact num_bad hn
     | (exfalso;simp at *;omega)
  ·have hd:decide ((k:Int)<d.length)=false:=by simpa using hlt
   have hall:=all_done dgB d k (by omega) he
   have hkk:d.take k=d:=List.take_of_length_le (by omega)
   have hbd:=numV_b d.length d (fun c hc=>List.all_eq_true.1 hall c hc) (Nat.le_refl _)
   rw [List.take_length] at hbd
   have hp:10 ^ d.length≤10 ^ 12:=Nat.pow_le_pow_right (by omega) (by omega)
   rw [if_neg (by rw [hall];simp)] at hnum
   rw [hkk]
   have m1:IntKind.i64.wrap (0-(numV d:Int)) = -(numV d:Int):=by rw [w64 (by omega) (by omega)];omega
   have hcd:=c_Dec (((numV d:Int)).natAbs+1) ((numV d:Int)) (by omega) (by omega) (by omega)
   by_cases heq:decI ((numV d:Int))=d
   ·have heq':(decI ((numV d:Int)) == d)=true:=by simpa using heq
    repeat' ((with_reducible first|refine wr ?_|refine cpc hcd ?_|refine k_cu ?_ ?_|refine wb2 ?_ ?_<;>(intro hb;try simp only [hb])|fail)<;>try simp only [go_sem,seval,hd,m1,heq'])
    have hn:numR d=some ((numV d:Int)):=by rw [hnum];simp [heq]
    rw [numRV,hn]
    exact pc_ret rfl
   ·have heq':(decI ((numV d:Int)) == d)=false:=by simpa using heq
    repeat' ((with_reducible first|refine wr ?_|refine cpc hcd ?_|refine k_cu ?_ ?_|refine wb2 ?_ ?_<;>(intro hb;try simp only [hb])|fail)<;>try simp only [go_sem,seval,hd,m1,heq'])
    exact num_bad (by rw [hnum];simp [heq])
end Go.Proofs.YtndjhpjcankkaaaGreatDoor
namespace Go.Proofs.YtndjhpjcankkaaaGreatDoor
open Go.Eng (IC IOper DReg IFn IsFn Callable)
open Go.Sym Go.Pb
theorem split_no10:∀ t:List UInt8,(∀ c∈t,c≠10)→splitM t=[t]
 | [],_=>rfl
 | c :: r,h=>by rw [splitM,if_neg (h c List.mem_cons_self),split_no10 r fun x hx=>h x (List.mem_cons_of_mem _ hx)]
theorem c_lines (t:List UInt8) (ht:t.length≤1000000):PC Tryz.prog 56 [.str t] (.tup [strs (splitM t).dropLast,.bool (decide ((splitM t).getLast? = some []))]):=by
 refine PC.of mixedU isU56 (Nat.le_of_ble_eq_true rfl) rfl (by simp only [DV.nl,DV.nlL,nlL_strs,Bool.and_true]) ?_
 show IW Tryz.prog 31 u56_1 ⟨argT _,_,_⟩ (rt [.tmp 2,.tmp 3] _)
 repeat' ((with_reducible first|refine wr ?_|refine k_cu ?_ ?_|refine wb2 ?_ ?_<;>(intro hb;try simp only [hb])|fail)<;>try simp only [go_sem,seval])
 refine i_loop (fun q:Nat × Nat × Option Nat × List (List UInt8)=>[(0,.str t),(4,todoV q.2.2.1 q.2.2.2.length),(5,I64 q.2.1),(6,I64 q.1)]) (fun q=>optH Sym.nil q.2.2.1 ⟨1,true,cellsL (q.2.2.2.map DV.str)⟩)
  (fun q cc=>q.1≤t.length∧q.2.1≤q.1∧q.2.2.2.length≤q.1∧(q.2.2.1=none→q.2.2.2=[])∧(∀ i,q.2.2.1=some i→i<cc)∧splitM t=q.2.2.2++splitM (t.drop q.2.1)∧∀ c∈(t.drop q.2.1).take (q.1-q.2.1),c≠10) (fun q=>t.length-q.1) (0,0,none,[])
  (by simp [tmLe,tm,Tm.upd,todoV]) (Sub.nil _) ⟨by simp,by simp,by simp,by simp,by simp,by simp,by simp⟩ ?_
 rintro ⟨i,at_,o,out⟩ cc ⟨hi,hat,hol,hno,ho,hsp,hn10⟩
 simp only at hi hat hol hno ho hsp hn10
 simp only
 by_cases hlt:i<t.length
 ·have hd:decide ((i:Int)<t.length)=true:=by simpa using hlt
  have hg:=List.getElem?_eq_getElem hlt
  have hw:IntKind.i64.wrap ((i:Int)+1)=((i+1:Nat):Int):=by rw [w64 (by omega) (by omega)];omega
  have hdr:t.drop at_=(t.drop at_).take (i-at_)++t[i] :: t.drop (i+1):=by
   have h1:(t.drop at_).drop (i-at_)=t[i] :: t.drop (i+1):=by
    rw [List.drop_drop,show at_+(i-at_)=i by omega];exact List.drop_eq_getElem_cons hlt
   rw [← h1,List.take_append_drop]
  have hsl:slsR t (some (I64 (at_:Int))) (some (I64 (i:Int)))=some (.str ((t.drop at_).take (i-at_))):=by
   simp only [slsR,boundOf,Int.natCast_nonneg,if_true,Int.toNat_natCast]
   rw [if_pos ⟨by omega,hat⟩]
  have htk:(t.drop at_).take (i+1-at_)=(t.drop at_).take (i-at_)++[t[i]]:=by
   rw [show i+1-at_=i-at_+1 by omega,List.take_add_one,List.getElem?_drop,show at_+(i-at_)=i by omega,hg];rfl
  generalize t[i]=c at hg hdr htk
  by_cases hc:c=10
  ·subst hc
   have hc':((((10:UInt8).toNat:Nat):Int) == 10)=true:=rfl
   have hcl:(cellsL (out.map DV.str)).length=out.length * 1:=strs_cells out
   have hno2:o=none→out.length=0∧cellsL (out.map DV.str)=[]:=fun e=>by rw [hno e];exact ⟨rfl,rfl⟩
   have ne0:=nes3 cc (cc+1) (cc+2) (by omega)
   repeat' ((with_reducible first|refine wr ?_|refine k_cu ?_ ?_|refine wb2 ?_ ?_<;>(intro hb;try simp only [hb])|fail)<;>try simp only [go_sem,seval,hd,hg,hw,hsl,hc',ne0])
   refine k_eval (r_apptodo (cs:=cellsL (out.map DV.str)) hno2 (fun j hj=>?_) hcl (by omega) (by omega) (by omega)) ?_
   ·have:=ho j hj
    (repeat rw [h_ne (by omega)])
    exact opt_at hj
   simp only [go_sem,seval,ne0,hw]
   repeat' ((with_reducible first|refine wr ?_|refine k_cu ?_ ?_|refine wb2 ?_ ?_<;>(intro hb;try simp only [hb])|fail)<;>try simp only [go_sem,seval,hd,hg,hw,ne0])
   have hsp2:splitM t=(out++[(t.drop at_).take (i-at_)])++splitM (t.drop (i+1)):=by
    rw [hsp,hdr,split_line _ _ hn10];simp [← hdr]
   exact ⟨(i+1,i+1,some (cc+1),out++[(t.drop at_).take (i-at_)]),⟨by simp [todoV],rfl,rfl⟩,sub_any (c:=cc) (fun j q hj=>by cases hj) (fun _ _=>rfl) (fun j hj=>by (repeat rw [h_ne (by omega)])) (by omega) (by simp only [List.map_append,cellsL_append];rfl),inv ⟨hlt,by simp only;omega,by simp only [List.length_append,List.length_singleton];omega,by simp,fun j hj=>by cases hj;omega,hsp2,by simp⟩,by simp only;omega⟩
  ·have hc':(((c.toNat:Nat):Int) == 10)=false:=by
    have:¬ c.toNat=10:=fun h=>hc (UInt8.toNat_inj.1 h)
    simp;omega
   repeat' ((with_reducible first|refine wr ?_|refine k_cu ?_ ?_|refine wb2 ?_ ?_<;>(intro hb;try simp only [hb])|fail)<;>try simp only [go_sem,seval,hd,hg,hw,hc'])
   exact ⟨(i+1,at_,o,out),⟨rfl,rfl,rfl⟩,Sub.refl _,inv ⟨hlt,by simp only;omega,by simp only;omega,hno,ho,hsp,by
    simp only [htk,List.mem_append,List.mem_singleton]
    rintro x (hx|rfl)
    ·exact hn10 x hx
    ·exact hc⟩,by simp only;omega⟩
 ·have hd:decide ((i:Int)<t.length)=false:=by simpa using hlt
  have hall:∀ c∈t.drop at_,c≠10:=fun c hc=>hn10 c (by rw [List.take_of_length_le (by rw [List.length_drop];omega)];exact hc)
  rw [split_no10 _ hall] at hsp
  rw [hsp,List.dropLast_concat]
  have hlast:decide ((out++[t.drop at_]).getLast? = some [])=((at_:Int) == (t.length:Int)):=by
   rw [Bool.eq_iff_iff]
   simp
   omega
  rw [hlast]
  repeat' ((with_reducible first|refine wr ?_|refine k_cu ?_ ?_|refine wb2 ?_ ?_<;>(intro hb;try simp only [hb])|fail)<;>try simp only [go_sem,seval,hd])
  rcases o with _|id
  ·rw [hno rfl];exact pc_snil2
  ·exact pc_slc2 (id:=id) (u:=1) h_same rfl (by rw [List.length_map]) (str_unit _) ⟨[],by simp⟩
end Go.Proofs.YtndjhpjcankkaaaGreatDoor
set_option linter.unusedSectionVars false
namespace Go.Pb
variable [Go.Sym.Tab]
open Go.Sym
def lastP (l:List Sco) (n:Int):List Sco:=l.dropLast++[⟨(l.getLastD ⟨[],0⟩).name,n⟩]
def parR (a b:Nat):Nat→List (List UInt8)→BSt→Option BSt
 | _,[],s=>some s
 | i,l :: r,s =>
  if b≤i∧(i-b) % 2=0 then parR a b (i+1) r { s with scores:=s.scores++[⟨l,0⟩] }
  else match numR l with
   | none=>none
   | some n=>parR a b (i+1) r (if i<a then { s with sets:=s.sets++[n] } else if i<b then { s with counts:=s.counts++[n] } else { s with scores:=lastP s.scores n })
def decR41 (c:Book) (t:List UInt8):BSt × Int :=
 if validBM c≠0 then (noSt,1)
 else if (splitM t).getLast (splitM_ne t)≠[]∨(splitM t).dropLast.length≠bOf c+2 * c.scores.length then (noSt,62)
 else match parR c.adjs.length (bOf c) 0 (splitM t).dropLast noSt with
  | none=>(noSt,62)
  | some s=>if isStM c s=false then (noSt,62) else (s,0)
def numsR:List (List UInt8)→Option (List Int)
 | []=>some []
 | l :: r=>match numR l with
  | none=>none
  | some n=>(numsR r).map (n :: ·)
theorem numsR_some:∀ {L:List (List UInt8)} {ns:List Int},numsR L=some ns→ns.map decI=L
 | [],ns,h=>by cases h;rfl
 | l :: r,ns,h=>by
  rw [numsR] at h
  cases hn:numR l with
  | none=>rw [hn] at h;cases h
  | some n =>
   rw [hn] at h
   obtain ⟨ms,h1,rfl⟩:=Option.map_eq_some_iff.1 h
   rw [List.map_cons,numR_some hn,numsR_some h1]
theorem numsR_dec:∀ {l:List Int},(∀ n∈l, -999999999999≤n∧n≤999999999999)→numsR (l.map decI)=some l
 | [],_=>rfl
 | n :: l,h=>by
  have h1:=h n List.mem_cons_self
  rw [List.map_cons,numsR,numR_dec h1.1 h1.2,numsR_dec fun x hx=>h x (List.mem_cons_of_mem _ hx)];rfl
def scosR:List (List UInt8)→Option (List Sco)
 | n :: p :: r=>match numR p with
  | none=>none
  | some v=>(scosR r).map ((⟨n,v⟩:Sco) :: ·)
 | _=>some []
theorem scosR_some:∀ {L:List (List UInt8)} {k:Nat} {l:List Sco},L.length=2 * k→scosR L=some l→l.flatMap scoL=L
 | [],k,l,_,h=>by cases h;rfl
 | [x],k,l,h,_=>by simp at h;omega
 | n :: p :: r,k,l,hl,h=>by
  rw [scosR] at h
  cases hn:numR p with
  | none=>rw [hn] at h;cases h
  | some v =>
   rw [hn] at h
   obtain ⟨ms,h1,rfl⟩:=Option.map_eq_some_iff.1 h
   rw [List.flatMap_cons,scosR_some (k:=k-1) (by simp at hl;omega) h1]
   simp [scoL,numR_some hn]
theorem scosR_flat:∀ {l:List Sco},(∀ x∈l,0≤x.points∧x.points≤999999999999)→scosR (l.flatMap scoL)=some l
 | [],_=>rfl
 | x :: l,h=>by
  have h1:=h x List.mem_cons_self
  have ih:=scosR_flat (l:=l) fun y hy=>h y (List.mem_cons_of_mem _ hy)
  rw [List.flatMap_cons]
  show scosR (x.name :: decI x.points :: l.flatMap scoL)=some (x :: l)
  rw [scosR,numR_dec (by omega) (by omega),ih];rfl
theorem parR_1 {a b:Nat} (hab:a≤b):∀ (L R:List (List UInt8)) (i:Nat) (s:BSt),i+L.length≤a →
  parR a b i (L++R) s=(numsR L).bind fun ns=>parR a b (i+L.length) R { s with sets:=s.sets++ns }
 | [],R,i,s,_=>by simp [numsR]
 | l :: L,R,i,s,h=>by
  rw [List.length_cons] at h
  rw [List.cons_append,parR,if_neg (by omega),numsR]
  cases hn:numR l with
  | none=>rfl
  | some n =>
   simp only
   rw [if_pos (by omega),parR_1 hab L R (i+1) _ (by omega)]
   cases hN:numsR L with
   | none=>rfl
   | some ns=>simp only [Option.bind_some,Option.map_some,List.append_assoc,List.singleton_append,List.length_cons];rw [show i+1+L.length=i+(L.length+1) by omega]
theorem parR_2 {a b:Nat}:∀ (L R:List (List UInt8)) (i:Nat) (s:BSt),a≤i→i+L.length≤b →
  parR a b i (L++R) s=(numsR L).bind fun ns=>parR a b (i+L.length) R { s with counts:=s.counts++ns }
 | [],R,i,s,_,_=>by simp [numsR]
 | l :: L,R,i,s,h0,h=>by
  rw [List.length_cons] at h
  rw [List.cons_append,parR,if_neg (by omega),numsR]
  cases hn:numR l with
  | none=>rfl
  | some n =>
   simp only
   rw [if_neg (by omega),if_pos (by omega),parR_2 L R (i+1) _ (by omega) (by omega)]
   cases hN:numsR L with
   | none=>rfl
   | some ns=>simp only [Option.bind_some,Option.map_some,List.append_assoc,List.singleton_append,List.length_cons];rw [show i+1+L.length=i+(L.length+1) by omega]
theorem lastP_app (l:List Sco) (x:Sco) (n:Int):lastP (l++[x]) n=l++[⟨x.name,n⟩]:=by
 unfold lastP
 rw [List.dropLast_concat]
 simp
theorem parR_3 {a b:Nat} (hab:a≤b):∀ (k:Nat) (L:List (List UInt8)) (i:Nat) (s:BSt),L.length=2 * k→b≤i→(i-b) % 2=0 →
  parR a b i L s=(scosR L).map fun l=>{ s with scores:=s.scores++l }
 | 0,[],i,s,_,_,_=>by simp [parR,scosR]
 | 0,_ :: _,i,s,h,_,_=>by simp at h
 | k+1,[],i,s,h,_,_=>by simp at h
 | k+1,[x],i,s,h,_,_=>by simp at h;omega
 | k+1,n :: p :: r,i,s,h,hb,hi=>by
  rw [parR,if_pos ⟨hb,hi⟩,parR,if_neg (by omega),scosR]
  cases hn:numR p with
  | none=>rfl
  | some v =>
   simp only
   rw [if_neg (by omega),if_neg (by omega),lastP_app,parR_3 hab k r (i+1+1) _ (by simp at h;omega) (by omega) (by omega)]
   cases hN:scosR r with
   | none=>rfl
   | some l=>simp
theorem parR_all {a b k:Nat} (hab:a≤b) {L:List (List UInt8)} (hl:L.length=b+2 * k) :
  parR a b 0 L noSt=(numsR (L.take a)).bind fun x=>(numsR ((L.take b).drop a)).bind fun y=>(scosR (L.drop b)).map fun z=>⟨x,y,z⟩:=by
 have e:L=L.take a++((L.take b).drop a++L.drop b):=by
  rw [← List.append_assoc]
  have:L.take a++(L.take b).drop a=L.take b:=by
   have h1:=List.take_append_drop a (L.take b)
   rw [List.take_take,show min a b=a by omega] at h1
   exact h1
  rw [this,List.take_append_drop]
 have l1:(L.take a).length=a:=by rw [List.length_take];omega
 have l2:((L.take b).drop a).length=b-a:=by rw [List.length_drop,List.length_take];omega
 have l3:(L.drop b).length=2 * k:=by rw [List.length_drop];omega
 conv=>lhs;rw [e]
 rw [parR_1 hab _ _ 0 _ (by omega),l1,Nat.zero_add]
 cases h1:numsR (L.take a) with
 | none=>rfl
 | some x =>
  simp only [Option.bind_some]
  rw [parR_2 _ _ a _ (Nat.le_refl _) (by omega),l2,show a+(b-a)=b by omega]
  cases h2:numsR ((L.take b).drop a) with
  | none=>rfl
  | some y =>
   simp only [Option.bind_some]
   rw [parR_3 hab k _ b _ l3 (Nat.le_refl _) (by omega)]
   cases h3:scosR (L.drop b) with
   | none=>rfl
   | some z=>simp [noSt]
theorem decR_spec41 {c:Book} (hv:validBM c=0) (t:List UInt8):(∃ s,isStM c s=true∧encS s=t∧decR41 c t=(s,0))∨(∀ s,isStM c s=true→encS s≠t)∧decR41 c t=(noSt,62):=by
 have hab:c.adjs.length≤bOf c:=by unfold bOf;omega
 by_cases h:∃ s,isStM c s=true∧encS s=t
 ·obtain ⟨s,h1,h2⟩:=h
  refine .inl ⟨s,h1,h2,?_⟩
  obtain ⟨-,g2,g3,g4, -⟩:=isSt_iff.1 h1
  obtain ⟨n1,n2,n3⟩:=st_num h1
  have hb:bOf c=s.sets.length+s.counts.length:=by unfold bOf;omega
  have hs:splitM t=lnsM s++[[]]:=by rw [← h2,encS_lns];exact split_unl _ (lns_no10 h1)
  have hd:(splitM t).dropLast=lnsM s:=by rw [hs,List.dropLast_concat]
  have hg:(splitM t).getLast (splitM_ne t)=[]:=by simp [hs]
  have hL:=lns_len s
  unfold decR41
  rw [if_neg (by simp [hv]),hd,hg,if_neg (by rw [hL];simp;omega),parR_all hab (k:=c.scores.length) (by rw [hL];omega)]
  have t1:(lnsM s).take c.adjs.length=s.sets.map decI:=by
   unfold lnsM;rw [List.map_append,List.append_assoc, ← g2];exact List.take_left' (by simp)
  have t0:(lnsM s).take (bOf c)=s.sets.map decI++s.counts.map decI:=by
   unfold lnsM;rw [List.map_append];exact List.take_left' (by simp [hb])
  have t2:((lnsM s).take (bOf c)).drop c.adjs.length=s.counts.map decI:=by rw [t0, ← g2];exact List.drop_left' (by simp)
  have t3:(lnsM s).drop (bOf c)=s.scores.flatMap scoL:=by
   unfold lnsM;rw [List.map_append];exact List.drop_left' (by simp [hb])
  rw [t1,t2,t3,numsR_dec fun n hn=>by have:=n1 n hn;omega,numsR_dec fun n hn=>by have:=n2 n hn;omega,scosR_flat fun x hx=>(n3 x hx).2.2]
  simp only [Option.bind_some,Option.map_some]
  rw [if_neg (by simp [h1])]
 ·refine .inr ⟨fun s h1 h2=>h ⟨s,h1,h2⟩,?_⟩
  unfold decR41
  rw [if_neg (by simp [hv])]
  split
  ·rfl
  ·rename_i hc
   have hc1:(splitM t).getLast (splitM_ne t)=[]:=Classical.byContradiction fun e=>hc (.inl e)
   have hc2:(splitM t).dropLast.length=bOf c+2 * c.scores.length:=Classical.byContradiction fun e=>hc (.inr e)
   rw [parR_all hab hc2]
   cases h1:numsR ((splitM t).dropLast.take c.adjs.length) with
   | none=>rfl
   | some x =>
    cases h2:numsR (((splitM t).dropLast.take (bOf c)).drop c.adjs.length) with
    | none=>rfl
    | some y =>
     cases h3:scosR ((splitM t).dropLast.drop (bOf c)) with
     | none=>rfl
     | some z =>
      simp only [Option.bind_some,Option.map_some]
      cases hst:isStM c ⟨x,y,z⟩ with
      | false=>rfl
      | true =>
       exfalso
       refine h ⟨_,hst,?_⟩
       have e1:=numsR_some h1
       have e2:=numsR_some h2
       have e3:=scosR_some (k:=c.scores.length) (by rw [List.length_drop];omega) h3
       have hu:=unl_split t
       rw [hc1,List.append_nil] at hu
       rw [encS_lns,hu]
       congr 1
       unfold lnsM
       rw [List.map_append,e1,e2,e3]
       have:(splitM t).dropLast.take c.adjs.length++((splitM t).dropLast.take (bOf c)).drop c.adjs.length=(splitM t).dropLast.take (bOf c):=by
        have h1:=List.take_append_drop c.adjs.length ((splitM t).dropLast.take (bOf c))
        rw [List.take_take,show min c.adjs.length (bOf c)=c.adjs.length by omega] at h1
        exact h1
       rw [this,List.take_append_drop]
theorem dec_same41 (c:Book) (t:List UInt8):decR41 c t=decP41 c t:=by
 by_cases hv:validBM c=0
 ·rcases dec_spec41 hv t with ⟨s,h1,h2,h3⟩|⟨h2,h3⟩<;>rcases decR_spec41 hv t with ⟨s',g1,g2,g3⟩|⟨g2,g3⟩
  ·rw [h3,g3,enc_inj41 h1 g1 (h2.trans g2.symm)]
  ·exact absurd h2 (g2 s h1)
  ·exact absurd g2 (h2 s' g1)
  ·rw [h3,g3]
 ·unfold decR41 decP41
  rw [if_pos hv,if_pos hv]
end Go.Pb
namespace Go.Pb
variable [Go.Sym.Tab]
open Go.Sym
def sumA (acc i:Nat):List UInt8→Nat
 | []=>acc
 | c :: r=>sumA ((acc+(i+1) * c.toNat) % 65521) (i+1) r
def sumM (d:List UInt8):Nat:=sumA 0 0 d
theorem sumA_lt:∀ (d:List UInt8) (acc i:Nat),acc<65521→sumA acc i d<65521
 | [],acc,i,h=>h
 | c :: r,acc,i,h=>sumA_lt r _ _ (Nat.mod_lt _ (by omega))
theorem sumM_lt (d:List UInt8):sumM d<65521:=sumA_lt d 0 0 (by omega)
theorem sumA_step:∀ {d:List UInt8} {k acc i:Nat} {c:UInt8},d[k]? = some c→sumA acc i (d.take (k+1))=(sumA acc i (d.take k)+(i+k+1) * c.toNat) % 65521
 | [],k,acc,i,c,h=>by simp at h
 | x :: r,0,acc,i,c,h=>by cases h;simp [sumA]
 | x :: r,k+1,acc,i,c,h=>by
  have ih:=sumA_step (d:=r) (k:=k) (acc:=(acc+(i+1) * x.toNat) % 65521) (i:=i+1) (c:=c) (by simpa using h)
  rw [List.take_succ_cons,sumA,ih,List.take_succ_cons,sumA,show i+1+k+1=i+(k+1)+1 by omega]
theorem sumM_step {d:List UInt8} {k:Nat} {c:UInt8} (h:d[k]? = some c):sumM (d.take (k+1))=(sumM (d.take k)+(k+1) * c.toNat) % 65521:=by
 unfold sumM;rw [sumA_step h,Nat.zero_add]
def u8 (n:Nat):UInt8:=UInt8.ofNat n
theorem u8_nat (n:Nat):(u8 n).toNat=n % 256:=by simp [u8]
def bt (s:List UInt8) (i:Nat):Nat:=(s.getD i 0).toNat
def twoM (s:List UInt8) (i:Nat):Nat:=bt s i+256 * bt s (i+1)
def readM (s:List UInt8):Option (List UInt8) :=
 if bt s 0<1∨3<bt s 0∨(twoM s 3:Int)≠65535-(twoM s 1:Int)∨1024<twoM s 1 then none
 else if twoM s 5=sumM ((s.drop 7).take (twoM s 1)) then some ((s.drop 7).take (twoM s 1)) else none
def slotM (mem:List UInt8) (i:Nat):List UInt8:=(mem.drop (i * 1031)).take 1031
def curM (mem:List UInt8):Nat × Nat × List UInt8 × Int :=
 if mem.length≠2062 then (0,0,[],1)
 else match readM (slotM mem 0),readM (slotM mem 1) with
  | some a,some b=>if bt (slotM mem 1) 0=bt mem 0 % 3+1 then (1,2,b,0) else (0,2,a,0)
  | some a,none=>(0,1,a,0)
  | none,some b=>(1,1,b,0)
  | none,none=>(0,0,[],62)
def openM (mem:List UInt8):List UInt8 × Int:=((curM mem).2.2.1,(curM mem).2.2.2)
def headM (d:List UInt8):List UInt8:=[u8 d.length,u8 (d.length / 256),u8 (255-d.length % 256),u8 (255-d.length / 256 % 256),u8 (sumM d),u8 (sumM d / 256)]
def formatM (d:List UInt8):List UInt8 × Int:=if 1024<d.length then ([],9) else ([1]++headM d++d++List.replicate (2055-d.length) 0,0)
def ovr (mem:List UInt8) (k:Nat) (w:List UInt8):List UInt8:=mem.take k++w++mem.drop (k+w.length)
def wordM (d:List UInt8):List UInt8:=0 :: (headM d++d)
theorem wordM_len (d:List UInt8):(wordM d).length=d.length+7:=by simp [wordM,headM]
def commitO (mem:List UInt8) (i:Nat) (d:List UInt8) (m:Nat):List UInt8 :=
 let o:=ovr mem ((1-i) * 1031) ((wordM d).take m)
 if d.length+8≤m then o.set ((1-i) * 1031) (u8 (bt mem (i * 1031) % 3+1)) else o
def commitM (mem d:List UInt8) (budget:Int):List UInt8 × Int :=
 if (curM mem).2.2.2≠0 then ([],(curM mem).2.2.2)
 else if 1024<d.length then ([],9)
 else (commitO mem (curM mem).1 d budget.toNat,if budget<(d.length:Int)+8 then 61 else 0)
theorem ovr_len {mem w:List UInt8} {k:Nat} (h:k+w.length≤mem.length):(ovr mem k w).length=mem.length:=by
 unfold ovr
 rw [List.length_append,List.length_append,List.length_take,List.length_drop];omega
theorem read_word {d:List UInt8} (hd:d.length≤1024) {m:Nat} (h1:1≤m) (h3:m≤3) (r:List UInt8):readM (u8 m :: (headM d++d++r))=some d:=by
 have hs:=sumM_lt d
 have e0:bt (u8 m :: (headM d++d++r)) 0=m:=by show (u8 m).toNat=m;rw [u8_nat];omega
 have e1:twoM (u8 m :: (headM d++d++r)) 1=d.length:=by
  show (u8 d.length).toNat+256 * (u8 (d.length / 256)).toNat=_
  rw [u8_nat,u8_nat];omega
 have e3:twoM (u8 m :: (headM d++d++r)) 3=65535-d.length:=by
  show (u8 (255-d.length % 256)).toNat+256 * (u8 (255-d.length / 256 % 256)).toNat=_
  rw [u8_nat,u8_nat];omega
 have e5:twoM (u8 m :: (headM d++d++r)) 5=sumM d:=by
  show (u8 (sumM d)).toNat+256 * (u8 (sumM d / 256)).toNat=_
  rw [u8_nat,u8_nat];omega
 have e7:((u8 m :: (headM d++d++r)).drop 7).take d.length=d:=by
  show (d++r).take d.length=d
  exact List.take_left' rfl
 unfold readM
 rw [e0,e1,e3,e5,e7,if_neg (by omega),if_pos rfl]
theorem read_zero {s:List UInt8} (h:bt s 0=0):readM s=none:=by
 unfold readM;rw [if_pos (.inl (by omega))]
theorem slot_parts {a b:List UInt8} (ha:a.length=1031) (hb:b.length=1031):slotM (a++b) 0=a∧slotM (a++b) 1=b:=by
 unfold slotM
 constructor
 ·rw [Nat.zero_mul,List.drop_zero];exact List.take_left' ha
 ·rw [Nat.one_mul,List.drop_left' ha,List.take_of_length_le (by omega)]
theorem cur_parts {a b:List UInt8} (ha:a.length=1031) (hb:b.length=1031):curM (a++b)=match readM a,readM b with
  | some x,some y=>if bt b 0=bt a 0 % 3+1 then (1,2,y,0) else (0,2,x,0)
  | some x,none=>(0,1,x,0)
  | none,some y=>(1,1,y,0)
  | none,none=>(0,0,[],62):=by
 obtain ⟨s0,s1⟩:=slot_parts ha hb
 have h0:bt (a++b) 0=bt a 0:=by
  unfold bt
  rw [List.getD_eq_getElem?_getD,List.getD_eq_getElem?_getD,List.getElem?_append_left (by omega)]
 unfold curM
 rw [if_neg (by rw [List.length_append];omega),s0,s1,h0]
theorem ovr_left {a b w:List UInt8} (ha:a.length=1031) (hw:w.length≤1031):ovr (a++b) 0 w=(w++a.drop w.length)++b:=by
 unfold ovr
 rw [List.take_zero,List.nil_append,Nat.zero_add,List.drop_append_of_le_length (by omega),List.append_assoc]
theorem ovr_right {a b w:List UInt8} (ha:a.length=1031):ovr (a++b) 1031 w=a++(w++b.drop w.length):=by
 unfold ovr
 rw [List.take_left' ha, ← ha,List.drop_append,List.append_assoc]
 simp
def slotW (o d:List UInt8) (m:Nat) (k:UInt8):List UInt8 :=
 let w:=(wordM d).take m++o.drop ((wordM d).take m).length
 if d.length+8≤m then w.set 0 k else w
theorem slotW_len {o d:List UInt8} (ho:o.length=1031) (hd:d.length≤1024) (m:Nat) (k:UInt8):(slotW o d m k).length=1031:=by
 have h1:((wordM d).take m).length≤1031:=by rw [List.length_take,wordM_len];omega
 have h2:((wordM d).take m++o.drop ((wordM d).take m).length).length=1031:=by rw [List.length_append,List.length_drop];omega
 unfold slotW
 simp only
 split
 ·rw [List.length_set];exact h2
 ·exact h2
theorem commit_1 {a b d:List UInt8} (ha:a.length=1031) (hb:b.length=1031) (hd:d.length≤1024) (m:Nat):commitO (a++b) 0 d m=a++slotW b d m (u8 (bt a 0 % 3+1)):=by
 have h0:bt (a++b) (0 * 1031)=bt a 0:=by
  unfold bt
  rw [Nat.zero_mul,List.getD_eq_getElem?_getD,List.getD_eq_getElem?_getD,List.getElem?_append_left (by omega)]
 unfold commitO slotW
 simp only
 rw [h0,show (1-0) * 1031=1031 from rfl,ovr_right ha]
 split
 ·rw [List.set_append_right _ _ (by omega),ha,Nat.sub_self]
 ·rfl
theorem commit_0 {a b d:List UInt8} (ha:a.length=1031) (hb:b.length=1031) (hd:d.length≤1024) (m:Nat):commitO (a++b) 1 d m=slotW a d m (u8 (bt b 0 % 3+1))++b:=by
 have h0:bt (a++b) (1 * 1031)=bt b 0:=by
  unfold bt
  rw [Nat.one_mul,List.getD_eq_getElem?_getD,List.getD_eq_getElem?_getD,List.getElem?_append_right (by omega),ha,Nat.sub_self]
 have h1:((wordM d).take m).length≤1031:=by rw [List.length_take,wordM_len];omega
 unfold commitO slotW
 simp only
 rw [h0,show (1-1) * 1031=0 from rfl,ovr_left ha h1]
 split
 ·rw [List.set_append_left _ _ (by rw [List.length_append,List.length_drop];omega)]
 ·rfl
theorem slotW_full {o d:List UInt8} (ho:o.length=1031) (hd:d.length≤1024) {m k:Nat} (hm:d.length+8≤m) (h1:1≤k) (h3:k≤3):readM (slotW o d m (u8 k))=some d∧bt (slotW o d m (u8 k)) 0=k:=by
 have hw:(wordM d).take m=wordM d:=List.take_of_length_le (by rw [wordM_len];omega)
 have e:slotW o d m (u8 k)=u8 k :: (headM d++d++o.drop (wordM d).length):=by
  unfold slotW
  simp only
  rw [if_pos hm,hw]
  rfl
 rw [e]
 exact ⟨read_word hd h1 h3 _,by show (u8 k).toNat=k;rw [u8_nat];omega⟩
theorem slotW_part {o d:List UInt8} {m:Nat} {k:UInt8} (hm:m<d.length+8):slotW o d m k=o∧m=0∨bt (slotW o d m k) 0=0:=by
 cases m with
 | zero =>
  refine .inl ⟨?_,rfl⟩
  unfold slotW
  simp only
  rw [if_neg (by omega)]
  simp
 | succ m =>
  right
  unfold slotW
  simp only
  rw [if_neg (by omega)]
  rfl
end Go.Pb
namespace Go.Proofs.YtndjhpjcankkaaaGreatDoor
open Go.Eng (IC IOper DReg IFn IsFn Callable)
open Go.Sym Go.Pb
theorem c_sum (d:List UInt8) (hl:d.length≤1000000):PC Tryz.prog 89 [.str d] (I64 (sumM d)):=by
 refine PC.of mixedU isU89 (Nat.le_of_ble_eq_true rfl) (by simp [DV.nlL,DV.nl,nlL_ints,nlL_strs,nlL_adjs,nlL_scos]) (by simp [DV.nlL,DV.nl,nlL_ints,nlL_strs,nlL_adjs,nlL_scos]) ?_
 show IW Tryz.prog 22 u89_1 ⟨argT _,_,_⟩ (rt [.tmp 2] _)
 repeat' ((with_reducible first|refine wr ?_|refine k_cu ?_ ?_|refine wb2 ?_ ?_<;>(intro hb;try simp only [hb])|fail)<;>try simp only [go_sem,seval])
 refine i_loop (fun k:Nat=>[(0,.str d),(3,I64 (sumM (d.take k))),(4,I64 k)]) (fun _=>Sym.nil) (fun k _=>k≤d.length) (fun k=>d.length-k) 0 (by simp [tmLe,tm,Tm.upd,sumM,sumA]) (Sub.nil _) (by simp) ?_
 intro k cc hk
 by_cases hlt:k<d.length
 ·have hd:decide ((k:Int)<d.length)=true:=by simpa using hlt
  have hg:=List.getElem?_eq_getElem hlt
  have hst:=sumM_step hg
  have hb:=sumM_lt (d.take k)
  generalize d[k]=c at hg hst
  have hc:=c.toNat_lt
  have hmul:(k+1) * c.toNat≤1000000 * 256:=Nat.mul_le_mul (by omega) (by omega)
  have hw:IntKind.i64.wrap ((k:Int)+1)=((k+1:Nat):Int):=by rw [w64 (by omega) (by omega)];omega
  have w1:=w64 (n:=(c.toNat:Int)) (by omega) (by omega)
  have w2:IntKind.i64.wrap (((k+1:Nat):Int) * (c.toNat:Int))=(((k+1) * c.toNat:Nat):Int):=by rw [← Int.natCast_mul,w64 (by omega) (by omega)]
  have w3:IntKind.i64.wrap (((sumM (d.take k):Nat):Int)+(((k+1) * c.toNat:Nat):Int))=((sumM (d.take k)+(k+1) * c.toNat:Nat):Int):=by rw [w64 (by omega) (by omega)];omega
  have w4:binR .rem (I64 ((sumM (d.take k)+(k+1) * c.toNat:Nat):Int)) (I64 65521)=some (I64 ((sumM (d.take (k+1)):Nat):Int)):=by
   rw [r_rem (by omega),hst];exact congrArg (fun x=>some (DV.int .i64 x)) (Int.ofNat_tmod _ _).symm
  repeat' ((with_reducible first|refine wr ?_|refine k_cu ?_ ?_|refine wb2 ?_ ?_<;>(intro hb;try simp only [hb])|fail)<;>try simp only [go_sem,seval,hd,hg,hw,w1,w2,w3,w4])
  all_goals exact ⟨k+1,⟨rfl,rfl⟩,Sub.nil _,inv (by omega),by omega⟩
 ·have hd:decide ((k:Int)<d.length)=false:=by simpa using hlt
  repeat' ((with_reducible first|refine wr ?_|refine k_cu ?_ ?_|refine wb2 ?_ ?_<;>(intro hb;try simp only [hb])|fail)<;>try simp only [go_sem,seval,hd])
  refine pc_ret ?_
  rw [List.take_of_length_le (by omega)]
theorem c_sumR (d:List UInt8) (hl:d.length≤1000000):PC Tryz.prog 83 [.str d] (I64 (sumM d)):=by
 refine PC.of mixedU isU83 (Nat.le_of_ble_eq_true rfl) (by simp [DV.nlL,DV.nl,nlL_ints,nlL_strs,nlL_adjs,nlL_scos]) (by simp [DV.nlL,DV.nl,nlL_ints,nlL_strs,nlL_adjs,nlL_scos]) ?_
 show IW Tryz.prog 22 u83_1 ⟨argT _,_,_⟩ (rt [.tmp 2] _)
 repeat' ((with_reducible first|refine wr ?_|refine k_cu ?_ ?_|refine wb2 ?_ ?_<;>(intro hb;try simp only [hb])|fail)<;>try simp only [go_sem,seval])
 refine i_loop (fun k:Nat=>[(0,.str d),(3,I64 (sumM (d.take k))),(4,I64 k)]) (fun _=>Sym.nil) (fun k _=>k≤d.length) (fun k=>d.length-k) 0 (by simp [tmLe,tm,Tm.upd,sumM,sumA]) (Sub.nil _) (by simp) ?_
 intro k cc hk
 by_cases hlt:k<d.length
 ·have hd:decide ((k:Int)<d.length)=true:=by simpa using hlt
  have hg:=List.getElem?_eq_getElem hlt
  have hst:=sumM_step hg
  have hb:=sumM_lt (d.take k)
  generalize d[k]=c at hg hst
  have hc:=c.toNat_lt
  have hmul:(k+1) * c.toNat≤1000000 * 256:=Nat.mul_le_mul (by omega) (by omega)
  have hw:IntKind.i64.wrap ((k:Int)+1)=((k+1:Nat):Int):=by rw [w64 (by omega) (by omega)];omega
  have w1:=w64 (n:=(c.toNat:Int)) (by omega) (by omega)
  have w2:IntKind.i64.wrap (((k+1:Nat):Int) * (c.toNat:Int))=(((k+1) * c.toNat:Nat):Int):=by rw [← Int.natCast_mul,w64 (by omega) (by omega)]
  have w3:IntKind.i64.wrap (((sumM (d.take k):Nat):Int)+(((k+1) * c.toNat:Nat):Int))=((sumM (d.take k)+(k+1) * c.toNat:Nat):Int):=by rw [w64 (by omega) (by omega)];omega
  have w4:binR .rem (I64 ((sumM (d.take k)+(k+1) * c.toNat:Nat):Int)) (I64 65521)=some (I64 ((sumM (d.take (k+1)):Nat):Int)):=by
   rw [r_rem (by omega),hst];exact congrArg (fun x=>some (DV.int .i64 x)) (Int.ofNat_tmod _ _).symm
  repeat' ((with_reducible first|refine wr ?_|refine k_cu ?_ ?_|refine wb2 ?_ ?_<;>(intro hb;try simp only [hb])|fail)<;>try simp only [go_sem,seval,hd,hg,hw,w1,w2,w3,w4])
  all_goals exact ⟨k+1,⟨rfl,rfl⟩,Sub.nil _,inv (by omega),by omega⟩
 ·have hd:decide ((k:Int)<d.length)=false:=by simpa using hlt
  repeat' ((with_reducible first|refine wr ?_|refine k_cu ?_ ?_|refine wb2 ?_ ?_<;>(intro hb;try simp only [hb])|fail)<;>try simp only [go_sem,seval,hd])
  refine pc_ret ?_
  rw [List.take_of_length_le (by omega)]
theorem bt_at {s:List UInt8} {i:Nat} (h:i<s.length):∃ c,s[i]? = some c∧c.toNat=bt s i:=by
 refine ⟨s[i],List.getElem?_eq_getElem h,?_⟩
 unfold bt
 rw [List.getD_eq_getElem?_getD,List.getElem?_eq_getElem h];rfl
theorem c_two (s:List UInt8) (i:Nat) (h:i+1<s.length) (hl:s.length≤1000000):PC Tryz.prog 122 [.str s,I64 i] (I64 (twoM s i)):=by
 obtain ⟨a,ha,ha2⟩:=bt_at (s:=s) (i:=i) (by omega)
 obtain ⟨b,hb,hb2⟩:=bt_at (s:=s) (i:=i+1) h
 have h1:=a.toNat_lt
 have h2:=b.toNat_lt
 have hw:IntKind.i64.wrap ((i:Int)+1)=((i+1:Nat):Int):=by rw [w64 (by omega) (by omega)];omega
 have w1:=w64 (n:=(a.toNat:Int)) (by omega) (by omega)
 have w2:=w64 (n:=(b.toNat:Int)) (by omega) (by omega)
 have w3:=w64 (n:=256 * (b.toNat:Int)) (by omega) (by omega)
 have w4:=w64 (n:=(a.toNat:Int)+256 * (b.toNat:Int)) (by omega) (by omega)
 refine PC.of mixedU isU122 (Nat.le_of_ble_eq_true rfl) (by simp [DV.nlL,DV.nl,nlL_ints,nlL_strs,nlL_adjs,nlL_scos]) (by simp [DV.nlL,DV.nl,nlL_ints,nlL_strs,nlL_adjs,nlL_scos]) ?_
 show IW Tryz.prog 16 u122_1 ⟨argT _,_,_⟩ (rt [.tmp 4] _)
 repeat' ((with_reducible first|refine wr ?_|refine k_cu ?_ ?_|refine wb2 ?_ ?_<;>(intro hb;try simp only [hb])|fail)<;>try simp only [go_sem,seval,ha,hb,hw,w1,w2,w3,w4])
 all_goals (refine pc_ret ?_;unfold twoM;rw [← ha2, ← hb2];congr 1)
theorem c_after (n:Nat) (h:n<256):PC Tryz.prog 88 [.int .u8 n] (.int .u8 ((n % 3+1:Nat):Int)):=by
 have hr:binR .rem (.int .u8 (n:Int)) (.int .u8 3)=some (.int .u8 ((n % 3:Nat):Int)):=by rw [r_rem (by omega)];exact congrArg (fun x=>some (DV.int .u8 x)) (Int.ofNat_tmod _ _).symm
 have hw:IntKind.u8.wrap (((n % 3:Nat):Int)+1)=((n % 3+1:Nat):Int):=by rw [wu8 (by omega) (by omega)];omega
 refine PC.of mixedU isU88 (Nat.le_of_ble_eq_true rfl) (by simp [DV.nlL,DV.nl,nlL_ints,nlL_strs,nlL_adjs,nlL_scos]) (by simp [DV.nlL,DV.nl,nlL_ints,nlL_strs,nlL_adjs,nlL_scos]) ?_
 show IW Tryz.prog 6 u88_1 ⟨argT _,_,_⟩ (rt [.tmp 2] _)
 repeat' ((with_reducible first|refine wr ?_|refine k_cu ?_ ?_|refine wb2 ?_ ?_<;>(intro hb;try simp only [hb])|fail)<;>try simp only [go_sem,seval,hr,hw])
 all_goals exact pc_ret rfl
end Go.Proofs.YtndjhpjcankkaaaGreatDoor
namespace Go.Proofs.YtndjhpjcankkaaaGreatDoor
open Go.Eng (IC IOper DReg IFn IsFn Callable)
open Go.Sym Go.Pb
def readV (s:List UInt8):DV:=match readM s with
 | some d=>.tup [.str d,.bool true]
 | none=>.tup [.bot,.bool false]
theorem readV_nl (s:List UInt8):(readV s).nl=true:=by unfold readV;split<;>rfl
theorem read_bad {l:List UInt8} {H:Hp} {x:DV} (h:readM l=none):∃ H2,GL H [.tup [x,.bool false]] H2 [readV l]:=by
 rw [readV,h]
 exact pc_view1 fun _ _ _=>.bot _
theorem bt_lt (s:List UInt8) (i:Nat):bt s i<256:=(s.getD i 0).toNat_lt
theorem ix_bt {s:List UInt8} {i:Nat} (h:i<s.length):idxR (.str s) (.int .i64 (i:Int))=some (.int .u8 (bt s i:Int)):=by
 obtain ⟨c,h1,h2⟩:=bt_at h
 rw [r_idx,if_pos (by omega),Int.toNat_natCast,h1, ← h2];rfl
theorem c_read (s:List UInt8) (h:s.length=1031):PC Tryz.prog 105 [.str s] (readV s):=by
 refine PC.of mixedU isU105 (Nat.le_of_ble_eq_true rfl) rfl (readV_nl s) ?_
 show IW Tryz.prog 37 u105_1 ⟨argT _,_,_⟩ (rt [.tmp 2,.tmp 3] _)
 have t1:PC Tryz.prog 122 [.str s,I64 1] (I64 (twoM s 1)):=c_two s 1 (by omega) (by omega)
 have t3:PC Tryz.prog 122 [.str s,I64 3] (I64 (twoM s 3)):=c_two s 3 (by omega) (by omega)
 have t5:PC Tryz.prog 122 [.str s,I64 5] (I64 (twoM s 5)):=c_two s 5 (by omega) (by omega)
 have x0:idxR (.str s) (.int .i64 0)=some (.int .u8 (bt s 0:Int)):=ix_bt (i:=0) (by omega)
 have b1:=bt_lt s 1
 have b2:=bt_lt s 2
 have hn:twoM s 1<65536:=by have:twoM s 1=bt s 1+256 * bt s 2:=rfl;omega
 have w1:=w64 (n:=65535-(twoM s 1:Int)) (by omega) (by omega)
 by_cases hbad:bt s 0<1∨3<bt s 0∨(twoM s 3:Int)≠65535-(twoM s 1:Int)∨1024<twoM s 1
 ·have hr:readM s=none:=by rw [readM,if_pos hbad]
  repeat' ((with_reducible first|refine wr ?_|refine cpc t1 ?_|refine cpc t3 ?_|refine cpc t5 ?_|refine k_cu ?_ ?_|refine wb2 ?_ ?_<;>(intro hb;try simp only [hb])|fail)<;>try simp only [go_sem,seval,x0,w1])
  all_goals first
   | exact read_bad hr
   | (exfalso;simp only [decide_eq_true_eq,decide_eq_false_iff_not,bne_eq_false_iff_eq,bne_iff_ne] at *;omega)
 have q1:decide ((bt s 0:Int)<1)=false:=by simp only [decide_eq_false_iff_not];omega
 have q2:decide ((bt s 0:Int)>3)=false:=by simp only [decide_eq_false_iff_not];omega
 have q3:((twoM s 3:Int) != 65535-(twoM s 1:Int))=false:=by rw [bne_eq_false_iff_eq];omega
 have q4:decide ((twoM s 1:Int)>1024)=false:=by simp only [decide_eq_false_iff_not];omega
 have w2:IntKind.i64.wrap (7+(twoM s 1:Int))=((7+twoM s 1:Nat):Int):=by rw [w64 (by omega) (by omega)];omega
 obtain ⟨d,hd⟩:∃ d,d=(s.drop 7).take (twoM s 1):=⟨_,rfl⟩
 have hsl:slsR s (some (I64 7)) (some (I64 ((7+twoM s 1:Nat):Int)))=some (.str d):=by
  simp only [slsR,boundOf,Int.natCast_nonneg,if_true,Int.toNat_natCast]
  rw [if_pos (by omega)]
  show (if 7+twoM s 1≤s.length∧7≤7+twoM s 1 then _ else _)=_
  rw [if_pos ⟨by omega,by omega⟩,hd,show Int.toNat 7=7 from rfl,Nat.add_sub_cancel_left]
 have hdl:d.length≤1000000:=by rw [hd,List.length_take];omega
 have hsm:=c_sum d hdl
 have hr:readM s=if twoM s 5=sumM d then some d else none:=by rw [readM,if_neg hbad, ← hd]
 by_cases hs:twoM s 5=sumM d
 ·have hs':((twoM s 5:Int) == (sumM d:Int))=true:=by rw [beq_iff_eq];omega
  rw [if_pos hs] at hr
  repeat' ((with_reducible first|refine wr ?_|refine cpc t1 ?_|refine cpc t3 ?_|refine cpc t5 ?_|refine cpc hsm ?_|refine k_cu ?_ ?_|refine wb2 ?_ ?_<;>(intro hb;try simp only [hb])|fail)<;>try simp only [go_sem,seval,x0,w1,q1,q2,q3,q4,w2,hsl,hs'])
  rw [readV,hr]
  exact pc_ret rfl
 ·have hs':((twoM s 5:Int) == (sumM d:Int))=false:=by rw [beq_eq_false_iff_ne];omega
  rw [if_neg hs] at hr
  repeat' ((with_reducible first|refine wr ?_|refine cpc t1 ?_|refine cpc t3 ?_|refine cpc t5 ?_|refine cpc hsm ?_|refine k_cu ?_ ?_|refine wb2 ?_ ?_<;>(intro hb;try simp only [hb])|fail)<;>try simp only [go_sem,seval,x0,w1,q1,q2,q3,q4,w2,hsl,hs'])
  exact read_bad hr
theorem c_slot (mem:List UInt8) (i:Nat) (hi:i≤1) (h:mem.length=2062):PC Tryz.prog 106 [.str mem,I64 i] (.str (slotM mem i)):=by
 have w1:IntKind.i64.wrap ((i:Int) * 1031)=((i * 1031:Nat):Int):=by rw [w64 (by omega) (by omega)];omega
 have w2:IntKind.i64.wrap ((i:Int)+1)=((i+1:Nat):Int):=by rw [w64 (by omega) (by omega)];omega
 have w3:IntKind.i64.wrap (((i+1:Nat):Int) * 1031)=(((i+1) * 1031:Nat):Int):=by rw [w64 (by omega) (by omega)];omega
 have hsl:slsR mem (some (I64 ((i * 1031:Nat):Int))) (some (I64 (((i+1) * 1031:Nat):Int)))=some (.str (slotM mem i)):=by
  simp only [slsR,boundOf,Int.natCast_nonneg,if_true,Int.toNat_natCast]
  rw [if_pos ⟨by omega,by omega⟩,slotM,show (i+1) * 1031-i * 1031=1031 by omega]
 refine PC.of mixedU isU106 (Nat.le_of_ble_eq_true rfl) (by simp [DV.nlL,DV.nl,nlL_ints,nlL_strs,nlL_adjs,nlL_scos]) (by simp [DV.nlL,DV.nl,nlL_ints,nlL_strs,nlL_adjs,nlL_scos]) ?_
 show IW Tryz.prog 12 u106_1 ⟨argT _,_,_⟩ (rt [.tmp 4] _)
 repeat' ((with_reducible first|refine wr ?_|refine k_cu ?_ ?_|refine wb2 ?_ ?_<;>(intro hb;try simp only [hb])|fail)<;>try simp only [go_sem,seval,w1,w2,w3,hsl])
 exact pc_ret rfl
end Go.Proofs.YtndjhpjcankkaaaGreatDoor
namespace Go.Proofs.YtndjhpjcankkaaaGreatDoor
open Go.Eng (IC IOper DReg IFn IsFn Callable)
open Go.Sym Go.Pb
def curV (q:Nat × Nat × List UInt8 × Int):DV:=.tup [I64 q.1,I64 q.2.1,.str q.2.2.1,I64 q.2.2.2]
theorem slot_len {mem:List UInt8} {i:Nat} (hi:i≤1) (h:mem.length=2062):(slotM mem i).length=1031:=by
 unfold slotM;rw [List.length_take,List.length_drop];omega
theorem c_current (mem:List UInt8) (hl:mem.length≤1000000):PC Tryz.prog 84 [.str mem] (curV (curM mem)):=by
 refine PC.of mixedU isU84 (Nat.le_of_ble_eq_true rfl) rfl rfl ?_
 show IW Tryz.prog 52 u84_1 ⟨argT _,_,_⟩ (rt [.tmp 2,.tmp 3,.tmp 4,.tmp 5] _)
 by_cases hlen:mem.length=2062
 rotate_left
 ·have e1:((mem.length:Int) != 2062)=true:=by rw [bne_iff_ne];omega
  repeat' ((with_reducible first|refine wr ?_|refine k_cu ?_ ?_|refine wb2 ?_ ?_<;>(intro hb;try simp only [hb])|fail)<;>try simp only [go_sem,seval,e1])
  rw [curM,if_pos hlen]
  exact pc_ret rfl
 have e1:((mem.length:Int) != 2062)=false:=by rw [bne_eq_false_iff_eq];omega
 have s0:PC Tryz.prog 106 [.str mem,I64 0] (.str (slotM mem 0)):=c_slot mem 0 (by omega) hlen
 have s1:PC Tryz.prog 106 [.str mem,I64 1] (.str (slotM mem 1)):=c_slot mem 1 (by omega) hlen
 have r0:=c_read (slotM mem 0) (slot_len (by omega) hlen)
 have r1:=c_read (slotM mem 1) (slot_len (by omega) hlen)
 have hc:curM mem=(match readM (slotM mem 0),readM (slotM mem 1) with
  | some a,some b=>if bt (slotM mem 1) 0=bt mem 0 % 3+1 then (1,2,b,0) else (0,2,a,0)
  | some a,none=>(0,1,a,0)
  | none,some b=>(1,1,b,0)
  | none,none=>(0,0,[],62)):=by rw [curM,if_neg (by simpa using hlen)];try rfl
 rw [hc]
 have x1:idxR (.str (slotM mem 1)) (.int .i64 0)=some (.int .u8 (bt (slotM mem 1) 0:Int)):=ix_bt (i:=0) (by rw [slot_len (by omega) hlen];omega)
 have x2:idxR (.str mem) (.int .i64 0)=some (.int .u8 (bt mem 0:Int)):=ix_bt (i:=0) (by omega)
 have haf:=c_after (bt mem 0) (bt_lt mem 0)
 clear hc
 unfold readV at r0 r1
 cases h0:readM (slotM mem 0) with
 | none =>
  rw [h0] at r0
  cases h1:readM (slotM mem 1) with
  | none =>
   rw [h1] at r1
   repeat' ((with_reducible first|refine wr ?_|refine cpc s0 ?_|refine cpc s1 ?_|refine cpc r0 ?_|refine cpc r1 ?_|refine cpc haf ?_|refine k_cu ?_ ?_|refine wb2 ?_ ?_<;>(intro hb;try simp only [hb])|fail)<;>try simp only [go_sem,seval,e1,x1,x2])
   exact pc_ret rfl
  | some b =>
   rw [h1] at r1
   repeat' ((with_reducible first|refine wr ?_|refine cpc s0 ?_|refine cpc s1 ?_|refine cpc r0 ?_|refine cpc r1 ?_|refine cpc haf ?_|refine k_cu ?_ ?_|refine wb2 ?_ ?_<;>(intro hb;try simp only [hb])|fail)<;>try simp only [go_sem,seval,e1,x1,x2])
   exact pc_ret rfl
 | some a =>
  rw [h0] at r0
  cases h1:readM (slotM mem 1) with
  | none =>
   rw [h1] at r1
   repeat' ((with_reducible first|refine wr ?_|refine cpc s0 ?_|refine cpc s1 ?_|refine cpc r0 ?_|refine cpc r1 ?_|refine cpc haf ?_|refine k_cu ?_ ?_|refine wb2 ?_ ?_<;>(intro hb;try simp only [hb])|fail)<;>try simp only [go_sem,seval,e1,x1,x2])
   exact pc_ret rfl
  | some b =>
   rw [h1] at r1
   by_cases he:bt (slotM mem 1) 0=bt mem 0 % 3+1
   ·have he':((bt (slotM mem 1) 0:Int) == ((bt mem 0 % 3+1:Nat):Int))=true:=by rw [beq_iff_eq];omega
    repeat' ((with_reducible first|refine wr ?_|refine cpc s0 ?_|refine cpc s1 ?_|refine cpc r0 ?_|refine cpc r1 ?_|refine cpc haf ?_|refine k_cu ?_ ?_|refine wb2 ?_ ?_<;>(intro hb;try simp only [hb])|fail)<;>try simp only [go_sem,seval,e1,x1,x2,he'])
    all_goals (simp only [he,if_true];exact pc_ret rfl)
   ·have he':((bt (slotM mem 1) 0:Int) == ((bt mem 0 % 3+1:Nat):Int))=false:=by rw [beq_eq_false_iff_ne];omega
    repeat' ((with_reducible first|refine wr ?_|refine cpc s0 ?_|refine cpc s1 ?_|refine cpc r0 ?_|refine cpc r1 ?_|refine cpc haf ?_|refine k_cu ?_ ?_|refine wb2 ?_ ?_<;>(intro hb;try simp only [hb])|fail)<;>try simp only [go_sem,seval,e1,x1,x2,he'])
    all_goals (simp only [he,if_false];exact pc_ret rfl)
theorem c_Open (mem:List UInt8) (hl:mem.length≤1000000):PC Tryz.prog 59 [.str mem] (.tup [.str (openM mem).1,I64 (openM mem).2]):=by
 have hc:=c_current mem hl
 unfold curV at hc
 refine PC.of mixedU isU59 (Nat.le_of_ble_eq_true rfl) (by simp [DV.nlL,DV.nl,nlL_ints,nlL_strs,nlL_adjs,nlL_scos]) (by simp [DV.nlL,DV.nl,nlL_ints,nlL_strs,nlL_adjs,nlL_scos]) ?_
 show IW Tryz.prog 17 u59_1 ⟨argT _,_,_⟩ (rt [.tmp 2,.tmp 3] _)
 repeat' ((with_reducible first|refine wr ?_|refine cpc hc ?_|refine k_cu ?_ ?_|refine wb2 ?_ ?_<;>(intro hb;try simp only [hb])|fail)<;>try simp only [go_sem,seval])
 all_goals exact pc_ret rfl
end Go.Proofs.YtndjhpjcankkaaaGreatDoor
namespace Go.Proofs.YtndjhpjcankkaaaGreatDoor
open Go.Eng (IC IOper DReg IFn IsFn Callable)
open Go.Sym Go.Pb
def readR (s:List UInt8):DV:=match readM s with
 | some d=>.tup [I64 (bt s 0),.str d]
 | none=>.tup [I64 0,.str []]
theorem readR_nl (s:List UInt8):(readR s).nl=true:=by unfold readR;split<;>rfl
theorem c_readR (s:List UInt8) (h:s.length=1031):PC Tryz.prog 86 [.str s] (readR s):=by
 refine PC.of mixedU isU86 (Nat.le_of_ble_eq_true rfl) rfl (readR_nl s) ?_
 show IW Tryz.prog 61 u86_1 ⟨argT _,_,_⟩ (rt [.tmp 2,.tmp 3] _)
 have x0:idxR (.str s) (.int .i64 0)=some (.int .u8 (bt s 0:Int)):=ix_bt (i:=0) (by omega)
 have x1:idxR (.str s) (.int .i64 1)=some (.int .u8 (bt s 1:Int)):=ix_bt (i:=1) (by omega)
 have x2:idxR (.str s) (.int .i64 2)=some (.int .u8 (bt s 2:Int)):=ix_bt (i:=2) (by omega)
 have x3:idxR (.str s) (.int .i64 3)=some (.int .u8 (bt s 3:Int)):=ix_bt (i:=3) (by omega)
 have x4:idxR (.str s) (.int .i64 4)=some (.int .u8 (bt s 4:Int)):=ix_bt (i:=4) (by omega)
 have x5:idxR (.str s) (.int .i64 5)=some (.int .u8 (bt s 5:Int)):=ix_bt (i:=5) (by omega)
 have x6:idxR (.str s) (.int .i64 6)=some (.int .u8 (bt s 6:Int)):=ix_bt (i:=6) (by omega)
 have b1:=bt_lt s 1
 have b2:=bt_lt s 2
 have b3:=bt_lt s 3
 have b4:=bt_lt s 4
 have b5:=bt_lt s 5
 have b6:=bt_lt s 6
 have t1:twoM s 1=bt s 1+256 * bt s 2:=rfl
 have t3:twoM s 3=bt s 3+256 * bt s 4:=rfl
 have t5:twoM s 5=bt s 5+256 * bt s 6:=rfl
 have y1:=w64 (n:=(bt s 1:Int)) (by omega) (by omega)
 have y2:=w64 (n:=(bt s 2:Int)) (by omega) (by omega)
 have y3:=w64 (n:=256 * (bt s 2:Int)) (by omega) (by omega)
 have y4:IntKind.i64.wrap ((bt s 1:Int)+256 * (bt s 2:Int))=(twoM s 1:Int):=by rw [w64 (by omega) (by omega),t1];omega
 have y5:IntKind.u8.wrap (255-(bt s 1:Int))=255-(bt s 1:Int):=wu8 (by omega) (by omega)
 have y6:IntKind.u8.wrap (255-(bt s 2:Int))=255-(bt s 2:Int):=wu8 (by omega) (by omega)
 have y7:=w64 (n:=(bt s 5:Int)) (by omega) (by omega)
 have y8:=w64 (n:=(bt s 6:Int)) (by omega) (by omega)
 have y9:=w64 (n:=256 * (bt s 6:Int)) (by omega) (by omega)
 have y0:IntKind.i64.wrap ((bt s 5:Int)+256 * (bt s 6:Int))=(twoM s 5:Int):=by rw [w64 (by omega) (by omega),t5];omega
 have hiff:(bt s 0<1∨3<bt s 0∨(twoM s 3:Int)≠65535-(twoM s 1:Int)∨1024<twoM s 1)↔(bt s 0<1∨3<bt s 0∨(bt s 3:Int)≠255-(bt s 1:Int)∨(bt s 4:Int)≠255-(bt s 2:Int)∨1024<twoM s 1):=by omega
 by_cases hbad:bt s 0<1∨3<bt s 0∨(twoM s 3:Int)≠65535-(twoM s 1:Int)∨1024<twoM s 1
 ·have hr:readM s=none:=by rw [readM,if_pos hbad]
  rw [hiff] at hbad
  repeat' ((with_reducible first|refine wr ?_|refine k_cu ?_ ?_|refine wb2 ?_ ?_<;>(intro hb;try simp only [hb])|fail)<;>try simp only [go_sem,seval,x0,x1,x2,x3,x4,y1,y2,y3,y4,y5,y6])
  all_goals first
   | (rw [readR,hr];exact pc_ret rfl)
   | (exfalso;simp only [decide_eq_true_eq,decide_eq_false_iff_not,bne_eq_false_iff_eq,bne_iff_ne] at *;omega)
 have hbad2:=hbad
 rw [hiff] at hbad2
 have q1:decide ((bt s 0:Int)<1)=false:=by simp only [decide_eq_false_iff_not];omega
 have q2:decide ((bt s 0:Int)>3)=false:=by simp only [decide_eq_false_iff_not];omega
 have q3:((bt s 3:Int) != 255-(bt s 1:Int))=false:=by rw [bne_eq_false_iff_eq];omega
 have q5:((bt s 4:Int) != 255-(bt s 2:Int))=false:=by rw [bne_eq_false_iff_eq];omega
 have q4:decide ((twoM s 1:Int)>1024)=false:=by simp only [decide_eq_false_iff_not];omega
 have w2:IntKind.i64.wrap (7+(twoM s 1:Int))=((7+twoM s 1:Nat):Int):=by rw [w64 (by omega) (by omega)];omega
 obtain ⟨d,hd⟩:∃ d,d=(s.drop 7).take (twoM s 1):=⟨_,rfl⟩
 have hsl:slsR s (some (I64 7)) (some (I64 ((7+twoM s 1:Nat):Int)))=some (.str d):=by
  simp only [slsR,boundOf,Int.natCast_nonneg,if_true,Int.toNat_natCast]
  rw [if_pos (by omega)]
  show (if 7+twoM s 1≤s.length∧7≤7+twoM s 1 then _ else _)=_
  rw [if_pos ⟨by omega,by omega⟩,hd,show Int.toNat 7=7 from rfl,Nat.add_sub_cancel_left]
 have hdl:d.length≤1000000:=by rw [hd,List.length_take];omega
 have hsm:=c_sumR d hdl
 have b0:=bt_lt s 0
 have y00:=w64 (n:=(bt s 0:Int)) (by omega) (by omega)
 have hr:readM s=if twoM s 5=sumM d then some d else none:=by rw [readM,if_neg hbad, ← hd]
 by_cases hs:twoM s 5=sumM d
 ·have hs':((sumM d:Int) != (twoM s 5:Int))=false:=by rw [bne_eq_false_iff_eq];omega
  rw [if_pos hs] at hr
  repeat' ((with_reducible first|refine wr ?_|refine cpc hsm ?_|refine k_cu ?_ ?_|refine wb2 ?_ ?_<;>(intro hb;try simp only [hb])|fail)<;>try simp only [go_sem,seval,x0,x1,x2,x3,x4,x5,x6,y1,y2,y3,y4,y5,y6,y7,y8,y9,y0,y00,q1,q2,q3,q4,q5,w2,hsl,hs'])
  all_goals (rw [readR,hr];exact pc_ret rfl)
 ·have hs':((sumM d:Int) != (twoM s 5:Int))=true:=by rw [bne_iff_ne];omega
  rw [if_neg hs] at hr
  repeat' ((with_reducible first|refine wr ?_|refine cpc hsm ?_|refine k_cu ?_ ?_|refine wb2 ?_ ?_<;>(intro hb;try simp only [hb])|fail)<;>try simp only [go_sem,seval,x0,x1,x2,x3,x4,x5,x6,y1,y2,y3,y4,y5,y6,y7,y8,y9,y0,q1,q2,q3,q4,q5,w2,hsl,hs'])
  all_goals (rw [readR,hr];exact pc_ret rfl)
end Go.Proofs.YtndjhpjcankkaaaGreatDoor
namespace Go.Proofs.YtndjhpjcankkaaaGreatDoor
open Go.Eng (IC IOper DReg IFn IsFn Callable)
open Go.Sym Go.Pb
theorem read_pos {s d:List UInt8} (h:readM s=some d):1≤bt s 0∧bt s 0≤3:=by
 unfold readM at h
 split at h
 ·cases h
 ·omega
theorem bt_slot0 {mem:List UInt8} (h:mem.length=2062):bt (slotM mem 0) 0=bt mem 0:=by
 unfold bt slotM
 rw [List.getD_eq_getElem?_getD,List.getD_eq_getElem?_getD,List.getElem?_take,if_pos (by omega),List.getElem?_drop]
theorem c_SlotsR (mem:List UInt8) (hl:mem.length≤1000000):PC Tryz.prog 85 [.str mem] (.tup [I64 (curM mem).1,I64 (curM mem).2.1,I64 (curM mem).2.2.2]):=by
 refine PC.of mixedU isU85 (Nat.le_of_ble_eq_true rfl) (by simp [DV.nlL,DV.nl,nlL_ints,nlL_strs,nlL_adjs,nlL_scos]) (by simp [DV.nlL,DV.nl,nlL_ints,nlL_strs,nlL_adjs,nlL_scos]) ?_
 show IW Tryz.prog 43 u85_1 ⟨argT _,_,_⟩ (rt [.tmp 2,.tmp 3,.tmp 4] _)
 by_cases hlen:mem.length=2062
 rotate_left
 ·have e1:((mem.length:Int) != 2062)=true:=by rw [bne_iff_ne];omega
  repeat' ((with_reducible first|refine wr ?_|refine k_cu ?_ ?_|refine wb2 ?_ ?_<;>(intro hb;try simp only [hb])|fail)<;>try simp only [go_sem,seval,e1])
  rw [curM,if_pos hlen]
  exact pc_ret rfl
 have e1:((mem.length:Int) != 2062)=false:=by rw [bne_eq_false_iff_eq];omega
 have sl0:slsR mem none (some (I64 1031))=some (.str (slotM mem 0)):=by
  have:slsR mem none (some (I64 ((1031:Nat):Int)))=some (.str (slotM mem 0)):=by
   simp only [slsR,boundOf,Int.natCast_nonneg,if_true,Int.toNat_natCast]
   rw [if_pos ⟨by omega,by omega⟩];rfl
  exact this
 have sl1:slsR mem (some (I64 1031)) none=some (.str (slotM mem 1)):=by
  have:slsR mem (some (I64 ((1031:Nat):Int))) none=some (.str (slotM mem 1)):=by
   simp only [slsR,boundOf,Int.natCast_nonneg,if_true,Int.toNat_natCast]
   rw [if_pos ⟨by omega,by omega⟩,hlen];rfl
  exact this
 have r0:=c_readR (slotM mem 0) (slot_len (by omega) hlen)
 have r1:=c_readR (slotM mem 1) (slot_len (by omega) hlen)
 have hc:curM mem=(match readM (slotM mem 0),readM (slotM mem 1) with
  | some a,some b=>if bt (slotM mem 1) 0=bt mem 0 % 3+1 then (1,2,b,0) else (0,2,a,0)
  | some a,none=>(0,1,a,0)
  | none,some b=>(1,1,b,0)
  | none,none=>(0,0,[],62)):=by rw [curM,if_neg (by simpa using hlen)];try rfl
 rw [hc]
 clear hc
 unfold readR at r0 r1
 have hb0:=bt_slot0 hlen
 cases h0:readM (slotM mem 0) with
 | none =>
  rw [h0] at r0
  cases h1:readM (slotM mem 1) with
  | none =>
   rw [h1] at r1
   repeat' ((with_reducible first|refine wr ?_|refine cpc r0 ?_|refine cpc r1 ?_|refine k_cu ?_ ?_|refine wb2 ?_ ?_<;>(intro hb;try simp only [hb])|fail)<;>try simp only [go_sem,seval,e1,sl0,sl1])
   exact pc_ret rfl
  | some b =>
   rw [h1] at r1
   have p1:=(read_pos h1).1
   have q1:((bt (slotM mem 1) 0:Int) == 0)=false:=by rw [beq_eq_false_iff_ne];omega
   repeat' ((with_reducible first|refine wr ?_|refine cpc r0 ?_|refine cpc r1 ?_|refine k_cu ?_ ?_|refine wb2 ?_ ?_<;>(intro hb;try simp only [hb])|fail)<;>try simp only [go_sem,seval,e1,sl0,sl1,q1])
   exact pc_ret rfl
 | some a =>
  rw [h0] at r0
  have p0:=read_pos h0
  rw [hb0] at r0 p0
  have q0:((bt mem 0:Int) == 0)=false:=by rw [beq_eq_false_iff_ne];omega
  cases h1:readM (slotM mem 1) with
  | none =>
   rw [h1] at r1
   repeat' ((with_reducible first|refine wr ?_|refine cpc r0 ?_|refine cpc r1 ?_|refine k_cu ?_ ?_|refine wb2 ?_ ?_<;>(intro hb;try simp only [hb])|fail)<;>try simp only [go_sem,seval,e1,sl0,sl1,q0])
   exact pc_ret rfl
  | some b =>
   rw [h1] at r1
   have p1:=(read_pos h1).1
   have q1:((bt (slotM mem 1) 0:Int) == 0)=false:=by rw [beq_eq_false_iff_ne];omega
   have hr:binR .rem (I64 (bt mem 0:Int)) (I64 3)=some (I64 ((bt mem 0 % 3:Nat):Int)):=by rw [r_rem (by omega)];exact congrArg (fun x=>some (DV.int .i64 x)) (Int.ofNat_tmod _ _).symm
   have hw:IntKind.i64.wrap (((bt mem 0 % 3:Nat):Int)+1)=((bt mem 0 % 3+1:Nat):Int):=by rw [w64 (by omega) (by omega)];omega
   by_cases he:bt (slotM mem 1) 0=bt mem 0 % 3+1
   ·have he':((bt (slotM mem 1) 0:Int) == ((bt mem 0 % 3+1:Nat):Int))=true:=by rw [beq_iff_eq];omega
    repeat' ((with_reducible first|refine wr ?_|refine cpc r0 ?_|refine cpc r1 ?_|refine k_cu ?_ ?_|refine wb2 ?_ ?_<;>(intro hb;try simp only [hb])|fail)<;>try simp only [go_sem,seval,e1,sl0,sl1,q0,q1,hr,hw,he'])
    all_goals (simp only [he,if_true];exact pc_ret rfl)
   ·have he':((bt (slotM mem 1) 0:Int) == ((bt mem 0 % 3+1:Nat):Int))=false:=by rw [beq_eq_false_iff_ne];omega
    repeat' ((with_reducible first|refine wr ?_|refine cpc r0 ?_|refine cpc r1 ?_|refine k_cu ?_ ?_|refine wb2 ?_ ?_<;>(intro hb;try simp only [hb])|fail)<;>try simp only [go_sem,seval,e1,sl0,sl1,q0,q1,hr,hw,he'])
    all_goals (simp only [he,if_false];exact pc_ret rfl)
end Go.Proofs.YtndjhpjcankkaaaGreatDoor
namespace Go.Proofs.YtndjhpjcankkaaaGreatDoor
open Go.Eng (IC IOper DReg IFn IsFn Callable)
open Go.Sym Go.Pb
theorem cur_len {mem:List UInt8} (h:(curM mem).2.2.2=0):mem.length=2062:=by
 by_cases hl:mem.length=2062
 ·exact hl
 ·rw [curM,if_pos hl] at h;cases h
theorem cur_read {mem:List UInt8} (h:(curM mem).2.2.2=0):(curM mem).1≤1∧readM (slotM mem (curM mem).1)=some (curM mem).2.2.1:=by
 have hl:=cur_len h
 have hc:curM mem=(match readM (slotM mem 0),readM (slotM mem 1) with
  | some a,some b=>if bt (slotM mem 1) 0=bt mem 0 % 3+1 then (1,2,b,0) else (0,2,a,0)
  | some a,none=>(0,1,a,0)
  | none,some b=>(1,1,b,0)
  | none,none=>(0,0,[],62)):=by rw [curM,if_neg (by simpa using hl)];try rfl
 rw [hc] at h ⊢
 cases h0:readM (slotM mem 0) with
 | none =>
  cases h1:readM (slotM mem 1) with
  | none=>rw [h0,h1] at h;cases h
  | some b=>exact ⟨Nat.le_refl _,h1⟩
 | some a =>
  cases h1:readM (slotM mem 1) with
  | none=>exact ⟨Nat.zero_le _,h0⟩
  | some b =>
   simp only
   split
   ·exact ⟨Nat.le_refl _,h1⟩
   ·exact ⟨Nat.zero_le _,h0⟩
theorem cur_bad {mem:List UInt8} (h:(curM mem).2.2.2≠0):(curM mem).2.2.1=[]:=by
 unfold curM at h ⊢
 split
 ·rfl
 ·rename_i hl
  rw [if_neg hl] at h
  split at h<;>(try split at h)<;>simp_all
theorem c_OpenR (mem:List UInt8) (hl:mem.length≤1000000):PC Tryz.prog 60 [.str mem] (.tup [.str (openM mem).1,I64 (openM mem).2]):=by
 have hs:=c_SlotsR mem hl
 by_cases he:(curM mem).2.2.2=0
 ·have hlen:=cur_len he
  obtain ⟨hi,hr⟩:=cur_read he
  have ho:openM mem=((curM mem).2.2.1,0):=by unfold openM;rw [he]
  rw [he] at hs
  rw [ho]
  generalize (curM mem).1=i at hi hr hs
  have hrd:=c_readR (slotM mem i) (slot_len hi hlen)
  rw [readR,hr] at hrd
  have w1:IntKind.i64.wrap ((i:Int) * 1031)=((i * 1031:Nat):Int):=by rw [w64 (by omega) (by omega)];omega
  have w2:IntKind.i64.wrap (((i * 1031:Nat):Int)+1031)=((i * 1031+1031:Nat):Int):=by rw [w64 (by omega) (by omega)];omega
  have hsl:slsR mem (some (I64 ((i * 1031:Nat):Int))) (some (I64 ((i * 1031+1031:Nat):Int)))=some (.str (slotM mem i)):=by
   simp only [slsR,boundOf,Int.natCast_nonneg,if_true,Int.toNat_natCast]
   rw [if_pos ⟨by omega,by omega⟩,slotM,Nat.add_sub_cancel_left]
  refine PC.of mixedU isU60 (Nat.le_of_ble_eq_true rfl) (by simp [DV.nlL,DV.nl,nlL_ints,nlL_strs,nlL_adjs,nlL_scos]) (by simp [DV.nlL,DV.nl,nlL_ints,nlL_strs,nlL_adjs,nlL_scos]) ?_
  show IW Tryz.prog 30 u60_1 ⟨argT _,_,_⟩ (rt [.tmp 2,.tmp 3] _)
  repeat' ((with_reducible first|refine wr ?_|refine cpc hs ?_|refine cpc hrd ?_|refine k_cu ?_ ?_|refine wb2 ?_ ?_<;>(intro hb;try simp only [hb])|fail)<;>try simp only [go_sem,seval,w1,w2,hsl])
  all_goals exact pc_ret rfl
 ·have he':((curM mem).2.2.2 != 0)=true:=by simpa using he
  have ho:openM mem=([],(curM mem).2.2.2):=by unfold openM;rw [cur_bad he]
  rw [ho]
  refine PC.of mixedU isU60 (Nat.le_of_ble_eq_true rfl) (by simp [DV.nlL,DV.nl,nlL_ints,nlL_strs,nlL_adjs,nlL_scos]) (by simp [DV.nlL,DV.nl,nlL_ints,nlL_strs,nlL_adjs,nlL_scos]) ?_
  show IW Tryz.prog 30 u60_1 ⟨argT _,_,_⟩ (rt [.tmp 2,.tmp 3] _)
  repeat' ((with_reducible first|refine wr ?_|refine cpc hs ?_|refine k_cu ?_ ?_|refine wb2 ?_ ?_<;>(intro hb;try simp only [hb])|fail)<;>try simp only [go_sem,seval,he'])
  all_goals exact pc_ret rfl
end Go.Proofs.YtndjhpjcankkaaaGreatDoor
namespace Go.Proofs.YtndjhpjcankkaaaGreatDoor
open Go.Eng (IC IOper DReg IFn IsFn Callable)
open Go.Sym Go.Pb
def loadM (c:Book) (mem:List UInt8):BSt × Int :=
 if validBM c≠0 then (noSt,1)
 else if (openM mem).2≠0 then (firstM c,62)
 else if (decP41 c (openM mem).1).2≠0 then (firstM c,62)
 else ((decP41 c (openM mem).1).1,0)
theorem read_len {s d:List UInt8} (h:readM s=some d):d.length≤1024:=by
 unfold readM at h
 split at h
 ·cases h
 ·split at h
  ·cases h;rw [List.length_take];omega
  ·cases h
theorem open_len (mem:List UInt8):(openM mem).1.length≤1024:=by
 by_cases h:(curM mem).2.2.2=0
 ·exact read_len (cur_read h).2
 ·show (curM mem).2.2.1.length≤_;rw [cur_bad h];simp
theorem c_Load (c:Book) (hl:lenB c) (mem:List UInt8) (hm:mem.length≤1000000):PC Tryz.prog 24 [c.v,.str mem] (.tup [(loadM c mem).1.v,I64 (loadM c mem).2]):=by
 have hn:=c_New c hl
 have ho:=c_Open mem hm
 have hd:=c_Decode c hl (openM mem).1 (by have:=open_len mem;omega)
 refine PC.of mixedU isU24 (Nat.le_of_ble_eq_true rfl) (by simp [DV.nlL,DV.nl,nlL_ints,nlL_scos,nlL_adjs]) (by simp [DV.nlL,DV.nl,nlL_ints,nlL_scos,nlL_adjs]) ?_
 show IW Tryz.prog 36 u24_1 ⟨argT _,_,_⟩ (rt [.cell 4 3 true,.tmp 5] _)
 by_cases e1:validBM c=0
 rotate_left
 ·have e1':(validBM c != 0)=true:=by simpa using e1
  rw [show newM c=(noSt,validBM c) by simp [newM,e1]] at hn
  have er:loadM c mem=(noSt,1):=by rw [loadM,if_pos e1]
  rw [er]
  repeat' ((with_reducible first|refine wr ?_|refine cpc hn ?_|refine k_cu ?_ ?_|refine wb2 ?_ ?_<;>(intro hb;try simp only [hb])|fail)<;>try simp only [go_sem,seval,e1'])
  exact pc_no
 rw [show newM c=(firstM c,0) by simp [newM,e1]] at hn
 have er:loadM c mem=if (openM mem).2≠0 then (firstM c,62) else if (decP41 c (openM mem).1).2≠0 then (firstM c,62) else ((decP41 c (openM mem).1).1,0):=by rw [loadM,if_neg (by simpa using e1)]
 rw [er]
 by_cases e2:(openM mem).2=0
 rotate_left
 ·have e2':((openM mem).2 != 0)=true:=by simpa using e2
  rw [if_pos e2]
  repeat' ((with_reducible first|refine wr ?_|refine cpc hn ?_|refine cpc ho ?_|refine k_cu ?_ ?_|refine wb2 ?_ ?_<;>(intro hb;try simp only [hb])|fail)<;>try simp only [go_sem,seval,e2'])
  all_goals exact pc_ret rfl
 have e2':((openM mem).2 != 0)=false:=by simpa using e2
 rw [if_neg (by simpa using e2)]
 by_cases e3:(decP41 c (openM mem).1).2=0
 rotate_left
 ·have e3':((decP41 c (openM mem).1).2 != 0)=true:=by simpa using e3
  rw [if_pos e3]
  repeat' ((with_reducible first|refine wr ?_|refine cpc hn ?_|refine cpc ho ?_|refine cpc hd ?_|refine k_cu ?_ ?_|refine wb2 ?_ ?_<;>(intro hb;try simp only [hb])|fail)<;>try simp only [go_sem,seval,e2',e3'])
  all_goals exact pc_ret rfl
 have e3':((decP41 c (openM mem).1).2 != 0)=false:=by simpa using e3
 rw [if_neg (by simpa using e3)]
 repeat' ((with_reducible first|refine wr ?_|refine cpc hn ?_|refine cpc ho ?_|refine cpc hd ?_|refine k_cu ?_ ?_|refine wb2 ?_ ?_<;>(intro hb;try simp only [hb])|fail)<;>try simp only [go_sem,seval,e2',e3'])
 all_goals exact pc_ret rfl
end Go.Proofs.YtndjhpjcankkaaaGreatDoor
namespace Go.Proofs.YtndjhpjcankkaaaGreatDoor
open Go.Eng (IC IOper DReg IFn IsFn Callable)
open Go.Sym Go.Pb
theorem wr8 (n:Nat):IntKind.u8.wrap (n:Int)=((u8 n).toNat:Int):=by
 rw [u8_nat];simp [IntKind.wrap,IntKind.bits,IntKind.signed]
theorem wr8s (n:Nat):IntKind.u8.wrap (255-((u8 n).toNat:Int))=((u8 (255-n % 256)).toNat:Int):=by
 have h:n % 256<256:=Nat.mod_lt _ (by omega)
 rw [u8_nat,u8_nat,wu8 (by omega) (by omega)];omega
theorem shr8 (n:Nat):binR .shr (.int .i64 (n:Int)) (.int .u64 8)=some (.int .i64 ((n / 256:Nat):Int)):=by
 rw [r_shr (by omega)]
 have h:(n:Int).fdiv (2 ^ (min (8:Int).toNat IntKind.i64.bits))=((n / 256:Nat):Int):=by
  rw [show (2:Int) ^ (min (8:Int).toNat IntKind.i64.bits)=256 from rfl,Int.fdiv_eq_ediv_of_nonneg _ (by omega)];omega
 rw [h]
theorem c_headR (d:List UInt8) (hl:d.length≤2000):PC Tryz.prog 58 [.str d] (.str (headM d)):=by
 have hs:=c_sumR d (by omega)
 have hb:=sumM_lt d
 have u1:=wr8 d.length
 have u2:=wr8 (d.length / 256)
 have u3:=wr8 (sumM d)
 have u4:=wr8 (sumM d / 256)
 have v1:=wr8s d.length
 have v2:=wr8s (d.length / 256)
 have s1:=shr8 d.length
 have s2:=shr8 (sumM d)
 refine PC.of mixedU isU58 (Nat.le_of_ble_eq_true rfl) (by simp [DV.nlL,DV.nl,nlL_ints,nlL_strs,nlL_adjs,nlL_scos]) (by simp [DV.nlL,DV.nl,nlL_ints,nlL_strs,nlL_adjs,nlL_scos]) ?_
 show IW Tryz.prog 28 u58_1 ⟨argT _,_,_⟩ (rt [.tmp 2] _)
 repeat' ((first|(with_reducible first|refine wr ?_|refine cpc hs ?_|refine k_cu ?_ ?_)|(with_reducible refine wb2 ?_ ?_<;>(intro hb;try simp only [hb]))|((with_reducible refine k_val (cv_own (l:=headM d) h_same rfl rfl) ?_))|fail)<;>try simp only [go_sem,seval,u1,u2,u3,u4,v1,v2,s1,s2])
 all_goals exact pc_ret rfl
theorem c_head (d:List UInt8) (hl:d.length≤2000) (H:Hp) (cc:Nat):AC Tryz.prog 63 [.str d] H cc (fun v H' c'=>v=.slc cc 0 6∧H'=H.upd cc ⟨1,true,bytesC (headM d)⟩∧c'=cc+1):=by
 refine AC.own (V:=fun id=>.slc id 0 6) (cs:=bytesC (headM d)) (u:=1) ?_ rfl (fun x hx=>by obtain ⟨b, -,rfl⟩:=List.mem_map.1 hx;rfl) (fun ρ ρ' id id' v h1 h2 h3=>nl3 h1 h3) H cc
 have hs:=c_sum d (by omega)
 have hb:=sumM_lt d
 have u1:=wr8 d.length
 have u2:=wr8 (d.length / 256)
 have u3:=wr8 (sumM d)
 have u4:=wr8 (sumM d / 256)
 have v1:=wr8s d.length
 have v2:=wr8s (d.length / 256)
 have s1:=shr8 d.length
 have s2:=shr8 (sumM d)
 refine AC.body mixedU isU63 (Nat.le_of_ble_eq_true rfl) fun hfr=>?_
 show IW Tryz.prog 27 u63_1 ⟨argT _,_,_⟩ (rt [.tmp 2] _)
 repeat' ((with_reducible first|refine wr ?_|refine cpc hs ?_|refine k_cu ?_ ?_|refine wb2 ?_ ?_<;>(intro hb;try simp only [hb])|fail)<;>try simp only [go_sem,seval,u1,u2,u3,u4,v1,v2,s1,s2])
 all_goals exact own_end (V:=fun id=>.slc id 0 6) _ rfl (by first|rfl|exact h_same)
end Go.Proofs.YtndjhpjcankkaaaGreatDoor
namespace Go.Proofs.YtndjhpjcankkaaaGreatDoor
open Go.Eng (IC IOper DReg IFn IsFn Callable)
open Go.Sym Go.Pb
theorem headM_len (d:List UInt8):(headM d).length=6:=rfl
theorem c_FormatR (d:List UInt8) (hl:d.length≤1000000):PC Tryz.prog 23 [.str d] (.tup [.str (formatM d).1,I64 (formatM d).2]):=by
 by_cases h0:1024<d.length
 ·have q:decide ((d.length:Int)>1024)=true:=by simp only [decide_eq_true_eq];omega
  refine PC.of mixedU isU23 (Nat.le_of_ble_eq_true rfl) (by simp [DV.nlL,DV.nl,nlL_ints,nlL_strs,nlL_adjs,nlL_scos]) (by simp [DV.nlL,DV.nl,nlL_ints,nlL_strs,nlL_adjs,nlL_scos]) ?_
  show IW Tryz.prog 18 u23_1 ⟨argT _,_,_⟩ (rt [.tmp 2,.tmp 3] _)
  repeat' ((with_reducible first|refine wr ?_|refine k_cu ?_ ?_|refine wb2 ?_ ?_<;>(intro hb;try simp only [hb])|fail)<;>try simp only [go_sem,seval,q])
  rw [formatM,if_pos h0]
  exact pc_ret rfl
 have q:decide ((d.length:Int)>1024)=false:=by simp only [decide_eq_false_iff_not];omega
 have hh:=c_headR d (by omega)
 obtain ⟨N,hN⟩:∃ N:Nat,N=2062:=⟨_,rfl⟩
 have hms:mslR 1 1 [DV.int .u8 0] (.int .i64 2062) (.int .i64 2062)=some (some N,⟨1,true,bytesC (List.replicate N 0)⟩):=by
  have:=r_msl (sz:=1) (bytes:=1) (n:=N) (z:=[DV.int .u8 0]) (k:=.i64) (k':=.i64) (by omega) (by omega) rfl rfl
  rw [madeL_one] at this
  rw [hN] at this ⊢
  rw [show bytesC (List.replicate 2062 0)=List.replicate 2062 (DV.int .u8 0) by unfold bytesC;rw [List.map_replicate];rfl]
  exact this
 have a1:=sadd (s:=[1]) (t:=headM d) (by simp [headM_len])
 obtain ⟨w,hw⟩:∃ w,w=(1 :: headM d)++d:=⟨_,rfl⟩
 have a2:binR .add (.str (1 :: headM d)) (.str d)=some (.str w):=by rw [hw];exact sadd (by simp [headM_len];omega)
 have hwl:w.length=d.length+7:=by rw [hw];simp [headM_len];omega
 have hf:formatM d=(w++List.replicate (N-w.length) 0,0):=by
  rw [formatM,if_neg h0,hwl,hN,hw,show 2062-(d.length+7)=2055-d.length by omega];simp
 have hcp:∀ H cc id,cpB H cc id 0 N 1 w.length (bytesV w) (some ⟨1,true,bytesC (List.replicate N 0)⟩)=some (I64 (w.length:Int),H.upd id ⟨1,true,bytesC (w++List.replicate (N-w.length) 0)⟩,cc):=fun H cc id=>by
  have hb:(bytesC (List.replicate N 0)).length=N:=by unfold bytesC;simp
  simp only [cpB]
  rw [if_pos ⟨trivial,trivial,by omega,by unfold maxLen;omega,by rw [hb];omega⟩]
  congr 3
  unfold bytesC bytesV
  simp [List.map_replicate,List.drop_replicate]
 have hcs:∀ (H:Hp) cc id,H id=some ⟨1,true,bytesC (List.replicate N 0)⟩→cpsR H cc (.slc id 0 N) (.str w)=some (I64 (w.length:Int),H.upd id ⟨1,true,bytesC (w++List.replicate (N-w.length) 0)⟩,cc):=fun H cc id h=>by
  show cpB H cc id 0 N 1 w.length (bytesV w) (H id)=_
  rw [h];exact hcp H cc id
 have hcv:∀ H:Hp,cvbsR (H.upd 0 ⟨1,true,bytesC (w++List.replicate (N-w.length) 0)⟩) (.slc 0 0 N)=some (.str (w++List.replicate (N-w.length) 0)):=fun H=>by
  have hxl:(w++List.replicate (N-w.length) 0).length=N:=by simp;omega
  have:=cv_own (H:=H.upd 0 ⟨1,true,bytesC (w++List.replicate (N-w.length) 0)⟩) (l:=w++List.replicate (N-w.length) 0) h_same rfl hxl.symm
  exact this
 rw [hf]
 refine PC.of mixedU isU23 (Nat.le_of_ble_eq_true rfl) (by simp [DV.nlL,DV.nl,nlL_ints,nlL_strs,nlL_adjs,nlL_scos]) (by simp [DV.nlL,DV.nl,nlL_ints,nlL_strs,nlL_adjs,nlL_scos]) ?_
 show IW Tryz.prog 18 u23_1 ⟨argT _,_,_⟩ (rt [.tmp 2,.tmp 3] _)
 repeat' ((with_reducible first|refine wr ?_|refine cpc hh ?_|refine k_cu ?_ ?_|refine wb2 ?_ ?_<;>(intro hb;try simp only [hb])|fail)<;>try simp only [go_sem,seval,q,hms,a1,a2,hcp,hcv])
 all_goals exact pc_ret rfl
end Go.Proofs.YtndjhpjcankkaaaGreatDoor
namespace Go.Pb
variable [Go.Sym.Tab]
open Go.Sym
section
variable {o:Option Nat} {c:Prg} {cc:Nat}
end
def slB (id off sz l h:Nat):Option Blk→Option DV
 | some b=>if b.unit=sz∨b.unit=0 then some (.slc id (off+l * sz) (h-l)) else none
 | none=>none
theorem r_slclo {id off n l sz:Nat} {k:IntKind} (h0:l≠0) (h1:l<n) (H:Hp):slcR H sz (.slc id off n) (some (.int k (l:Int))) none=slB id off sz l n (H id):=by
 have e1:boundOf n none=some n:=by simp [boundOf]
 have e2:boundOf 0 (some (.int k (l:Int)))=some l:=by simp [boundOf]
 simp only [slcR,e1,e2,Nat.le_refl,Nat.le_of_lt h1,and_self,if_true,h0,if_false,Nat.ne_of_lt h1,slB]
 cases H id<;>rfl
end Go.Pb
namespace Go.Proofs.YtndjhpjcankkaaaGreatDoor
open Go.Eng (IC IOper DReg IFn IsFn Callable)
open Go.Sym Go.Pb
theorem bytesC_take (l:List UInt8) (n:Nat):(bytesC l).take n=bytesC (l.take n):=by unfold bytesC;rw [List.map_take]
theorem bytesC_drop (l:List UInt8) (n:Nat):(bytesC l).drop n=bytesC (l.drop n):=by unfold bytesC;rw [List.map_drop]
theorem bytesC_cat (l r:List UInt8):bytesC l++bytesC r=bytesC (l++r):=by unfold bytesC;rw [List.map_append]
theorem c_FormatN (d:List UInt8) (hl:d.length≤1000000):PC Tryz.prog 28 [.str d] (.tup [.str (formatM d).1,I64 (formatM d).2]):=by
 by_cases h0:1024<d.length
 ·have q:decide ((d.length:Int)>1024)=true:=by simp only [decide_eq_true_eq];omega
  refine PC.of mixedU isU28 (Nat.le_of_ble_eq_true rfl) (by simp [DV.nlL,DV.nl,nlL_ints,nlL_strs,nlL_adjs,nlL_scos]) (by simp [DV.nlL,DV.nl,nlL_ints,nlL_strs,nlL_adjs,nlL_scos]) ?_
  show IW Tryz.prog 22 u28_1 ⟨argT _,_,_⟩ (rt [.tmp 2,.tmp 3] _)
  repeat' ((with_reducible first|refine wr ?_|refine k_cu ?_ ?_|refine wb2 ?_ ?_<;>(intro hb;try simp only [hb])|fail)<;>try simp only [go_sem,seval,q])
  rw [formatM,if_pos h0]
  exact pc_ret rfl
 have q:decide ((d.length:Int)>1024)=false:=by simp only [decide_eq_false_iff_not];omega
 obtain ⟨N,hN⟩:∃ N:Nat,N=2062:=⟨_,rfl⟩
 have hms:mslR 1 1 [DV.int .u8 0] (.int .i64 2062) (.int .i64 2062)=some (some N,⟨1,true,bytesC (List.replicate N 0)⟩):=by
  have:=r_msl (sz:=1) (bytes:=1) (n:=N) (z:=[DV.int .u8 0]) (k:=.i64) (k':=.i64) (by omega) (by omega) rfl rfl
  rw [madeL_one] at this
  rw [hN] at this ⊢
  rw [show bytesC (List.replicate 2062 0)=List.replicate 2062 (DV.int .u8 0) by unfold bytesC;rw [List.map_replicate];rfl]
  exact this
 have hi0:∀ id,iadR 1 (.slc id 0 N) (.int .i64 0)=some (.ptr id 0):=fun id=>by
  have:=r_iads (sz:=1) (id:=id) (off:=0) (k:=.i64) (j:=0) (l:=N) (by omega) (by omega)
  simpa using this
 obtain ⟨M0,hM0⟩:∃ M0:List UInt8,M0=[1]++List.replicate (N-1) 0:=⟨_,rfl⟩
 obtain ⟨M1,hM1⟩:∃ M1:List UInt8,M1=[1]++headM d++List.replicate (N-7) 0:=⟨_,rfl⟩
 obtain ⟨M2,hM2⟩:∃ M2:List UInt8,M2=[1]++headM d++d++List.replicate (N-7-d.length) 0:=⟨_,rfl⟩
 have hst:∀ (H:Hp) cc id,stB H cc id 1 0 (.int .u8 1) (some ⟨1,true,bytesC (List.replicate N 0)⟩)=some (.tup [],H.upd id ⟨1,true,bytesC M0⟩,cc):=fun H cc id=>by
  have h:=b_st (H:=H) (c:=cc) (id:=id) (i:=1) (off:=0) (v:=.int .u8 1) (u:=1) (cs:=bytesC (List.replicate N 0)) rfl (by rw [bytesC_len,List.length_replicate];omega) rfl
  rw [bytesC_take,bytesC_drop,List.take_zero,List.drop_replicate] at h
  rw [h,hM0, ← bytesC_cat [1]];rfl
 have hs1:∀ (H:Hp) id,slcR H 1 (.slc id 0 N) (some (I64 1)) none=slB id 0 1 1 N (H id):=fun H id=>r_slclo (l:=1) (by omega) (by omega) H
 have hs7:∀ (H:Hp) id,slcR H 1 (.slc id 0 N) (some (I64 7)) none=slB id 0 1 7 N (H id):=fun H id=>r_slclo (l:=7) (by omega) (by omega) H
 have hb1:∀ id cs,slB id 0 1 1 N (some ⟨1,true,cs⟩)=some (.slc id 1 (N-1)):=fun _ _=>rfl
 have hb7:∀ id cs,slB id 0 1 7 N (some ⟨1,true,cs⟩)=some (.slc id 7 (N-7)):=fun _ _=>rfl
 have hsr:srB 1 0 6 (some ⟨1,true,bytesC (headM d)⟩)=some (6,bytesC (headM d)):=rfl
 have hc1:∀ (H:Hp) cc id,cpB H cc id 1 (N-1) 1 6 (bytesC (headM d)) (some ⟨1,true,bytesC M0⟩)=some (I64 6,H.upd id ⟨1,true,bytesC M1⟩,cc):=fun H cc id=>by
  rw [hM0,hM1]
  simp only [cpB]
  rw [if_pos ⟨trivial,trivial,by omega,by unfold maxLen;omega,by rw [bytesC_len,List.length_append,List.length_replicate];simp;omega⟩]
  rw [bytesC_take,bytesC_drop,bytesC_cat,bytesC_cat]
  rw [List.take_left' (l₁ := [1]) (by rfl),show 1+6 * 1=([1]:List UInt8).length+6 from rfl,List.drop_append,List.drop_replicate,Nat.sub_sub]
  rfl
 have hc2:∀ (H:Hp) cc id,cpB H cc id 7 (N-7) 1 d.length (bytesV d) (some ⟨1,true,bytesC M1⟩)=some (I64 (d.length:Int),H.upd id ⟨1,true,bytesC M2⟩,cc):=fun H cc id=>by
  have h7:([1]++headM d).length=7:=rfl
  rw [hM1,hM2]
  simp only [cpB]
  rw [if_pos ⟨trivial,trivial,by omega,by unfold maxLen;omega,by rw [bytesC_len,List.length_append,h7,List.length_replicate];omega⟩]
  rw [show bytesV d=bytesC d from rfl,bytesC_take,bytesC_drop,bytesC_cat,bytesC_cat]
  rw [List.take_left' h7,Nat.mul_one,show 7+d.length=([1]++headM d).length+d.length by rw [h7],List.drop_append,List.drop_eq_nil_of_le (by omega),List.nil_append,Nat.add_sub_cancel_left,List.drop_replicate]
 have hcv:∀ H:Hp,cvbsR (H.upd 0 ⟨1,true,bytesC M2⟩) (.slc 0 0 N)=some (.str M2):=fun H=>by
  have h7:([1]++headM d).length=7:=rfl
  exact cv_own (l:=M2) h_same rfl (by rw [hM2,List.length_append,List.length_append,h7,List.length_replicate];omega)
 have hf:formatM d=(M2,0):=by
  rw [hM2,formatM,if_neg h0,hN]
 rw [hf]
 refine PC.of mixedU isU28 (Nat.le_of_ble_eq_true rfl) (by simp [DV.nlL,DV.nl,nlL_ints,nlL_strs,nlL_adjs,nlL_scos]) (by simp [DV.nlL,DV.nl,nlL_ints,nlL_strs,nlL_adjs,nlL_scos]) ?_
 show IW Tryz.prog 22 u28_1 ⟨argT _,_,_⟩ (rt [.tmp 2,.tmp 3] _)
 repeat' ((first|(with_reducible first|refine wr ?_|refine k_cu ?_ ?_)|(with_reducible refine wb2 ?_ ?_<;>(intro hb;try simp only [hb]))|((with_reducible refine AC.call (c_head d (by omega) _ _) ?_);(rintro v H' c' ⟨rfl,rfl,rfl⟩ hcc))|fail)<;>try simp only [go_sem,seval,q,hms,hi0,hst,hs1,hs7,hb1,hb7,hsr,hc1,hc2,hcv])
 all_goals exact pc_ret rfl
end Go.Proofs.YtndjhpjcankkaaaGreatDoor
namespace Go.Pb
variable [Go.Sym.Tab]
open Go.Sym
abbrev csA (s:BSt):List DV:=cellsL (s.sets.map I64)
abbrev csN (s:BSt):List DV:=cellsL (s.counts.map I64)
abbrev csO (s:BSt):List DV:=cellsL (s.scores.map Sco.v)
def dF (B:Hp) (oA oB oC:Option Nat) (s:BSt):Hp :=
 optH ((optH (optH B oA ⟨1,true,csA s⟩) oB ⟨1,true,csN s⟩).upd 13 ⟨0,true,[todoV oA s.sets.length,todoV oB s.counts.length,todoV oC s.scores.length]⟩) oC ⟨2,true,csO s⟩
structure OkF (oA oB oC:Option Nat) (s:BSt) (cc:Nat):Prop where
 la:∀ i,oA=some i→14≤i∧i<cc
 lb:∀ i,oB=some i→14≤i∧i<cc
 lc:∀ i,oC=some i→14≤i∧i<cc
 ab:∀ i,oA=some i→oB=some i→False
 ac:∀ i,oA=some i→oC=some i→False
 bc:∀ i,oB=some i→oC=some i→False
 na:oA=none→s.sets=[]
 nb:oB=none→s.counts=[]
 nc:oC=none→s.scores=[]
section
variable {B:Hp} {oA oB oC:Option Nat} {s:BSt} {cc:Nat}
theorem dF_13 (h:OkF oA oB oC s cc):dF B oA oB oC s 13=some ⟨0,true,[todoV oA s.sets.length,todoV oB s.counts.length,todoV oC s.scores.length]⟩:=by
 unfold dF
 rw [optH_ne (fun i hi=>by have:=h.lc i hi;omega),h_same]
theorem dF_lo (h:OkF oA oB oC s cc) {j:Nat} (hj:j<13):dF B oA oB oC s j=B j:=by
 unfold dF
 rw [optH_ne (fun i hi=>by have:=h.lc i hi;omega),h_ne (by omega),optH_ne (fun i hi=>by have:=h.lb i hi;omega),optH_ne (fun i hi=>by have:=h.la i hi;omega)]
theorem dF_hi (h:OkF oA oB oC s cc) (h13:13<cc) {j:Nat} (hj:cc≤j):dF B oA oB oC s j=B j:=by
 unfold dF
 rw [optH_ne (fun i hi=>by have:=h.lc i hi;omega),h_ne (by omega),optH_ne (fun i hi=>by have:=h.lb i hi;omega),optH_ne (fun i hi=>by have:=h.la i hi;omega)]
theorem dF_A (h:OkF oA oB oC s cc) {i:Nat} (hi:oA=some i):dF B oA oB oC s i=some ⟨1,true,csA s⟩:=by
 unfold dF
 have hl:=h.la i hi
 rw [optH_ne (fun k hk e=>h.ac i hi (by rw [hk,e])),h_ne (by omega),optH_ne (fun k hk e=>h.ab i hi (by rw [hk,e]))]
 exact opt_at hi
theorem dF_B (h:OkF oA oB oC s cc) {i:Nat} (hi:oB=some i):dF B oA oB oC s i=some ⟨1,true,csN s⟩:=by
 unfold dF
 have hl:=h.lb i hi
 rw [optH_ne (fun k hk e=>h.bc i hi (by rw [hk,e])),h_ne (by omega)]
 exact opt_at hi
theorem dF_C (h:OkF oA oB oC s cc) {i:Nat} (hi:oC=some i):dF B oA oB oC s i=some ⟨2,true,csO s⟩:=by
 unfold dF
 exact opt_at hi
theorem optH_inv {X:Hp} {o:Option Nat} {b q:Blk} {j:Nat} (h:optH X o b j=some q):(o=some j∧q=b)∨(¬ o=some j∧X j=some q):=by
 cases o with
 | none=>exact .inr ⟨by simp,h⟩
 | some i =>
  by_cases e:j=i
  ·subst e;simp only [optH] at h;rw [h_same] at h;exact .inl ⟨rfl,by cases h;rfl⟩
  ·simp only [optH] at h;rw [h_ne e] at h;exact .inr ⟨fun h2=>e (by cases h2;rfl),h⟩
theorem dF_inv {j:Nat} {q:Blk} (h:dF B oA oB oC s j=some q):(oC=some j∧q=⟨2,true,csO s⟩)∨(j=13∧q=⟨0,true,[todoV oA s.sets.length,todoV oB s.counts.length,todoV oC s.scores.length]⟩)
  ∨ (oB=some j∧q=⟨1,true,csN s⟩)∨(oA=some j∧q=⟨1,true,csA s⟩)∨B j=some q:=by
 unfold dF at h
 rcases optH_inv h with h|⟨-,h⟩
 ·exact .inl h
 by_cases e:j=13
 ·subst e;rw [h_same] at h;cases h;exact .inr (.inl ⟨rfl,rfl⟩)
 rw [h_ne e] at h
 rcases optH_inv h with h|⟨-,h⟩
 ·exact .inr (.inr (.inl h))
 rcases optH_inv h with h|⟨-,h⟩
 ·exact .inr (.inr (.inr (.inl h)))
 ·exact .inr (.inr (.inr (.inr h)))
theorem sub_dF {H:Hp} (hC:∀ j,oC=some j→H j=some ⟨2,true,csO s⟩) (h13:H 13=some ⟨0,true,[todoV oA s.sets.length,todoV oB s.counts.length,todoV oC s.scores.length]⟩)
  (hB:∀ j,oB=some j→H j=some ⟨1,true,csN s⟩) (hA:∀ j,oA=some j→H j=some ⟨1,true,csA s⟩) (hb:∀ j q,B j=some q→H j=some q):Sub (dF B oA oB oC s) H:=by
 intro j q hj
 rcases dF_inv hj with ⟨h1,rfl⟩|⟨rfl,rfl⟩|⟨h1,rfl⟩|⟨h1,rfl⟩|h1
 ·exact hC j h1
 ·exact h13
 ·exact hB j h1
 ·exact hA j h1
 ·exact hb j q h1
theorem OkF.mono (h:OkF oA oB oC s cc) {c2:Nat} (hc:cc≤c2):OkF oA oB oC s c2 :=
 ⟨fun i hi=>by have:=h.la i hi;omega,fun i hi=>by have:=h.lb i hi;omega,fun i hi=>by have:=h.lc i hi;omega,h.ab,h.ac,h.bc,h.na,h.nb,h.nc⟩
theorem OkF.setA (h:OkF oA oB oC s cc) {n:Nat} (h14:14≤n) (hn:cc≤n) (X:List Int):OkF (some n) oB oC { s with sets:=X } (n+1) :=
 ⟨fun i hi=>by cases hi;omega,fun i hi=>by have:=h.lb i hi;omega,fun i hi=>by have:=h.lc i hi;omega,fun i hi hi2=>by cases hi;have:=h.lb _ hi2;omega,fun i hi hi2=>by cases hi;have:=h.lc _ hi2;omega,h.bc,by simp,h.nb,h.nc⟩
theorem OkF.setB (h:OkF oA oB oC s cc) {n:Nat} (h14:14≤n) (hn:cc≤n) (X:List Int):OkF oA (some n) oC { s with counts:=X } (n+1) :=
 ⟨fun i hi=>by have:=h.la i hi;omega,fun i hi=>by cases hi;omega,fun i hi=>by have:=h.lc i hi;omega,fun i hi hi2=>by cases hi2;have:=h.la _ hi;omega,h.ac,fun i hi hi2=>by cases hi;have:=h.lc _ hi2;omega,h.na,by simp,h.nc⟩
theorem OkF.setC (h:OkF oA oB oC s cc) {n:Nat} (h14:14≤n) (hn:cc≤n) (X:List Sco):OkF oA oB (some n) { s with scores:=X } (n+1) :=
 ⟨fun i hi=>by have:=h.la i hi;omega,fun i hi=>by have:=h.lb i hi;omega,fun i hi=>by cases hi;omega,h.ab,fun i hi hi2=>by cases hi2;have:=h.la _ hi;omega,fun i hi hi2=>by cases hi2;have:=h.lb _ hi;omega,h.na,h.nb,by simp⟩
theorem OkF.stC (h:OkF oA oB oC s cc) (hn:s.scores≠[]) (X:List Sco):OkF oA oB oC { s with scores:=X } cc :=
 ⟨h.la,h.lb,h.lc,h.ab,h.ac,h.bc,h.na,h.nb,fun e=>absurd (h.nc e) hn⟩
theorem optH_upd {X:Hp} {o:Option Nat} {b c:Blk} {k:Nat} (h:∀ i,o=some i→¬ k=i):(optH X o b).upd k c=optH (X.upd k c) o b:=by
 cases o with
 | none=>rfl
 | some i =>
  have hk:=h i rfl
  funext j
  simp only [optH]
  by_cases e1:j=k
  ·subst e1;rw [h_same,h_ne hk,h_same]
  ·by_cases e2:j=i
   ·subst e2;rw [h_ne e1,h_same,h_same]
   ·rw [h_ne e1,h_ne e2,h_ne e2,h_ne e1]
theorem todo_one (o:Option Nat) (n:Nat):(todoV o n).one=true:=by cases o<;>rfl
theorem ints_unit1 (l:List Int):∀ x∈l.map I64,x.cells.length=1:=fun x hx=>by obtain ⟨y, -,rfl⟩:=List.mem_map.1 hx;rfl
theorem g_dF (h:OkF oA oB oC s cc) (hB:∀ j,13<j→B j=none) (ds:List DV):GL (dF B oA oB oC s) ds (B.upd 13 ⟨0,true,[intsV s.sets,intsV s.counts,scosV s.scores]⟩) ds:=by
 have n13:∀ o:Option Nat,(∀ i,o=some i→14≤i∧i<cc)→∀ i,o=some i→¬ 13=i:=fun o ho i hi=>by have:=ho i hi;omega
 have c1:=g_fin (Hb:=optH (optH B oA ⟨1,true,csA s⟩) oB ⟨1,true,csN s⟩) (ci:=13) (u:=2) (n:=s.scores.length) (o:=oC) (pre:=[todoV oA s.sets.length,todoV oB s.counts.length]) (suf:=[]) (xs:=s.scores.map Sco.v) (ds:=ds)
  (by intro d hd;simp at hd;rcases hd with rfl|rfl<;>exact todo_one _ _) (fun e=>by rw [h.nc e];rfl) (fun i hi=>⟨by have:=h.lc i hi;omega,by
   rw [optH_ne (fun k hk e=>h.bc i (by rw [hk,e]) hi),optH_ne (fun k hk e=>h.ac i (by rw [hk,e]) hi)]
   exact hB i (by have:=h.lc i hi;omega)⟩) (by simp) (scos_unit _)
 have e1:(optH (optH B oA ⟨1,true,csA s⟩) oB ⟨1,true,csN s⟩).upd 13 ⟨0,true,[todoV oA s.sets.length,todoV oB s.counts.length]++[.lst (s.scores.map Sco.v)]++[]⟩ =
   optH ((optH B oA ⟨1,true,csA s⟩).upd 13 ⟨0,true,[todoV oA s.sets.length]++[todoV oB s.counts.length]++[.lst (s.scores.map Sco.v)]⟩) oB ⟨1,true,csN s⟩:=optH_upd (n13 oB h.lb)
 rw [e1] at c1
 have c2:=g_fin (Hb:=optH B oA ⟨1,true,csA s⟩) (ci:=13) (u:=1) (n:=s.counts.length) (o:=oB) (pre:=[todoV oA s.sets.length]) (suf:=[.lst (s.scores.map Sco.v)]) (xs:=s.counts.map I64) (ds:=ds)
  (by intro d hd;simp at hd;rcases hd with rfl|rfl;exact todo_one _ _;rfl) (fun e=>by rw [h.nb e];rfl) (fun i hi=>⟨by have:=h.lb i hi;omega,by
   rw [optH_ne (fun k hk e=>h.ab i (by rw [hk,e]) hi)]
   exact hB i (by have:=h.lb i hi;omega)⟩) (by simp) (ints_unit1 _)
 have e2:(optH B oA ⟨1,true,csA s⟩).upd 13 ⟨0,true,[todoV oA s.sets.length]++[.lst (s.counts.map I64)]++[.lst (s.scores.map Sco.v)]⟩ =
   optH (B.upd 13 ⟨0,true,[]++[todoV oA s.sets.length]++[.lst (s.counts.map I64),.lst (s.scores.map Sco.v)]⟩) oA ⟨1,true,csA s⟩:=optH_upd (n13 oA h.la)
 rw [e2] at c2
 have c3:=g_fin (Hb:=B) (ci:=13) (u:=1) (n:=s.sets.length) (o:=oA) (pre:=[]) (suf:=[.lst (s.counts.map I64),.lst (s.scores.map Sco.v)]) (xs:=s.sets.map I64) (ds:=ds)
  (by intro d hd;simp at hd;rcases hd with rfl|rfl<;>rfl) (fun e=>by rw [h.na e];rfl) (fun i hi=>⟨by have:=h.la i hi;omega,hB i (by have:=h.la i hi;omega)⟩) (by simp) (ints_unit1 _)
 exact (c1.trans c2).trans c3
end
theorem lastP_cells (l:List Sco) (n:Int) (h:l≠[]):cellsL ((lastP l n).map Sco.v)=(cellsL (l.map Sco.v)).take ((l.length-1) * 2+1)++[I64 n]++(cellsL (l.map Sco.v)).drop ((l.length-1) * 2+1+1):=by
 obtain ⟨r,x,rfl⟩:∃ r x,l=r++[x]:=⟨l.dropLast,l.getLast h,(List.dropLast_concat_getLast h).symm⟩
 have hl:(cellsL (r.map Sco.v)).length=r.length * 2:=by rw [cellsL_length (scos_unit r),List.length_map]
 rw [lastP_app,List.map_append,List.map_append,cellsL_append,cellsL_append]
 have e1:cellsL ([(⟨x.name,n⟩:Sco)].map Sco.v)=[.str x.name,I64 n]:=rfl
 have e2:cellsL ([x].map Sco.v)=[.str x.name,I64 x.points]:=rfl
 rw [e1,e2,List.length_append,List.length_singleton,Nat.add_sub_cancel, ← hl,List.take_length_add_append,show (cellsL (r.map Sco.v)).length+1+1=(cellsL (r.map Sco.v)).length+2 from rfl,List.drop_length_add_append]
 simp
theorem lastP_len (l:List Sco) (n:Int) (h:l≠[]):(lastP l n).length=l.length:=by
 obtain ⟨r,x,rfl⟩:∃ r x,l=r++[x]:=⟨l.dropLast,l.getLast h,(List.dropLast_concat_getLast h).symm⟩
 rw [lastP_app];simp
theorem lastP_name {l:List Sco} {n:Int} (h:l≠[]) {x:Sco} (hx:x∈lastP l n):∃ y∈l,y.name=x.name:=by
 obtain ⟨r,z,rfl⟩:∃ r x,l=r++[x]:=⟨l.dropLast,l.getLast h,(List.dropLast_concat_getLast h).symm⟩
 rw [lastP_app] at hx
 rcases List.mem_append.1 hx with hx|hx
 ·exact ⟨x,by simp [hx],rfl⟩
 ·simp at hx;subst hx;exact ⟨z,by simp,rfl⟩
end Go.Pb
namespace Go.Proofs.YtndjhpjcankkaaaGreatDoor
open Go.Eng (IC IOper DReg IFn IsFn Callable)
open Go.Sym Go.Pb
theorem c_DecodeR (c:Book) (hl:lenB c) (t:List UInt8) (ht:t.length≤1000000):PC Tryz.prog 22 [c.v,.str t] (.tup [(decR41 c t).1.v,I64 (decR41 c t).2]):=by
 have hv:=c_validR c hl
 refine PC.of mixedU isU22 (Nat.le_of_ble_eq_true rfl) (by simp [DV.nlL,DV.nl,nlL_ints,nlL_scos,nlL_adjs]) (by simp [DV.nlL,DV.nl,nlL_ints,nlL_scos,nlL_adjs]) ?_
 show IW Tryz.prog 119 u22_1 ⟨argT _,_,_⟩ (rt [.cell 4 3 true,.tmp 5] _)
 by_cases e1:validBM c=0
 rotate_left
 ·have e1':(validBM c != 0)=true:=by simpa using e1
  repeat' ((with_reducible first|refine wr ?_|refine cpc hv ?_|refine k_cu ?_ ?_|refine wb2 ?_ ?_<;>(intro hb;try simp only [hb])|fail)<;>try simp only [go_sem,seval,e1'])
  have er:decR41 c t=(noSt,1):=by simp [decR41,e1]
  rw [er]
  exact pc_no
 have e1':(validBM c != 0)=false:=by simpa using e1
 obtain ⟨f1,f2,f3,f4,f5⟩:=valid_fit e1
 obtain ⟨m,hm⟩:∃ m:Nat,c.cnt=(m:Int):=⟨c.cnt.toNat,by omega⟩
 have hm32:m≤32:=by omega
 have hb0:bOf c=c.adjs.length+m:=by unfold bOf;rw [hm];simp
 have hls:=c_lines t ht
 have hgl:(splitM t).getLast? = some []↔(splitM t).getLast (splitM_ne t)=[]:=by rw [List.getLast?_eq_some_getLast (splitM_ne t)];simp
 have hsl:∀ l∈(splitM t).dropLast,l.length≤1000000:=fun l h=>by have:=split_le t l ((List.dropLast_sublist _).subset h);omega
 have hdec:decR41 c t=(if (splitM t).getLast (splitM_ne t)≠[]∨(splitM t).dropLast.length≠c.adjs.length+m+2 * c.scores.length then (noSt,62)
   else match parR c.adjs.length (c.adjs.length+m) 0 (splitM t).dropLast noSt with
    | none=>(noSt,62)
    | some s=>if isStM c s=false then (noSt,62) else (s,0):BSt × Int):=by
  unfold decR41;rw [if_neg (by simp [e1]),hb0];try rfl
 rw [hdec]
 obtain ⟨P,hP⟩:∃ P,P=(splitM t).dropLast:=⟨_,rfl⟩
 rw [← hP] at hls hsl ⊢
 clear hdec hP
 have w1:IntKind.i64.wrap ((c.adjs.length:Int)+c.cnt)=((c.adjs.length+m:Nat):Int):=by rw [hm,w64 (by omega) (by omega)];omega
 have w2:IntKind.i64.wrap (2 * (c.scores.length:Int))=((2 * c.scores.length:Nat):Int):=by rw [w64 (by omega) (by omega)];omega
 have w3:IntKind.i64.wrap (((c.adjs.length+m:Nat):Int)+((2 * c.scores.length:Nat):Int))=((c.adjs.length+m+2 * c.scores.length:Nat):Int):=by rw [w64 (by omega) (by omega)];omega
 by_cases e2:(splitM t).getLast? = some []
 rotate_left
 ·have e2':decide ((splitM t).getLast? = some [])=false:=by simpa using e2
  rw [if_pos (.inl fun h=>e2 (hgl.2 h))]
  repeat' ((with_reducible first|refine wr ?_|refine cpc hv ?_|refine cpc hls ?_|refine k_cu ?_ ?_|refine wb2 ?_ ?_<;>(intro hb;try simp only [hb])|fail)<;>try simp only [go_sem,seval,e1',w1,w2,w3,e2',List.length_map])
  exact pc_no
 have e2':decide ((splitM t).getLast? = some [])=true:=by simpa using e2
 by_cases e3:P.length=c.adjs.length+m+2 * c.scores.length
 rotate_left
 ·have e3':((P.length:Int) != ((c.adjs.length+m+2 * c.scores.length:Nat):Int))=true:=by simp;omega
  rw [if_pos (.inr e3)]
  repeat' ((with_reducible first|refine wr ?_|refine cpc hv ?_|refine cpc hls ?_|refine k_cu ?_ ?_|refine wb2 ?_ ?_<;>(intro hb;try simp only [hb])|fail)<;>try simp only [go_sem,seval,e1',w1,w2,w3,e2',e3',List.length_map])
  exact pc_no
 have e3':((P.length:Int) != ((c.adjs.length+m+2 * c.scores.length:Nat):Int))=false:=by simp;omega
 rw [if_neg (by rw [not_or];exact ⟨fun h=>h (hgl.1 e2),fun h=>h e3⟩)]
 repeat' ((with_reducible first|refine wr ?_|refine cpc hv ?_|refine cpc hls ?_|refine k_cu ?_ ?_|refine wb2 ?_ ?_<;>(intro hb;try simp only [hb])|fail)<;>try simp only [go_sem,seval,e1',w1,w2,w3,e2',e3',List.length_map])
 obtain ⟨B,hB⟩:∃ B:Hp,B=(Sym.nil.upd 0 ⟨0,true,csB c⟩).upd 1 ⟨0,true,[.snil,.snil,.snil]⟩:=⟨_,rfl⟩
 have hB0:B 0=some ⟨0,true,csB c⟩:=by rw [hB];rfl
 have hB1:B 1=some ⟨0,true,[.snil,.snil,.snil]⟩:=by rw [hB];rfl
 have hBn:∀ j,2≤j→B j=none:=fun j hj=>by rw [hB,h_ne (by omega),h_ne (by omega)];rfl
 obtain ⟨a,ha⟩:∃ a,a=c.adjs.length:=⟨_,rfl⟩
 obtain ⟨b,hb⟩:∃ b,b=a+m:=⟨_,rfl⟩
 obtain ⟨k,hk⟩:∃ k,k=c.scores.length:=⟨_,rfl⟩
 rw [← ha] at e3 ⊢
 rw [← hb, ← hk] at e3
 rw [← hb]
 have ha32:a≤32:=by omega
 obtain ⟨R,hR⟩:∃ R:BSt × Int,R=(match parR a b 0 P noSt with
    | none=>(noSt,62)
    | some s=>if isStM c s=false then (noSt,62) else (s,0)):=⟨_,rfl⟩
 rw [← hR]
 refine i_loop (fun q:Nat × (Option Nat × Option Nat × Option Nat) × BSt=>[(2,.ptr 0 0),(4,.ptr 1 0),(6,strs P),(8,I64 (a:Int)),(9,I64 (b:Int)),(10,.ptr 13 0),(11,I64 q.1)])
  (fun q=>dF B q.2.1.1 q.2.1.2.1 q.2.1.2.2 q.2.2)
  (fun q cc=>14≤cc∧q.1≤P.length∧OkF q.2.1.1 q.2.1.2.1 q.2.1.2.2 q.2.2 cc∧parR a b 0 P noSt=parR a b q.1 (P.drop q.1) q.2.2∧q.2.2.sets.length≤q.1∧q.2.2.counts.length≤q.1∧q.2.2.scores.length≤q.1∧(b≤q.1→(q.1-b) % 2=1→q.2.2.scores≠[])∧(∀ x∈q.2.2.scores,x.name.length≤1000000))
  (fun q=>P.length-q.1) (0,(none,none,none),noSt)
  (by simp [tmLe,tm,Tm.upd]) ?_ ⟨by omega,by simp,⟨by simp,by simp,by simp,by simp,by simp,by simp,by simp [noSt],by simp [noSt],by simp [noSt]⟩,by simp,by simp [noSt],by simp [noSt],by simp [noSt],by simp,by simp [noSt]⟩ ?_
 ·intro j q hj
  rw [hB] at hj
  exact hj
 rintro ⟨i,⟨oA,oB,oC⟩,s⟩ cc ⟨h14,hi,hok,hpar,hla,hlb,hlc,hne,hnm⟩
 simp only at hi hok hpar hla hlb hlc hne hnm
 simp only
 have g0:=(dF_lo (B:=B) hok (j:=0) (by omega)).trans hB0
 have g1:=(dF_lo (B:=B) hok (j:=1) (by omega)).trans hB1
 have g13:=dF_13 (B:=B) hok
 by_cases hlt:i<P.length
 ·have hd:decide ((i:Int)<P.length)=true:=by simpa using hlt
  have hw:IntKind.i64.wrap ((i:Int)+1)=((i+1:Nat):Int):=by rw [w64 (by omega) (by omega)];omega
  have hg:P[i]? = some P[i]:=List.getElem?_eq_getElem hlt
  have hyl:=hsl _ (List.getElem_mem hlt)
  have hdr:P.drop i=P[i] :: P.drop (i+1):=List.drop_eq_getElem_cons hlt
  generalize P[i]=y at hg hyl hdr
  rw [hdr] at hpar
  have hnu:=c_number y hyl
  have hlA:(csA s).length=s.sets.length * 1:=by rw [cellsL_length (ints_unit1 _),List.length_map]
  have hlN:(csN s).length=s.counts.length * 1:=by rw [cellsL_length (ints_unit1 _),List.length_map]
  have hlO:(csO s).length=s.scores.length * 2:=by rw [cellsL_length (scos_unit _),List.length_map]
  have hfr:∀ j,cc≤j→dF B oA oB oC s j=none:=fun j hj=>(dF_hi hok (by omega) hj).trans (hBn j (by omega))
  by_cases hsc:b≤i∧(i-b) % 2=0
  · -- a name
   have z1:decide ((i:Int)≥(b:Int))=true:=by simp only [decide_eq_true_eq];omega
   have z2:IntKind.i64.wrap ((i:Int)-(b:Int))=((i-b:Nat):Int):=by rw [w64 (by omega) (by omega)];omega
   have z3:((i-b:Nat):Int).tmod 2=(((i-b) % 2:Nat):Int):=nat_tmod _ 2
   have z4:IntKind.i64.wrap (((i-b) % 2:Nat):Int)=0:=by rw [hsc.2,w64 (by omega) (by omega)];rfl
   have z5:(((i-b) % 2:Nat):Int)=0:=by rw [hsc.2];rfl
   rw [parR,if_pos hsc] at hpar
   repeat' ((with_reducible first|refine wr ?_|refine k_cu ?_ ?_|refine wb2 ?_ ?_<;>(intro hb;try simp only [hb])|fail)<;>try simp only [go_sem,seval,hd,hg,hw,z1,z2,r_rem,z3,z4,z5,g0,g1,g13])
   refine x_eval (r_apptodo (cs:=csO s) (fun e=>by simp [csO,hok.nc e,cellsL]) (fun j hj=>?_) hlO (by omega) (by omega) (by omega)) ?_
   ·have:=hok.lc j hj
    rw [h_ne (by omega)]
    exact dF_C hok hj
   have dk:∀ j,(∀ k,oC=some k→¬ j=k)→¬ j=cc+7→∀ bk,delO ((dF B oA oB oC s).upd (cc+7) bk) oC j=dF B oA oB oC s j:=fun j h1 h2 bk=>by rw [delO_ne h1,h_ne h2]
   have d0:=fun bk=>(dk 0 (fun k hk=>by have:=hok.lc k hk;omega) (by omega) bk).trans g0
   have d1:=fun bk=>(dk 1 (fun k hk=>by have:=hok.lc k hk;omega) (by omega) bk).trans g1
   have d13:=fun bk=>(dk 13 (fun k hk=>by have:=hok.lc k hk;omega) (by omega) bk).trans g13
   have ne0:=nes5 0 1 13 (cc+7) (cc+11) (by omega)
   simp only [go_sem,seval,ne0,hw,g0,g1,g13,d0,d1,d13,hg]
   repeat' ((with_reducible first|refine wr ?_|refine k_cu ?_ ?_|refine wb2 ?_ ?_<;>(intro hb;try simp only [hb])|fail)<;>try simp only [go_sem,seval,hd,hg,hw,g0,g1,g13,d0,d1,d13,ne0])
   refine ⟨(i+1,(oA,oB,some (cc+11)), { s with scores:=s.scores++[⟨y,0⟩] }),rfl,sub_dF (fun j hj=>?_) ?_ (fun j hj=>?_) (fun j hj=>?_) (fun j q hj=>?_),inv ⟨by omega,hlt,(hok.setC (by omega) (by omega) _).mono (by omega),hpar,by simp only;omega,by simp only;omega,by simp only [List.length_append,List.length_singleton];omega,by simp,fun x hx=>?_⟩,by simp only;omega⟩
   ·cases hj
    rw [h_ne (by omega),h_same]
    show _=some (⟨2,true,cellsL ((s.scores++[(⟨y,0⟩:Sco)]).map Sco.v)⟩:Blk)
    rw [List.map_append,cellsL_append];rfl
   ·rw [h_same]
    show _=some (⟨0,true,[todoV oA s.sets.length,todoV oB s.counts.length,.slc (cc+11) 0 (s.scores++[(⟨y,0⟩:Sco)]).length]⟩:Blk)
    rw [List.length_append];rfl
   ·have h1:=hok.lb j hj
    rw [h_ne (by omega),h_ne (by omega),dk j (fun k hk e=>hok.bc j hj (by rw [hk,e])) (by omega)]
    exact dF_B hok hj
   ·have h1:=hok.la j hj
    rw [h_ne (by omega),h_ne (by omega),dk j (fun k hk e=>hok.ac j hj (by rw [hk,e])) (by omega)]
    exact dF_A hok hj
   ·have h2:j<2:=by
     rcases Nat.lt_or_ge j 2 with h|h
     ·exact h
     ·rw [hBn j h] at hj;cases hj
    rw [h_ne (by omega),h_ne (by omega),dk j (fun k hk=>by have:=hok.lc k hk;omega) (by omega),dF_lo hok (by omega)]
    exact hj
   ·simp only [List.mem_append,List.mem_singleton] at hx
    rcases hx with hx|rfl
    ·exact hnm x hx
    ·exact hyl
  ·have hnb:i<b∨(b≤i∧(i-b) % 2=1):=by omega
   rw [parR,if_neg hsc] at hpar
   have hz:(decide ((i:Int)≥(b:Int))=false)∨(decide ((i:Int)≥(b:Int))=true∧IntKind.i64.wrap ((i:Int)-(b:Int))=((i-b:Nat):Int)∧((i-b:Nat):Int).tmod 2=1):=by
    rcases hnb with h|⟨h,h2⟩
    ·left;simp only [decide_eq_false_iff_not];omega
    ·right
     exact ⟨by simp only [decide_eq_true_eq];omega,by rw [w64 (by omega) (by omega)];omega,(nat_tmod _ 2).trans (by rw [h2];rfl)⟩
   cases hn:numR y with
   | none =>
    rw [hn] at hpar
    simp only at hpar
    rw [numRV,hn] at hnu
    simp only at hnu
    rw [hpar] at hR
    simp only at hR
    rw [hR]
    rcases hz with z1|⟨z1,z2,z3⟩
    ·repeat' ((with_reducible first|refine wr ?_|refine cpc hnu ?_|refine k_cu ?_ ?_|refine wb2 ?_ ?_<;>(intro hb;try simp only [hb])|fail)<;>try simp only [go_sem,seval,hd,hg,hw,z1,g0,g1,g13])
     exact pc_no
    ·repeat' ((with_reducible first|refine wr ?_|refine cpc hnu ?_|refine k_cu ?_ ?_|refine wb2 ?_ ?_<;>(intro hb;try simp only [hb])|fail)<;>try simp only [go_sem,seval,hd,hg,hw,z1,z2,r_rem,z3,g0,g1,g13])
     exact pc_no
   | some n =>
    rw [hn] at hpar
    simp only at hpar
    rw [numRV,hn] at hnu
    simp only at hnu
    by_cases hia:i<a
    ·have y1:decide ((i:Int)<(a:Int))=true:=by simp only [decide_eq_true_eq];omega
     have z1:decide ((i:Int)≥(b:Int))=false:=by simp only [decide_eq_false_iff_not];omega
     rw [if_pos hia] at hpar
     have ne0:=nes5 0 1 13 cc (cc+1) (by omega)
     repeat' ((with_reducible first|refine wr ?_|refine cpc hnu ?_|refine k_cu ?_ ?_|refine wb2 ?_ ?_<;>(intro hb;try simp only [hb])|fail)<;>try simp only [go_sem,seval,hd,hg,hw,z1,y1,g0,g1,g13,ne0])
     refine k_eval (r_apptodo (cs:=csA s) (fun e=>by simp [csA,hok.na e,cellsL]) (fun j hj=>?_) hlA (by omega) (by omega) (by omega)) ?_
     ·have:=hok.la j hj
      rw [h_ne (by omega)]
      exact dF_A hok hj
     have dk:∀ j,(∀ k,oA=some k→¬ j=k)→¬ j=cc→∀ bk,delO ((dF B oA oB oC s).upd cc bk) oA j=dF B oA oB oC s j:=fun j h1 h2 bk=>by rw [delO_ne h1,h_ne h2]
     have d0:=fun bk=>(dk 0 (fun k hk=>by have:=hok.la k hk;omega) (by omega) bk).trans g0
     have d1:=fun bk=>(dk 1 (fun k hk=>by have:=hok.la k hk;omega) (by omega) bk).trans g1
     have d13:=fun bk=>(dk 13 (fun k hk=>by have:=hok.la k hk;omega) (by omega) bk).trans g13
     simp only [go_sem,seval,ne0,hw,g0,g1,g13,d0,d1,d13,hg]
     repeat' ((with_reducible first|refine wr ?_|refine k_cu ?_ ?_|refine wb2 ?_ ?_<;>(intro hb;try simp only [hb])|fail)<;>try simp only [go_sem,seval,hd,hg,hw,g0,g1,g13,d0,d1,d13,ne0])
     refine ⟨(i+1,(some (cc+1),oB,oC), { s with sets:=s.sets++[n] }),rfl,sub_dF (fun j hj=>?_) ?_ (fun j hj=>?_) (fun j hj=>?_) (fun j q hj=>?_),inv ⟨by omega,hlt,(hok.setA (by omega) (by omega) _).mono (by omega),hpar,by (try simp only [List.length_append,List.length_singleton]);omega,by (try simp only [List.length_append,List.length_singleton]);omega,by simp only;omega,fun h1 h2=>by omega,hnm⟩,by simp only;omega⟩
     ·have h1:=hok.lc j hj
      rw [h_ne (by omega),h_ne (by omega),dk j (fun k hk e=>hok.ac k hk (by rw [← e];exact hj)) (by omega)]
      exact dF_C hok hj
     ·rw [h_same]
      show _=some (⟨0,true,[.slc (cc+1) 0 (s.sets++[n]).length,todoV oB s.counts.length,todoV oC s.scores.length]⟩:Blk)
      rw [List.length_append];rfl
     ·have h1:=hok.lb j hj
      rw [h_ne (by omega),h_ne (by omega),dk j (fun k hk e=>hok.ab k hk (by rw [← e];exact hj)) (by omega)]
      exact dF_B hok hj
     ·cases hj
      rw [h_ne (by omega),h_same]
      show _=some (⟨1,true,cellsL ((s.sets++[n]).map I64)⟩:Blk)
      rw [List.map_append,cellsL_append];rfl
     ·have h2:j<2:=by
       rcases Nat.lt_or_ge j 2 with h|h
       ·exact h
       ·rw [hBn j h] at hj;cases hj
      rw [h_ne (by omega),h_ne (by omega),dk j (fun k hk=>by have:=hok.la k hk;omega) (by omega),dF_lo hok (by omega)]
      exact hj
    have y1:decide ((i:Int)<(a:Int))=false:=by simp only [decide_eq_false_iff_not];omega
    rw [if_neg hia] at hpar
    by_cases hib:i<b
    ·have y2:decide ((i:Int)<(b:Int))=true:=by simp only [decide_eq_true_eq];omega
     have z1:decide ((i:Int)≥(b:Int))=false:=by simp only [decide_eq_false_iff_not];omega
     rw [if_pos hib] at hpar
     have ne0:=nes5 0 1 13 cc (cc+1) (by omega)
     repeat' ((with_reducible first|refine wr ?_|refine cpc hnu ?_|refine k_cu ?_ ?_|refine wb2 ?_ ?_<;>(intro hb;try simp only [hb])|fail)<;>try simp only [go_sem,seval,hd,hg,hw,z1,y1,y2,g0,g1,g13,ne0])
     refine k_eval (r_apptodo (cs:=csN s) (fun e=>by simp [csN,hok.nb e,cellsL]) (fun j hj=>?_) hlN (by omega) (by omega) (by omega)) ?_
     ·have:=hok.lb j hj
      rw [h_ne (by omega)]
      exact dF_B hok hj
     have dk:∀ j,(∀ k,oB=some k→¬ j=k)→¬ j=cc→∀ bk,delO ((dF B oA oB oC s).upd cc bk) oB j=dF B oA oB oC s j:=fun j h1 h2 bk=>by rw [delO_ne h1,h_ne h2]
     have d0:=fun bk=>(dk 0 (fun k hk=>by have:=hok.lb k hk;omega) (by omega) bk).trans g0
     have d1:=fun bk=>(dk 1 (fun k hk=>by have:=hok.lb k hk;omega) (by omega) bk).trans g1
     have d13:=fun bk=>(dk 13 (fun k hk=>by have:=hok.lb k hk;omega) (by omega) bk).trans g13
     simp only [go_sem,seval,ne0,hw,g0,g1,g13,d0,d1,d13,hg]
     repeat' ((with_reducible first|refine wr ?_|refine k_cu ?_ ?_|refine wb2 ?_ ?_<;>(intro hb;try simp only [hb])|fail)<;>try simp only [go_sem,seval,hd,hg,hw,g0,g1,g13,d0,d1,d13,ne0])
     refine ⟨(i+1,(oA,some (cc+1),oC), { s with counts:=s.counts++[n] }),rfl,sub_dF (fun j hj=>?_) ?_ (fun j hj=>?_) (fun j hj=>?_) (fun j q hj=>?_),inv ⟨by omega,hlt,(hok.setB (by omega) (by omega) _).mono (by omega),hpar,by (try simp only [List.length_append,List.length_singleton]);omega,by (try simp only [List.length_append,List.length_singleton]);omega,by simp only;omega,fun h1 h2=>by omega,hnm⟩,by simp only;omega⟩
     ·have h1:=hok.lc j hj
      rw [h_ne (by omega),h_ne (by omega),dk j (fun k hk e=>hok.bc k hk (by rw [← e];exact hj)) (by omega)]
      exact dF_C hok hj
     ·rw [h_same]
      show _=some (⟨0,true,[todoV oA s.sets.length,.slc (cc+1) 0 (s.counts++[n]).length,todoV oC s.scores.length]⟩:Blk)
      rw [List.length_append];rfl
     ·cases hj
      rw [h_ne (by omega),h_same]
      show _=some (⟨1,true,cellsL ((s.counts++[n]).map I64)⟩:Blk)
      rw [List.map_append,cellsL_append];rfl
     ·have h1:=hok.la j hj
      rw [h_ne (by omega),h_ne (by omega),dk j (fun k hk e=>hok.ab j hj (by rw [hk,e])) (by omega)]
      exact dF_A hok hj
     ·have h2:j<2:=by
       rcases Nat.lt_or_ge j 2 with h|h
       ·exact h
       ·rw [hBn j h] at hj;cases hj
      rw [h_ne (by omega),h_ne (by omega),dk j (fun k hk=>by have:=hok.lb k hk;omega) (by omega),dF_lo hok (by omega)]
      exact hj
    have y2:decide ((i:Int)<(b:Int))=false:=by simp only [decide_eq_false_iff_not];omega
    rw [if_neg hib] at hpar
    have hodd:b≤i∧(i-b) % 2=1:=by omega
    rcases hz with z1|⟨z1,z2,z3⟩
    ·simp only [decide_eq_false_iff_not] at z1;omega
    have hne2:=hne hodd.1 hodd.2
    obtain ⟨id,hid⟩:∃ id,oC=some id:=by
     cases oC with
     | none=>exact absurd (hok.nc rfl) hne2
     | some id=>exact ⟨id,rfl⟩
    have hpos:0<s.scores.length:=List.length_pos_iff.2 hne2
    subst hid
    have hsl:∀ k:Nat,k<s.scores.length→iadR 2 (.slc id 0 s.scores.length) (I64 (k:Int))=some (.ptr id (k * 2)):=fun k hk=>by
     have:=r_iadsn (sz:=2) (id:=id) (off:=0) (k:=.i64) hk
     simpa using this
    have hsl1:=hsl (s.scores.length-1) (by omega)
    have wl:IntKind.i64.wrap ((s.scores.length:Int)-1)=((s.scores.length-1:Nat):Int):=by rw [w64 (by omega) (by omega)];omega
    have gid:=dF_C (B:=B) hok (i:=id) rfl
    have lid:=hok.lc id rfl
    have hsb:∀ (H:Hp) c,stB H c id 1 ((s.scores.length-1) * 2+1) (I64 n) (some ⟨2,true,csO s⟩)=some (.tup [],H.upd id ⟨2,true,cellsL ((lastP s.scores n).map Sco.v)⟩,c):=fun H c=>by
     rw [lastP_cells _ _ hne2]
     exact b_st (H:=H) (c:=c) (id:=id) (i:=1) (off:=(s.scores.length-1) * 2+1) (v:=I64 n) (u:=2) (cs:=csO s) rfl (by rw [hlO];omega) rfl
    have hll:=lastP_len s.scores n hne2
    have ne0:=nes4 0 1 13 id (by omega)
    repeat' ((with_reducible first|refine wr ?_|refine cpc hnu ?_|refine k_cu ?_ ?_|refine wb2 ?_ ?_<;>(intro hb;try simp only [hb])|fail)<;>try simp only [go_sem,seval,hd,hg,hw,z1,z2,r_rem,z3,y1,y2,g0,g1,g13,wl,hsl1,gid,hsb,ne0])
    refine ⟨(i+1,(oA,oB,some id), { s with scores:=lastP s.scores n }),rfl,sub_dF (fun j hj=>?_) ?_ (fun j hj=>?_) (fun j hj=>?_) (fun j q hj=>?_),inv ⟨by omega,hlt,(hok.stC hne2 _).mono (by omega),hpar,by simp only;omega,by simp only;omega,by simp only [hll];omega,fun h1 h2=>by simp only at h2;omega,fun x hx=>?_⟩,by simp only;omega⟩
    ·cases hj
     rw [h_same]
    ·rw [h_ne (by omega),g13]
     show some (⟨0,true,_⟩:Blk)=some ⟨0,true,[todoV oA s.sets.length,todoV oB s.counts.length,.slc id 0 (lastP s.scores n).length]⟩
     rw [hll];rfl
    ·rw [h_ne (fun e=>hok.bc j hj (by rw [e]))]
     exact dF_B hok hj
    ·rw [h_ne (fun e=>hok.ac j hj (by rw [e]))]
     exact dF_A hok hj
    ·have h2:j<2:=by
      rcases Nat.lt_or_ge j 2 with h|h
      ·exact h
      ·rw [hBn j h] at hj;cases hj
     rw [h_ne (by omega),dF_lo hok (by omega)]
     exact hj
    ·obtain ⟨z,hz1,hz2⟩:=lastP_name hne2 hx
     rw [← hz2];exact hnm z hz1
 ·have hd:decide ((i:Int)<P.length)=false:=by simpa using hlt
  obtain rfl:i=P.length:=by omega
  rw [List.drop_length,parR] at hpar
  rw [hpar] at hR
  simp only at hR
  repeat' ((with_reducible first|refine hold (p:=IW _ _ u22_37 _ _) ?_|refine wr ?_|refine k_cu ?_ ?_|refine wb2 ?_ ?_<;>(intro hb;try simp only [hb])|fail)<;>try simp only [go_sem,seval,hd,g0,g1,g13])
  refine IW.stage (L:=[(2,.ptr 0 0),(4,.ptr 1 0),(10,.ptr 13 0)]) (by simp [tmLe,tm,Tm.upd]) ?_
  refine IW.keep [2,4,10] [.ptr 0 0,.ptr 1 0,.ptr 13 0] (g_dF hok (fun j hj=>hBn j (by omega)) _) ?_
  show IW Tryz.prog 119 u22_37 ⟨tm [(2,.ptr 0 0),(4,.ptr 1 0),(10,.ptr 13 0)],_,_⟩ _
  have hAl:lenT s:=⟨by omega,by omega,by omega,fun x hx=>by have:=hnm x hx;omega⟩
  have his:=c_IsStateR c s hl hAl
  by_cases e4:isStM c s=true
  rotate_left
  ·have e4:isStM c s=false:=by simpa using e4
   rw [hR,if_pos e4]
   repeat' ((with_reducible first|refine wr ?_|refine cpc his ?_|refine k_cu ?_ ?_|refine wb2 ?_ ?_<;>(intro hb;try simp only [hb])|fail)<;>try simp only [go_sem,seval,hB0,hB1,e4])
   exact pc_no
  rw [hR,if_neg (by simp [e4])]
  repeat' ((with_reducible first|refine wr ?_|refine cpc his ?_|refine k_cu ?_ ?_|refine wb2 ?_ ?_<;>(intro hb;try simp only [hb])|fail)<;>try simp only [go_sem,seval,hB0,hB1,e4])
  exact pc_ret rfl
end Go.Proofs.YtndjhpjcankkaaaGreatDoor
namespace Go.Pb
variable [Go.Sym.Tab]
open Go.Sym
theorem ovr_step {mem w:List UInt8} {k j:Nat} {x:UInt8} (hw:k+w.length≤mem.length) (hx:w[j]? = some x):(ovr mem k (w.take j)).set (k+j) x=ovr mem k (w.take (j+1)):=by
 have hj:j<w.length:=(List.getElem?_eq_some_iff.1 hx).1
 have l1:(w.take j).length=j:=by rw [List.length_take];omega
 have l2:(w.take (j+1)).length=j+1:=by rw [List.length_take];omega
 have l3:(mem.take k).length=k:=by rw [List.length_take];omega
 have e:w.take (j+1)=w.take j++[x]:=by rw [List.take_add_one,hx];rfl
 have hd:mem.drop (k+j)=mem[k+j]'(by omega) :: mem.drop (k+j+1):=List.drop_eq_getElem_cons (by omega)
 unfold ovr
 rw [l1,l2,e,hd,List.set_append_right _ _ (by rw [List.length_append,l1,l3];omega),List.length_append,l1,l3,Nat.sub_self,List.set_cons_zero,show k+(j+1)=k+j+1 by omega]
 simp
def wrO (mem:List UInt8) (at_:Nat) (w:List UInt8) (m j:Nat):List UInt8:=ovr mem at_ (w.take (min j m))
def wrM (bud:Int) (out:List UInt8) (k:Nat) (x:UInt8):List UInt8:=if 0<bud then out.set k x else out
theorem wrO_step {mem w:List UInt8} {k j m:Nat} {x:UInt8} (hw:k+w.length≤mem.length) (hx:w[j]? = some x):wrM ((m:Int)-(j:Int)) (wrO mem k w m j) (k+j) x=wrO mem k w m (j+1):=by
 unfold wrM wrO
 by_cases h:j<m
 ·rw [if_pos (by omega),show min j m=j by omega,show min (j+1) m=j+1 by omega,ovr_step hw hx]
 ·rw [if_neg (by omega),show min j m=m by omega,show min (j+1) m=m by omega]
theorem wrO_zero (mem w:List UInt8) (k m:Nat):wrO mem k w m 0=mem:=by
 unfold wrO ovr;simp
theorem wrO_len {mem w:List UInt8} {k:Nat} (hw:k+w.length≤mem.length) (m j:Nat):(wrO mem k w m j).length=mem.length:=by
 unfold wrO
 exact ovr_len (by rw [List.length_take];omega)
theorem wrO_end {mem d:List UInt8} {i m:Nat} (x:UInt8) (hx:x=u8 (bt mem (i * 1031) % 3+1)):wrM ((m:Int)-((d.length+7:Nat):Int)) (wrO mem ((1-i) * 1031) (wordM d) m (d.length+7)) ((1-i) * 1031) x=commitO mem i d m:=by
 unfold wrM wrO commitO
 have e:(wordM d).take (min (d.length+7) m)=(wordM d).take m:=by
  by_cases h:m≤d.length+7
  ·rw [show min (d.length+7) m=m by omega]
  ·rw [show min (d.length+7) m=d.length+7 by omega,List.take_of_length_le (by rw [wordM_len];omega),List.take_of_length_le (by rw [wordM_len];omega)]
 simp only
 rw [e,hx]
 by_cases h:d.length+8≤m
 ·rw [if_pos (by omega),if_pos h]
 ·rw [if_neg (by omega),if_neg h]
end Go.Pb
namespace Go.Proofs.YtndjhpjcankkaaaGreatDoor
open Go.Eng (IC IOper DReg IFn IsFn Callable)
open Go.Sym Go.Pb
theorem bytesC_set (l:List UInt8) (k:Nat) (x:UInt8) (h:k<l.length):(bytesC l).take k++[DV.int .u8 (x.toNat:Int)]++(bytesC l).drop (k+1)=bytesC (l.set k x):=by
 unfold bytesC
 rw [← List.map_take, ← List.map_drop,List.set_eq_take_append_cons_drop,if_pos h]
 simp
theorem c_write (H:Hp) (cc b5 b12 b13 io n at_ place:Nat) (bud:Int) (x:UInt8) (out:List UInt8) (h5:H b5=some ⟨0,true,[I64 bud]⟩) (h12:H b12=some ⟨0,true,[.slc io 0 n]⟩) (h13:H b13=some ⟨0,true,[I64 (at_:Int)]⟩) (ho:H io=some ⟨1,true,bytesC out⟩)
  (hn:n=out.length) (hp:at_+place<n) (hm:n≤100000) (hb : -100000≤bud∧bud≤9223372036854775807) (d1:¬ io=b5) :
  AC Tryz.prog 87 [I64 (place:Int),.int .u8 (x.toNat:Int),.ptr b5 0,.ptr b12 0,.ptr b13 0] H cc (fun v H' c'=>v=.tup []∧H'=(H.upd io ⟨1,true,bytesC (wrM bud out (at_+place) x)⟩).upd b5 ⟨0,true,[I64 (bud-1)]⟩∧c'=cc):=by
 refine AC.body mixedU isU87 (Nat.le_of_ble_eq_true rfl) fun hfr=>?_
 show IW Tryz.prog 17 u87_1 ⟨argT _,_,_⟩ (rt [] _)
 have w1:IntKind.i64.wrap (bud-1)=bud-1:=w64 (by omega) (by omega)
 have w2:IntKind.i64.wrap ((at_:Int)+(place:Int))=((at_+place:Nat):Int):=by rw [w64 (by omega) (by omega)];omega
 have hia:iadR 1 (.slc io 0 n) (I64 ((at_+place:Nat):Int))=some (.ptr io (at_+place)):=by
  have:=r_iadsn (sz:=1) (id:=io) (off:=0) (k:=.i64) hp
  simpa using this
 have hst:∀ (H:Hp) c,stB H c io 1 (at_+place) (.int .u8 (x.toNat:Int)) (some ⟨1,true,bytesC out⟩)=some (.tup [],H.upd io ⟨1,true,bytesC (out.set (at_+place) x)⟩,c):=fun H c=>by
  have h:=b_st (H:=H) (c:=c) (id:=io) (i:=1) (off:=at_+place) (v:=.int .u8 (x.toNat:Int)) (u:=1) (cs:=bytesC out) rfl (by rw [bytesC_len];omega) rfl
  rw [h, ← bytesC_set _ _ _ (by omega)];rfl
 have d1':¬ b5=io:=fun e=>d1 e.symm
 by_cases hlt:0<bud
 ·have q:decide (bud>0)=true:=by simpa using hlt
  rw [wrM,if_pos hlt]
  repeat' ((with_reducible first|refine wr ?_|refine k_cu ?_ ?_|refine wb2 ?_ ?_<;>(intro hb;try simp only [hb])|fail)<;>try simp only [go_sem,seval,h5,h12,h13,ho,q,w1,w2,hia,hst,d1,d1'])
  exact ⟨_,_,GL.refl _ _,rfl,rfl⟩
 ·have q:decide (bud>0)=false:=by simpa using hlt
  rw [wrM,if_neg hlt]
  repeat' ((with_reducible first|refine wr ?_|refine k_cu ?_ ?_|refine wb2 ?_ ?_<;>(intro hb;try simp only [hb])|fail)<;>try simp only [go_sem,seval,h5,h12,h13,ho,q,w1,w2,hia,hst,d1,d1'])
  refine ⟨_,_,GL.refl _ _,rfl,?_⟩
  funext j
  by_cases ej:j=b5
  ·subst ej;rw [h_same,h_same]
  ·rw [h_ne ej,h_ne ej]
   by_cases e2:j=io
   ·subst e2;rw [h_same,ho]
   ·rw [h_ne e2]
theorem slot_bt {mem:List UInt8} {i:Nat} (hi:i≤1) (h:mem.length=2062):bt (slotM mem i) 0=bt mem (i * 1031):=by
 unfold slotM bt
 rw [List.getD_eq_getElem?_getD,List.getD_eq_getElem?_getD,List.getElem?_take,if_pos (by omega),List.getElem?_drop,Nat.add_zero]
theorem c_Commit (mem d:List UInt8) (bud:Int) (hl:mem.length≤1000000) (hd:d.length≤1000000) (hb:I6 bud):PC Tryz.prog 61 [.str mem,.str d,I64 bud] (.tup [.str (commitM mem d bud).1,I64 (commitM mem d bud).2]):=by
 have hcu:=c_current mem hl
 unfold curV at hcu
 refine PC.of mixedU isU61 (Nat.le_of_ble_eq_true rfl) rfl rfl ?_
 show IW Tryz.prog 69 u61_1 ⟨argT _,_,_⟩ (rt [.tmp 6,.tmp 7] _)
 by_cases e1:(curM mem).2.2.2=0
 rotate_left
 ·have e1':((curM mem).2.2.2 != 0)=true:=by simpa using e1
  rw [commitM,if_pos e1]
  repeat' ((with_reducible first|refine wr ?_|refine cpc hcu ?_|refine k_cu ?_ ?_|refine wb2 ?_ ?_<;>(intro hb;try simp only [hb])|fail)<;>try simp only [go_sem,seval,e1'])
  exact pc_ret rfl
 have e1':((curM mem).2.2.2 != 0)=false:=by simpa using e1
 have hlen:=cur_len e1
 obtain ⟨hi,hr⟩:=cur_read e1
 by_cases e2:1024<d.length
 ·have q:decide ((d.length:Int)>1024)=true:=by simp only [decide_eq_true_eq];omega
  rw [commitM,if_neg (by simpa using e1),if_pos e2]
  repeat' ((with_reducible first|refine wr ?_|refine cpc hcu ?_|refine k_cu ?_ ?_|refine wb2 ?_ ?_<;>(intro hb;try simp only [hb])|fail)<;>try simp only [go_sem,seval,e1',q])
  exact pc_ret rfl
 have q:decide ((d.length:Int)>1024)=false:=by simp only [decide_eq_false_iff_not];omega
 have hcm:commitM mem d bud=(commitO mem (curM mem).1 d bud.toNat,if bud<(d.length:Int)+8 then 61 else 0):=by
  rw [commitM,if_neg (by simpa using e1),if_neg e2]
 rw [hcm]
 clear hcm hr
 rw [e1] at hcu e1'
 generalize (curM mem).1=i at hi hcu
 generalize (curM mem).2.1=nn at hcu
 generalize (curM mem).2.2.1=dd at hcu
 obtain ⟨m,hm⟩:∃ m:Nat,m=bud.toNat:=⟨_,rfl⟩
 have hmx:(if 0>bud then 0 else bud)=(m:Int):=by rw [hm];split<;>omega
 have hm6:(m:Int)≤9223372036854775807:=by have:=hb.2;omega
 have hml:bud<(d.length:Int)+8↔m<d.length+8:=by rw [hm];omega
 rw [← hm]
 have w1:IntKind.i64.wrap (1-(i:Int))=((1-i:Nat):Int):=by rw [w64 (by omega) (by omega)];omega
 have w2:IntKind.i64.wrap (((1-i:Nat):Int) * 1031)=(((1-i) * 1031:Nat):Int):=by rw [w64 (by omega) (by omega)];omega
 obtain ⟨A,hA⟩:∃ A,A=(1-i) * 1031:=⟨_,rfl⟩
 rw [← hA] at w2
 have hAl:A≤1031:=by omega
 have hcvr:∀ (H:Hp) c,cvR H c (.str mem)=some (.slc c 0 2062,H.upd c ⟨1,true,bytesC mem⟩,c+1):=fun H c=>by
  simp only [cvR,hlen];rw [if_pos (by unfold maxLen;omega)];rfl
 have hw0:∀ (H:Hp) cc (x:UInt8) (b:Int) out,H 0=some ⟨0,true,[I64 b]⟩→H 2=some ⟨0,true,[.slc 1 0 2062]⟩→H 3=some ⟨0,true,[I64 (A:Int)]⟩→H 1=some ⟨1,true,bytesC out⟩→2062=out.length → -100000≤b∧b≤9223372036854775807 →
   AC Tryz.prog 87 [I64 0,.int .u8 (x.toNat:Int),.ptr 0 0,.ptr 2 0,.ptr 3 0] H cc (fun v H' c'=>v=.tup []∧H'=(H.upd 1 ⟨1,true,bytesC (wrM b out (A+0) x)⟩).upd 0 ⟨0,true,[I64 (b-1)]⟩∧c'=cc):=fun H cc x b out h5 h12 h13 ho hn hb=>c_write H cc 0 2 3 1 2062 A 0 b x out h5 h12 h13 ho hn (by omega) (by omega) hb (by omega)
 have hw00:∀ (H:Hp) cc (b:Int) out,H 0=some ⟨0,true,[I64 b]⟩→H 2=some ⟨0,true,[.slc 1 0 2062]⟩→H 3=some ⟨0,true,[I64 (A:Int)]⟩→H 1=some ⟨1,true,bytesC out⟩→2062=out.length → -100000≤b∧b≤9223372036854775807 →
   AC Tryz.prog 87 [I64 0,.int .u8 0,.ptr 0 0,.ptr 2 0,.ptr 3 0] H cc (fun v H' c'=>v=.tup []∧H'=(H.upd 1 ⟨1,true,bytesC (wrM b out (A+0) 0)⟩).upd 0 ⟨0,true,[I64 (b-1)]⟩∧c'=cc):=fun H cc b out=>hw0 H cc 0 b out
 have hlw:A+(wordM d).length≤mem.length:=by rw [wordM_len];omega
 have hs0:wrM (m:Int) mem A 0=wrO mem A (wordM d) m 1:=by
  have:=wrO_step (mem:=mem) (k:=A) (j:=0) (m:=m) (w:=wordM d) (x:=0) hlw rfl
  rw [wrO_zero] at this
  simpa using this
 have hap:∀ (H:Hp) c' id,apB H c' id 1 1 6 d.length (bytesV d) (some ⟨1,true,bytesC (headM d)⟩)=some (.slc c' 0 (6+d.length),(H.del id).upd c' ⟨1,true,bytesC (headM d++d)⟩,c'+1):=fun H c' id=>by
  rw [b_appx (by rw [bytesC_len];rfl) (by omega) (by omega),show bytesV d=bytesC d from rfl,bytesC_cat]
 have hD:(headM d++d).length=6+d.length:=by rw [List.length_append];rfl
 obtain ⟨D,hDD⟩:∃ D,D=headM d++d:=⟨_,rfl⟩
 have hwD:wordM d=0 :: D:=by rw [hDD];rfl
 rw [← hDD] at hD hap
 obtain ⟨n,hn⟩:∃ n,n=6+d.length:=⟨_,rfl⟩
 rw [← hn] at hD hap
 have hwM:∀ k,(h:k<n)→(wordM d)[k+1]? = some (D[k]'(by omega)):=fun k h=>by rw [hwD,List.getElem?_cons_succ];exact List.getElem?_eq_getElem _
 repeat' ((first|(with_reducible first|refine wr ?_|refine cpc hcu ?_|refine k_cu ?_ ?_)|(with_reducible refine wb2 ?_ ?_<;>(intro hb;try simp only [hb]))|((with_reducible refine AC.call (hw00 _ _ (m:Int) mem rfl rfl rfl rfl hlen.symm ⟨by omega,hm6⟩) ?_);(rintro v H' c' ⟨rfl,rfl,rfl⟩ hcc))|((with_reducible refine AC.call (c_head d (by omega) _ _) ?_);(rintro v H' c' ⟨rfl,rfl,rfl⟩ hcc))|fail)<;>try simp only [go_sem,seval,e1',q,hmx,w1,w2,hcvr,hs0,hap])
 refine i_loop (fun k:Nat=>[(0,.str mem),(5,.ptr 0 0),(8,I64 i),(12,.ptr 2 0),(14,.func 87 [] [.ptr 0 0,.ptr 2 0,.ptr 3 0]),(43,.slc 5 0 n),(44,I64 n),(45,I64 k)])
  (fun k=>((((nil.upd 2 ⟨0,true,[.slc 1 0 2062]⟩).upd 3 ⟨0,true,[I64 (A:Int)]⟩).upd 5 ⟨1,true,bytesC D⟩).upd 1 ⟨1,true,bytesC (wrO mem A (wordM d) m (k+1))⟩).upd 0 ⟨0,true,[I64 ((m:Int)-((k+1:Nat):Int))]⟩)
  (fun k cc=>6≤cc∧k≤n) (fun k=>n-k) 0 (by simp [tmLe,tm,Tm.upd]) ?_ ⟨by omega,by omega⟩ ?_
 ·intro j q hj
  simp only [Hp.upd,Hp.del,nil,Nat.zero_add] at hj ⊢
  by_cases e0:j=0
  ·subst e0;simpa using hj
  by_cases e1:j=1
  ·subst e1;simpa using hj
  by_cases e2:j=2
  ·subst e2;simpa using hj
  by_cases e3:j=3
  ·subst e3;simpa using hj
  by_cases e5:j=5
  ·subst e5;simpa using hj
  ·simp [e0,e1,e2,e3,e5] at hj
 rintro k cc ⟨h6,hk⟩
 have hwl:2062=(wrO mem A (wordM d) m (k+1)).length:=by rw [wrO_len hlw,hlen]
 by_cases hlt:k<n
 ·have hd2:decide ((k:Int)<n)=true:=by simpa using hlt
  have hg:D[k]? = some (D[k]'(by omega)):=List.getElem?_eq_getElem _
  have hst:=wrO_step (m:=m) hlw (hwM k hlt)
  generalize D[k]'(by omega)=x at hg hst
  have hw:IntKind.i64.wrap ((k:Int)+1)=((k+1:Nat):Int):=by rw [w64 (by omega) (by omega)];omega
  have hw':IntKind.i64.wrap (1+(k:Int))=((k+1:Nat):Int):=by rw [w64 (by omega) (by omega)];omega
  have hia:iadR 1 (.slc 5 0 n) (I64 (k:Int))=some (.ptr 5 k):=by
   have:=r_iadsn (sz:=1) (id:=5) (off:=0) (k:=.i64) hlt
   simpa using this
  have hgc:(bytesC D)[k]? = some (.int .u8 (x.toNat:Int)):=by unfold bytesC;rw [List.getElem?_map,hg];rfl
  have hbe:(m:Int)-((k+1:Nat):Int)-1=(m:Int)-((k+1+1:Nat):Int):=by omega
  repeat' ((first|(with_reducible first|refine wr ?_|refine k_cu ?_ ?_)|(with_reducible refine wb2 ?_ ?_<;>(intro hb;try simp only [hb]))|((with_reducible refine AC.call (c_write _ _ 0 2 3 1 2062 A (k+1) ((m:Int)-((k+1:Nat):Int)) x (wrO mem A (wordM d) m (k+1)) rfl rfl rfl rfl hwl (by omega) (by omega) ⟨by omega,by omega⟩ (by omega)) ?_);(rintro v H' c' ⟨rfl,rfl,rfl⟩ hcc))|fail)<;>try simp only [go_sem,seval,hd2,hgc,hw,hw',hia])
  rw [hst,hbe]
  refine ⟨k+1,rfl,?_,inv ⟨by omega,hlt⟩,by omega⟩
  intro j q hj
  by_cases e0:j=0
  ·subst e0;rw [h_same] at hj ⊢;exact hj
  rw [h_ne e0] at hj ⊢
  by_cases e1:j=1
  ·subst e1;rw [h_same] at hj ⊢;exact hj
  rw [h_ne e1] at hj ⊢
  rw [h_ne e0,h_ne e1];exact hj
 ·have hd2:decide ((k:Int)<n)=false:=by simpa using hlt
  obtain rfl:k=n:=by omega
  have w3:IntKind.i64.wrap ((i:Int) * 1031)=((i * 1031:Nat):Int):=by rw [w64 (by omega) (by omega)];omega
  have hix:idxR (.str mem) (I64 ((i * 1031:Nat):Int))=some (.int .u8 (bt mem (i * 1031):Int)):=ix_bt (by omega)
  have haf:=c_after (bt mem (i * 1031)) (bt_lt _ _)
  have hu:(u8 (bt mem (i * 1031) % 3+1)).toNat=bt mem (i * 1031) % 3+1:=by rw [u8_nat];omega
  have hen:=wrO_end (mem:=mem) (d:=d) (i:=i) (m:=m) _ rfl
  rw [show d.length+7=k+1 by omega, ← hA] at hen
  have hcl:(commitO mem i d m).length=2062:=by rw [← hen,wrM];split<;>simp only [List.length_set, ← hwl]
  have hwz:∀ (H:Hp) cc,H 0=some ⟨0,true,[I64 ((m:Int)-((k+1:Nat):Int))]⟩→H 2=some ⟨0,true,[.slc 1 0 2062]⟩→H 3=some ⟨0,true,[I64 (A:Int)]⟩→H 1=some ⟨1,true,bytesC (wrO mem A (wordM d) m (k+1))⟩ →
    AC Tryz.prog 87 [I64 0,.int .u8 ((bt mem (i * 1031) % 3+1:Nat):Int),.ptr 0 0,.ptr 2 0,.ptr 3 0] H cc (fun v H' c'=>v=.tup []∧H'=(H.upd 1 ⟨1,true,bytesC (commitO mem i d m)⟩).upd 0 ⟨0,true,[I64 ((m:Int)-((k+1:Nat):Int)-1)]⟩∧c'=cc):=fun H cc a b c e=>by
   have:=hw0 H cc (u8 (bt mem (i * 1031) % 3+1)) ((m:Int)-((k+1:Nat):Int)) _ a b c e hwl ⟨by omega,by omega⟩
   rw [hu,Nat.add_zero A,hen] at this
   exact this
  have hcv:∀ (H:Hp) b,cvbsR ((H.upd 1 ⟨1,true,bytesC (commitO mem i d m)⟩).upd 0 b) (.slc 1 0 2062)=some (.str (commitO mem i d m)):=fun H b =>
   cv_own (l:=commitO mem i d m) (cs:=bytesC (commitO mem i d m)) (by rw [h_ne (by omega),h_same]) rfl hcl.symm
  by_cases hb8:m<d.length+8
  ·have hb9:decide ((m:Int)-((k+1:Nat):Int)-1<0)=true:=by simp only [decide_eq_true_eq];omega
   rw [if_pos (hml.2 hb8)]
   repeat' ((first|(with_reducible first|refine wr ?_|refine cpc haf ?_|refine k_cu ?_ ?_)|(with_reducible refine wb2 ?_ ?_<;>(intro hb;try simp only [hb]))|((with_reducible refine AC.call (hwz _ _ rfl rfl rfl rfl) ?_);(rintro v H' c' ⟨rfl,rfl,rfl⟩ hcc))|fail)<;>try simp only [go_sem,seval,hd2,w3,hix,hb9,hcv])
   exact pc_ret rfl
  ·have hb9:decide ((m:Int)-((k+1:Nat):Int)-1<0)=false:=by simp only [decide_eq_false_iff_not];omega
   rw [if_neg (fun h=>hb8 (hml.1 h))]
   repeat' ((first|(with_reducible first|refine wr ?_|refine cpc haf ?_|refine k_cu ?_ ?_)|(with_reducible refine wb2 ?_ ?_<;>(intro hb;try simp only [hb]))|((with_reducible refine AC.call (hwz _ _ rfl rfl rfl rfl) ?_);(rintro v H' c' ⟨rfl,rfl,rfl⟩ hcc))|fail)<;>try simp only [go_sem,seval,hd2,w3,hix,hb9,hcv])
   exact pc_ret rfl
end Go.Proofs.YtndjhpjcankkaaaGreatDoor
namespace Go.Proofs.YtndjhpjcankkaaaGreatDoor
open Go.Eng (IC IOper DReg IFn IsFn Callable)
open Go.Sym Go.Pb
theorem c_CommitR (mem d:List UInt8) (bud:Int) (hl:mem.length≤1000000) (hd:d.length≤1000000) (hb:I6 bud):PC Tryz.prog 62 [.str mem,.str d,I64 bud] (.tup [.str (commitM mem d bud).1,I64 (commitM mem d bud).2]):=by
 have hs:=c_SlotsR mem hl
 refine PC.of mixedU isU62 (Nat.le_of_ble_eq_true rfl) rfl rfl ?_
 show IW Tryz.prog 84 u62_1 ⟨argT _,_,_⟩ (rt [.tmp 6,.tmp 7] _)
 by_cases e1:(curM mem).2.2.2=0
 rotate_left
 ·have e1':((curM mem).2.2.2 != 0)=true:=by simpa using e1
  rw [commitM,if_pos e1]
  repeat' ((with_reducible first|refine wr ?_|refine cpc hs ?_|refine k_cu ?_ ?_|refine wb2 ?_ ?_<;>(intro hb;try simp only [hb])|fail)<;>try simp only [go_sem,seval,e1'])
  exact pc_ret rfl
 have e1':((curM mem).2.2.2 != 0)=false:=by simpa using e1
 have hlen:=cur_len e1
 obtain ⟨hi,hr⟩:=cur_read e1
 by_cases e2:1024<d.length
 ·have q:decide ((d.length:Int)>1024)=true:=by simp only [decide_eq_true_eq];omega
  rw [commitM,if_neg (by simpa using e1),if_pos e2]
  repeat' ((with_reducible first|refine wr ?_|refine cpc hs ?_|refine k_cu ?_ ?_|refine wb2 ?_ ?_<;>(intro hb;try simp only [hb])|fail)<;>try simp only [go_sem,seval,e1',q])
  exact pc_ret rfl
 have q:decide ((d.length:Int)>1024)=false:=by simp only [decide_eq_false_iff_not];omega
 have hcm:commitM mem d bud=(commitO mem (curM mem).1 d bud.toNat,if bud<(d.length:Int)+8 then 61 else 0):=by
  rw [commitM,if_neg (by simpa using e1),if_neg e2]
 rw [hcm]
 clear hcm
 rw [e1] at hs e1'
 generalize (curM mem).1=i at hi hs hr
 generalize (curM mem).2.1=nn at hs
 have hrd:=c_readR (slotM mem i) (slot_len hi hlen)
 rw [readR,hr,slot_bt hi hlen] at hrd
 simp only at hrd
 have hh:=c_headR d (by omega)
 obtain ⟨m,hm⟩:∃ m:Nat,m=bud.toNat:=⟨_,rfl⟩
 have hml:bud<(d.length:Int)+8↔m<d.length+8:=by rw [hm];omega
 rw [← hm]
 have w1:IntKind.i64.wrap (1-(i:Int))=((1-i:Nat):Int):=by rw [w64 (by omega) (by omega)];omega
 have w2:IntKind.i64.wrap (((1-i:Nat):Int) * 1031)=(((1-i) * 1031:Nat):Int):=by rw [w64 (by omega) (by omega)];omega
 have w3:IntKind.i64.wrap ((i:Int) * 1031)=((i * 1031:Nat):Int):=by rw [w64 (by omega) (by omega)];omega
 have w4:IntKind.i64.wrap (((i * 1031:Nat):Int)+1031)=((i * 1031+1031:Nat):Int):=by rw [w64 (by omega) (by omega)];omega
 have hsl:slsR mem (some (I64 ((i * 1031:Nat):Int))) (some (I64 ((i * 1031+1031:Nat):Int)))=some (.str (slotM mem i)):=by
  simp only [slsR,boundOf,Int.natCast_nonneg,if_true,Int.toNat_natCast]
  rw [if_pos ⟨by omega,by omega⟩,slotM,Nat.add_sub_cancel_left]
 obtain ⟨A,hA⟩:∃ A,A=(1-i) * 1031:=⟨_,rfl⟩
 rw [← hA] at w2
 have hAl:A≤1031:=by omega
 have hcvr:∀ (H:Hp) c,cvR H c (.str mem)=some (.slc c 0 2062,H.upd c ⟨1,true,bytesC mem⟩,c+1):=fun H c=>by
  simp only [cvR,hlen];rw [if_pos (by unfold maxLen;omega)];rfl
 have hwl:=wordM_len d
 have hlw:A+(wordM d).length≤mem.length:=by rw [hwl];omega
 have a1:=sadd (s:=[0]) (t:=headM d) (by simp [headM_len])
 obtain ⟨w,hw⟩:∃ w,w=wordM d:=⟨_,rfl⟩
 have a2:binR .add (.str (0 :: headM d)) (.str d)=some (.str w):=by
  have:=sadd (s:=0 :: headM d) (t:=d) (by simp [headM_len];omega)
  rw [this,hw];rfl
 have hO:∀ m,m<d.length+8→commitO mem i d m=ovr mem A ((wordM d).take m):=fun m h=>by
  unfold commitO;simp only;rw [if_neg (by omega),hA]
 have hO2:∀ m,d.length+8≤m→commitO mem i d m=(ovr mem A (wordM d)).set A (u8 (bt mem (i * 1031) % 3+1)):=fun m h=>by
  unfold commitO;simp only;rw [if_pos h,hA,List.take_of_length_le (by rw [wordM_len];omega)]
 rw [← hw] at hwl hlw hO hO2
 have hov:∀ k,(ovr mem A (w.take k)).length=2062:=fun k=>(ovr_len (by rw [List.length_take];omega)).trans hlen
 have hcv:∀ (l:List UInt8) (H:Hp),l.length=2062→cvbsR (H.upd 0 ⟨1,true,bytesC l⟩) (.slc 0 0 2062)=some (.str l):=fun l H h=>cv_own (l:=l) (cs:=bytesC l) h_same rfl h.symm
 clear hr
 repeat' ((with_reducible first|refine wr ?_|refine cpc hs ?_|refine cpc hrd ?_|refine cpc hh ?_|refine k_cu ?_ ?_|refine wb2 ?_ ?_<;>(intro hb;try simp only [hb])|fail)<;>try simp only [go_sem,seval,e1',q,w1,w2,w3,w4,hsl,hcvr,a1,a2])
 refine i_loop (fun k:Nat=>[(2,I64 bud),(11,I64 (bt mem (i * 1031):Int)),(13,.slc 0 0 2062),(14,I64 A),(15,.str w),(16,I64 k)])
  (fun k=>nil.upd 0 ⟨1,true,bytesC (ovr mem A (w.take k))⟩)
  (fun k cc=>1≤cc∧k≤w.length∧k≤m) (fun k=>w.length-k) 0 (by simp [tmLe,tm,Tm.upd]) ?_ ⟨by omega,by omega,by omega⟩ ?_
 ·intro j q hj
  rw [List.take_zero,show ovr mem A []=mem by unfold ovr;simp] at hj
  exact hj
 rintro k cc ⟨h1,hk,hkm⟩
 by_cases hlt:k<w.length
 ·have hd2:decide ((k:Int)<w.length)=true:=by simpa using hlt
  by_cases hge:bud≤(k:Int)
  ·have q2:decide ((k:Int)≥bud)=true:=by simpa using hge
   obtain rfl:k=m:=by omega
   have hb8:k<d.length+8:=by omega
   have hcv1:=hcv _ nil (hov k)
   rw [if_pos (hml.2 hb8),hO k hb8]
   repeat' ((with_reducible first|refine wr ?_|refine k_cu ?_ ?_|refine wb2 ?_ ?_<;>(intro hb;try simp only [hb])|fail)<;>try simp only [go_sem,seval,hd2,q2,hcv1])
   exact pc_ret rfl
  have q2:decide ((k:Int)≥bud)=false:=by simpa using hge
  have hg:w[k]? = some (w[k]'(by omega)):=List.getElem?_eq_getElem _
  have hst:=ovr_step hlw hg
  generalize w[k]'(by omega)=x at hg hst
  have hw1:IntKind.i64.wrap ((k:Int)+1)=((k+1:Nat):Int):=by rw [w64 (by omega) (by omega)];omega
  have hw2:IntKind.i64.wrap ((A:Int)+(k:Int))=((A+k:Nat):Int):=by rw [w64 (by omega) (by omega)];omega
  have hix:idxR (.str w) (I64 (k:Int))=some (.int .u8 (x.toNat:Int)):=by rw [r_idx,if_pos (by omega),Int.toNat_natCast,hg];rfl
  have hia:iadR 1 (.slc 0 0 2062) (I64 ((A+k:Nat):Int))=some (.ptr 0 (A+k)):=by
   have:=r_iadsn (sz:=1) (id:=0) (off:=0) (k:=.i64) (n:=A+k) (l:=2062) (by omega)
   simpa using this
  have hsb:∀ (H:Hp) c,stB H c 0 1 (A+k) (.int .u8 (x.toNat:Int)) (some ⟨1,true,bytesC (ovr mem A (w.take k))⟩)=some (.tup [],H.upd 0 ⟨1,true,bytesC (ovr mem A (w.take (k+1)))⟩,c):=fun H c=>by
   have h:=b_st (H:=H) (c:=c) (id:=0) (i:=1) (off:=A+k) (v:=.int .u8 (x.toNat:Int)) (u:=1) (cs:=bytesC (ovr mem A (w.take k))) rfl (by rw [bytesC_len,hov];omega) rfl
   rw [h, ← hst, ← bytesC_set _ _ _ (by rw [hov];omega)];rfl
  repeat' ((with_reducible first|refine wr ?_|refine k_cu ?_ ?_|refine wb2 ?_ ?_<;>(intro hb;try simp only [hb])|fail)<;>try simp only [go_sem,seval,hd2,q2,hw1,hw2,hix,hia,hsb])
  refine ⟨k+1,rfl,?_,inv ⟨by omega,hlt,by omega⟩,by omega⟩
  intro j q hj
  by_cases e0:j=0
  ·subst e0;rw [h_same] at hj ⊢;exact hj
  rw [h_ne e0] at hj;cases hj
 ·have hd2:decide ((k:Int)<w.length)=false:=by simpa using hlt
  obtain rfl:k=w.length:=by omega
  have hov2:=hov w.length
  rw [List.take_length] at hov2 ⊢
  by_cases hge:bud≤(w.length:Int)
  ·have q2:decide ((w.length:Int)≥bud)=true:=by simpa using hge
   have hmw:m=w.length:=by omega
   have hb8:m<d.length+8:=by omega
   have hcv1:=hcv _ nil hov2
   rw [if_pos (hml.2 hb8),hO m hb8,hmw,List.take_length]
   repeat' ((with_reducible first|refine wr ?_|refine k_cu ?_ ?_|refine wb2 ?_ ?_<;>(intro hb;try simp only [hb])|fail)<;>try simp only [go_sem,seval,hd2,q2,hcv1])
   exact pc_ret rfl
  have q2:decide ((w.length:Int)≥bud)=false:=by simpa using hge
  have hb8:d.length+8≤m:=by omega
  rw [if_neg (fun h=>by have:=hml.1 h;omega),hO2 m hb8]
  have hbt:=bt_lt mem (i * 1031)
  have hmd:((bt mem (i * 1031):Nat):Int).tmod 3=((bt mem (i * 1031) % 3:Nat):Int):=nat_tmod _ 3
  have hu:(u8 (bt mem (i * 1031) % 3+1)).toNat=bt mem (i * 1031) % 3+1:=by rw [u8_nat];omega
  have v1:IntKind.i64.wrap ((bt mem (i * 1031) % 3:Nat):Int)=((bt mem (i * 1031) % 3:Nat):Int):=w64 (by omega) (by omega)
  have v2:IntKind.i64.wrap (((bt mem (i * 1031) % 3:Nat):Int)+1)=((bt mem (i * 1031) % 3+1:Nat):Int):=by rw [w64 (by omega) (by omega)];omega
  have v3:IntKind.u8.wrap ((bt mem (i * 1031) % 3+1:Nat):Int)=((u8 (bt mem (i * 1031) % 3+1)).toNat:Int):=by rw [hu,wu8 (by omega) (by omega)]
  generalize u8 (bt mem (i * 1031) % 3+1)=x at v3 ⊢
  have hia:iadR 1 (.slc 0 0 2062) (I64 (A:Int))=some (.ptr 0 A):=by
   have:=r_iadsn (sz:=1) (id:=0) (off:=0) (k:=.i64) (n:=A) (l:=2062) (by omega)
   simpa using this
  have hsb:∀ (H:Hp) c,stB H c 0 1 A (.int .u8 (x.toNat:Int)) (some ⟨1,true,bytesC (ovr mem A w)⟩)=some (.tup [],H.upd 0 ⟨1,true,bytesC ((ovr mem A w).set A x)⟩,c):=fun H c=>by
   have h:=b_st (H:=H) (c:=c) (id:=0) (i:=1) (off:=A) (v:=.int .u8 (x.toNat:Int)) (u:=1) (cs:=bytesC (ovr mem A w)) rfl (by rw [bytesC_len,hov2];omega) rfl
   rw [h, ← bytesC_set _ _ _ (by rw [hov2];omega)];rfl
  have hcv1:=fun H=>hcv ((ovr mem A w).set A x) H (by rw [List.length_set,hov2])
  repeat' ((with_reducible first|refine wr ?_|refine k_cu ?_ ?_|refine wb2 ?_ ?_<;>(intro hb;try simp only [hb])|fail)<;>try simp only [go_sem,seval,hd2,q2,r_rem,hmd,v1,v2,v3,hia,hsb,hcv1])
  exact pc_ret rfl
end Go.Proofs.YtndjhpjcankkaaaGreatDoor
namespace Go.Proofs.YtndjhpjcankkaaaGreatDoor
open Go.Eng (IC IOper DReg IFn IsFn Callable)
open Go.Sym Go.Pb
theorem c_LoadR (c:Book) (hl:lenB c) (mem:List UInt8) (hm:mem.length≤1000000):PC Tryz.prog 25 [c.v,.str mem] (.tup [(loadM c mem).1.v,I64 (loadM c mem).2]):=by
 have hn:=c_NewR c hl
 have ho:=c_OpenR mem hm
 have hd:=c_DecodeR c hl (openM mem).1 (by have:=open_len mem;omega)
 rw [dec_same41] at hd
 refine PC.of mixedU isU25 (Nat.le_of_ble_eq_true rfl) (by simp [DV.nlL,DV.nl,nlL_ints,nlL_scos,nlL_adjs]) (by simp [DV.nlL,DV.nl,nlL_ints,nlL_scos,nlL_adjs]) ?_
 show IW Tryz.prog 38 u25_1 ⟨argT _,_,_⟩ (rt [.cell 4 3 true,.tmp 5] _)
 by_cases e1:validBM c=0
 rotate_left
 ·have e1':(validBM c != 0)=true:=by simpa using e1
  rw [show newM c=(noSt,validBM c) by simp [newM,e1]] at hn
  have er:loadM c mem=(noSt,1):=by rw [loadM,if_pos e1]
  rw [er]
  repeat' ((with_reducible first|refine wr ?_|refine cpc hn ?_|refine k_cu ?_ ?_|refine wb2 ?_ ?_<;>(intro hb;try simp only [hb])|fail)<;>try simp only [go_sem,seval,e1'])
  exact pc_no
 rw [show newM c=(firstM c,0) by simp [newM,e1]] at hn
 have er:loadM c mem=if (openM mem).2≠0 then (firstM c,62) else if (decP41 c (openM mem).1).2≠0 then (firstM c,62) else ((decP41 c (openM mem).1).1,0):=by rw [loadM,if_neg (by simpa using e1)]
 rw [er]
 by_cases e2:(openM mem).2=0
 rotate_left
 ·have e2':((openM mem).2 != 0)=true:=by simpa using e2
  rw [if_pos e2]
  repeat' ((with_reducible first|refine wr ?_|refine cpc hn ?_|refine cpc ho ?_|refine k_cu ?_ ?_|refine wb2 ?_ ?_<;>(intro hb;try simp only [hb])|fail)<;>try simp only [go_sem,seval,e2'])
  all_goals exact pc_ret rfl
 have e2':((openM mem).2 != 0)=false:=by simpa using e2
 rw [if_neg (by simpa using e2)]
 by_cases e3:(decP41 c (openM mem).1).2=0
 rotate_left
 ·have e3':((decP41 c (openM mem).1).2 != 0)=true:=by simpa using e3
  rw [if_pos e3]
  repeat' ((with_reducible first|refine wr ?_|refine cpc hn ?_|refine cpc ho ?_|refine cpc hd ?_|refine k_cu ?_ ?_|refine wb2 ?_ ?_<;>(intro hb;try simp only [hb])|fail)<;>try simp only [go_sem,seval,e2',e3'])
  all_goals exact pc_ret rfl
 have e3':((decP41 c (openM mem).1).2 != 0)=false:=by simpa using e3
 rw [if_neg (by simpa using e3)]
 repeat' ((with_reducible first|refine wr ?_|refine cpc hn ?_|refine cpc ho ?_|refine cpc hd ?_|refine k_cu ?_ ?_|refine wb2 ?_ ?_<;>(intro hb;try simp only [hb])|fail)<;>try simp only [go_sem,seval,e2',e3'])
 all_goals exact pc_ret rfl
def saveM (c:Book) (s:BSt) (mem:List UInt8) (bud:Int):List UInt8 × Int:=if isStM c s=false then ([],1) else commitM mem (encS s) bud
theorem c_Save (c:Book) (s:BSt) (mem:List UInt8) (bud:Int) (hl:lenB c) (ht:lenT s) (hm:mem.length≤1000000) (hb:I6 bud):PC Tryz.prog 26 [c.v,s.v,.str mem,I64 bud] (.tup [.str (saveM c s mem bud).1,I64 (saveM c s mem bud).2]):=by
 have he:=c_Encode c s hl ht
 refine PC.of mixedU isU26 (Nat.le_of_ble_eq_true rfl) (by simp [DV.nlL,DV.nl,nlL_ints,nlL_scos,nlL_adjs]) (by simp [DV.nlL,DV.nl,nlL_ints,nlL_scos,nlL_adjs]) ?_
 show IW Tryz.prog 27 u26_1 ⟨argT _,_,_⟩ (rt [.tmp 8,.tmp 9] _)
 by_cases e1:isStM c s=true
 rotate_left
 ·have e1:isStM c s=false:=by simpa using e1
  rw [show encM41 c s=([],1) by simp [encM41,e1]] at he
  rw [saveM,if_pos e1]
  repeat' ((with_reducible first|refine wr ?_|refine cpc he ?_|refine k_cu ?_ ?_|refine wb2 ?_ ?_<;>(intro hb;try simp only [hb])|fail)<;>try simp only [go_sem,seval])
  exact pc_ret rfl
 rw [show encM41 c s=(encS s,0) by simp [encM41,e1]] at he
 rw [saveM,if_neg (by simp [e1])]
 have hc:=c_Commit mem (encS s) bud hm (by have:=enc_len41 e1;omega) hb
 repeat' ((with_reducible first|refine wr ?_|refine cpc he ?_|refine cpc hc ?_|refine k_cu ?_ ?_|refine wb2 ?_ ?_<;>(intro hb;try simp only [hb])|fail)<;>try simp only [go_sem,seval])
 exact pc_ret rfl
theorem c_SaveR (c:Book) (s:BSt) (mem:List UInt8) (bud:Int) (hl:lenB c) (ht:lenT s) (hm:mem.length≤1000000) (hb:I6 bud):PC Tryz.prog 27 [c.v,s.v,.str mem,I64 bud] (.tup [.str (saveM c s mem bud).1,I64 (saveM c s mem bud).2]):=by
 have he:=c_EncodeR c s hl ht
 refine PC.of mixedU isU27 (Nat.le_of_ble_eq_true rfl) (by simp [DV.nlL,DV.nl,nlL_ints,nlL_scos,nlL_adjs]) (by simp [DV.nlL,DV.nl,nlL_ints,nlL_scos,nlL_adjs]) ?_
 show IW Tryz.prog 27 u27_1 ⟨argT _,_,_⟩ (rt [.tmp 8,.tmp 9] _)
 by_cases e1:isStM c s=true
 rotate_left
 ·have e1:isStM c s=false:=by simpa using e1
  rw [show encM41 c s=([],1) by simp [encM41,e1]] at he
  rw [saveM,if_pos e1]
  repeat' ((with_reducible first|refine wr ?_|refine cpc he ?_|refine k_cu ?_ ?_|refine wb2 ?_ ?_<;>(intro hb;try simp only [hb])|fail)<;>try simp only [go_sem,seval])
  exact pc_ret rfl
 rw [show encM41 c s=(encS s,0) by simp [encM41,e1]] at he
 rw [saveM,if_neg (by simp [e1])]
 have hc:=c_CommitR mem (encS s) bud hm (by have:=enc_len41 e1;omega) hb
 repeat' ((with_reducible first|refine wr ?_|refine cpc he ?_|refine cpc hc ?_|refine k_cu ?_ ?_|refine wb2 ?_ ?_<;>(intro hb;try simp only [hb])|fail)<;>try simp only [go_sem,seval])
 exact pc_ret rfl
end Go.Proofs.YtndjhpjcankkaaaGreatDoor
namespace Go.Proofs.YtndjhpjcankkaaaGreatDoor
open Go.Eng (IC IOper DReg IFn IsFn)
open Go.Sym
section
abbrev u18_7:IC:=qK .skip (.exit 0) (.t 14) [1,3,14]
abbrev u18_6:IC:=qS [oM 5 3,oF 6 1 0,oF 7 6 2,oL 8 7,oH 9 8,oB 10 5 9 .lss,oM 11 10,gM 12 3 11,gK 13 12 11 .lss 20,oJ 14 11 13] u18_7 [1,3]
abbrev u18_11:IC:=qS [oV 2 (.bool false)] .ret []
abbrev u18_10:IC:=qK u18_11 .skip (.t 25) [1,3,25]
abbrev u18_9:IC:=qS [oF 17 1 0,oF 18 17 2,oL 19 18,oM 20 3,oA 21 19 20 2,oF 22 21 0,oL 23 22,oP 24 (.lens (.t 23)),oK 25 24 .gtr 50] u18_10 [1,3]
abbrev u18_12:IC:=qE [oM 15 3,oK 16 15 .add 1,oM 3 16] [1,3]
abbrev u18_8:IC:=qB u18_9 u18_12 1 [1,3]
abbrev u18_5:IC:=qQ u18_6 u18_8 [1,3]
abbrev u18_4:IC:=qJ (.loop u18_5) 0 [1,3]
abbrev u18_3:IC:=qS [oI 3 0] u18_4 [1]
abbrev u18_18:IC:=qK .skip (.exit 2) (.t 35) [1,4,35]
abbrev u18_17:IC:=qS [oM 26 4,oF 27 1 3,oF 28 27 2,oL 29 28,oH 30 29,oB 31 26 30 .lss,oM 32 31,gM 33 4 32,gK 34 33 32 .lss 20,oJ 35 32 34] u18_18 [1,4]
abbrev u18_22:IC:=qS [oV 2 (.bool false)] .ret []
abbrev u18_21:IC:=qK u18_22 .skip (.t 46) [1,4,46]
abbrev u18_20:IC:=qS [oF 38 1 3,oF 39 38 2,oL 40 39,oM 41 4,oA 42 40 41 2,oF 43 42 0,oL 44 43,oP 45 (.lens (.t 44)),oK 46 45 .gtr 50] u18_21 [1,4]
abbrev u18_23:IC:=qE [oM 36 4,oK 37 36 .add 1,oM 4 37] [1,4]
abbrev u18_19:IC:=qB u18_20 u18_23 3 [1,4]
abbrev u18_16:IC:=qQ u18_17 u18_19 [1,4]
abbrev u18_15:IC:=qJ (.loop u18_16) 2 [1,4]
abbrev u18_14:IC:=qS [oI 4 0] u18_15 [1]
abbrev u18_24:IC:=qS [oF 47 1 0,oF 48 47 0,oL 49 48,oH 50 49,oK 51 50 .leq 40,oM 52 51,gF 53 1 0 52,gF 54 53 2 52,gL 55 54 52,oG 56 (.len (.t 55)) 52,gK 57 56 52 .leq 12,oJ 58 52 57,oM 59 58,gF 60 1 3 59,gF 61 60 0 59,gL 62 61 59,oG 63 (.len (.t 62)) 59,gK 64 63 59 .leq 40,oJ 65 59 64,oM 66 65,gF 67 1 3 66,gF 68 67 1 66,gL 69 68 66,oG 70 (.len (.t 69)) 66,gK 71 70 66 .leq 40,oJ 72 66 71,oM 73 72,gF 74 1 3 73,gF 75 74 2 73,gL 76 75 73,oG 77 (.len (.t 76)) 73,gK 78 77 73 .leq 12,oJ 79 73 78,oM 2 79] .ret [1]
abbrev u18_13:IC:=qQ u18_14 u18_24 [1]
abbrev u18_2:IC:=qQ u18_3 u18_13 [1]
abbrev u18_1:IC:=qS [oX 1 0,oV 2 (.bool false)] u18_2 [0]
def u18:IFn:=⟨80,u18_1,[.tmp 2]⟩
end
theorem isU18:IsFn Tryz.prog 18 u18:=by unfold IsFn;kernel_rfl
section
abbrev u12_2:IC:=qS [oD 3 1 6,oC 4 18 [.t 3],oM 5 4,gF 6 1 0 5,oG 7 (.ld 3 true (.t 6)) 5,gF 8 1 3 5,oG 9 (.ld 3 true (.t 8)) 5,⟨some 10,.call 16 [.t 7,.t 9],some (5,true)⟩,oJ 11 5 10,oM 2 11] .ret [1]
abbrev u12_1:IC:=qS [oX 1 0,oV 2 (.bool false)] u12_2 [0]
def u12:IFn:=⟨12,u12_1,[.tmp 2]⟩
end
theorem isU12:IsFn Tryz.prog 12 u12:=by unfold IsFn;kernel_rfl
section
abbrev u13_14:IC:=qS [oV 0 (.bool false)] .ret []
abbrev u13_13:IC:=qK u13_14 .skip (.t 91) [3,4,5,6,8,9,10,11,12,13,16,17,18,91]
abbrev u13_12:IC:=qS [oF 76 10 0,oL 77 76,oH 78 77,oK 79 78 .neq 1,oM 80 79,hF 81 12 0 80,hL 82 81 80,oR 83 (.len (.t 82)) 80,hK 84 83 80 .neq 1,oO 85 80 84,oM 86 85,hF 87 4 2 86,hL 88 87 86,oR 89 (.len (.t 88)) 86,hK 90 89 86 .neq 3,oO 91 86 90] u13_13 [3,4,5,6,8,9,10,11,12,13,16,17,18]
abbrev u13_15:IC:=qS [oM 92 3,oK 93 92 .eql 0,oM 94 93,gM 95 6 94,gK 96 95 94 .eql 0,oJ 97 94 96,oM 98 97,gM 99 5 98,gK 100 99 98 .eql 1,oJ 101 98 100,oM 102 101,gM 103 9 102,gK 104 103 102 .eql 0,oJ 105 102 104,oM 106 105,gM 107 8 106,gK 108 107 106 .eql (-1),oJ 109 106 108,oM 110 109,gF 111 4 2 110,gL 112 111 110,oG 113 (.iad 2 (.t 112) (.k (.int .i64 2))) 110,gF 114 113 0 110,gL 115 114 110,oG 116 (.bin .eql (.t 115) (.k (.string ⟨#[66,66,66]⟩))) 110,oJ 117 110 116,oM 118 117,gM 119 11 118,gK 120 119 118 .eql 0,oJ 121 118 120,oM 122 121,gF 123 10 0 122,gL 124 123 122,oG 125 (.iad 1 (.t 124) (.k (.int .i64 0))) 122,gL 126 125 122,gK 127 126 122 .eql 7,oJ 128 122 127,oM 129 128,gM 130 13 129,gK 131 130 129 .eql 0,oJ 132 129 131,oM 133 132,gF 134 12 0 133,gL 135 134 133,oG 136 (.iad 1 (.t 135) (.k (.int .i64 0))) 133,gL 137 136 133,gK 138 137 133 .eql 1,oJ 139 133 138,oM 140 139,gM 141 16 140,gK 142 141 140 .eql 0,oJ 143 140 142,oM 144 143,gM 145 18 144,gK 146 145 144 .eql 0,oJ 147 144 146,oM 148 147,oG 149 (.ld 3 true (.t 17)) 148,oG 150 (.ld 3 true (.t 10)) 148,⟨some 151,.call 15 [.t 149,.t 150],some (148,true)⟩,oJ 152 148 151,oM 0 152] .ret [3,4,5,6,8,9,10,11,12,13,16,17,18]
abbrev u13_11:IC:=qQ u13_12 u13_15 [3,4,5,6,8,9,10,11,12,13,16,17,18]
abbrev u13_10:IC:=qS [oD 71 1 3,oM 72 14,oC 73 24 [.t 71,.t 72],oM 70 73,oE 74 70 0,oE 75 70 1,oW 17 (.agg #[.slice none 0 0,.slice none 0 0,.slice none 0 0]),oS 17 74 3,oM 18 75] u13_11 [1,3,4,5,6,8,9,10,11,12,13,14,16]
abbrev u13_9:IC:=qS [oD 64 1 3,oD 65 10 3,oM 66 14,oC 67 26 [.t 64,.t 65,.t 66,.k (.int .i64 1000)],oM 63 67,oE 68 63 0,oE 69 63 1,oM 14 68,oM 16 69] u13_10 [1,3,4,5,6,8,9,10,11,12,13,14]
abbrev u13_8:IC:=qS [oC 60 23 [.k (.string ⟨#[]⟩)],oM 59 60,oE 61 59 0,oE 62 59 1,oM 14 61,oM 15 62] u13_9 [1,3,4,5,6,8,9,10,11,12,13]
abbrev u13_7:IC:=qS [oD 54 1 3,oD 55 10 3,oC 56 14 [.t 54,.t 55,.k (.int .i64 0),.k (.bool true)],oM 53 56,oE 57 53 0,oE 58 53 1,oW 12 (.agg #[.slice none 0 0,.slice none 0 0,.slice none 0 0]),oS 12 57 3,oM 13 58] u13_8 [1,3,4,5,6,8,9,10,11]
abbrev u13_6:IC:=qS [oD 48 1 3,oD 49 4 3,oC 50 14 [.t 48,.t 49,.k (.int .i64 0),.k (.bool true)],oM 47 50,oE 51 47 0,oE 52 47 1,oW 10 (.agg #[.slice none 0 0,.slice none 0 0,.slice none 0 0]),oS 10 51 3,oM 11 52] u13_7 [1,3,4,5,6,8,9]
abbrev u13_5:IC:=qS [oD 40 1 3,oD 41 2 3,oP 42 (.bld #[.string ⟨#[]⟩,.int .i64 0] [(0,1),(1,1)] [(0,.k (.string ⟨#[68,68,68]⟩)),(1,.k (.int .i64 500))]),oC 43 17 [.t 40,.t 41,.t 42],oM 39 43,oE 44 39 0,oE 45 39 1,oE 46 39 2,oW 7 (.agg #[.slice none 0 0,.slice none 0 0,.slice none 0 0]),oS 7 44 3,oM 8 45,oM 9 46] u13_6 [1,2,3,4,5,6]
abbrev u13_4:IC:=qS [oD 32 1 3,oD 33 2 3,oP 34 (.bld #[.string ⟨#[]⟩,.int .i64 0] [(0,1),(1,1)] [(0,.k (.string ⟨#[68,68,68]⟩)),(1,.k (.int .i64 700))]),oC 35 17 [.t 32,.t 33,.t 34],oM 31 35,oE 36 31 0,oE 37 31 1,oE 38 31 2,oW 4 (.agg #[.slice none 0 0,.slice none 0 0,.slice none 0 0]),oS 4 36 3,oM 5 37,oM 6 38] u13_5 [1,2,3]
abbrev u13_3:IC:=qS [oD 27 1 3,oC 28 33 [.t 27],oM 26 28,oE 29 26 0,oE 30 26 1,oW 2 (.agg #[.slice none 0 0,.slice none 0 0,.slice none 0 0]),oS 2 29 3,oM 3 30] u13_4 [1]
abbrev u13_2:IC:=qS [oP 19 (.bld #[.int .i64 0,.int .i64 0,.int .i64 0,.int .i64 0] [(0,1),(1,1),(2,1),(3,1)] [(0,.k (.int .i64 1)),(1,.k (.int .i64 8)),(2,.k (.int .i64 3)),(3,.k (.int .i64 4))]),⟨some 20,.new (.bsl 4 1 #[.int .i64 0,.int .i64 0,.int .i64 0,.int .i64 0] [(0,.t 19)]),none⟩,oP 21 (.bld #[.string ⟨#[]⟩,.int .i64 0] [(0,1),(1,1)] [(0,.k (.string ⟨#[65,65,65]⟩)),(1,.k (.int .i64 900))]),oP 22 (.bld #[.string ⟨#[]⟩,.int .i64 0] [(0,1),(1,1)] [(0,.k (.string ⟨#[66,66,66]⟩)),(1,.k (.int .i64 500))]),oP 23 (.bld #[.string ⟨#[]⟩,.int .i64 0] [(0,1),(1,1)] [(0,.k (.string ⟨#[67,67,67]⟩)),(1,.k (.int .i64 500))]),⟨some 24,.new (.bsl 2 3 #[.string ⟨#[]⟩,.int .i64 0] [(0,.t 21),(1,.t 22),(2,.t 23)]),none⟩,oP 25 (.bld #[.slice none 0 0,.int .i64 0,.slice none 0 0] [(0,1),(1,1),(2,1)] [(0,.t 20),(1,.k (.int .i64 1)),(2,.t 24)]),oW 1 (.agg #[.slice none 0 0,.int .i64 0,.slice none 0 0]),oS 1 25 3] u13_3 []
abbrev u13_1:IC:=qS [oV 0 (.bool false)] u13_2 []
def u13:IFn:=⟨153,u13_1,[.tmp 0]⟩
end
theorem isU13:IsFn Tryz.prog 13 u13:=by unfold IsFn;kernel_rfl
section
abbrev u3_5:IC:=qS [oC 27 13 [],oM 6 27] .ret []
abbrev u3_4:IC:=qK u3_5 .skip (.t 26) [1,2,3,26]
abbrev u3_3:IC:=qS [oD 17 3 6,oC 18 12 [.t 17],oY 19 18,oM 20 19,hF 21 3 0 20,hF 22 21 0 20,hL 23 22 20,oR 24 (.len (.t 23)) 20,hK 25 24 20 .eql 0,oO 26 20 25] u3_4 [1,2,3]
abbrev u3_13:IC:=qS [oV 6 (.bool false)] .ret []
abbrev u3_12:IC:=qK u3_13 .skip (.t 73) [2,3,7,8,9,73]
abbrev u3_11:IC:=qS [oM 61 10,oK 62 61 .neq 0,oM 63 62,hM 64 12 63,hK 65 64 63 .neq 0,oO 66 63 65,oM 67 66,oR 68 (.ld 3 true (.t 11)) 67,hF 69 3 3 67,oR 70 (.ld 3 true (.t 69)) 67,⟨some 71,.call 15 [.t 68,.t 70],some (67,false)⟩,oR 72 (.un .not (.t 71)) 67,oO 73 67 72] u3_12 [2,3,7,8,9,10,11,12]
abbrev u3_18:IC:=qS [oC 85 13 [],oM 6 85] .ret []
abbrev u3_17:IC:=qK u3_18 .skip (.t 84) [2,3,7,9,13,84]
abbrev u3_16:IC:=qS [oM 83 13,oK 84 83 .gtr 60] u3_17 [2,3,7,9,13]
abbrev u3_25:IC:=qK .skip (.exit 0) (.t 90) [2,3,7,9,13,14,90]
abbrev u3_24:IC:=qS [oM 88 14,oM 89 13,oB 90 88 89 .leq] u3_25 [2,3,7,9,13,14]
abbrev u3_31:IC:=qS [oV 6 (.bool false)] .ret []
abbrev u3_30:IC:=qK u3_31 .skip (.t 128) [2,3,7,9,13,14,15,128]
abbrev u3_29:IC:=qP [oM 102 16,oK 103 102 .neq 0,oM 104 103,hF 105 3 0 104,oR 106 (.ld 3 true (.t 105)) 104,oR 107 (.ld 3 true (.t 15)) 104,⟨some 108,.call 16 [.t 106,.t 107],some (104,false)⟩,oR 109 (.un .not (.t 108)) 104,oO 110 104 109,oM 111 110,hF 112 15 0 111,hL 113 112 111,hM 114 7 111,oR 115 (.iad 1 (.t 113) (.t 114)) 111,hL 116 115 111,hF 117 3 3 111,hF 118 117 0 111,hL 119 118 111,hM 120 7 111,oR 121 (.iad 1 (.t 119) (.t 120)) 111,hL 122 121 111,oR 123 (.bin .eql (.t 116) (.t 122)) 111,hM 124 14 111,hM 125 13 111,oR 126 (.bin .eql (.t 124) (.t 125)) 111,oR 127 (.eqb true (.t 123) (.t 126)) 111,oO 128 111 127] u3_30 0 27 [2,3,7,9,13,14,15,16]
abbrev u3_32:IC:=qE [oD 129 15 3,oS 9 129 3] [2,3,7,9,13,14,15]
abbrev u3_28:IC:=qQ u3_29 u3_32 [2,3,7,9,13,14,15,16]
abbrev u3_27:IC:=qS [oF 94 3 0,oD 95 94 3,oD 96 9 3,oM 97 7,oM 98 2,oC 99 14 [.t 95,.t 96,.t 97,.t 98],oM 93 99,oE 100 93 0,oE 101 93 1,oW 15 (.agg #[.slice none 0 0,.slice none 0 0,.slice none 0 0]),oS 15 100 3,oM 16 101] u3_28 [2,3,7,9,13,14]
abbrev u3_33:IC:=qE [oM 91 14,oK 92 91 .add 1,oM 14 92] [2,3,7,9,13,14]
abbrev u3_26:IC:=qB u3_27 u3_33 1 [2,3,7,9,13,14]
abbrev u3_23:IC:=qQ u3_24 u3_26 [2,3,7,9,13,14]
abbrev u3_22:IC:=qJ (.loop u3_23) 0 [2,3,7,9,13,14]
abbrev u3_21:IC:=qS [oI 14 1] u3_22 [2,3,7,9,13]
abbrev u3_34:IC:=qS [oD 130 9 3,oF 131 3 3,oD 132 131 3,oC 133 15 [.t 130,.t 132],oM 134 133,⟨some 135,.call 13 [],some (134,true)⟩,oJ 136 134 135,oM 6 136] .ret [3,9]
abbrev u3_20:IC:=qQ u3_21 u3_34 [2,3,7,9,13]
abbrev u3_19:IC:=qS [oF 86 3 3,oD 87 86 3,oS 9 87 3] u3_20 [2,3,7,9,13]
abbrev u3_15:IC:=qQ u3_16 u3_19 [2,3,7,9,13]
abbrev u3_14:IC:=qS [oF 74 8 1,oL 75 74,oF 76 8 0,oL 77 76,oB 78 75 77 .sub,oF 79 8 2,oL 80 79,oB 81 78 80 .quo,oK 82 81 .add 1,oM 13 82] u3_15 [2,3,7,8,9]
abbrev u3_10:IC:=qQ u3_11 u3_14 [2,3,7,8,9,10,11,12]
abbrev u3_9:IC:=qS [oF 52 3 0,oD 53 52 3,oD 54 9 3,oM 55 7,oM 56 2,oY 57 56,oC 58 14 [.t 53,.t 54,.t 55,.t 57],oM 51 58,oE 59 51 0,oE 60 51 1,oW 11 (.agg #[.slice none 0 0,.slice none 0 0,.slice none 0 0]),oS 11 59 3,oM 12 60] u3_10 [2,3,7,8,9,10]
abbrev u3_8:IC:=qS [oF 42 3 0,oD 43 42 3,oF 44 3 3,oD 45 44 3,oM 46 7,oM 47 2,oC 48 14 [.t 43,.t 45,.t 46,.t 47],oM 41 48,oE 49 41 0,oE 50 41 1,oW 9 (.agg #[.slice none 0 0,.slice none 0 0,.slice none 0 0]),oS 9 49 3,oM 10 50] u3_9 [2,3,7,8]
abbrev u3_7:IC:=qS [oF 35 3 0,oF 36 35 0,oL 37 36,oM 38 7,oA 39 37 38 4,oD 40 39 4,oW 8 (.agg #[.int .i64 0,.int .i64 0,.int .i64 0,.int .i64 0]),oS 8 40 4] u3_8 [2,3,7]
abbrev u3_6:IC:=qS [oM 28 1,oP 29 (.cvi .i64 (.t 28)),oF 30 3 0,oF 31 30 0,oL 32 31,oH 33 32,oB 34 29 33 .rem,oM 7 34] u3_7 [1,2,3]
abbrev u3_2:IC:=qQ u3_3 u3_6 [1,2,3]
abbrev u3_1:IC:=qS [oX 3 0,oV 6 (.bool false)] u3_2 [0,1,2]
def u3:IFn:=⟨137,u3_1,[.tmp 6]⟩
end
theorem isU3:IsFn Tryz.prog 3 u3:=by unfold IsFn;kernel_rfl
section
abbrev u4_5:IC:=qS [oC 22 13 [],oM 4 22] .ret []
abbrev u4_4:IC:=qK u4_5 .skip (.t 21) [1,2,21]
abbrev u4_3:IC:=qS [oD 14 2 6,oC 15 12 [.t 14],oY 16 15,oM 17 16,hM 18 1 17,oR 19 (.len (.t 18)) 17,hK 20 19 17 .gtr 30,oO 21 17 20] u4_4 [1,2]
abbrev u4_13:IC:=qK .skip (.exit 0) (.t 32) [1,2,5,6,7,32]
abbrev u4_12:IC:=qS [oM 29 7,oM 30 1,oH 31 30,oB 32 29 31 .lss] u4_13 [1,2,5,6,7]
abbrev u4_20:IC:=qS [oV 4 (.bool false)] .ret []
abbrev u4_19:IC:=qK u4_20 .skip (.t 95) [1,2,5,6,7,8,9,95]
abbrev u4_18:IC:=qP [oM 60 11,oK 61 60 .neq 0,oM 62 61,hM 63 10 62,hK 64 63 62 .lss (-1),oO 65 62 64,oM 66 65,hM 67 10 66,hK 68 67 66 .geq 0,hM 69 68 66,gM 70 10 69,gF 71 9 2 69,gL 72 71 69,oG 73 (.len (.t 72)) 69,oG 74 (.bin .geq (.t 70) (.t 73)) 69,gM 75 74 69,hF 76 9 2 75,hL 77 76 75,hM 78 10 75,oR 79 (.iad 2 (.t 77) (.t 78)) 75,oR 80 (.ld 2 true (.t 79)) 75,oR 81 (.ld 2 true (.t 8)) 75,oR 82 (.eqa true [2,0] (.t 80) (.t 81)) 75,oG 83 (.pick (.t 75) (.k (.bool true)) (.t 82)) 69,oR 84 (.pick (.t 69) (.t 83) (.k (.bool false))) 66,oO 85 66 84,oM 86 85,hM 87 10 86,hK 88 87 86 .lss 0,hM 89 88 86,oG 90 (.ld 3 true (.t 6)) 89,oG 91 (.ld 3 true (.t 9)) 89,⟨some 92,.call 15 [.t 90,.t 91],some (89,true)⟩,oG 93 (.un .not (.t 92)) 89,oR 94 (.pick (.t 89) (.t 93) (.k (.bool false))) 86,oO 95 86 94] u4_19 0 36 [1,2,5,6,7,8,9,10,11]
abbrev u4_26:IC:=qK .skip (.exit 2) (.t 111) [1,2,5,6,7,8,12,111]
abbrev u4_25:IC:=qP [oM 99 12,oK 100 99 .gtr 0,oM 101 100,gM 102 5 101,gM 103 12 101,gK 104 103 101 .sub 1,oG 105 (.iad 2 (.t 102) (.t 104)) 101,gF 106 105 1 101,gL 107 106 101,gF 108 8 1 101,gL 109 108 101,oG 110 (.bin .lss (.t 107) (.t 109)) 101,oJ 111 101 110] u4_26 0 13 [1,2,5,6,7,8,12]
abbrev u4_28:IC:=qE [oM 112 12,oK 113 112 .sub 1,oM 12 113] [1,2,5,6,7,8,12]
abbrev u4_27:IC:=qJ u4_28 3 [1,2,5,6,7,8,12]
abbrev u4_24:IC:=qQ u4_25 u4_27 [1,2,5,6,7,8,12]
abbrev u4_29:IC:=qG [oM 114 5,oM 115 12,oP 116 (.slc 2 (.t 114) none (some (.t 115))),⟨some 117,.eff (.app 2 24 (.k (.slice none 0 0)) (.t 116)),none⟩,oD 118 8 2,⟨some 119,.new (.bsl 2 1 #[.string ⟨#[]⟩,.int .i64 0] [(0,.t 118)]),none⟩,oT 120 117 119 2 24,oM 121 5,oM 122 12,oP 123 (.slc 2 (.t 121) (some (.t 122)) none),oT 124 120 123 2 24,oM 5 124] [(0,none),(1,none),(2,none),(4,none),(5,none),(7,none),(8,none),(9,none),(3,some [4,5,7,8,9]),(6,some [7,8,9]),(10,some []),(11,some [])] 12 [1,2,5,6,7,8,12]
abbrev u4_23:IC:=qB (.loop u4_24) u4_29 2 [1,2,5,6,7,8,12]
abbrev u4_22:IC:=qS [oM 97 5,oH 98 97,oM 12 98] u4_23 [1,2,5,6,7,8]
abbrev u4_21:IC:=qS [oD 96 9 3,oS 6 96 3] u4_22 [1,2,5,6,7,8,9]
abbrev u4_17:IC:=qQ u4_18 u4_21 [1,2,5,6,7,8,9,10,11]
abbrev u4_16:IC:=qS [oF 52 2 0,oD 53 52 3,oD 54 6 3,oD 55 8 2,oC 56 17 [.t 53,.t 54,.t 55],oM 51 56,oE 57 51 0,oE 58 51 1,oE 59 51 2,oW 9 (.agg #[.slice none 0 0,.slice none 0 0,.slice none 0 0]),oS 9 57 3,oM 10 58,oM 11 59] u4_17 [1,2,5,6,7,8]
abbrev u4_15:IC:=qD [oM 35 7,oK 36 35 .rem 26,oP 37 (.bin .add (.k (.int .i64 65)) (.t 36)),oP 38 (.cvi .u8 (.t 37)),oM 39 7,oK 40 39 .quo 26,oP 41 (.bin .add (.k (.int .i64 65)) (.t 40)),oP 42 (.cvi .u8 (.t 41)),⟨some 43,.new (.bsl 1 3 #[.int .u8 0] [(0,.t 38),(1,.k (.int .u8 81)),(2,.t 42)]),none⟩,oP 44 (.cvbs (.t 43)),oM 45 1,oM 46 7,oA 47 45 46 1,oL 48 47,oP 49 (.cvi .i64 (.t 48)),oP 50 (.bld #[.string ⟨#[]⟩,.int .i64 0] [(0,1),(1,1)] [(0,.t 44),(1,.t 49)]),oW 8 (.agg #[.string ⟨#[]⟩,.int .i64 0]),oS 8 50 2] u4_16 [(0,none),(1,none),(2,none),(3,none),(4,none),(5,none),(6,none),(7,none),(8,none),(9,none),(10,none),(11,none),(12,none),(13,none),(14,none),(15,none),(16,none),(17,some [])] 18 [1,2,5,6,7]
abbrev u4_30:IC:=qE [oM 33 7,oK 34 33 .add 1,oM 7 34] [1,2,5,6,7]
abbrev u4_14:IC:=qB u4_15 u4_30 1 [1,2,5,6,7]
abbrev u4_11:IC:=qQ u4_12 u4_14 [1,2,5,6,7]
abbrev u4_10:IC:=qJ (.loop u4_11) 0 [1,2,5,6,7]
abbrev u4_9:IC:=qS [oI 7 0] u4_10 [1,2,5,6]
abbrev u4_34:IC:=qS [oV 4 (.bool false)] .ret []
abbrev u4_33:IC:=qK u4_34 .skip (.t 132) [5,6,132]
abbrev u4_32:IC:=qS [oF 125 6 2,oL 126 125,oH 127 126,oF 128 2 0,oF 129 128 2,oL 130 129,oH 131 130,oB 132 127 131 .neq] u4_33 [2,5,6]
abbrev u4_40:IC:=qK .skip (.exit 4) (.t 137) [5,6,13,137]
abbrev u4_39:IC:=qS [oM 133 13,oF 134 6 2,oL 135 134,oH 136 135,oB 137 133 136 .lss] u4_40 [5,6,13]
abbrev u4_44:IC:=qS [oV 4 (.bool false)] .ret []
abbrev u4_43:IC:=qK u4_44 .skip (.t 149) [5,6,13,149]
abbrev u4_42:IC:=qP [oF 140 6 2,oL 141 140,oM 142 13,oA 143 141 142 2,oD 144 143 2,oM 145 5,oM 146 13,oA 147 145 146 2,oD 148 147 2,oP 149 (.eqa true [2,0] (.t 144) (.t 148))] u4_43 0 10 [5,6,13]
abbrev u4_45:IC:=qE [oM 138 13,oK 139 138 .add 1,oM 13 139] [5,6,13]
abbrev u4_41:IC:=qB u4_42 u4_45 5 [5,6,13]
abbrev u4_38:IC:=qQ u4_39 u4_41 [5,6,13]
abbrev u4_37:IC:=qJ (.loop u4_38) 4 [5,6,13]
abbrev u4_36:IC:=qS [oI 13 0] u4_37 [5,6]
abbrev u4_46:IC:=qS [oC 150 13 [],oM 4 150] .ret []
abbrev u4_35:IC:=qQ u4_36 u4_46 [5,6]
abbrev u4_31:IC:=qQ u4_32 u4_35 [2,5,6]
abbrev u4_8:IC:=qQ u4_9 u4_31 [1,2,5,6]
abbrev u4_7:IC:=qS [oF 27 2 3,oD 28 27 3,oW 6 (.agg #[.slice none 0 0,.slice none 0 0,.slice none 0 0]),oS 6 28 3] u4_8 [1,2,5]
abbrev u4_6:IC:=qS [oF 23 2 3,oF 24 23 2,oL 25 24,⟨some 26,.eff (.app 2 24 (.k (.slice none 0 0)) (.t 25)),none⟩,oM 5 26] u4_7 [1,2]
abbrev u4_2:IC:=qQ u4_3 u4_6 [1,2]
abbrev u4_1:IC:=qS [oX 2 0,oV 4 (.bool false)] u4_2 [0,1]
def u4:IFn:=⟨151,u4_1,[.tmp 4]⟩
end
theorem isU4:IsFn Tryz.prog 4 u4:=by unfold IsFn;kernel_rfl
section
abbrev u5_5:IC:=qS [oC 12 13 [],oM 2 12] .ret []
abbrev u5_4:IC:=qK u5_5 .skip (.t 11) [1,11]
abbrev u5_3:IC:=qS [oD 9 1 6,oC 10 18 [.t 9],oY 11 10] u5_4 [1]
abbrev u5_11:IC:=qS [oV 2 (.bool false)] .ret []
abbrev u5_10:IC:=qK u5_11 .skip (.t 36) [1,3,4,36]
abbrev u5_9:IC:=qS [oM 29 3,oM 30 5,oB 31 29 30 .neq,oM 32 31,hM 33 4 32,hM 34 6 32,oR 35 (.bin .neq (.t 33) (.t 34)) 32,oO 36 32 35] u5_10 [1,3,4,5,6]
abbrev u5_15:IC:=qS [oC 39 13 [],oM 2 39] .ret []
abbrev u5_14:IC:=qK u5_15 .skip (.t 38) [1,3,38]
abbrev u5_13:IC:=qS [oM 37 4,oK 38 37 .neq 0] u5_14 [1,3,4]
abbrev u5_17:IC:=qS [oM 47 8,oK 48 47 .eql 0,oM 49 48,oG 50 (.ld 3 true (.t 7)) 49,gF 51 1 3 49,oG 52 (.ld 3 true (.t 51)) 49,⟨some 53,.call 15 [.t 50,.t 52],some (49,true)⟩,oJ 54 49 53,oM 55 54,gM 56 3 55,oG 57 (.lens (.t 56)) 55,gK 58 57 55 .leq 1024,oJ 59 55 58,oM 60 59,⟨some 61,.call 13 [],some (60,true)⟩,oJ 62 60 61,oM 2 62] .ret [1,3,7,8]
abbrev u5_16:IC:=qS [oF 41 1 0,oD 42 41 3,oM 43 3,oC 44 21 [.t 42,.t 43],oM 40 44,oE 45 40 0,oE 46 40 1,oW 7 (.agg #[.slice none 0 0,.slice none 0 0,.slice none 0 0]),oS 7 45 3,oM 8 46] u5_17 [1,3]
abbrev u5_12:IC:=qQ u5_13 u5_16 [1,3,4]
abbrev u5_8:IC:=qQ u5_9 u5_12 [1,3,4,5,6]
abbrev u5_7:IC:=qS [oF 22 1 0,oD 23 22 3,oF 24 1 3,oD 25 24 3,oC 26 20 [.t 23,.t 25],oM 21 26,oE 27 21 0,oE 28 21 1,oM 5 27,oM 6 28] u5_8 [1,3,4]
abbrev u5_6:IC:=qS [oF 14 1 0,oD 15 14 3,oF 16 1 3,oD 17 16 3,oC 18 19 [.t 15,.t 17],oM 13 18,oE 19 13 0,oE 20 13 1,oM 3 19,oM 4 20] u5_7 [1]
abbrev u5_2:IC:=qQ u5_3 u5_6 [1]
abbrev u5_1:IC:=qS [oX 1 0,oV 2 (.bool false)] u5_2 [0]
def u5:IFn:=⟨63,u5_1,[.tmp 2]⟩
end
theorem isU5:IsFn Tryz.prog 5 u5:=by unfold IsFn;kernel_rfl
section
abbrev u6_5:IC:=qS [oC 27 13 [],oM 6 27] .ret []
abbrev u6_4:IC:=qK u6_5 .skip (.t 26) [1,3,5,26]
abbrev u6_3:IC:=qS [oD 19 3 6,oC 20 18 [.t 19],oY 21 20,oM 22 21,hM 23 1 22,oR 24 (.lens (.t 23)) 22,hK 25 24 22 .gtr 500,oO 26 22 25] u6_4 [1,3,5]
abbrev u6_21:IC:=qS [oV 6 (.bool false)] .ret []
abbrev u6_20:IC:=qK u6_21 .skip (.t 119) [3,12,13,14,91,92,93,119]
abbrev u6_19:IC:=qS [oM 111 14,oM 112 16,oB 113 111 112 .neq,oM 114 113,oR 115 (.ld 3 true (.t 13)) 114,oR 116 (.ld 3 true (.t 15)) 114,⟨some 117,.call 15 [.t 115,.t 116],some (114,false)⟩,oR 118 (.un .not (.t 117)) 114,oO 119 114 118] u6_20 [3,12,13,14,15,16,91,92,93]
abbrev u6_27:IC:=qS [oV 6 (.bool false)] .ret []
abbrev u6_26:IC:=qK u6_27 .skip (.t 135) [3,91,92,93,135]
abbrev u6_25:IC:=qS [oM 129 18,oK 130 129 .neq 0,oM 131 130,hM 132 17 131,hM 133 12 131,oR 134 (.bin .neq (.t 132) (.t 133)) 131,oO 135 131 134] u6_26 [3,12,17,18,91,92,93]
abbrev u6_24:IC:=qS [oF 123 3 0,oD 124 123 3,oD 125 13 3,oC 126 19 [.t 124,.t 125],oM 122 126,oE 127 122 0,oE 128 122 1,oM 17 127,oM 18 128] u6_25 [3,12,13,91,92,93]
abbrev u6_23:IC:=qK u6_24 .skip (.t 121) [3,12,13,91,92,93,121]
abbrev u6_22:IC:=qS [oM 120 14,oK 121 120 .eql 0] u6_23 [3,12,13,14,91,92,93]
abbrev u6_18:IC:=qQ u6_19 u6_22 [3,12,13,14,15,16,91,92,93]
abbrev u6_17:IC:=qS [oF 105 3 0,oD 106 105 3,oM 107 12,oC 108 22 [.t 106,.t 107],oM 104 108,oE 109 104 0,oE 110 104 1,oW 15 (.agg #[.slice none 0 0,.slice none 0 0,.slice none 0 0]),oS 15 109 3,oM 16 110] u6_18 [3,12,13,14,91,92,93]
abbrev u6_16:IC:=qS [oF 98 3 0,oD 99 98 3,oM 100 12,oC 101 21 [.t 99,.t 100],oM 97 101,oE 102 97 0,oE 103 97 1,oW 13 (.agg #[.slice none 0 0,.slice none 0 0,.slice none 0 0]),oS 13 102 3,oM 14 103] u6_17 [3,12,91,92,93]
abbrev u6_15:IC:=qS [oA 95 91 93 1,oL 96 95,oM 12 96] u6_16 [3,91,92,93]
abbrev u6_28:IC:=qE [oK 136 93 .add 1,oM 93 136] [3,91,92,93]
abbrev u6_14:IC:=qB u6_15 u6_28 1 [3,91,92,93]
abbrev u6_13:IC:=qC .skip u6_14 (.exit 0) (.t 94) [3,91,92,93,94]
abbrev u6_12:IC:=qS [oB 94 93 92 .lss] u6_13 [3,91,92,93]
abbrev u6_11:IC:=qJ (.loop u6_12) 0 [3,91,92,93]
abbrev u6_10:IC:=qD [oM 54 1,oM 55 7,oM 56 9,oP 57 (.sls (.t 55) none (some (.t 56))),oM 58 7,oM 59 9,oP 60 (.sls (.t 58) none (some (.t 59))),oM 61 10,oB 62 60 61 .add,oM 63 7,oM 64 9,oP 65 (.sls (.t 63) (some (.t 64)) none),oB 66 62 65 .add,oM 67 7,oM 68 9,oP 69 (.sls (.t 67) none (some (.t 68))),oM 70 7,oM 71 9,oK 72 71 .add 1,oM 73 7,oP 74 (.lens (.t 73)),oP 75 (.mn (.t 72) (.t 74)),oP 76 (.sls (.t 70) (some (.t 75)) none),oB 77 69 76 .add,oM 78 7,oM 79 9,oP 80 (.sls (.t 78) none (some (.t 79))),oM 81 10,oB 82 80 81 .add,oM 83 7,oM 84 9,oK 85 84 .add 1,oM 86 7,oP 87 (.lens (.t 86)),oP 88 (.mn (.t 85) (.t 87)),oP 89 (.sls (.t 83) (some (.t 88)) none),oB 90 82 89 .add,⟨some 91,.new (.bsl 1 5 #[.string ⟨#[]⟩] [(0,.t 54),(1,.t 57),(2,.t 66),(3,.t 77),(4,.t 90)]),none⟩,oH 92 91,oI 93 0] u6_11 [(0,none),(1,none),(2,none),(3,none),(4,none),(5,none),(6,none),(7,none),(8,none),(9,none),(10,none),(11,none),(12,none),(13,none),(14,none),(15,none),(16,none),(17,none),(18,none),(19,none),(20,none),(21,none),(22,none),(23,none),(24,none),(25,none),(26,none),(27,none),(28,none),(29,none),(30,none),(31,none),(32,none),(33,none),(34,none),(35,none),(36,none),(37,none),(38,none),(39,none)] 40 [1,3,7,9,10]
abbrev u6_29:IC:=qS [oC 137 13 [],oM 6 137] .ret []
abbrev u6_9:IC:=qQ u6_10 u6_29 [1,3,7,9,10]
abbrev u6_8:IC:=qS [oP 48 (.iada 3 1 (.t 5) (.k (.int .i64 2))),oL 49 48,oP 50 (.bin .rem (.t 49) (.k (.int .u8 16))),oP 51 (.idx (.k (.string ⟨#[48,49,50,51,52,53,54,55,56,57,45,10,65,90,43,32]⟩)) (.t 50)),⟨some 52,.new (.bsl 1 1 #[.int .u8 0] [(0,.t 51)]),none⟩,oP 53 (.cvbs (.t 52)),oM 10 53] u6_9 [1,3,5,7,9]
abbrev u6_7:IC:=qS [oP 36 (.iada 3 1 (.t 5) (.k (.int .i64 0))),oL 37 36,oP 38 (.cvi .i64 (.t 37)),oK 39 38 .mul 256,oP 40 (.iada 3 1 (.t 5) (.k (.int .i64 1))),oL 41 40,oP 42 (.cvi .i64 (.t 41)),oB 43 39 42 .add,oM 44 7,oP 45 (.lens (.t 44)),oK 46 45 .add 1,oB 47 43 46 .rem,oM 9 47] u6_8 [1,3,5,7]
abbrev u6_6:IC:=qS [oF 29 3 0,oD 30 29 3,oF 31 3 3,oD 32 31 3,oC 33 20 [.t 30,.t 32],oM 28 33,oE 34 28 0,oE 35 28 1,oM 7 34,oM 8 35] u6_7 [1,3,5]
abbrev u6_2:IC:=qQ u6_3 u6_6 [1,3,5]
abbrev u6_1:IC:=qS [oX 3 0,oX 5 2,oV 6 (.bool false)] u6_2 [0,1,2]
def u6:IFn:=⟨138,u6_1,[.tmp 6]⟩
end
theorem isU6:IsFn Tryz.prog 6 u6:=by unfold IsFn;kernel_rfl
section
abbrev u7_5:IC:=qS [oC 31 13 [],oM 6 31] .ret []
abbrev u7_4:IC:=qK u7_5 .skip (.t 30) [1,2,3,30]
abbrev u7_3:IC:=qS [oD 23 3 6,oC 24 18 [.t 23],oY 25 24,oM 26 25,hM 27 1 26,oR 28 (.lens (.t 27)) 26,hK 29 28 26 .gtr 3000,oO 30 26 29] u7_4 [1,2,3]
abbrev u7_22:IC:=qS [oV 6 (.bool false)] .ret []
abbrev u7_21:IC:=qK u7_22 .skip (.t 115) [2,3,57,58,59,115]
abbrev u7_20:IC:=qS [oM 97 16,oM 98 18,oB 99 97 98 .neq,oM 100 99,hM 101 20 100,hM 102 22 100,oR 103 (.bin .neq (.t 101) (.t 102)) 100,oO 104 100 103,oM 105 104,hM 106 19 105,hM 107 21 105,oR 108 (.bin .neq (.t 106) (.t 107)) 105,oO 109 105 108,oM 110 109,oR 111 (.ld 3 true (.t 15)) 110,oR 112 (.ld 3 true (.t 17)) 110,⟨some 113,.call 15 [.t 111,.t 112],some (110,false)⟩,oR 114 (.un .not (.t 113)) 110,oO 115 110 114] u7_21 [2,3,15,16,17,18,19,20,21,22,57,58,59]
abbrev u7_19:IC:=qS [oF 88 3 0,oD 89 88 3,oF 90 3 3,oD 91 90 3,oM 92 14,oM 93 2,oC 94 27 [.t 89,.t 91,.t 92,.t 93],oM 87 94,oE 95 87 0,oE 96 87 1,oM 21 95,oM 22 96] u7_20 [2,3,14,15,16,17,18,19,20,57,58,59]
abbrev u7_18:IC:=qS [oF 78 3 0,oD 79 78 3,oF 80 3 3,oD 81 80 3,oM 82 14,oM 83 2,oC 84 26 [.t 79,.t 81,.t 82,.t 83],oM 77 84,oE 85 77 0,oE 86 77 1,oM 19 85,oM 20 86] u7_19 [2,3,14,15,16,17,18,57,58,59]
abbrev u7_17:IC:=qS [oF 71 3 0,oD 72 71 3,oM 73 14,oC 74 25 [.t 72,.t 73],oM 70 74,oE 75 70 0,oE 76 70 1,oW 17 (.agg #[.slice none 0 0,.slice none 0 0,.slice none 0 0]),oS 17 75 3,oM 18 76] u7_18 [2,3,14,15,16,57,58,59]
abbrev u7_16:IC:=qS [oF 64 3 0,oD 65 64 3,oM 66 14,oC 67 24 [.t 65,.t 66],oM 63 67,oE 68 63 0,oE 69 63 1,oW 15 (.agg #[.slice none 0 0,.slice none 0 0,.slice none 0 0]),oS 15 68 3,oM 16 69] u7_17 [2,3,14,57,58,59]
abbrev u7_15:IC:=qS [oA 61 57 59 1,oL 62 61,oM 14 62] u7_16 [2,3,57,58,59]
abbrev u7_23:IC:=qE [oK 116 59 .add 1,oM 59 116] [2,3,57,58,59]
abbrev u7_14:IC:=qB u7_15 u7_23 1 [2,3,57,58,59]
abbrev u7_13:IC:=qC .skip u7_14 (.exit 0) (.t 60) [2,3,57,58,59,60]
abbrev u7_12:IC:=qS [oB 60 59 58 .lss] u7_13 [2,3,57,58,59]
abbrev u7_11:IC:=qJ (.loop u7_12) 0 [2,3,57,58,59]
abbrev u7_10:IC:=qS [oM 54 1,oM 55 9,oM 56 11,⟨some 57,.new (.bsl 1 3 #[.string ⟨#[]⟩] [(0,.t 54),(1,.t 55),(2,.t 56)]),none⟩,oH 58 57,oI 59 0] u7_11 [1,2,3,9,11]
abbrev u7_24:IC:=qS [oC 117 13 [],oM 6 117] .ret []
abbrev u7_9:IC:=qQ u7_10 u7_24 [1,2,3,9,11]
abbrev u7_8:IC:=qS [oM 50 7,oC 51 23 [.t 50],oM 49 51,oE 52 49 0,oE 53 49 1,oM 11 52,oM 12 53] u7_9 [1,2,3,7,9]
abbrev u7_7:IC:=qS [oM 41 1,oM 42 1,oP 43 (.lens (.t 42)),oP 44 (.mn (.t 43) (.k (.int .i64 900))),oP 45 (.sls (.t 41) none (some (.t 44))),oC 46 23 [.t 45],oM 40 46,oE 47 40 0,oE 48 40 1,oM 9 47,oM 10 48] u7_8 [1,2,3,7]
abbrev u7_6:IC:=qS [oF 33 3 0,oD 34 33 3,oF 35 3 3,oD 36 35 3,oC 37 20 [.t 34,.t 36],oM 32 37,oE 38 32 0,oE 39 32 1,oM 7 38,oM 8 39] u7_7 [1,2,3]
abbrev u7_2:IC:=qQ u7_3 u7_6 [1,2,3]
abbrev u7_1:IC:=qS [oX 3 0,oV 6 (.bool false)] u7_2 [0,1,2]
def u7:IFn:=⟨118,u7_1,[.tmp 6]⟩
end
theorem isU7:IsFn Tryz.prog 7 u7:=by unfold IsFn;kernel_rfl
section
abbrev u8_5:IC:=qS [oC 32 13 [],oM 6 32] .ret []
abbrev u8_4:IC:=qK u8_5 .skip (.t 31) [2,3,4,31]
abbrev u8_3:IC:=qS [oD 22 3 6,oC 23 12 [.t 22],oY 24 23,oM 25 24,hF 26 3 0 25,oR 27 (.ld 3 true (.t 26)) 25,oR 28 (.ld 3 true (.t 4)) 25,⟨some 29,.call 16 [.t 27,.t 28],some (25,false)⟩,oR 30 (.un .not (.t 29)) 25,oO 31 25 30] u8_4 [2,3,4]
abbrev u8_13:IC:=qS [oV 6 (.bool false)] .ret []
abbrev u8_12:IC:=qK u8_13 .skip (.t 74) [2,3,4,7,74]
abbrev u8_11:IC:=qS [oM 59 8,oK 60 59 .neq 0,oM 61 60,hM 62 13 61,hK 63 62 61 .neq 0,oO 64 61 63,oM 65 64,hM 66 10 65,hK 67 66 65 .neq 62,oO 68 65 67,oM 69 68,oR 70 (.ld 3 true (.t 9)) 69,oR 71 (.ld 3 true (.t 11)) 69,⟨some 72,.call 15 [.t 70,.t 71],some (69,false)⟩,oR 73 (.un .not (.t 72)) 69,oO 74 69 73] u8_12 [2,3,4,7,8,9,10,11,13]
abbrev u8_21:IC:=qE [oD 109 4 3,oS 20 109 3,oI 21 0] [4,15,16,17,20]
abbrev u8_20:IC:=qK u8_21 .skip (.t 108) [4,15,16,17,20,21,108]
abbrev u8_19:IC:=qS [oM 102 2,oP 103 (.cvi .i64 (.t 102)),oK 104 103 .rem 1000,oM 105 18,oP 106 (.lens (.t 105)),oK 107 106 .add 8,oB 108 104 107 .geq] u8_20 [2,4,15,16,17,18,20,21]
abbrev u8_22:IC:=qS [oM 110 15,oM 111 21,oB 112 110 111 .eql,oM 113 112,gM 114 17 113,gK 115 114 113 .eql 0,oJ 116 113 115,oM 117 116,oG 118 (.ld 3 true (.t 16)) 117,oG 119 (.ld 3 true (.t 20)) 117,⟨some 120,.call 15 [.t 118,.t 119],some (117,true)⟩,oJ 121 117 120,oM 122 121,⟨some 123,.call 13 [],some (122,true)⟩,oJ 124 122 123,oM 6 124] .ret [15,16,17,20,21]
abbrev u8_18:IC:=qQ u8_19 u8_22 [2,4,15,16,17,18,20,21]
abbrev u8_17:IC:=qS [oF 100 3 3,oD 101 100 3,oW 20 (.agg #[.slice none 0 0,.slice none 0 0,.slice none 0 0]),oS 20 101 3,oI 21 61] u8_18 [2,3,4,15,16,17,18]
abbrev u8_16:IC:=qS [oF 94 3 0,oD 95 94 3,oD 96 4 3,oC 97 20 [.t 95,.t 96],oM 93 97,oE 98 93 0,oE 99 93 1,oM 18 98,oM 19 99] u8_17 [2,3,4,15,16,17]
abbrev u8_15:IC:=qS [oF 87 3 0,oD 88 87 3,oM 89 14,oC 90 24 [.t 88,.t 89],oM 86 90,oE 91 86 0,oE 92 86 1,oW 16 (.agg #[.slice none 0 0,.slice none 0 0,.slice none 0 0]),oS 16 91 3,oM 17 92] u8_16 [2,3,4,14,15]
abbrev u8_14:IC:=qS [oF 76 3 0,oD 77 76 3,oD 78 4 3,oM 79 7,oM 80 2,oP 81 (.cvi .i64 (.t 80)),oK 82 81 .rem 1000,oC 83 26 [.t 77,.t 78,.t 79,.t 82],oM 75 83,oE 84 75 0,oE 85 75 1,oM 14 84,oM 15 85] u8_15 [2,3,4,7]
abbrev u8_10:IC:=qQ u8_11 u8_14 [2,3,4,7,8,9,10,11,13]
abbrev u8_9:IC:=qS [oF 51 3 0,oD 52 51 3,oF 53 3 3,oD 54 53 3,oM 55 7,oC 56 26 [.t 52,.t 54,.t 55,.k (.int .i64 1048576)],oM 50 56,oE 57 50 0,oE 58 50 1,oM 7 57,oM 13 58] u8_10 [2,3,4,7,8,9,10,11]
abbrev u8_8:IC:=qS [oF 45 3 0,oD 46 45 3,oC 47 29 [.t 46],oM 44 47,oE 48 44 0,oE 49 44 1,oW 11 (.agg #[.slice none 0 0,.slice none 0 0,.slice none 0 0]),oS 11 48 3,oM 12 49] u8_9 [2,3,4,7,8,9,10]
abbrev u8_7:IC:=qS [oF 38 3 0,oD 39 38 3,oM 40 7,oC 41 24 [.t 39,.t 40],oM 37 41,oE 42 37 0,oE 43 37 1,oW 9 (.agg #[.slice none 0 0,.slice none 0 0,.slice none 0 0]),oS 9 42 3,oM 10 43] u8_8 [2,3,4,7,8]
abbrev u8_6:IC:=qS [oC 34 28 [.k (.string ⟨#[106,117,110,107]⟩)],oM 33 34,oE 35 33 0,oE 36 33 1,oM 7 35,oM 8 36] u8_7 [2,3,4]
abbrev u8_2:IC:=qQ u8_3 u8_6 [2,3,4]
abbrev u8_1:IC:=qS [oX 3 0,oX 4 1,oV 6 (.bool false)] u8_2 [0,1,2]
def u8:IFn:=⟨125,u8_1,[.tmp 6]⟩
end
theorem isU8:IsFn Tryz.prog 8 u8:=by unfold IsFn;kernel_rfl
section
abbrev u9_5:IC:=qS [oC 25 13 [],oM 6 25] .ret []
abbrev u9_4:IC:=qK u9_5 .skip (.t 24) [1,2,3,24]
abbrev u9_3:IC:=qS [oD 22 3 6,oC 23 18 [.t 22],oY 24 23] u9_4 [1,2,3]
abbrev u9_11:IC:=qK .skip (.exit 0) (.t 27) [1,2,3,7,27]
abbrev u9_10:IC:=qS [oM 26 7,oK 27 26 .lss 4] u9_11 [1,2,3,7]
abbrev u9_17:IC:=qK .skip (.exit 2) (.t 31) [1,2,3,7,8,31]
abbrev u9_16:IC:=qS [oM 30 8,oK 31 30 .lss 3] u9_17 [1,2,3,7,8]
abbrev u9_23:IC:=qE [oF 49 3 0,oF 50 49 0,oL 51 50,oM 52 7,oA 53 51 52 4,oF 54 53 3,oL 55 54,oM 9 55] [1,2,3,7,8]
abbrev u9_22:IC:=qK u9_23 .skip (.t 48) [1,2,3,7,8,9,48]
abbrev u9_21:IC:=qS [oM 35 8,oK 36 35 .eql 1,oM 37 36,gM 38 7 37,gK 39 38 37 .geq 0,oJ 40 37 39,oM 41 40,gM 42 7 41,gF 43 3 0 41,gF 44 43 0 41,gL 45 44 41,oG 46 (.len (.t 45)) 41,oG 47 (.bin .lss (.t 42) (.t 46)) 41,oJ 48 41 47] u9_22 [1,2,3,7,8,9]
abbrev u9_27:IC:=qE [oM 58 2,oK 59 58 .rem 20,oM 9 59] [1,2,3,7,8]
abbrev u9_26:IC:=qK u9_27 .skip (.t 57) [1,2,3,7,8,9,57]
abbrev u9_25:IC:=qS [oM 56 8,oK 57 56 .eql 2] u9_26 [1,2,3,7,8,9]
abbrev u9_34:IC:=qS [oV 6 (.bool false)] .ret []
abbrev u9_33:IC:=qK u9_34 .skip (.t 121) [1,2,3,7,8,121]
abbrev u9_32:IC:=qS [oM 102 11,oM 103 13,oB 104 102 103 .neq,oM 105 104,hM 106 15 105,hM 107 17 105,oR 108 (.bin .neq (.t 106) (.t 107)) 105,oO 109 105 108,oM 110 109,oR 111 (.ld 3 true (.t 10)) 110,oR 112 (.ld 3 true (.t 12)) 110,⟨some 113,.call 15 [.t 111,.t 112],some (110,false)⟩,oR 114 (.un .not (.t 113)) 110,oO 115 110 114,oM 116 115,oR 117 (.ld 3 true (.t 14)) 116,oR 118 (.ld 3 true (.t 16)) 116,⟨some 119,.call 15 [.t 117,.t 118],some (116,false)⟩,oR 120 (.un .not (.t 119)) 116,oO 121 116 120] u9_33 [1,2,3,7,8,10,11,12,13,14,15,16,17]
abbrev u9_31:IC:=qS [oF 92 3 0,oD 93 92 3,oF 94 3 3,oD 95 94 3,oM 96 7,oM 97 8,oK 98 97 .eql 0,oC 99 32 [.t 93,.t 95,.t 96,.t 98],oM 91 99,oE 100 91 0,oE 101 91 1,oW 16 (.agg #[.slice none 0 0,.slice none 0 0,.slice none 0 0]),oS 16 100 3,oM 17 101] u9_32 [1,2,3,7,8,10,11,12,13,14,15]
abbrev u9_30:IC:=qS [oF 81 3 0,oD 82 81 3,oF 83 3 3,oD 84 83 3,oM 85 7,oM 86 8,oK 87 86 .eql 0,oC 88 14 [.t 82,.t 84,.t 85,.t 87],oM 80 88,oE 89 80 0,oE 90 80 1,oW 14 (.agg #[.slice none 0 0,.slice none 0 0,.slice none 0 0]),oS 14 89 3,oM 15 90] u9_31 [1,2,3,7,8,10,11,12,13]
abbrev u9_29:IC:=qS [oF 71 3 0,oD 72 71 3,oF 73 3 3,oD 74 73 3,oM 75 7,oM 76 9,oC 77 31 [.t 72,.t 74,.t 75,.t 76],oM 70 77,oE 78 70 0,oE 79 70 1,oW 12 (.agg #[.slice none 0 0,.slice none 0 0,.slice none 0 0]),oS 12 78 3,oM 13 79] u9_30 [1,2,3,7,8,9,10,11]
abbrev u9_28:IC:=qS [oF 61 3 0,oD 62 61 3,oF 63 3 3,oD 64 63 3,oM 65 7,oM 66 9,oC 67 30 [.t 62,.t 64,.t 65,.t 66],oM 60 67,oE 68 60 0,oE 69 60 1,oW 10 (.agg #[.slice none 0 0,.slice none 0 0,.slice none 0 0]),oS 10 68 3,oM 11 69] u9_29 [1,2,3,7,8,9]
abbrev u9_24:IC:=qQ u9_25 u9_28 [1,2,3,7,8,9]
abbrev u9_20:IC:=qQ u9_21 u9_24 [1,2,3,7,8,9]
abbrev u9_19:IC:=qS [oM 34 2,oM 9 34] u9_20 [1,2,3,7,8]
abbrev u9_35:IC:=qE [oM 32 8,oK 33 32 .add 1,oM 8 33] [1,2,3,7,8]
abbrev u9_18:IC:=qB u9_19 u9_35 3 [1,2,3,7,8]
abbrev u9_15:IC:=qQ u9_16 u9_18 [1,2,3,7,8]
abbrev u9_14:IC:=qJ (.loop u9_15) 2 [1,2,3,7,8]
abbrev u9_13:IC:=qS [oI 8 0] u9_14 [1,2,3,7]
abbrev u9_36:IC:=qE [oM 28 7,oK 29 28 .add 1,oM 7 29] [1,2,3,7]
abbrev u9_12:IC:=qB u9_13 u9_36 1 [1,2,3,7]
abbrev u9_9:IC:=qQ u9_10 u9_12 [1,2,3,7]
abbrev u9_8:IC:=qJ (.loop u9_9) 0 [1,2,3,7]
abbrev u9_7:IC:=qS [oI 7 (-1)] u9_8 [1,2,3]
abbrev u9_39:IC:=qS [oM 142 19,oM 143 21,oB 144 142 143 .eql,oM 145 144,oG 146 (.ld 3 true (.t 18)) 145,oG 147 (.ld 3 true (.t 20)) 145,⟨some 148,.call 15 [.t 146,.t 147],some (145,true)⟩,oJ 149 145 148,oM 150 149,⟨some 151,.call 13 [],some (150,true)⟩,oJ 152 150 151,oM 6 152] .ret [18,19,20,21]
abbrev u9_38:IC:=qS [oF 133 3 0,oD 134 133 3,oF 135 3 3,oD 136 135 3,oM 137 1,oM 138 2,oC 139 31 [.t 134,.t 136,.t 137,.t 138],oM 132 139,oE 140 132 0,oE 141 132 1,oW 20 (.agg #[.slice none 0 0,.slice none 0 0,.slice none 0 0]),oS 20 140 3,oM 21 141] u9_39 [1,2,3,18,19]
abbrev u9_37:IC:=qS [oF 123 3 0,oD 124 123 3,oF 125 3 3,oD 126 125 3,oM 127 1,oM 128 2,oC 129 30 [.t 124,.t 126,.t 127,.t 128],oM 122 129,oE 130 122 0,oE 131 122 1,oW 18 (.agg #[.slice none 0 0,.slice none 0 0,.slice none 0 0]),oS 18 130 3,oM 19 131] u9_38 [1,2,3]
abbrev u9_6:IC:=qQ u9_7 u9_37 [1,2,3]
abbrev u9_2:IC:=qQ u9_3 u9_6 [1,2,3]
abbrev u9_1:IC:=qS [oX 3 0,oV 6 (.bool false)] u9_2 [0,1,2]
def u9:IFn:=⟨153,u9_1,[.tmp 6]⟩
end
theorem isU9:IsFn Tryz.prog 9 u9:=by unfold IsFn;kernel_rfl
section
abbrev u10_5:IC:=qS [oC 17 13 [],oM 4 17] .ret []
abbrev u10_4:IC:=qK u10_5 .skip (.t 16) [2,3,16]
abbrev u10_3:IC:=qS [oD 9 2 6,oC 10 18 [.t 9],oY 11 10,oM 12 11,oR 13 (.ld 6 true (.t 3)) 12,⟨some 14,.call 18 [.t 13],some (12,false)⟩,oR 15 (.un .not (.t 14)) 12,oO 16 12 15] u10_4 [2,3]
abbrev u10_8:IC:=qD [oF 30 2 0,oD 31 30 3,oC 32 34 [.t 31],oF 33 2 0,oD 34 33 3,oC 35 35 [.t 34],oB 36 32 35 .eql,oM 37 36,gM 38 6 37,gM 39 8 37,oG 40 (.bin .eql (.t 38) (.t 39)) 37,oJ 41 37 40,oM 42 41,oG 43 (.ld 3 true (.t 5)) 42,oG 44 (.ld 3 true (.t 7)) 42,⟨some 45,.call 15 [.t 43,.t 44],some (42,true)⟩,oJ 46 42 45,oM 47 46,gF 48 2 0 47,oG 49 (.ld 3 true (.t 48)) 47,gF 50 2 3 47,oG 51 (.ld 3 true (.t 50)) 47,⟨some 52,.call 36 [.t 49,.t 51],some (47,true)⟩,gF 53 2 0 47,oG 54 (.ld 3 true (.t 53)) 47,gF 55 2 3 47,oG 56 (.ld 3 true (.t 55)) 47,⟨some 57,.call 16 [.t 54,.t 56],some (47,true)⟩,oG 58 (.eqb false (.t 52) (.t 57)) 47,oJ 59 47 58,oM 60 59,gF 61 2 3 60,oG 62 (.ld 3 true (.t 61)) 60,gF 63 3 3 60,oG 64 (.ld 3 true (.t 63)) 60,⟨some 65,.call 37 [.t 62,.t 64],some (60,true)⟩,gF 66 2 3 60,oG 67 (.ld 3 true (.t 66)) 60,gF 68 3 3 60,oG 69 (.ld 3 true (.t 68)) 60,⟨some 70,.call 15 [.t 67,.t 69],some (60,true)⟩,oG 71 (.eqb false (.t 65) (.t 70)) 60,oJ 72 60 71,oM 73 72,gF 74 2 3 73,oG 75 (.ld 3 true (.t 74)) 73,gF 76 2 3 73,oG 77 (.ld 3 true (.t 76)) 73,⟨some 78,.call 37 [.t 75,.t 77],some (73,true)⟩,oJ 79 73 78,oM 80 79,⟨some 81,.call 13 [],some (80,true)⟩,oJ 82 80 81,oM 4 82] .ret [(0,none),(1,none),(3,none),(4,none),(2,some [3,4]),(5,some []),(6,none),(7,none),(8,none),(9,none),(10,none),(11,none),(12,none),(13,none),(14,none),(15,some []),(16,none),(17,none),(18,none),(19,none),(20,none),(21,none),(23,none),(24,none),(25,none),(26,none),(22,some [23,24,25,26]),(27,some []),(28,none),(29,none),(30,none),(31,none),(32,none),(33,none),(34,none),(36,none),(37,none),(38,none),(39,none),(35,some [36,37,38,39]),(40,some []),(41,none),(42,none),(43,none),(44,none),(45,none),(46,none),(47,none),(48,some []),(49,none),(50,none),(51,some []),(52,none),(53,some [])] 54 [2,3,5,6,7,8]
abbrev u10_7:IC:=qS [oF 25 2 0,oD 26 25 3,oC 27 29 [.t 26],oM 24 27,oE 28 24 0,oE 29 24 1,oW 7 (.agg #[.slice none 0 0,.slice none 0 0,.slice none 0 0]),oS 7 28 3,oM 8 29] u10_8 [2,3,5,6]
abbrev u10_6:IC:=qS [oF 19 2 0,oD 20 19 3,oC 21 33 [.t 20],oM 18 21,oE 22 18 0,oE 23 18 1,oW 5 (.agg #[.slice none 0 0,.slice none 0 0,.slice none 0 0]),oS 5 22 3,oM 6 23] u10_7 [2,3]
abbrev u10_2:IC:=qQ u10_3 u10_6 [2,3]
abbrev u10_1:IC:=qS [oX 2 0,oX 3 1,oV 4 (.bool false)] u10_2 [0,1]
def u10:IFn:=⟨83,u10_1,[.tmp 4]⟩
end
theorem isU10:IsFn Tryz.prog 10 u10:=by unfold IsFn;kernel_rfl
section
abbrev u11_5:IC:=qS [oC 35 13 [],oM 6 35] .ret []
abbrev u11_4:IC:=qK u11_5 .skip (.t 34) [2,3,4,34]
abbrev u11_3:IC:=qS [oD 26 3 6,oC 27 18 [.t 26],oY 28 27,oM 29 28,hF 30 4 0 29,hL 31 30 29,oR 32 (.lens (.t 31)) 29,hK 33 32 29 .gtr 50,oO 34 29 33] u11_4 [2,3,4]
abbrev u11_11:IC:=qK .skip (.exit 0) (.t 37) [2,3,4,7,37]
abbrev u11_10:IC:=qS [oM 36 7,oK 37 36 .lss 4] u11_11 [2,3,4,7]
abbrev u11_19:IC:=qS [oV 6 (.bool false)] .ret []
abbrev u11_18:IC:=qK u11_19 .skip (.t 97) [2,3,4,7,97]
abbrev u11_17:IC:=qS [oM 78 9,oM 79 11,oB 80 78 79 .neq,oM 81 80,hM 82 13 81,hM 83 15 81,oR 84 (.bin .neq (.t 82) (.t 83)) 81,oO 85 81 84,oM 86 85,oR 87 (.ld 3 true (.t 8)) 86,oR 88 (.ld 3 true (.t 10)) 86,⟨some 89,.call 15 [.t 87,.t 88],some (86,false)⟩,oR 90 (.un .not (.t 89)) 86,oO 91 86 90,oM 92 91,oR 93 (.ld 3 true (.t 12)) 92,oR 94 (.ld 3 true (.t 14)) 92,⟨some 95,.call 15 [.t 93,.t 94],some (92,false)⟩,oR 96 (.un .not (.t 95)) 92,oO 97 92 96] u11_18 [2,3,4,7,8,9,10,11,12,13,14,15]
abbrev u11_16:IC:=qS [oF 70 3 0,oD 71 70 3,oF 72 3 3,oD 73 72 3,oM 74 7,oC 75 41 [.t 71,.t 73,.t 74],oM 69 75,oE 76 69 0,oE 77 69 1,oW 14 (.agg #[.slice none 0 0,.slice none 0 0,.slice none 0 0]),oS 14 76 3,oM 15 77] u11_17 [2,3,4,7,8,9,10,11,12,13]
abbrev u11_15:IC:=qS [oF 61 3 0,oD 62 61 3,oF 63 3 3,oD 64 63 3,oM 65 7,oC 66 40 [.t 62,.t 64,.t 65],oM 60 66,oE 67 60 0,oE 68 60 1,oW 12 (.agg #[.slice none 0 0,.slice none 0 0,.slice none 0 0]),oS 12 67 3,oM 13 68] u11_16 [2,3,4,7,8,9,10,11]
abbrev u11_14:IC:=qS [oF 51 3 0,oD 52 51 3,oF 53 3 3,oD 54 53 3,oM 55 7,oM 56 2,oC 57 39 [.t 52,.t 54,.t 55,.t 56],oM 50 57,oE 58 50 0,oE 59 50 1,oW 10 (.agg #[.slice none 0 0,.slice none 0 0,.slice none 0 0]),oS 10 58 3,oM 11 59] u11_15 [2,3,4,7,8,9]
abbrev u11_13:IC:=qS [oF 41 3 0,oD 42 41 3,oF 43 3 3,oD 44 43 3,oM 45 7,oM 46 2,oC 47 38 [.t 42,.t 44,.t 45,.t 46],oM 40 47,oE 48 40 0,oE 49 40 1,oW 8 (.agg #[.slice none 0 0,.slice none 0 0,.slice none 0 0]),oS 8 48 3,oM 9 49] u11_14 [2,3,4,7]
abbrev u11_20:IC:=qE [oM 38 7,oK 39 38 .add 1,oM 7 39] [2,3,4,7]
abbrev u11_12:IC:=qB u11_13 u11_20 1 [2,3,4,7]
abbrev u11_9:IC:=qQ u11_10 u11_12 [2,3,4,7]
abbrev u11_8:IC:=qJ (.loop u11_9) 0 [2,3,4,7]
abbrev u11_7:IC:=qS [oI 7 (-1)] u11_8 [2,3,4]
abbrev u11_25:IC:=qS [oM 136 18,oM 137 21,oB 138 136 137 .eql,oM 139 138,gM 140 17 139,gM 141 20 139,oG 142 (.bin .eql (.t 140) (.t 141)) 139,oJ 143 139 142,oM 144 143,oG 145 (.ld 3 true (.t 16)) 144,oG 146 (.ld 3 true (.t 19)) 144,⟨some 147,.call 15 [.t 145,.t 146],some (144,true)⟩,oJ 148 144 147,oM 149 148,gM 150 23 149,gM 151 25 149,oG 152 (.bin .eql (.t 150) (.t 151)) 149,oJ 153 149 152,oM 154 153,oG 155 (.ld 3 true (.t 22)) 154,oG 156 (.ld 3 true (.t 24)) 154,⟨some 157,.call 15 [.t 155,.t 156],some (154,true)⟩,oJ 158 154 157,oM 159 158,⟨some 160,.call 13 [],some (159,true)⟩,oJ 161 159 160,oM 6 161] .ret [16,17,18,19,20,21,22,23,24,25]
abbrev u11_24:IC:=qS [oF 128 3 0,oD 129 128 3,oF 130 3 3,oD 131 130 3,oM 132 2,oC 133 39 [.t 129,.t 131,.t 132,.k (.int .i64 1)],oM 127 133,oE 134 127 0,oE 135 127 1,oW 24 (.agg #[.slice none 0 0,.slice none 0 0,.slice none 0 0]),oS 24 134 3,oM 25 135] u11_25 [2,3,16,17,18,19,20,21,22,23]
abbrev u11_23:IC:=qS [oF 119 3 0,oD 120 119 3,oF 121 3 3,oD 122 121 3,oM 123 2,oC 124 38 [.t 120,.t 122,.t 123,.k (.int .i64 1)],oM 118 124,oE 125 118 0,oE 126 118 1,oW 22 (.agg #[.slice none 0 0,.slice none 0 0,.slice none 0 0]),oS 22 125 3,oM 23 126] u11_24 [2,3,16,17,18,19,20,21]
abbrev u11_22:IC:=qS [oF 109 3 0,oD 110 109 3,oF 111 3 3,oD 112 111 3,oD 113 4 2,oC 114 42 [.t 110,.t 112,.t 113],oM 108 114,oE 115 108 0,oE 116 108 1,oE 117 108 2,oW 19 (.agg #[.slice none 0 0,.slice none 0 0,.slice none 0 0]),oS 19 115 3,oM 20 116,oM 21 117] u11_23 [2,3,4,16,17,18]
abbrev u11_21:IC:=qS [oF 99 3 0,oD 100 99 3,oF 101 3 3,oD 102 101 3,oD 103 4 2,oC 104 17 [.t 100,.t 102,.t 103],oM 98 104,oE 105 98 0,oE 106 98 1,oE 107 98 2,oW 16 (.agg #[.slice none 0 0,.slice none 0 0,.slice none 0 0]),oS 16 105 3,oM 17 106,oM 18 107] u11_22 [2,3,4]
abbrev u11_6:IC:=qQ u11_7 u11_21 [2,3,4]
abbrev u11_2:IC:=qQ u11_3 u11_6 [2,3,4]
abbrev u11_1:IC:=qS [oX 3 0,oX 4 1,oV 6 (.bool false)] u11_2 [0,1,2]
def u11:IFn:=⟨162,u11_1,[.tmp 6]⟩
end
theorem isU11:IsFn Tryz.prog 11 u11:=by unfold IsFn;kernel_rfl
end Go.Proofs.YtndjhpjcankkaaaGreatDoor
namespace Go.Pb
variable [Go.Sym.Tab]
open Go.Sym
theorem read_mark {s d:List UInt8} (h:readM s=some d):1≤bt s 0∧bt s 0≤3:=by
 unfold readM at h
 split at h
 ·cases h
 ·omega
theorem open_format {d:List UInt8} (hd:d.length≤1024):(formatM d).2=0∧(formatM d).1.length=2062∧curM (formatM d).1=(0,1,d,0):=by
 have h7:([1]++headM d).length=7:=rfl
 have e:formatM d=(([1]++headM d++d++List.replicate (1024-d.length) 0)++List.replicate 1031 0,0):=by
  unfold formatM
  rw [if_neg (by omega),List.append_assoc _ (List.replicate (1024-d.length) (0:UInt8)),List.replicate_append_replicate,show 1024-d.length+1031=2055-d.length by omega]
 have l1:([1]++headM d++d++List.replicate (1024-d.length) 0).length=1031:=by rw [List.length_append,List.length_append,h7,List.length_replicate];omega
 have l2:(List.replicate 1031 (0:UInt8)).length=1031:=List.length_replicate
 rw [e]
 refine ⟨rfl,by rw [List.length_append,l1,l2],?_⟩
 rw [cur_parts l1 l2,read_zero (s:=List.replicate 1031 0) rfl]
 have r:=read_word hd (m:=1) (by omega) (by omega) (List.replicate (1024-d.length) 0)
 have e2:u8 1 :: (headM d++d++List.replicate (1024-d.length) 0)=[1]++headM d++d++List.replicate (1024-d.length) 0:=rfl
 rw [e2] at r
 rw [r]
theorem commit_cases {mem d:List UInt8} {bud:Int} (h:(curM mem).2.2.2=0) (hd:d.length≤1024):∃ a b:List UInt8,mem=a++b∧a.length=1031∧b.length=1031 ∧
  (((curM mem).1=0∧(commitM mem d bud).1=a++slotW b d bud.toNat (u8 (bt a 0 % 3+1))∧readM a=some (curM mem).2.2.1) ∨
  ((curM mem).1=1∧(commitM mem d bud).1=slotW a d bud.toNat (u8 (bt b 0 % 3+1))++b∧readM b=some (curM mem).2.2.1∧(∀ x,readM a=some x→bt b 0=bt a 0 % 3+1))):=by
 have hl:mem.length=2062:=by
  by_cases hl:mem.length=2062
  ·exact hl
  ·rw [curM,if_pos hl] at h;cases h
 have la:(mem.take 1031).length=1031:=by rw [List.length_take];omega
 have lb:(mem.drop 1031).length=1031:=by rw [List.length_drop];omega
 have he:mem=mem.take 1031++mem.drop 1031:=(List.take_append_drop _ _).symm
 refine ⟨mem.take 1031,mem.drop 1031,he,la,lb,?_⟩
 generalize mem.take 1031=a at *
 generalize mem.drop 1031=b at *
 have hcm:(commitM mem d bud).1=commitO mem (curM mem).1 d bud.toNat:=by unfold commitM;rw [if_neg (by simpa using h),if_neg (by omega)]
 have hc:=cur_parts la lb
 rw [← he] at hc
 rw [hcm]
 cases ha:readM a with
 | none =>
  cases hb:readM b with
  | none=>rw [ha,hb] at hc;rw [hc] at h;cases h
  | some y =>
   rw [ha,hb] at hc;rw [hc]
   refine .inr ⟨rfl,?_,rfl,by simp⟩
   show commitO mem 1 d _=_
   rw [he,commit_0 la lb hd]
 | some x =>
  cases hb:readM b with
  | none =>
   rw [ha,hb] at hc;rw [hc]
   refine .inl ⟨rfl,?_,rfl⟩
   show commitO mem 0 d _=_
   rw [he,commit_1 la lb hd]
  | some y =>
   rw [ha,hb] at hc
   simp only at hc
   by_cases hq:bt b 0=bt a 0 % 3+1
   ·rw [if_pos hq] at hc;rw [hc]
    refine .inr ⟨rfl,?_,rfl,fun _ _=>hq⟩
    show commitO mem 1 d _=_
    rw [he,commit_0 la lb hd]
   ·rw [if_neg hq] at hc;rw [hc]
    refine .inl ⟨rfl,?_,rfl⟩
    show commitO mem 0 d _=_
    rw [he,commit_1 la lb hd]
theorem commit_full {mem d:List UInt8} {bud:Int} (h:(curM mem).2.2.2=0) (hd:d.length≤1024) (hb:(d.length:Int)+8≤bud) :
  (commitM mem d bud).2=0∧(commitM mem d bud).1.length=2062∧openM (commitM mem d bud).1=(d,0):=by
 have h2:(commitM mem d bud).2=0:=by unfold commitM;rw [if_neg (by simpa using h),if_neg (by omega)];simp only;rw [if_neg (by omega)]
 obtain ⟨a,b,he,la,lb,h1|h1⟩:=commit_cases (bud:=bud) h hd
 ·obtain ⟨g1,g2,g3⟩:=h1
  have hm:=read_mark g3
  obtain ⟨f1,f2⟩:=slotW_full (o:=b) lb hd (m:=bud.toNat) (k:=bt a 0 % 3+1) (by omega) (by omega) (by omega)
  have ls:=slotW_len (o:=b) lb hd bud.toNat (u8 (bt a 0 % 3+1))
  refine ⟨h2,by rw [g2,List.length_append,la,ls],?_⟩
  unfold openM
  rw [g2,cur_parts la ls,g3,f1]
  simp only
  rw [if_pos f2]
 ·obtain ⟨g1,g2,g3,g4⟩:=h1
  have hm:=read_mark g3
  obtain ⟨f1,f2⟩:=slotW_full (o:=a) la hd (m:=bud.toNat) (k:=bt b 0 % 3+1) (by omega) (by omega) (by omega)
  have ls:=slotW_len (o:=a) la hd bud.toNat (u8 (bt b 0 % 3+1))
  refine ⟨h2,by rw [g2,List.length_append,lb,ls],?_⟩
  unfold openM
  rw [g2,cur_parts ls lb,g3,f1]
  simp only
  rw [if_neg (by rw [f2];omega)]
theorem commit_part {mem d:List UInt8} {bud:Int} (h:(curM mem).2.2.2=0) (hd:d.length≤1024) (hb:bud<(d.length:Int)+8) :
  (commitM mem d bud).2=61∧(commitM mem d bud).1.length=2062∧openM (commitM mem d bud).1=openM mem:=by
 have h2:(commitM mem d bud).2=61:=by unfold commitM;rw [if_neg (by simpa using h),if_neg (by omega)];simp only;rw [if_pos hb]
 obtain ⟨a,b,he,la,lb,h1|h1⟩:=commit_cases (bud:=bud) h hd
 ·obtain ⟨g1,g2,g3⟩:=h1
  have ls:=slotW_len (o:=b) lb hd bud.toNat (u8 (bt a 0 % 3+1))
  refine ⟨h2,by rw [g2,List.length_append,la,ls],?_⟩
  rcases slotW_part (o:=b) (d:=d) (m:=bud.toNat) (k:=u8 (bt a 0 % 3+1)) (by omega) with ⟨p1,p2⟩|p
  ·rw [g2,p1, ← he]
  ·unfold openM
   rw [g2,cur_parts la ls,g3,read_zero p,h]
 ·obtain ⟨g1,g2,g3,g4⟩:=h1
  have ls:=slotW_len (o:=a) la hd bud.toNat (u8 (bt b 0 % 3+1))
  refine ⟨h2,by rw [g2,List.length_append,lb,ls],?_⟩
  rcases slotW_part (o:=a) (d:=d) (m:=bud.toNat) (k:=u8 (bt b 0 % 3+1)) (by omega) with ⟨p1,p2⟩|p
  ·rw [g2,p1, ← he]
  ·unfold openM
   rw [g2,cur_parts ls lb,g3,read_zero p,h]
end Go.Pb
namespace Go.Proofs.YtndjhpjcankkaaaGreatDoor
open Go.Eng (IC IOper DReg IFn IsFn Callable)
open Go.Sym Go.Pb
theorem st_valid {c:Book} {s:BSt} (h:isStM c s=true):validBM c=0:=(isSt_iff.1 h).1
theorem load_enc {c:Book} {s:BSt} {mem:List UInt8} (h:isStM c s=true) (ho:openM mem=(encS s,0)):loadM c mem=(s,0):=by
 have hd:=dec_enc41 h
 unfold loadM
 rw [if_neg (by simp [st_valid h]),ho,hd]
 simp
theorem save_full {c:Book} {s:BSt} {mem:List UInt8} {bud:Int} (h:isStM c s=true) (hm:(curM mem).2.2.2=0) (hb:848≤bud) :
  (saveM c s mem bud).2=0∧(saveM c s mem bud).1.length=2062∧openM (saveM c s mem bud).1=(encS s,0):=by
 have hl:=enc_len41 h
 unfold saveM
 rw [if_neg (by simp [h])]
 exact commit_full hm (by omega) (by omega)
def scS:List Sco:=[⟨[65,65,65],900⟩,⟨[66,66,66],500⟩,⟨[67,67,67],500⟩]
abbrev bkS:Book:=⟨[⟨1,8,3,4⟩],1,scS⟩
def s0S:BSt:=⟨[4],[0],scS⟩
def saS:BSt:=⟨[4],[0],[⟨[65,65,65],900⟩,⟨[68,68,68],700⟩,⟨[66,66,66],500⟩]⟩
def sbS:BSt:=⟨[7],[0],[⟨[65,65,65],900⟩,⟨[68,68,68],700⟩,⟨[66,66,66],500⟩]⟩
def sdS:BSt:=⟨[1],[0],[⟨[65,65,65],900⟩,⟨[68,68,68],700⟩,⟨[66,66,66],500⟩]⟩
theorem lenS_of {l:List Sco} (h1:l.length≤100) (h2:∀ x∈l,x.name.length≤100):lenS l:=⟨by omega,fun x hx=>by have:=h2 x hx;omega⟩
theorem adjs_unit (l:List Adj):∀ x∈l.map Adj.v,x.cells.length=4:=fun x hx=>by obtain ⟨y, -,rfl⟩:=List.mem_map.1 hx;rfl
theorem c_sane:PC Tryz.prog 13 [] (.bool true):=by
 have hB:lenB bkS:=⟨by decide,lenS_of (by decide) (by decide)⟩
 have h0:lenT s0S:=⟨by decide,by decide,lenS_of (by decide) (by decide)⟩
 have ha:lenT saS:=⟨by decide,by decide,lenS_of (by decide) (by decide)⟩
 have hb:lenT sbS:=⟨by decide,by decide,lenS_of (by decide) (by decide)⟩
 have q1:=c_New bkS hB
 rw [show newM bkS=(s0S,0) by decide +kernel] at q1
 have q2:=c_Enter bkS s0S hB h0 ⟨[68,68,68],700⟩ (by decide)
 rw [show enterM bkS s0S ⟨[68,68,68],700⟩=(saS,1,0) by decide +kernel] at q2
 have q3:=c_Enter bkS s0S hB h0 ⟨[68,68,68],500⟩ (by decide)
 rw [show enterM bkS s0S ⟨[68,68,68],500⟩=(s0S, -1,0) by decide +kernel] at q3
 have q4:=c_Turn bkS saS hB ha 0 true
 rw [show turnM bkS saS 0 true=(sbS,0) by decide +kernel] at q4
 have q5:=c_Turn bkS sbS hB hb 0 true
 rw [show turnM bkS sbS 0 true=(sdS,0) by decide +kernel] at q5
 have q6:=c_FormatR [] (by decide)
 obtain ⟨f1,f2,f3⟩:=open_format (d:=[]) (by decide)
 rw [f1] at q6
 generalize (formatM []).1=m0 at q6 f2 f3
 have hs:isStM bkS sbS=true:=by decide +kernel
 have q7:=c_Save bkS sbS m0 1000 hB hb (by omega) (by constructor<;>decide)
 obtain ⟨g1,g2,g3⟩:=save_full (mem:=m0) (bud:=1000) hs (by rw [f3]) (by decide)
 rw [g1] at q7
 generalize (saveM bkS sbS m0 1000).1=m1 at q7 g2 g3
 have q8:=c_Load bkS hB m1 (by omega)
 rw [load_enc hs g3] at q8
 have q9:=c_SameR sbS sbS hb
 rw [show decide (sbS=sbS)=true by simp] at q9
 refine PC.of mixedU isU13 (Nat.le_of_ble_eq_true rfl) (by simp [DV.nlL,DV.nl,nlL_ints,nlL_strs,nlL_adjs,nlL_scos]) (by simp [DV.nlL,DV.nl,nlL_ints,nlL_strs,nlL_adjs,nlL_scos]) ?_
 show IW Tryz.prog 153 u13_1 ⟨argT _,_,_⟩ (rt [.tmp 0] _)
 repeat' ((with_reducible first|refine wr ?_|refine k_cu ?_ ?_|refine wb2 ?_ ?_<;>(intro hb;try simp only [hb])|fail)<;>try simp only [go_sem,seval])
 refine AC.ghost ((g_one (a:=0) (k:=2) (u:=4) (u':=4) (pre:=[]) (suf:=[I64 1,.slc 1 0 3]) (xs:=[(⟨1,8,3,4⟩:Adj)].map Adj.v) (junk:=[]) rfl rfl (by simp [DV.one]) rfl (adjs_unit _) (by decide)).trans
  (g_one (a:=1) (k:=2) (u:=2) (u':=2) (pre:=[adjsV [⟨1,8,3,4⟩],I64 1]) (suf:=[]) (xs:=scS.map Sco.v) (junk:=[]) rfl rfl (by simp [DV.one]) rfl (scos_unit _) (by decide))) ?_
 refine AC.call (q1.at _ _) ?_
 rintro _ _ _ ⟨rfl,rfl,rfl⟩ -
 simp only [go_sem,seval]
 have l1:sbS.sets.length=1:=rfl
 have l2:sdS.sets.length=1:=rfl
 have l3:saS.scores.length=3:=rfl
 have i1:iadR 2 (scosV saS.scores) (.int .i64 2)=some (.fptr [.str [66,66,66],I64 500]):=rfl
 have i2:iadR 1 (intsV sbS.sets) (.int .i64 0)=some (.fptr [I64 7]):=rfl
 have i3:iadR 1 (intsV sdS.sets) (.int .i64 0)=some (.fptr [I64 1]):=rfl
 repeat' ((with_reducible first|refine wr ?_|refine cpc q2 ?_|refine cpc q3 ?_|refine cpc q4 ?_|refine cpc q5 ?_|refine cpc q6 ?_|refine cpc q7 ?_|refine cpc q8 ?_|refine cpc q9 ?_|refine k_cu ?_ ?_|refine wb2 ?_ ?_<;>(intro hb;try simp only [hb])|fail)<;>try simp only [go_sem,seval,l1,l2,l3,i1,i2,i3])
 all_goals exact pc_ret rfl
end Go.Proofs.YtndjhpjcankkaaaGreatDoor
namespace Go.Pb
variable [Go.Sym.Tab]
open Go.Sym
structure Dsk where
 c:Book
 s:BSt
abbrev csD (x:Dsk):List DV:=[adjsV x.c.adjs,I64 x.c.cnt,scosV x.c.scores,intsV x.s.sets,intsV x.s.counts,scosV x.s.scores]
abbrev Dsk.v (x:Dsk):DV:=.agg (csD x)
def nm50 (y:Sco):Bool:=decide (y.name.length≤50)
def smM (x:Dsk):Bool:=(x.c.scores.take 20).all nm50 && ((x.s.scores.take 20).all nm50 &&
 (decide (x.c.adjs.length≤40) && (decide (x.c.scores.length≤12) && (decide (x.s.sets.length≤40) && (decide (x.s.counts.length≤40) && decide (x.s.scores.length≤12))))))
theorem sm_lim {x:Dsk} (h:smM x=true):x.c.adjs.length≤40∧x.c.scores.length≤12∧(∀ y∈x.c.scores,y.name.length≤50)∧x.s.sets.length≤40∧x.s.counts.length≤40∧x.s.scores.length≤12∧∀ y∈x.s.scores,y.name.length≤50:=by
 unfold smM at h
 simp only [Bool.and_eq_true,decide_eq_true_eq,List.all_eq_true] at h
 obtain ⟨h1,h2,h3,h4,h5,h6,h7⟩:=h
 rw [List.take_of_length_le (by omega)] at h1 h2
 refine ⟨h3,h4,fun y hy=>?_,h5,h6,h7,fun y hy=>?_⟩
 ·simpa [nm50] using h1 y hy
 ·simpa [nm50] using h2 y hy
def gdM (x:Dsk):Bool:=smM x && isStM x.c x.s
theorem all_part {p:Sco→Bool} {l:List Sco} {k n:Nat} {y:Sco} (hk:k<n) (hg:l[k]? = some y) (hp:p y=false):(l.take n).all p=false:=by
 rw [Bool.eq_false_iff]
 intro h
 have:=List.all_eq_true.1 h y (List.mem_of_getElem? (i:=k) (by rw [List.getElem?_take,if_pos hk];exact hg))
 rw [hp] at this;cases this
theorem all_more {p:Sco→Bool} {l:List Sco} {k:Nat} {y:Sco} (h:(l.take k).all p=true) (hg:l[k]? = some y) (hp:p y=true):(l.take (k+1)).all p=true:=by
 rw [List.take_add_one,hg,List.all_append,h]
 simp [hp]
end Go.Pb
namespace Go.Proofs.YtndjhpjcankkaaaGreatDoor
open Go.Eng (IC IOper DReg IFn IsFn Callable)
open Go.Sym Go.Pb
def lenD (x:Dsk):Prop:=lenB x.c∧lenT x.s
theorem c_small (x:Dsk) (hx:lenD x):PC Tryz.prog 18 [x.v] (.bool (smM x)):=by
 have hx1:=hx.1.2.1
 have hx2:=hx.1.2.2
 have hx3:=hx.2.2.2.1
 have hx4:=hx.2.2.2.2
 have hx5:=hx.1.1
 have hx6:=hx.2.1
 have hx7:=hx.2.2.1
 refine PC.of mixedU isU18 (Nat.le_of_ble_eq_true rfl) (by simp [DV.nlL,DV.nl,nlL_ints,nlL_strs,nlL_adjs,nlL_scos]) (by simp [DV.nlL,DV.nl,nlL_ints,nlL_strs,nlL_adjs,nlL_scos]) ?_
 show IW Tryz.prog 80 u18_1 ⟨argT _,_,_⟩ (rt [.tmp 2] _)
 repeat' ((with_reducible first|refine wr ?_|refine k_cu ?_ ?_|refine wb2 ?_ ?_<;>(intro hb;try simp only [hb])|fail)<;>try simp only [go_sem,seval])
 refine i_loop (fun k:Nat=>[(1,.ptr 0 0),(3,I64 k)]) (fun _=>nil.upd 0 ⟨0,true,csD x⟩) (fun k cc=>1≤cc∧k≤x.c.scores.length∧k≤20∧(x.c.scores.take k).all nm50=true) (fun k=>20-k) 0 (by simp [tmLe,tm,Tm.upd]) (Sub.refl _) ⟨by omega,by omega,by omega,by simp⟩ ?_
 rintro k cc ⟨h1c,hk,hk2,he⟩
 by_cases hlt:k<x.c.scores.length
 ·have hd:decide ((k:Int)<x.c.scores.length)=true:=by simpa using hlt
  by_cases h20:k<20
  ·have hd2:decide ((k:Int)<20)=true:=by simp only [decide_eq_true_eq];omega
   have hg:=List.getElem?_eq_getElem hlt
   have hw:=w64 (n:=(k:Int)+1) (by omega) (by omega)
   generalize x.c.scores[k]=y at hg
   by_cases hy:y.name.length≤50
   ·have hq:decide ((y.name.length:Int)>50)=false:=by simp only [decide_eq_false_iff_not];omega
    repeat' ((with_reducible first|refine wr ?_|refine k_cu ?_ ?_|refine wb2 ?_ ?_<;>(intro hb;try simp only [hb])|fail)<;>try simp only [go_sem,seval,hd,hd2,hg,hw,hq])
    exact ⟨k+1,rfl,Sub.refl _,inv ⟨by omega,by omega,by omega,all_more he hg (by simp [nm50,hy])⟩,by omega⟩
   ·have hq:decide ((y.name.length:Int)>50)=true:=by simp only [decide_eq_true_eq];omega
    repeat' ((with_reducible first|refine wr ?_|refine k_cu ?_ ?_|refine wb2 ?_ ?_<;>(intro hb;try simp only [hb])|fail)<;>try simp only [go_sem,seval,hd,hd2,hg,hw,hq])
    refine pc_ret (congrArg DV.bool ?_)
    rw [smM,all_part h20 hg (by simp [nm50,hy])];rfl
  ·have hd2:decide ((k:Int)<20)=false:=by simp only [decide_eq_false_iff_not];omega
   have h12:decide ((x.c.scores.length:Int)≤12)=false:=by simp only [decide_eq_false_iff_not];omega
   have hsm:smM x=false:=by
    have:decide (x.c.scores.length≤12)=false:=by simp only [decide_eq_false_iff_not];omega
    simp [smM,this]
   rw [hsm]
   clear he hk hlt
   repeat' ((with_reducible first|refine wr ?_|refine k_cu ?_ ?_|refine wb2 ?_ ?_<;>(intro hb;try simp only [hb])|fail)<;>try simp only [go_sem,seval,hd,hd2])
   refine i_loop (fun k:Nat=>[(1,.ptr 0 0),(4,I64 k)]) (fun _=>nil.upd 0 ⟨0,true,csD x⟩) (fun k cc=>1≤cc∧k≤x.s.scores.length∧k≤20) (fun k=>20-k) 0 (by simp [tmLe,tm,Tm.upd]) (Sub.refl _) ⟨by omega,by omega,by omega⟩ ?_
   rintro k cc ⟨h1c,hk,hk2⟩
   clear hd hd2
   by_cases hlt:k<x.s.scores.length
   ·have hd:decide ((k:Int)<x.s.scores.length)=true:=by simpa using hlt
    have hg:=List.getElem?_eq_getElem hlt
    have hw:=w64 (n:=(k:Int)+1) (by omega) (by omega)
    generalize x.s.scores[k]=y at hg
    repeat' ((with_reducible first|refine wr ?_|refine k_cu ?_ ?_|refine wb2 ?_ ?_<;>(intro hb;try simp only [hb])|fail)<;>try simp only [go_sem,seval,hd,hg,hw,h12])
    all_goals first
     | exact pc_ret rfl
     | exact ⟨k+1,rfl,Sub.refl _,inv ⟨by omega,by omega,by simp only [decide_eq_true_eq] at *;omega⟩,by simp only [decide_eq_true_eq] at *;omega⟩
   ·have hd:decide ((k:Int)<x.s.scores.length)=false:=by simpa using hlt
    repeat' ((with_reducible first|refine wr ?_|refine k_cu ?_ ?_|refine wb2 ?_ ?_<;>(intro hb;try simp only [hb])|fail)<;>try simp only [go_sem,seval,hd,h12])
    all_goals exact pc_ret rfl
 have hd:decide ((k:Int)<x.c.scores.length)=false:=by simpa using hlt
 obtain rfl:k=x.c.scores.length:=by omega
 rw [List.take_length] at he
 have heb:(x.c.scores.take 20).all nm50=true:=by rw [List.take_of_length_le hk2];exact he
 repeat' ((with_reducible first|refine wr ?_|refine k_cu ?_ ?_|refine wb2 ?_ ?_<;>(intro hb;try simp only [hb])|fail)<;>try simp only [go_sem,seval,hd])
 clear he hd hk hlt
 refine i_loop (fun k:Nat=>[(1,.ptr 0 0),(4,I64 k)]) (fun _=>nil.upd 0 ⟨0,true,csD x⟩) (fun k cc=>1≤cc∧k≤x.s.scores.length∧k≤20∧(x.s.scores.take k).all nm50=true) (fun k=>20-k) 0 (by simp [tmLe,tm,Tm.upd]) (Sub.refl _) ⟨by omega,by omega,by omega,by simp⟩ ?_
 rintro k cc ⟨h1c,hk,hk3,he⟩
 by_cases hlt:k<x.s.scores.length
 ·have hd:decide ((k:Int)<x.s.scores.length)=true:=by simpa using hlt
  by_cases h20:k<20
  ·have hd2:decide ((k:Int)<20)=true:=by simp only [decide_eq_true_eq];omega
   have hg:=List.getElem?_eq_getElem hlt
   have hw:=w64 (n:=(k:Int)+1) (by omega) (by omega)
   generalize x.s.scores[k]=y at hg
   by_cases hy:y.name.length≤50
   ·have hq:decide ((y.name.length:Int)>50)=false:=by simp only [decide_eq_false_iff_not];omega
    repeat' ((with_reducible first|refine wr ?_|refine k_cu ?_ ?_|refine wb2 ?_ ?_<;>(intro hb;try simp only [hb])|fail)<;>try simp only [go_sem,seval,hd,hd2,hg,hw,hq])
    exact ⟨k+1,rfl,Sub.refl _,inv ⟨by omega,by omega,by omega,all_more he hg (by simp [nm50,hy])⟩,by omega⟩
   ·have hq:decide ((y.name.length:Int)>50)=true:=by simp only [decide_eq_true_eq];omega
    repeat' ((with_reducible first|refine wr ?_|refine k_cu ?_ ?_|refine wb2 ?_ ?_<;>(intro hb;try simp only [hb])|fail)<;>try simp only [go_sem,seval,hd,hd2,hg,hw,hq])
    refine pc_ret (congrArg DV.bool ?_)
    rw [smM,all_part h20 hg (by simp [nm50,hy])];simp
  ·have hd2:decide ((k:Int)<20)=false:=by simp only [decide_eq_false_iff_not];omega
   have h12:decide ((x.s.scores.length:Int)≤12)=false:=by simp only [decide_eq_false_iff_not];omega
   have hsm:smM x=false:=by
    have:decide (x.s.scores.length≤12)=false:=by simp only [decide_eq_false_iff_not];omega
    simp [smM,this]
   rw [hsm]
   repeat' ((with_reducible first|refine wr ?_|refine k_cu ?_ ?_|refine wb2 ?_ ?_<;>(intro hb;try simp only [hb])|fail)<;>try simp only [go_sem,seval,hd,hd2,h12])
   all_goals exact pc_ret rfl
 have hd:decide ((k:Int)<x.s.scores.length)=false:=by simpa using hlt
 obtain rfl:k=x.s.scores.length:=by omega
 rw [List.take_length] at he
 have heb2:(x.s.scores.take 20).all nm50=true:=by rw [List.take_of_length_le hk3];exact he
 have hsm:smM x=(decide ((x.c.adjs.length:Int)≤40) && (decide ((x.c.scores.length:Int)≤12) && (decide ((x.s.sets.length:Int)≤40) && (decide ((x.s.counts.length:Int)≤40) && decide ((x.s.scores.length:Int)≤12))))):=by
  rw [smM,heb,heb2,Bool.true_and,Bool.true_and]
  have e:∀ a b:Nat,decide ((a:Int)≤(b:Int))=decide (a≤b):=fun a b=>by simp
  rw [← e, ← e, ← e, ← e, ← e];rfl
 rw [hsm]
 repeat' ((with_reducible first|refine wr ?_|refine k_cu ?_ ?_|refine wb2 ?_ ?_<;>(intro hb;try simp only [hb])|fail)<;>try simp only [go_sem,seval,hd])
 all_goals (refine pc_ret (congrArg DV.bool ?_);simp_all)
theorem c_good (x:Dsk) (hx:lenD x):PC Tryz.prog 12 [x.v] (.bool (gdM x)):=by
 have hs:=c_small x hx
 have hi:=c_IsStateR x.c x.s hx.1 hx.2
 refine PC.of mixedU isU12 (Nat.le_of_ble_eq_true rfl) (by simp [DV.nlL,DV.nl,nlL_ints,nlL_strs,nlL_adjs,nlL_scos]) (by simp [DV.nlL,DV.nl,nlL_ints,nlL_strs,nlL_adjs,nlL_scos]) ?_
 show IW Tryz.prog 12 u12_1 ⟨argT _,_,_⟩ (rt [.tmp 2] _)
 repeat' ((with_reducible first|refine wr ?_|refine cpc hs ?_|refine cpc hi ?_|refine k_cu ?_ ?_|refine wb2 ?_ ?_<;>(intro hb;try simp only [hb])|fail)<;>try simp only [go_sem,seval])
 all_goals (refine pc_ret (congrArg DV.bool ?_);simp_all [gdM])
end Go.Proofs.YtndjhpjcankkaaaGreatDoor
namespace Go.Proofs.YtndjhpjcankkaaaGreatDoor
open Go.Sym Go.Pb Go.RowKit
section
variable {H:Type} {enc:TypeId × Value→H} {W:World} {hT:TabOk W}
theorem rdI:Reads1 enc Tryz.prog W hT 3 (fun n:Int=>[I64 n]) I6:=rd_int Tryz.underlying3
theorem rdAdj:Reads1 enc Tryz.prog W hT 34 (fun a:Adj=>[I64 a.lo,I64 a.hi,I64 a.step,I64 a.dflt]) (fun _=>True) :=
 Reads1.map (fun z:Int × Int × Int × Int=>⟨z.1,z.2.1,z.2.2.1,z.2.2.2⟩) (rd_struct4 (a:=1) (b:=1) (c:=1) (d:=1) Tryz.underlying34 rfl (by kernel_rfl) rdI rdI rdI rdI) (fun _=>rfl) (fun _ _=>trivial)
theorem rdSco:Reads1 enc Tryz.prog W hT 45 (fun x:Sco=>[.str x.name,I64 x.points]) (fun x=>x.name.length≤9223372036854775807) :=
 Reads1.map (fun z:List UInt8 × Int=>⟨z.1,z.2⟩) (rd_struct2 (a:=1) (b:=1) Tryz.underlying45 rfl (by kernel_rfl) (rd_str Tryz.underlying9) rdI) (fun _=>rfl) (fun _ h=>h.1)
theorem rdAdjs:Reads1 enc Tryz.prog W hT 22 (fun l:List Adj=>[adjsV l]) (fun l=>l.length≤9223372036854775807∧∀ a∈l,True) :=
 rd_slice (u:=4) Adj.v (fun _=>rfl) (fun _=>rfl) (fun a d (hd:d∈[I64 a.lo,I64 a.hi,I64 a.step,I64 a.dflt])=>by simp at hd;rcases hd with rfl|rfl|rfl|rfl<;>rfl) (by omega) Tryz.underlying22 (by kernel_rfl) rdAdj
theorem rdScos:Reads1 enc Tryz.prog W hT 23 (fun l:List Sco=>[scosV l]) (fun l=>l.length≤9223372036854775807∧∀ x∈l,x.name.length≤9223372036854775807) :=
 rd_slice (u:=2) Sco.v (fun _=>rfl) (fun _=>rfl) (fun a d (hd:d∈[DV.str a.name,I64 a.points])=>by simp at hd;rcases hd with rfl|rfl<;>rfl) (by omega) Tryz.underlying23 (by kernel_rfl) rdSco
theorem rdInts:Reads1 enc Tryz.prog W hT 26 (fun l:List Int=>[intsV l]) (fun l=>l.length≤9223372036854775807∧∀ x∈l,I6 x) :=
 rd_slice (u:=1) I64 (fun _=>rfl) (fun _=>rfl) (fun a d (hd:d∈[I64 a])=>by simp at hd;subst hd;rfl) (by omega) Tryz.underlying26 (by kernel_rfl) rdI
theorem rdU32s:Reads1 enc Tryz.prog W hT 41 (fun l:List Int=>[DV.lst (l.map (DV.int .u32))]) (fun l=>l.length≤9223372036854775807∧∀ x∈l,0≤x∧x<4294967296) :=
 rd_slice (u:=1) (DV.int .u32) (fun _=>rfl) (fun _=>rfl) (fun a d (hd:d∈[DV.int .u32 a])=>by simp at hd;subst hd;rfl) (by omega) Tryz.underlying41 (by kernel_rfl) (rd_u32 Tryz.underlying43)
theorem rdBook:Reads1 enc Tryz.prog W hT 25 (fun c:Book=>[adjsV c.adjs,I64 c.cnt,scosV c.scores]) lenB :=
 Reads1.map (fun z:List Adj × Int × List Sco=>⟨z.1,z.2.1,z.2.2⟩) (rd_struct3 (a:=1) (b:=1) (c:=1) Tryz.underlying25 rfl (by kernel_rfl) rdAdjs rdI rdScos) (fun _=>rfl) (fun _ h=>⟨h.1.1,h.2.2⟩)
theorem rdSt:Reads1 enc Tryz.prog W hT 28 (fun s:BSt=>[intsV s.sets,intsV s.counts,scosV s.scores]) lenT :=
 Reads1.map (fun z:List Int × List Int × List Sco=>⟨z.1,z.2.1,z.2.2⟩) (rd_struct3 (a:=1) (b:=1) (c:=1) Tryz.underlying28 rfl (by kernel_rfl) rdInts rdInts rdScos) (fun _=>rfl) (fun _ h=>⟨h.1.1,h.2.1.1,h.2.2⟩)
theorem rdDesk:Reads1 enc Tryz.prog W hT 30 csD lenD :=
 Reads1.map (fun z:Book × BSt=>⟨z.1,z.2⟩) (rd_struct2 (a:=3) (b:=3) Tryz.underlying30 rfl (by kernel_rfl) rdBook rdSt) (fun _=>rfl) (fun _ h=>h)
end
end Go.Proofs.YtndjhpjcankkaaaGreatDoor
namespace Go.Proofs.YtndjhpjcankkaaaGreatDoor
open Go.Eng (IC IOper DReg IFn IsFn Callable)
open Go.Sym Go.Pb
theorem lenT_no:lenT noSt:=⟨by decide,by decide,by decide,by simp [noSt]⟩
theorem lenT_first {c:Book} (hl:lenB c) (h:validBM c=0):lenT (firstM c):=by
 obtain ⟨f1,f2,f3,f4,f5⟩:=valid_fit h
 refine ⟨?_,?_,hl.2⟩
 ·simp only [firstM,setsM,List.length_map];omega
 ·simp only [firstM,List.length_replicate];omega
theorem lenT_new {c:Book} (hl:lenB c):lenT (newM c).1:=by
 unfold newM
 split
 ·rename_i h;exact lenT_first hl h
 ·exact lenT_no
theorem bqi (a:Int):(a == a)=true:=by simp
theorem bqb (a:Bool):(a == a)=true:=by simp
theorem bft:(false != true)=true:=rfl
theorem bqn (a:Int):(a != a)=false:=by simp
theorem dqs (a:BSt):decide (a=a)=true:=by simp
theorem c_states (x y:Dsk) (hx:lenD x) (hy:lenD y):PC Tryz.prog 10 [x.v,y.v] (.bool true):=by
 have s1:=c_small x hx
 have s2:=c_small y hy
 refine PC.of mixedU isU10 (Nat.le_of_ble_eq_true rfl) (by simp [DV.nlL,DV.nl,nlL_ints,nlL_scos,nlL_adjs]) (by simp [DV.nlL,DV.nl,nlL_ints,nlL_scos,nlL_adjs]) ?_
 show IW Tryz.prog 83 u10_1 ⟨argT _,_,_⟩ (rt [.tmp 4] _)
 cases e1:smM x with
 | false =>
  rw [e1] at s1
  repeat' ((with_reducible first|refine wr ?_|refine cpc s1 ?_|refine cpc s2 ?_|refine cpc c_sane ?_|refine k_cu ?_ ?_|refine wb2 ?_ ?_<;>(intro hb;try simp only [hb])|fail)<;>try simp only [go_sem,seval])
  all_goals exact pc_ret rfl
 | true =>
  rw [e1] at s1
  cases e2:smM y with
  | false =>
   rw [e2] at s2
   repeat' ((with_reducible first|refine wr ?_|refine cpc s1 ?_|refine cpc s2 ?_|refine cpc c_sane ?_|refine k_cu ?_ ?_|refine wb2 ?_ ?_<;>(intro hb;try simp only [hb])|fail)<;>try simp only [go_sem,seval])
   all_goals exact pc_ret rfl
  | true =>
   rw [e2] at s2
   have n1:=c_New x.c hx.1
   have n2:=c_NewR x.c hx.1
   have v1:=c_valid x.c hx.1
   have v2:=c_validR x.c hx.1
   have i1:=c_IsState x.c x.s hx.1 hx.2
   have i2:=c_IsStateR x.c x.s hx.1 hx.2
   have m1:=c_Same x.s y.s hx.2
   have m2:=c_SameR x.s y.s hx.2
   have m3:=c_Same x.s x.s hx.2
   have m4:=c_SameR (newM x.c).1 (newM x.c).1 (lenT_new hx.1)
   repeat' ((with_reducible first|refine wr ?_|refine cpc s1 ?_|refine cpc s2 ?_|refine cpc n1 ?_|refine cpc n2 ?_|refine cpc v1 ?_|refine cpc v2 ?_|refine cpc i1 ?_|refine cpc i2 ?_|refine cpc m1 ?_|refine cpc m2 ?_|refine cpc m3 ?_|refine cpc m4 ?_|refine cpc c_sane ?_|refine k_cu ?_ ?_|refine wb2 ?_ ?_<;>(intro hb;try simp only [hb])|fail)<;>try simp only [go_sem,seval,bqi,bqb,dqs,bft])
   all_goals exact pc_ret rfl
theorem c_encodes (x:Dsk) (hx:lenD x):PC Tryz.prog 5 [x.v] (.bool true):=by
 have s1:=c_small x hx
 refine PC.of mixedU isU5 (Nat.le_of_ble_eq_true rfl) (by simp [DV.nlL,DV.nl,nlL_ints,nlL_scos,nlL_adjs]) (by simp [DV.nlL,DV.nl,nlL_ints,nlL_scos,nlL_adjs]) ?_
 show IW Tryz.prog 63 u5_1 ⟨argT _,_,_⟩ (rt [.tmp 2] _)
 cases e1:smM x with
 | false =>
  rw [e1] at s1
  repeat' ((with_reducible first|refine wr ?_|refine cpc s1 ?_|refine cpc c_sane ?_|refine k_cu ?_ ?_|refine wb2 ?_ ?_<;>(intro hb;try simp only [hb])|fail)<;>try simp only [go_sem,seval])
  all_goals exact pc_ret rfl
 | true =>
  rw [e1] at s1
  have n1:=c_Encode x.c x.s hx.1 hx.2
  have n2:=c_EncodeR x.c x.s hx.1 hx.2
  have bl:∀ l:List UInt8,(l != l)=false:=fun l=>by simp
  cases e2:isStM x.c x.s with
  | false =>
   rw [show encM41 x.c x.s=([],1) by simp [encM41,e2]] at n1 n2
   repeat' ((with_reducible first|refine wr ?_|refine cpc s1 ?_|refine cpc n1 ?_|refine cpc n2 ?_|refine cpc c_sane ?_|refine k_cu ?_ ?_|refine wb2 ?_ ?_<;>(intro hb;try simp only [hb])|fail)<;>try simp only [go_sem,seval,bqi,bl])
   all_goals exact pc_ret rfl
  | true =>
   rw [show encM41 x.c x.s=(encS x.s,0) by simp [encM41,e2]] at n1 n2
   have hle:=enc_len41 e2
   have d1:=c_Decode x.c hx.1 (encS x.s) (by omega)
   rw [dec_enc41 e2] at d1
   have m1:=c_SameR x.s x.s hx.2
   have hlq:decide (((encS x.s).length:Int)≤1024)=true:=by simp only [decide_eq_true_eq];omega
   repeat' ((with_reducible first|refine wr ?_|refine cpc s1 ?_|refine cpc n1 ?_|refine cpc n2 ?_|refine cpc d1 ?_|refine cpc m1 ?_|refine cpc c_sane ?_|refine k_cu ?_ ?_|refine wb2 ?_ ?_<;>(intro hb;try simp only [hb])|fail)<;>try simp only [go_sem,seval,bqi,bl,dqs,hlq])
   all_goals exact pc_ret rfl
end Go.Proofs.YtndjhpjcankkaaaGreatDoor
namespace Go.Proofs.YtndjhpjcankkaaaGreatDoor
open Go.Eng (IC IOper DReg IFn IsFn Callable)
open Go.Sym Go.Pb
theorem lenT_set {c:Book} {s:BSt} (h:lenT s) (i v:Int):lenT (setM c s i v).1:=by
 unfold setM
 split
 ·exact lenT_no
 ·split
  ·exact lenT_no
  ·exact ⟨by simpa using h.1,h.2⟩
theorem lenT_turn {c:Book} {s:BSt} (h:lenT s) (i:Int) (up:Bool):lenT (turnM c s i up).1:=by
 unfold turnM
 split
 ·exact lenT_no
 ·exact ⟨by simpa using h.1,h.2⟩
theorem sub_up0 {B:Blk} {H:Hp} {c:Nat} {b:Blk} (h:Sub (nil.upd 0 B) H) (hc:1≤c):Sub (nil.upd 0 B) (H.upd c b):=fun j q hj=>by
 by_cases e:j=0
 ·subst e;rw [h_ne (by omega)];exact h _ q hj
 ·rw [h_ne e] at hj;cases hj
theorem c_sets (x:Dsk) (i v:Int) (hx:lenD x) (hi:I6 i) (hv:I6 v):PC Tryz.prog 9 [x.v,I64 i,I64 v] (.bool true):=by
 have s1:=c_small x hx
 have hB:=hx.1
 have hT:=hx.2
 refine PC.of mixedU isU9 (Nat.le_of_ble_eq_true rfl) (by simp [DV.nlL,DV.nl,nlL_ints,nlL_scos,nlL_adjs]) (by simp [DV.nlL,DV.nl,nlL_ints,nlL_scos,nlL_adjs]) ?_
 show IW Tryz.prog 153 u9_1 ⟨argT _,_,_⟩ (rt [.tmp 6] _)
 cases e1:smM x with
 | false =>
  rw [e1] at s1
  repeat' ((with_reducible first|refine wr ?_|refine cpc s1 ?_|refine cpc c_sane ?_|refine k_cu ?_ ?_|refine wb2 ?_ ?_<;>(intro hb;try simp only [hb])|fail)<;>try simp only [go_sem,seval])
  all_goals exact pc_ret rfl
 | true =>
  rw [e1] at s1
  obtain ⟨z1, -⟩:=sm_lim e1
  repeat' ((with_reducible first|refine wr ?_|refine cpc s1 ?_|refine cpc c_sane ?_|refine k_cu ?_ ?_|refine wb2 ?_ ?_<;>(intro hb;try simp only [hb])|fail)<;>try simp only [go_sem,seval])
  refine i_loop (fun n:Nat=>[(1,I64 i),(2,I64 v),(3,.ptr 0 0),(7,I64 ((n:Int)-1))]) (fun _=>nil.upd 0 ⟨0,true,csD x⟩) (fun n cc=>1≤cc∧n≤5) (fun n=>5-n) 0 (by simp [tmLe,tm,Tm.upd]) (Sub.refl _) ⟨by omega,by omega⟩ ?_
  rintro n cc ⟨h1,hn⟩
  by_cases hlt:n<5
  ·have hd:decide ((n:Int)-1<4)=true:=by simp only [decide_eq_true_eq];omega
   have hw:IntKind.i64.wrap ((n:Int)-1+1)=((n+1:Nat):Int)-1:=by rw [w64 (by omega) (by omega)];omega
   repeat' ((with_reducible first|refine wr ?_|refine k_cu ?_ ?_|refine wb2 ?_ ?_<;>(intro hb;try simp only [hb])|fail)<;>try simp only [go_sem,seval,hd])
   refine i_loop (fun j:Nat=>[(1,I64 i),(2,I64 v),(3,.ptr 0 0),(7,I64 ((n:Int)-1)),(8,I64 j)]) (fun _=>nil.upd 0 ⟨0,true,csD x⟩) (fun j cc=>1≤cc∧j≤3) (fun j=>3-j) 0 (by simp [tmLe,tm,Tm.upd]) (Sub.refl _) ⟨by omega,by omega⟩ ?_
   clear h1 cc
   rintro j cc ⟨h1,hj⟩
   rcases (by omega:j=0∨j=1∨j=2∨j=3) with rfl|rfl|rfl|rfl
   ·skip
    have ne0:=nes5 0 cc (cc+1) (cc+2) (cc+3) (by omega)
    repeat' ((with_reducible first|refine wr ?_|refine cpc (c_Set x.c x.s hB hT _ _) ?_|refine cpc (c_SetR x.c x.s hB hT _ _) ?_|refine cpc (c_Turn x.c x.s hB hT _ _) ?_|refine cpc (c_TurnR x.c x.s hB hT _ _) ?_|refine cpc (c_SameR _ _ (lenT_set hT _ _)) ?_|refine cpc (c_SameR _ _ (lenT_turn hT _ _)) ?_|refine k_cu ?_ ?_|refine wb2 ?_ ?_<;>(intro hb;try simp only [hb])|fail)<;>try simp only [go_sem,seval,hd,bqn,dqs,ne0])
    exact ⟨1,rfl,by (repeat (refine sub_up0 ?_ (by omega)));exact Sub.refl _,inv ⟨by omega,by omega⟩,by omega⟩
   ·skip
    have ne0:=nes5 0 cc (cc+1) (cc+2) (cc+3) (by omega)
    by_cases h0:n=0
    ·have q1:decide ((n:Int)-1≥0)=false:=by simp only [decide_eq_false_iff_not];omega
     repeat' ((with_reducible first|refine wr ?_|refine cpc (c_Set x.c x.s hB hT _ _) ?_|refine cpc (c_SetR x.c x.s hB hT _ _) ?_|refine cpc (c_Turn x.c x.s hB hT _ _) ?_|refine cpc (c_TurnR x.c x.s hB hT _ _) ?_|refine cpc (c_SameR _ _ (lenT_set hT _ _)) ?_|refine cpc (c_SameR _ _ (lenT_turn hT _ _)) ?_|refine k_cu ?_ ?_|refine wb2 ?_ ?_<;>(intro hb;try simp only [hb])|fail)<;>try simp only [go_sem,seval,hd,bqn,dqs,ne0,q1])
     exact ⟨2,rfl,by (repeat (refine sub_up0 ?_ (by omega)));exact Sub.refl _,inv ⟨by omega,by omega⟩,by omega⟩
    have q1:decide ((n:Int)-1≥0)=true:=by simp only [decide_eq_true_eq];omega
    by_cases ha:n-1<x.c.adjs.length
    ·have q2:decide ((n:Int)-1<x.c.adjs.length)=true:=by simp only [decide_eq_true_eq];omega
     have hg:=List.getElem?_eq_getElem ha
     generalize x.c.adjs[n-1]=a at hg
     have hia:iadR 4 (adjsV x.c.adjs) (I64 ((n:Int)-1))=some (.fptr [I64 a.lo,I64 a.hi,I64 a.step,I64 a.dflt]):=by
      rw [show (n:Int)-1=((n-1:Nat):Int) by omega,r_iadn,List.getElem?_map,hg];rfl
     repeat' ((with_reducible first|refine wr ?_|refine cpc (c_Set x.c x.s hB hT _ _) ?_|refine cpc (c_SetR x.c x.s hB hT _ _) ?_|refine cpc (c_Turn x.c x.s hB hT _ _) ?_|refine cpc (c_TurnR x.c x.s hB hT _ _) ?_|refine cpc (c_SameR _ _ (lenT_set hT _ _)) ?_|refine cpc (c_SameR _ _ (lenT_turn hT _ _)) ?_|refine k_cu ?_ ?_|refine wb2 ?_ ?_<;>(intro hb;try simp only [hb])|fail)<;>try simp only [go_sem,seval,hd,bqn,dqs,ne0,q1,q2,hia])
     exact ⟨2,rfl,by (repeat (refine sub_up0 ?_ (by omega)));exact Sub.refl _,inv ⟨by omega,by omega⟩,by omega⟩
    ·have q2:decide ((n:Int)-1<x.c.adjs.length)=false:=by simp only [decide_eq_false_iff_not];omega
     repeat' ((with_reducible first|refine wr ?_|refine cpc (c_Set x.c x.s hB hT _ _) ?_|refine cpc (c_SetR x.c x.s hB hT _ _) ?_|refine cpc (c_Turn x.c x.s hB hT _ _) ?_|refine cpc (c_TurnR x.c x.s hB hT _ _) ?_|refine cpc (c_SameR _ _ (lenT_set hT _ _)) ?_|refine cpc (c_SameR _ _ (lenT_turn hT _ _)) ?_|refine k_cu ?_ ?_|refine wb2 ?_ ?_<;>(intro hb;try simp only [hb])|fail)<;>try simp only [go_sem,seval,hd,bqn,dqs,ne0,q1,q2])
     exact ⟨2,rfl,by (repeat (refine sub_up0 ?_ (by omega)));exact Sub.refl _,inv ⟨by omega,by omega⟩,by omega⟩
   ·skip
    have ne0:=nes5 0 cc (cc+1) (cc+2) (cc+3) (by omega)
    repeat' ((with_reducible first|refine wr ?_|refine cpc (c_Set x.c x.s hB hT _ _) ?_|refine cpc (c_SetR x.c x.s hB hT _ _) ?_|refine cpc (c_Turn x.c x.s hB hT _ _) ?_|refine cpc (c_TurnR x.c x.s hB hT _ _) ?_|refine cpc (c_SameR _ _ (lenT_set hT _ _)) ?_|refine cpc (c_SameR _ _ (lenT_turn hT _ _)) ?_|refine k_cu ?_ ?_|refine wb2 ?_ ?_<;>(intro hb;try simp only [hb])|fail)<;>try simp only [go_sem,seval,hd,bqn,dqs,ne0,r_rem])
    exact ⟨3,rfl,by (repeat (refine sub_up0 ?_ (by omega)));exact Sub.refl _,inv ⟨by omega,by omega⟩,by omega⟩
   ·repeat' ((with_reducible first|refine wr ?_|refine k_cu ?_ ?_|refine wb2 ?_ ?_<;>(intro hb;try simp only [hb])|fail)<;>try simp only [go_sem,seval,hd,hw])
    exact ⟨n+1,rfl,Sub.refl _,inv ⟨by omega,by omega⟩,by omega⟩
  ·have hd:decide ((n:Int)-1<4)=false:=by simp only [decide_eq_false_iff_not];omega
   have ne0:=nes3 0 cc (cc+1) (by omega)
   repeat' ((with_reducible first|refine wr ?_|refine cpc (c_Set x.c x.s hB hT _ _) ?_|refine cpc (c_SetR x.c x.s hB hT _ _) ?_|refine cpc (c_SameR _ _ (lenT_set hT _ _)) ?_|refine cpc c_sane ?_|refine k_cu ?_ ?_|refine wb2 ?_ ?_<;>(intro hb;try simp only [hb])|fail)<;>try simp only [go_sem,seval,hd,bqi,dqs,ne0])
   exact pc_ret rfl
end Go.Proofs.YtndjhpjcankkaaaGreatDoor
namespace Go.Proofs.YtndjhpjcankkaaaGreatDoor
open Go.Eng (IC IOper DReg IFn IsFn Callable)
open Go.Sym Go.Pb
theorem lenT_add {c:Book} {s:BSt} (h:lenT s) (i v:Int):lenT (addM c s i v).1:=by
 unfold addM
 split
 ·exact lenT_no
 ·split
  ·exact lenT_no
  ·exact ⟨h.1,by simpa using h.2.1,h.2.2⟩
theorem lenT_reset {c:Book} {s:BSt} (hl:lenB c) (h:lenT s) (i:Int):lenT (resetM c s i).1:=by
 unfold resetM
 split
 ·exact lenT_no
 rename_i h1
 have h1:isStM c s=true:=by simpa using h1
 have hf:=lenT_first hl (st_valid h1)
 split
 ·exact ⟨hf.1,h.2⟩
 split
 ·exact ⟨h.1,hf.2.1,h.2.2⟩
 split
 ·exact ⟨h.1,h.2.1,hl.2⟩
 ·exact lenT_no
theorem lenT_enter {c:Book} {s:BSt} (h:lenT s) {x:Sco} (hx:x.name.length≤9223372036854775807):lenT (enterM c s x).1:=by
 unfold enterM
 split
 ·exact lenT_no
 split
 ·exact lenT_no
 split
 ·exact h
 ·refine ⟨h.1,h.2.1,?_,fun y hy=>?_⟩
  ·have:=h.2.2.1
   simp only [List.length_take];omega
  ·have hy:=List.mem_of_mem_take hy
   simp only [List.mem_append,List.mem_cons] at hy
   rcases hy with hy|rfl|hy
   ·exact h.2.2.2 y (List.mem_of_mem_take hy)
   ·exact hx
   ·exact h.2.2.2 y (List.mem_of_mem_drop hy)
theorem sub_up1 {B B2:Blk} {H:Hp} {c:Nat} {b:Blk} (h:Sub ((nil.upd 0 B).upd 1 B2) H) (hc:2≤c):Sub ((nil.upd 0 B).upd 1 B2) (H.upd c b):=fun j q hj=>by
 by_cases e:j=c
 ·subst e;rw [h_ne (by omega),h_ne (by omega)] at hj;cases hj
 ·rw [h_ne e];exact h _ q hj
theorem c_changes (x:Dsk) (y:Sco) (n:Int) (hx:lenD x) (hy:y.name.length≤9223372036854775807) (hn:I6 n):PC Tryz.prog 11 [x.v,y.v,I64 n] (.bool true):=by
 have s1:=c_small x hx
 have hB:=hx.1
 have hT:=hx.2
 refine PC.of mixedU isU11 (Nat.le_of_ble_eq_true rfl) (by simp [DV.nlL,DV.nl,nlL_ints,nlL_scos,nlL_adjs]) (by simp [DV.nlL,DV.nl,nlL_ints,nlL_scos,nlL_adjs]) ?_
 show IW Tryz.prog 162 u11_1 ⟨argT _,_,_⟩ (rt [.tmp 6] _)
 cases e1:smM x with
 | false =>
  rw [e1] at s1
  repeat' ((with_reducible first|refine wr ?_|refine cpc s1 ?_|refine cpc c_sane ?_|refine k_cu ?_ ?_|refine wb2 ?_ ?_<;>(intro hb;try simp only [hb])|fail)<;>try simp only [go_sem,seval])
  all_goals exact pc_ret rfl
 | true =>
  rw [e1] at s1
  by_cases h50:y.name.length≤50
  rotate_left
  ·have q:decide ((y.name.length:Int)>50)=true:=by simp only [decide_eq_true_eq];omega
   repeat' ((with_reducible first|refine wr ?_|refine cpc s1 ?_|refine cpc c_sane ?_|refine k_cu ?_ ?_|refine wb2 ?_ ?_<;>(intro hb;try simp only [hb])|fail)<;>try simp only [go_sem,seval,q])
   all_goals exact pc_ret rfl
  have q:decide ((y.name.length:Int)>50)=false:=by simp only [decide_eq_false_iff_not];omega
  repeat' ((with_reducible first|refine wr ?_|refine cpc s1 ?_|refine cpc c_sane ?_|refine k_cu ?_ ?_|refine wb2 ?_ ?_<;>(intro hb;try simp only [hb])|fail)<;>try simp only [go_sem,seval,q])
  refine i_loop (fun k:Nat=>[(2,I64 n),(3,.ptr 0 0),(4,.ptr 1 0),(7,I64 ((k:Int)-1))]) (fun _=>(nil.upd 0 ⟨0,true,csD x⟩).upd 1 ⟨0,true,[.str y.name,I64 y.points]⟩) (fun k cc=>2≤cc∧k≤5) (fun k=>5-k) 0 (by simp [tmLe,tm,Tm.upd]) (Sub.refl _) ⟨by omega,by omega⟩ ?_
  rintro k cc ⟨h1,hk⟩
  by_cases hlt:k<5
  ·have hd:decide ((k:Int)-1<4)=true:=by simp only [decide_eq_true_eq];omega
   have hw:IntKind.i64.wrap ((k:Int)-1+1)=((k+1:Nat):Int)-1:=by rw [w64 (by omega) (by omega)];omega
   have ne0:=nes6 0 1 cc (cc+1) (cc+2) (cc+3) (by omega)
   repeat' ((with_reducible first|refine wr ?_|refine cpc (c_Add x.c x.s hB hT _ _) ?_|refine cpc (c_AddR x.c x.s hB hT _ _) ?_|refine cpc (c_Reset x.c x.s hB hT _) ?_|refine cpc (c_ResetR x.c x.s hB hT _) ?_|refine cpc (c_SameR _ _ (lenT_add hT _ _)) ?_|refine cpc (c_SameR _ _ (lenT_reset hB hT _)) ?_|refine k_cu ?_ ?_|refine wb2 ?_ ?_<;>(intro hb;try simp only [hb])|fail)<;>try simp only [go_sem,seval,hd,hw,bqn,dqs,ne0])
   exact ⟨k+1,rfl,by (repeat (refine sub_up1 ?_ (by omega)));exact Sub.refl _,inv ⟨by omega,by omega⟩,by omega⟩
  ·have hd:decide ((k:Int)-1<4)=false:=by simp only [decide_eq_false_iff_not];omega
   have ne0:=nes6 0 1 cc (cc+1) (cc+2) (cc+3) (by omega)
   repeat' ((with_reducible first|refine wr ?_|refine cpc (c_Enter x.c x.s hB hT y hy) ?_|refine cpc (c_EnterR x.c x.s hB hT y hy) ?_|refine cpc (c_Add x.c x.s hB hT _ _) ?_|refine cpc (c_AddR x.c x.s hB hT _ _) ?_|refine cpc (c_SameR _ _ (lenT_add hT _ _)) ?_|refine cpc (c_SameR _ _ (lenT_enter hT hy)) ?_|refine cpc c_sane ?_|refine k_cu ?_ ?_|refine wb2 ?_ ?_<;>(intro hb;try simp only [hb])|fail)<;>try simp only [go_sem,seval,hd,bqi,dqs,ne0])
   exact pc_ret rfl
end Go.Proofs.YtndjhpjcankkaaaGreatDoor
namespace Go.Proofs.YtndjhpjcankkaaaGreatDoor
open Go.Eng (IC IOper DReg IFn IsFn Callable)
open Go.Sym Go.Pb
theorem lenT_turns {c:Book} {s:BSt} (h:lenT s) (k:Nat) (up:Bool):∀ j,lenT (turnsM c s k up j)
 | 0=>h
 | j+1=>lenT_turn (lenT_turns h k up j) _ _
theorem btt:(true != true)=false:=rfl
theorem c_turns (x:Dsk) (i:UInt8) (down:Bool) (hx:lenD x):PC Tryz.prog 3 [x.v,.int .u8 (i.toNat:Int),.bool down] (.bool true):=by
 have s1:=c_good x hx
 have hB:=hx.1
 have hT:=hx.2
 refine PC.of mixedU isU3 (Nat.le_of_ble_eq_true rfl) (by simp [DV.nlL,DV.nl,nlL_ints,nlL_scos,nlL_adjs]) (by simp [DV.nlL,DV.nl,nlL_ints,nlL_scos,nlL_adjs]) ?_
 show IW Tryz.prog 137 u3_1 ⟨argT _,_,_⟩ (rt [.tmp 6] _)
 cases e1:gdM x with
 | false =>
  rw [e1] at s1
  repeat' ((with_reducible first|refine wr ?_|refine cpc s1 ?_|refine cpc c_sane ?_|refine k_cu ?_ ?_|refine wb2 ?_ ?_<;>(intro hb;try simp only [hb])|fail)<;>try simp only [go_sem,seval])
  all_goals exact pc_ret rfl
 | true =>
  rw [e1] at s1
  have e2:smM x=true∧isStM x.c x.s=true:=by simpa [gdM] using e1
  obtain ⟨z1, -⟩:=sm_lim e2.1
  by_cases h0:x.c.adjs.length=0
  ·have q:((x.c.adjs.length:Int) == 0)=true:=by simp [h0]
   repeat' ((with_reducible first|refine wr ?_|refine cpc s1 ?_|refine cpc c_sane ?_|refine k_cu ?_ ?_|refine wb2 ?_ ?_<;>(intro hb;try simp only [hb])|fail)<;>try simp only [go_sem,seval,q])
   all_goals exact pc_ret rfl
  have q:((x.c.adjs.length:Int) == 0)=false:=beq_eq_false_iff_ne.2 (by omega)
  have q0:¬ (x.c.adjs.length:Int)=0:=by omega
  have hi8:i.toNat<256:=i.toNat_lt
  have w0:IntKind.i64.wrap (i.toNat:Int)=(i.toNat:Int):=w64 (by omega) (by omega)
  have hm:=nat_tmod i.toNat x.c.adjs.length
  have hk:i.toNat % x.c.adjs.length<x.c.adjs.length:=Nat.mod_lt _ (by omega)
  generalize i.toNat % x.c.adjs.length=k at hm hk
  have hst:=(isSt_iff.1 e2.2).2.1
  obtain ⟨ha, -⟩:=st_val e2.2 hk
  have hg:=List.getElem?_eq_getElem hk
  have hgd:x.c.adjs.getD k A0=x.c.adjs[k]:=by rw [List.getD_eq_getElem?_getD,hg];rfl
  have hround:=fun (j:Nat)=>turn_round (j:=j) e2.2 hk down
  obtain ⟨t1,t2⟩:=turn_turn e2.2 hk down
  rw [hgd] at ha
  simp only [hgd] at hround
  generalize x.c.adjs[k]=a at hg ha hround
  obtain ⟨y1,y2,y3,y4,y5,y6⟩:=adj_lim ha
  obtain ⟨g1,g2,g3,g4⟩:=q_spec ha
  have tp:=tdiv_pos (x:=a.hi-a.lo) (y:=a.step) (by omega) (by omega)
  have hqle:(a.hi-a.lo).tdiv a.step≤a.hi-a.lo:=by
   have h1:=tp.2.1
   have h2:(a.hi-a.lo).tdiv a.step * 1≤(a.hi-a.lo).tdiv a.step * a.step:=Int.mul_le_mul_of_nonneg_left (by omega) tp.1
   omega
  have q1:=w64 (n:=a.hi-a.lo) (by omega) (by omega)
  have q2:binR .quo (I64 (a.hi-a.lo)) (I64 a.step)=some (I64 ((qM a:Nat):Int)):=by rw [r_quo (by omega),w64 (by omega) (by omega),g1]
  have q3:IntKind.i64.wrap (((qM a:Nat):Int)+1)=((qM a+1:Nat):Int):=by rw [w64 (by omega) (by omega)];omega
  have hia:iadR 4 (adjsV x.c.adjs) (I64 (k:Int))=some (.fptr [I64 a.lo,I64 a.hi,I64 a.step,I64 a.dflt]):=by
   rw [r_iadn,List.getElem?_map,hg];rfl
  generalize qM a=m at q2 q3 hround
  have c1:=c_Turn x.c x.s hB hT (k:Int) down
  rw [show turnM x.c x.s (k:Int) down=(turnsM x.c x.s k down 1,0) by rw [← t1];rfl] at c1
  have t2':turnM x.c (turnsM x.c x.s k down 1) (k:Int) (!down)=(x.s,0):=t2
  have c2:=c_Turn x.c (turnsM x.c x.s k down 1) hB (lenT_turns hT k down 1) (k:Int) (!down)
  rw [t2'] at c2
  have c3:=c_SameR x.s x.s hT
  by_cases h60:m+1>60
  ·have q4:decide (((m+1:Nat):Int)>60)=true:=by simp only [decide_eq_true_eq];omega
   repeat' ((with_reducible first|refine wr ?_|refine cpc s1 ?_|refine cpc c1 ?_|refine cpc c2 ?_|refine cpc c3 ?_|refine cpc c_sane ?_|refine k_cu ?_ ?_|refine wb2 ?_ ?_<;>(intro hb;try simp only [hb])|fail)<;>try simp only [go_sem,seval,q,r_rem,q0,w0,hm,hia,q1,q2,q3,q4,dqs])
   all_goals exact pc_ret rfl
  have q4:decide (((m+1:Nat):Int)>60)=false:=by simp only [decide_eq_false_iff_not];omega
  repeat' ((with_reducible first|refine wr ?_|refine cpc s1 ?_|refine cpc c1 ?_|refine cpc c2 ?_|refine cpc c3 ?_|refine cpc c_sane ?_|refine k_cu ?_ ?_|refine wb2 ?_ ?_<;>(intro hb;try simp only [hb])|fail)<;>try simp only [go_sem,seval,q,r_rem,q0,w0,hm,hia,q1,q2,q3,q4,dqs])
  clear c1 c2 t1 t2 t2'
  refine i_loop (fun j:Nat=>[(2,.bool down),(3,.ptr 0 0),(7,I64 k),(9,.ptr 2 0),(13,I64 ((m+1:Nat):Int)),(14,I64 ((j+1:Nat):Int))]) (fun j=>(nil.upd 0 ⟨0,true,csD x⟩).upd 2 ⟨0,true,csS (turnsM x.c x.s k down j)⟩) (fun j cc=>3≤cc∧j≤m+1) (fun j=>m+1-j) 0 (by simp [tmLe,tm,Tm.upd]) ?_ ⟨by omega,by omega⟩ ?_
  ·intro j q hj
   by_cases e2:j=2
   ·subst e2;exact hj
   rw [h_ne e2] at hj
   by_cases e0:j=0
   ·subst e0;exact hj
   ·rw [h_ne e0] at hj;cases hj
  rintro j cc ⟨h3,hj⟩
  by_cases hlt:j<m+1
  ·have hd:decide (((j+1:Nat):Int)≤((m+1:Nat):Int))=true:=by simp only [decide_eq_true_eq];omega
   obtain ⟨u1,u2,u3,u4⟩:=hround (j+1) (by omega) (by omega)
   rw [Nat.add_sub_cancel] at u1
   have hw:IntKind.i64.wrap (((j+1:Nat):Int)+1)=((j+1+1:Nat):Int):=by rw [w64 (by omega) (by omega)];omega
   have c1:=c_Turn x.c (turnsM x.c x.s k down j) hB (lenT_turns hT k down j) (k:Int) down
   rw [show turnM x.c (turnsM x.c x.s k down j) (k:Int) down=(turnsM x.c x.s k down (j+1),0) by rw [← u1];rfl] at c1
   have c2:=c_IsStateR x.c (turnsM x.c x.s k down (j+1)) hB (lenT_turns hT k down (j+1))
   rw [u2] at c2
   have hl1:=(isSt_iff.1 u2).2.1
   have hg1:=List.getElem?_eq_getElem (show k<(turnsM x.c x.s k down (j+1)).sets.length by omega)
   have hg0:=List.getElem?_eq_getElem (show k<x.s.sets.length by omega)
   have d1:(turnsM x.c x.s k down (j+1)).sets.getD k 0=(turnsM x.c x.s k down (j+1)).sets[k]:=by rw [List.getD_eq_getElem?_getD,hg1];rfl
   have d0:x.s.sets.getD k 0=x.s.sets[k]:=by rw [List.getD_eq_getElem?_getD,hg0];rfl
   rw [d1,d0] at u3
   generalize (turnsM x.c x.s k down (j+1)).sets[k]=v1 at hg1 u3
   generalize x.s.sets[k]=v0 at hg0 u3
   have hcmp:(v1 == v0)=(((j+1:Nat):Int) == ((m+1:Nat):Int)):=by
    rw [Bool.eq_iff_iff,beq_iff_eq,beq_iff_eq,u3];omega
   have i1:iadR 1 (intsV (turnsM x.c x.s k down (j+1)).sets) (I64 (k:Int))=some (.fptr [I64 v1]):=by rw [r_iadn,List.getElem?_map,hg1];rfl
   have i0:iadR 1 (intsV x.s.sets) (I64 (k:Int))=some (.fptr [I64 v0]):=by rw [r_iadn,List.getElem?_map,hg0];rfl
   clear d1 d0 u3 u4
   obtain ⟨S1,hS1⟩:∃ S,S=turnsM x.c x.s k down (j+1):=⟨_,rfl⟩
   rw [← hS1] at c1 c2 i1 hg1
   have ne0:=nes3 0 2 cc (by omega)
   repeat' ((with_reducible first|refine wr ?_|refine cpc c1 ?_|refine cpc c2 ?_|refine k_cu ?_ ?_|refine wb2 ?_ ?_<;>(intro hb;try simp only [hb])|fail)<;>try simp only [go_sem,seval,hd,hw,i1,i0,hcmp,bqb,btt,ne0])
   refine ⟨j+1,rfl,?_,inv ⟨by omega,hlt⟩,by omega⟩
   rw [← hS1]
   intro j q hj
   by_cases e2:j=2
   ·subst e2;rw [h_same] at hj ⊢;exact hj
   rw [h_ne e2] at hj ⊢
   by_cases e0:j=0
   ·subst e0;rw [h_ne (by omega),h_ne (by omega),h_ne e2];exact hj
   ·rw [h_ne e0] at hj;cases hj
  ·have hd:decide (((j+1:Nat):Int)≤((m+1:Nat):Int))=false:=by simp only [decide_eq_false_iff_not];omega
   obtain rfl:j=m+1:=by omega
   have u4:=(hround (m+1) (by omega) (by omega)).2.2.2 rfl
   rw [u4]
   repeat' ((with_reducible first|refine wr ?_|refine cpc c3 ?_|refine cpc c_sane ?_|refine k_cu ?_ ?_|refine wb2 ?_ ?_<;>(intro hb;try simp only [hb])|fail)<;>try simp only [go_sem,seval,hd,dqs])
   exact pc_ret rfl
end Go.Proofs.YtndjhpjcankkaaaGreatDoor
namespace Go.Pb
variable [Go.Sym.Tab]
open Go.Sym
def nmY (k:Nat):List UInt8:=[u8 (65+k % 26),81,u8 (65+k / 26)]
abbrev scoY (k:Nat) (p:Int):Sco:=⟨nmY k,p⟩
theorem scoY_ok {k:Nat} {p:Int} (hk:k<30) (h0:0≤p) (h1:p<4294967296):isScoM (scoY k p)=true:=by
 have h2:inB p 0 999999999999=true:=inB_iff.2 ⟨h0,by omega⟩
 have e1:(u8 (65+k % 26)).toNat=65+k % 26:=by rw [u8_nat];omega
 have e2:(u8 (65+k / 26)).toNat=65+k / 26:=by rw [u8_nat];omega
 have c1:capB (u8 (65+k % 26))=true:=by simp only [capB,e1,Bool.and_eq_true,decide_eq_true_eq];omega
 have c2:capB (u8 (65+k / 26))=true:=by simp only [capB,e2,Bool.and_eq_true,decide_eq_true_eq];omega
 have c3:capB 81=true:=rfl
 simp [isScoM,scoY,nmY,c1,c2,c3,h2]
theorem score_step {c:Book} {s:BSt} {A:List Sco} {y:Sco} {n:Nat} (h:isStM c s=true) (hy:isScoM y=true) (hs:s.scores=A.take n) (hn:s.scores.length=n) (hA:n≤A.length) :
  (enterM c s y).1.scores=(insM y A).take n:=by
 obtain ⟨-, -,e3, -⟩:=enter_ok h hy
 have i1:=ins_take (y:=y) (l:=A) (n:=n) hA
 have i2:=ins_take (y:=y) (l:=s.scores) (n:=n) (by omega)
 rw [List.take_of_length_le (by omega:s.scores.length≤n)] at i2
 rw [← hs] at i1
 rw [e3,hn]
 by_cases hp:placeM y.points s.scores=n
 ·rw [if_pos hp] at i1 i2;rw [i1,i2]
 ·rw [if_neg hp] at i1;rw [i1]
end Go.Pb
end
