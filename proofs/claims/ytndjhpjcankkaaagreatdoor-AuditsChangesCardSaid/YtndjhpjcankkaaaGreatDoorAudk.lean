/-
  HELPERS of the claim: part 11 of its texts.
-/
import Derived.Test.YtndjhpjcankkaaaGreatDoorAudj
noncomputable section
set_option maxHeartbeats 4000000
set_option maxRecDepth 100000
set_option linter.unusedSimpArgs false
set_option linter.unusedVariables false
namespace Go.Proofs.YtndjhpjcankkaaaGreatDoor
open Go.Eng (IC IOper DReg IFn IsFn Callable)
open Go.Sym Go.Pb
abbrev u32V (l:List Int):DV:=.lst (l.map (DV.int .u32))
theorem nlL_u32 (l:List Int):DV.nlL (l.map (DV.int .u32))=true:=nlL_map (fun _=>rfl) l
theorem w_end (x:Dsk) (s:BSt) (A:List Sco) (b cc:Nat) (h1:s.scores.length=x.c.scores.length) (h2:s.scores=A.take s.scores.length) (hl:s.scores.length≤12) (hb0:1≤b) (hbc:b<cc) :
  IW Tryz.prog 151 u4_31 ⟨tm [(2,.ptr 0 0),(5,scosV A),(6,.ptr b 0)],(nil.upd 0 ⟨0,true,csD x⟩).upd b ⟨0,true,csS s⟩,cc⟩ (rt [Eng.RV.tmp 4] fun v H' x => ∃ H2,GL H' [v] H2 [DV.bool true]):=by
 have q1:((s.scores.length:Int) != (x.c.scores.length:Int))=false:=by rw [h1];simp
 have ne0:=nes2 0 b (by omega)
 repeat' ((with_reducible first|refine wr ?_|refine k_cu ?_ ?_|refine wb2 ?_ ?_<;>(intro hb;try simp only [hb])|fail)<;>try simp only [go_sem,seval,q1,ne0])
 refine i_loop (fun k:Nat=>[(5,scosV A),(6,.ptr b 0),(13,I64 k)]) (fun _=>(nil.upd 0 ⟨0,true,csD x⟩).upd b ⟨0,true,csS s⟩) (fun k cc=>b<cc∧k≤s.scores.length) (fun k=>s.scores.length-k) 0 (by simp [tmLe,tm,Tm.upd]) (Sub.refl _) ⟨by omega,by omega⟩ ?_
 rintro k cc ⟨h1c,hk⟩
 by_cases hlt:k<s.scores.length
 ·have hd:decide ((k:Int)<s.scores.length)=true:=by simpa using hlt
  have hw:=w64 (n:=(k:Int)+1) (by omega) (by omega)
  have hg:=List.getElem?_eq_getElem hlt
  have hg2:A[k]? = s.scores[k]? := by
   have:(A.take s.scores.length)[k]? = A[k]? := by rw [List.getElem?_take,if_pos hlt]
   rw [← this, ← h2]
  rw [hg] at hg2
  generalize s.scores[k]=y at hg hg2
  have hq:eqaR true [2,0] (.agg [.str y.name,I64 y.points]) (.agg [.str y.name,I64 y.points])=some (.bool false):=by simp [eqaR,cellsEq,cellEq]
  repeat' ((with_reducible first|refine wr ?_|refine k_cu ?_ ?_|refine wb2 ?_ ?_<;>(intro hb;try simp only [hb])|fail)<;>try simp only [go_sem,seval,hd,hw,hg,hg2,hq,ne0])
  exact ⟨k+1,rfl,Sub.refl _,inv ⟨by omega,by omega⟩,by omega⟩
 ·have hd:decide ((k:Int)<s.scores.length)=false:=by simpa using hlt
  repeat' ((with_reducible first|refine wr ?_|refine cpc c_sane ?_|refine k_cu ?_ ?_|refine wb2 ?_ ?_<;>(intro hb;try simp only [hb])|fail)<;>try simp only [go_sem,seval,hd,ne0])
  all_goals exact pc_ret rfl
theorem gl_ins {H:Hp} {id n:Nat} {l:List Sco} {B:Hp} {a b c d:DV} (hI:H id=some ⟨2,true,cellsL (l.map Sco.v)⟩) (hl:l.length=n) (hB:∀ j,B j=none∨(j≠id∧B j=H j)):GL H [a,b,.slc id 0 n,c,d] B [a,b,scosV l,c,d] :=
 GL.frzS hI rfl hB (.cons _ _ _ _ (.same _) (.cons _ _ _ _ (.same _) (.cons _ _ _ _ (fz_slc (u:=2) (by rw [List.length_map,hl]) (scos_unit l) ⟨[],by simp⟩) (FzL.refl _))))
theorem stageH {P:Program} {N:Nat} {x:IC} {T:Tm} {H H0:Hp} {c:Nat} {Q:Go.Exit→St→Prop} {L:List (Nat × DV)} (hT:tmLe L T) (hH:Sub H0 H) (h:IW P N x ⟨tm L,H0,c⟩ Q):Hold (IW P N x ⟨T,H,c⟩ Q):=IW.weaken (tm_le hT) hH h
theorem w_ins (x:Dsk) (t:BSt) (pts:List Int) (A:List Sco) (y:Sco) (k b d cc:Nat) (Q:Go.Exit→St→Prop) (hA:ordM A=true) (hl:A.length≤100) (hb0:1≤b) (hbd:b<d) (hdc:d<cc)
  (hQ:∀ cc',cc≤cc'→Q .normal ⟨tm [(1,u32V pts),(2,.ptr 0 0),(5,scosV (insM y A)),(6,.ptr b 0),(7,I64 k)],(nil.upd 0 ⟨0,true,csD x⟩).upd b ⟨0,true,csS t⟩,cc'⟩) :
  IW Tryz.prog 151 u4_22 ⟨tm [(1,u32V pts),(2,.ptr 0 0),(5,scosV A),(6,.ptr b 0),(7,I64 k),(8,.ptr d 0)],((nil.upd 0 ⟨0,true,csD x⟩).upd b ⟨0,true,csS t⟩).upd d ⟨0,true,[.str y.name,I64 y.points]⟩,cc⟩ Q:=by
 refine IW.gl ?_
 have ne0:=nes3 0 b d (by omega)
 repeat' ((with_reducible first|refine wr ?_|refine k_cu ?_ ?_|refine wb2 ?_ ?_<;>(intro hb;try simp only [hb])|fail)<;>try simp only [go_sem,seval,ne0])
 refine i_loop (fun a:Nat=>[(1,u32V pts),(2,.ptr 0 0),(5,scosV A),(6,.ptr b 0),(7,I64 k),(8,.ptr d 0),(12,I64 a)]) (fun _=>((nil.upd 0 ⟨0,true,csD x⟩).upd b ⟨0,true,csS t⟩).upd d ⟨0,true,[.str y.name,I64 y.points]⟩)
  (fun a c2=>cc≤c2∧a≤A.length∧∀ j z,a≤j→A[j]? = some z→z.points<y.points) (fun a=>a) A.length (by simp [tmLe,tm,Tm.upd]) (Sub.refl _)
  ⟨by omega,by omega,fun j z hj hz=>by have:=(List.getElem?_eq_some_iff.1 hz).1;omega⟩ ?_
 rintro a c2 ⟨hc2,ha,hlow⟩
 by_cases h0:a=0
 ·subst h0
  have hpl:placeM y.points A=0:=place_stop hA (by omega) hlow (.inl rfl)
  have hins:insM y A=y :: A:=by unfold insM;rw [hpl];simp
  rw [hins] at hQ
  have ne0:¬0=b∧¬0=d∧¬0=c2+13+4∧¬0=c2+13+5∧¬0=c2+13+7∧¬0=c2+13+8∧¬0=c2+13+9∧¬0=c2+13+12∧¬0=c2+13+12+1∧¬0=c2+13+12+1+1∧¬b=0∧¬b=d∧¬b=c2+13+4∧¬b=c2+13+5∧¬b=c2+13+7∧¬b=c2+13+8∧¬b=c2+13+9∧¬b=c2+13+12∧¬b=c2+13+12+1∧¬b=c2+13+12+1+1∧¬d=0∧¬d=b∧¬d=c2+13+4∧¬d=c2+13+5∧¬d=c2+13+7∧¬d=c2+13+8∧¬d=c2+13+9∧¬d=c2+13+12∧¬d=c2+13+12+1∧¬d=c2+13+12+1+1∧¬c2+13+4=0∧¬c2+13+4=b∧¬c2+13+4=d∧¬c2+13+4=c2+13+5∧¬c2+13+4=c2+13+7∧¬c2+13+4=c2+13+8∧¬c2+13+4=c2+13+9∧¬c2+13+4=c2+13+12∧¬c2+13+4=c2+13+12+1∧¬c2+13+4=c2+13+12+1+1∧¬c2+13+5=0∧¬c2+13+5=b∧¬c2+13+5=d∧¬c2+13+5=c2+13+4∧¬c2+13+5=c2+13+7∧¬c2+13+5=c2+13+8∧¬c2+13+5=c2+13+9∧¬c2+13+5=c2+13+12∧¬c2+13+5=c2+13+12+1∧¬c2+13+5=c2+13+12+1+1∧¬c2+13+7=0∧¬c2+13+7=b∧¬c2+13+7=d∧¬c2+13+7=c2+13+4∧¬c2+13+7=c2+13+5∧¬c2+13+7=c2+13+8∧¬c2+13+7=c2+13+9∧¬c2+13+7=c2+13+12∧¬c2+13+7=c2+13+12+1∧¬c2+13+7=c2+13+12+1+1∧¬c2+13+8=0∧¬c2+13+8=b∧¬c2+13+8=d∧¬c2+13+8=c2+13+4∧¬c2+13+8=c2+13+5∧¬c2+13+8=c2+13+7∧¬c2+13+8=c2+13+9∧¬c2+13+8=c2+13+12∧¬c2+13+8=c2+13+12+1∧¬c2+13+8=c2+13+12+1+1∧¬c2+13+9=0∧¬c2+13+9=b∧¬c2+13+9=d∧¬c2+13+9=c2+13+4∧¬c2+13+9=c2+13+5∧¬c2+13+9=c2+13+7∧¬c2+13+9=c2+13+8∧¬c2+13+9=c2+13+12∧¬c2+13+9=c2+13+12+1∧¬c2+13+9=c2+13+12+1+1∧¬c2+13+12=0∧¬c2+13+12=b∧¬c2+13+12=d∧¬c2+13+12=c2+13+4∧¬c2+13+12=c2+13+5∧¬c2+13+12=c2+13+7∧¬c2+13+12=c2+13+8∧¬c2+13+12=c2+13+9∧¬c2+13+12=c2+13+12+1∧¬c2+13+12=c2+13+12+1+1∧¬c2+13+12+1=0∧¬c2+13+12+1=b∧¬c2+13+12+1=d∧¬c2+13+12+1=c2+13+4∧¬c2+13+12+1=c2+13+5∧¬c2+13+12+1=c2+13+7∧¬c2+13+12+1=c2+13+8∧¬c2+13+12+1=c2+13+9∧¬c2+13+12+1=c2+13+12∧¬c2+13+12+1=c2+13+12+1+1∧¬c2+13+12+1+1=0∧¬c2+13+12+1+1=b∧¬c2+13+12+1+1=d∧¬c2+13+12+1+1=c2+13+4∧¬c2+13+12+1+1=c2+13+5∧¬c2+13+12+1+1=c2+13+7∧¬c2+13+12+1+1=c2+13+8∧¬c2+13+12+1+1=c2+13+9∧¬c2+13+12+1+1=c2+13+12∧¬c2+13+12+1+1=c2+13+12+1:=by and_intros<;>omega
  have f1:∀ H,slcR H 2 (scosV A) none (some (I64 0))=some (scosV []):=fun H=>by
   show slcR H 2 (.lst (A.map Sco.v)) none (some (.int .i64 ((0:Nat):Int)))=_
   rw [slc_to (by omega) (unit_scos A)];rfl
  have f2:∀ H,slcR H 2 (scosV A) (some (I64 0)) none=some (scosV A):=fun H=>by
   simp only [slcR,boundOf,unit_scos];simp
   rw [List.take_of_length_le (by simp)]
  have f3:∀ H,srcOf H 2 (scosV A)=some (A.length,cellsL (A.map Sco.v)):=fun H=>by rw [r_srcl (unit_scos A),List.length_map]
  have f4:∀ H,srcOf H 2 (scosV [])=some (0,[]):=fun H=>rfl
  have f5:∀ (H:Hp) c,appR H c 2 24 .snil 0 []=some (.snil,H,c):=fun _ _=>rfl
  have f6:∀ (H:Hp) c,appR H c 2 24 .snil 1 [.str y.name,I64 y.points]=some (.slc c 0 1,H.upd c ⟨2,true,[.str y.name,I64 y.points]⟩,c+1):=fun H c=>by
   rw [r_appn' (by omega) (by omega) (by omega)]
  have f7:∀ (H:Hp) c id,apB H c id 2 24 1 A.length (cellsL (A.map Sco.v)) (some ⟨2,true,[.str y.name,I64 y.points]⟩)=some (.slc c 0 (1+A.length),(H.del id).upd c ⟨2,true,cellsL ((y :: A).map Sco.v)⟩,c+1):=fun H c id=>by
   rw [b_appx rfl (by omega) (by omega)];rfl
  repeat' ((with_reducible first|refine wr ?_|refine k_cu ?_ ?_|refine wb2 ?_ ?_<;>(intro hb;try simp only [hb])|fail)<;>try simp only [go_sem,seval,ne0,f1,f2,f3,f4,f5,f6,f7])
  refine .inr ⟨[1,2,5,6,7],[u32V pts,.ptr 0 0,scosV (y :: A),.ptr b 0,I64 k],(nil.upd 0 ⟨0,true,csD x⟩).upd b ⟨0,true,csS t⟩,gl_ins (id:=c2+13+12+1) (n:=1+A.length) (l:=y :: A) h_same (by rw [List.length_cons];omega) (fun j=>?_),hQ _ (by omega)⟩
  by_cases e0:j=0
  ·subst e0
   right
   refine ⟨by omega,?_⟩
   simp only [go_sem,ne0]
  by_cases eb:j=b
  ·subst eb
   right
   refine ⟨by omega,?_⟩
   simp only [go_sem,ne0]
  ·left;rw [h_ne eb,h_ne e0];rfl
 have q1:decide ((a:Int)>0)=true:=by simp only [decide_eq_true_eq];omega
 have hw:IntKind.i64.wrap ((a:Int)-1)=((a-1:Nat):Int):=by rw [w64 (by omega) (by omega)];omega
 have hg:=List.getElem?_eq_getElem (show a-1<A.length by omega)
 generalize A[a-1]=z at hg
 by_cases hz:z.points<y.points
 ·have q2:decide (z.points<y.points)=true:=by simpa using hz
  repeat' ((with_reducible first|refine wr ?_|refine k_cu ?_ ?_|refine wb2 ?_ ?_<;>(intro hb;try simp only [hb])|fail)<;>try simp only [go_sem,seval,ne0,q1,hw,hg,q2])
  refine ⟨a-1,rfl,Sub.refl _,inv ⟨by omega,by omega,fun j w hj hw=>?_⟩,by omega⟩
  by_cases e:j=a-1
  ·subst e;rw [hg] at hw;cases hw;exact hz
  ·exact hlow j w (by omega) hw
 have q2:decide (z.points<y.points)=false:=by simpa using hz
 have hpl:placeM y.points A=a:=place_stop hA ha hlow (.inr ⟨z,hg,by omega⟩)
 have hins:insM y A=A.take a++y :: A.drop a:=by unfold insM;rw [hpl]
 rw [hins] at hQ
 have ne0:¬0=b∧¬0=d∧¬0=c2+13+4∧¬0=c2+13+5∧¬0=c2+13+7∧¬0=c2+13+8∧¬0=c2+13+9∧¬0=c2+13+12∧¬0=c2+13+12+1∧¬0=c2+13+12+1+1∧¬b=0∧¬b=d∧¬b=c2+13+4∧¬b=c2+13+5∧¬b=c2+13+7∧¬b=c2+13+8∧¬b=c2+13+9∧¬b=c2+13+12∧¬b=c2+13+12+1∧¬b=c2+13+12+1+1∧¬d=0∧¬d=b∧¬d=c2+13+4∧¬d=c2+13+5∧¬d=c2+13+7∧¬d=c2+13+8∧¬d=c2+13+9∧¬d=c2+13+12∧¬d=c2+13+12+1∧¬d=c2+13+12+1+1∧¬c2+13+4=0∧¬c2+13+4=b∧¬c2+13+4=d∧¬c2+13+4=c2+13+5∧¬c2+13+4=c2+13+7∧¬c2+13+4=c2+13+8∧¬c2+13+4=c2+13+9∧¬c2+13+4=c2+13+12∧¬c2+13+4=c2+13+12+1∧¬c2+13+4=c2+13+12+1+1∧¬c2+13+5=0∧¬c2+13+5=b∧¬c2+13+5=d∧¬c2+13+5=c2+13+4∧¬c2+13+5=c2+13+7∧¬c2+13+5=c2+13+8∧¬c2+13+5=c2+13+9∧¬c2+13+5=c2+13+12∧¬c2+13+5=c2+13+12+1∧¬c2+13+5=c2+13+12+1+1∧¬c2+13+7=0∧¬c2+13+7=b∧¬c2+13+7=d∧¬c2+13+7=c2+13+4∧¬c2+13+7=c2+13+5∧¬c2+13+7=c2+13+8∧¬c2+13+7=c2+13+9∧¬c2+13+7=c2+13+12∧¬c2+13+7=c2+13+12+1∧¬c2+13+7=c2+13+12+1+1∧¬c2+13+8=0∧¬c2+13+8=b∧¬c2+13+8=d∧¬c2+13+8=c2+13+4∧¬c2+13+8=c2+13+5∧¬c2+13+8=c2+13+7∧¬c2+13+8=c2+13+9∧¬c2+13+8=c2+13+12∧¬c2+13+8=c2+13+12+1∧¬c2+13+8=c2+13+12+1+1∧¬c2+13+9=0∧¬c2+13+9=b∧¬c2+13+9=d∧¬c2+13+9=c2+13+4∧¬c2+13+9=c2+13+5∧¬c2+13+9=c2+13+7∧¬c2+13+9=c2+13+8∧¬c2+13+9=c2+13+12∧¬c2+13+9=c2+13+12+1∧¬c2+13+9=c2+13+12+1+1∧¬c2+13+12=0∧¬c2+13+12=b∧¬c2+13+12=d∧¬c2+13+12=c2+13+4∧¬c2+13+12=c2+13+5∧¬c2+13+12=c2+13+7∧¬c2+13+12=c2+13+8∧¬c2+13+12=c2+13+9∧¬c2+13+12=c2+13+12+1∧¬c2+13+12=c2+13+12+1+1∧¬c2+13+12+1=0∧¬c2+13+12+1=b∧¬c2+13+12+1=d∧¬c2+13+12+1=c2+13+4∧¬c2+13+12+1=c2+13+5∧¬c2+13+12+1=c2+13+7∧¬c2+13+12+1=c2+13+8∧¬c2+13+12+1=c2+13+9∧¬c2+13+12+1=c2+13+12∧¬c2+13+12+1=c2+13+12+1+1∧¬c2+13+12+1+1=0∧¬c2+13+12+1+1=b∧¬c2+13+12+1+1=d∧¬c2+13+12+1+1=c2+13+4∧¬c2+13+12+1+1=c2+13+5∧¬c2+13+12+1+1=c2+13+7∧¬c2+13+12+1+1=c2+13+8∧¬c2+13+12+1+1=c2+13+9∧¬c2+13+12+1+1=c2+13+12∧¬c2+13+12+1+1=c2+13+12+1:=by and_intros<;>omega
 have hmo:∀ (H H':Hp) (j:Nat),¬ j=c2+13+5→merge [c2+13+5] H H' j=H' j:=fun H H' j h1=>by simp [merge,h1]
 have hmk:∀ (H H':Hp),merge [c2+13+5] H H' (c2+13+5)=H (c2+13+5):=fun H H'=>by simp [merge]
 have hho:∀ (H:Hp) (j:Nat),¬ j=c2+13+5→hide H [c2+13+5] j=H j:=fun H j h1=>by simp [hide,h1]
 have hta:(A.take a).length=a:=by rw [List.length_take];omega
 have hcta:(cellsL ((A.take a).map Sco.v)).length=a * 2:=by rw [cellsL_length (scos_unit _),List.length_map,hta]
 have f1:∀ H,slcR H 2 (scosV A) none (some (I64 (a:Int)))=some (scosV (A.take a)):=fun H=>by
  have:=slc_to (H:=H) (sz:=2) (n:=a) (xs:=A.map Sco.v) (by rw [List.length_map];omega) (unit_scos A)
  rw [this, ← List.map_take]
 have f2:∀ H,slcR H 2 (scosV A) (some (I64 (a:Int))) none=some (scosV (A.drop a)):=fun H=>by
  simp only [slcR,boundOf,Int.natCast_nonneg,if_true,Int.toNat_natCast,unit_scos,List.length_map,and_true]
  rw [if_pos ⟨Nat.le_refl _,by omega⟩]
  congr 2
  rw [List.map_drop,List.take_of_length_le (by rw [List.length_drop,List.length_map];omega)]
 have f3:∀ H,srcOf H 2 (scosV (A.drop a))=some (A.length-a,cellsL ((A.drop a).map Sco.v)):=fun H=>by rw [r_srcl (unit_scos _),List.length_map,List.length_drop]
 have f4:∀ H,srcOf H 2 (scosV (A.take a))=some (a,cellsL ((A.take a).map Sco.v)):=fun H=>by rw [r_srcl (unit_scos _),List.length_map,hta]
 have f5:∀ (H:Hp) c,appR H c 2 24 .snil a (cellsL ((A.take a).map Sco.v))=some (.slc c 0 a,H.upd c ⟨2,true,cellsL ((A.take a).map Sco.v)⟩,c+1):=fun H c=>by
  rw [r_appn' (by omega) (by omega) (by omega)]
 have f6:∀ (H:Hp) c id,apB H c id 2 24 a 1 [.str y.name,I64 y.points] (some ⟨2,true,cellsL ((A.take a).map Sco.v)⟩)=some (.slc c 0 (a+1),(H.del id).upd c ⟨2,true,cellsL ((A.take a++[y]).map Sco.v)⟩,c+1):=fun H c id=>by
  rw [b_appx hcta (by omega) (by omega),List.map_append,cellsL_append];rfl
 have f7:∀ (H:Hp) c id,apB H c id 2 24 (a+1) (A.length-a) (cellsL ((A.drop a).map Sco.v)) (some ⟨2,true,cellsL ((A.take a++[y]).map Sco.v)⟩)=some (.slc c 0 (a+1+(A.length-a)),(H.del id).upd c ⟨2,true,cellsL ((A.take a++y :: A.drop a).map Sco.v)⟩,c+1):=fun H c id=>by
  rw [b_appx (by rw [cellsL_length (scos_unit _),List.length_map,List.length_append,hta];rfl) (by omega) (by omega)]
  rw [show A.take a++y :: A.drop a=(A.take a++[y])++A.drop a by simp,List.map_append (l₁ := A.take a++[y]),cellsL_append]
 repeat' ((with_reducible first|refine wr ?_|refine k_cu ?_ ?_|refine wb2 ?_ ?_<;>(intro hb;try simp only [hb])|fail)<;>try simp only [go_sem,seval,ne0,q1,hw,hg,q2,f1,f2,f3,f4,f5,f6,f7,hmo,hmk,hho])
 refine .inr ⟨[1,2,5,6,7],[u32V pts,.ptr 0 0,scosV (A.take a++y :: A.drop a),.ptr b 0,I64 k],(nil.upd 0 ⟨0,true,csD x⟩).upd b ⟨0,true,csS t⟩,gl_ins (id:=c2+13+12+1+1) (n:=a+1+(A.length-a)) (l:=A.take a++y :: A.drop a) h_same (by rw [List.length_append,List.length_cons,hta,List.length_drop];omega) (fun j=>?_),hQ _ (by omega)⟩
 by_cases e0:j=0
 ·subst e0
  right
  refine ⟨by omega,?_⟩
  simp only [go_sem,ne0,hmo,hho]
 by_cases eb:j=b
 ·subst eb
  right
  refine ⟨by omega,?_⟩
  simp only [go_sem,ne0,hmo,hho]
 ·left;rw [h_ne eb,h_ne e0];rfl
theorem w_loop (x:Dsk) (pts:List Int) (b cc:Nat) (hx:lenD x) (hst:isStM x.c x.s=true) (hsm:smM x=true) (hp:pts.length≤30) (hpv:∀ p∈pts,0≤p∧p<4294967296) (hb0:1≤b) (hbc:b<cc) :
  IW Tryz.prog 151 u4_8 ⟨tm [(1,u32V pts),(2,.ptr 0 0),(5,scosV x.s.scores),(6,.ptr b 0)],(nil.upd 0 ⟨0,true,csD x⟩).upd b ⟨0,true,csS x.s⟩,cc⟩ (rt [Eng.RV.tmp 4] fun v H' x => ∃ H2,GL H' [v] H2 [DV.bool true]):=by
 have hB:=hx.1
 have hT:=hx.2
 obtain ⟨z1,z2,z3,z4,z5,z6,z7⟩:=sm_lim hsm
 obtain ⟨n,hn⟩:∃ n,n=x.c.scores.length:=⟨_,rfl⟩
 have hxs:=(isSt_iff.1 hst).2.2.2.1
 have hxo:=(scos_iff.1 (isSt_iff.1 hst).2.2.2.2.1).2
 repeat' ((with_reducible first|refine wr ?_|refine k_cu ?_ ?_|refine wb2 ?_ ?_<;>(intro hb;try simp only [hb])|fail)<;>try simp only [go_sem,seval])
 refine i_loop (fun q:Nat × BSt × List Sco=>[(1,u32V pts),(2,.ptr 0 0),(5,scosV q.2.2),(6,.ptr b 0),(7,I64 q.1)]) (fun q=>(nil.upd 0 ⟨0,true,csD x⟩).upd b ⟨0,true,csS q.2.1⟩)
  (fun q cc=>b<cc∧q.1≤pts.length∧isStM x.c q.2.1=true∧lenT q.2.1∧q.2.1.scores.length=n∧q.2.1.scores=q.2.2.take n∧n≤q.2.2.length∧q.2.2.length≤12+q.1∧ordM q.2.2=true) (fun q=>pts.length-q.1) (0,x.s,x.s.scores) (by simp [tmLe,tm,Tm.upd]) (Sub.refl _)
  ⟨hbc,by simp,hst,hT,by simp only;omega,by simp only;rw [List.take_of_length_le (by omega)],by simp only;omega,by simp only;omega,hxo⟩ ?_
 clear hbc cc
 rintro ⟨k,s,A⟩ cc ⟨hbc,hk,h1,h2,h3,h4,h5,h6,h7⟩
 simp only at hk h1 h2 h3 h4 h5 h6 h7
 simp only
 by_cases hlt:k<pts.length
 ·have hd:decide ((k:Int)<(pts.length:Int))=true:=by simpa using hlt
  have hg:=List.getElem?_eq_getElem hlt
  have hpp:=hpv _ (List.getElem_mem hlt)
  generalize pts[k]=p at hg hpp
  have a1:(k:Int).tmod 26=((k % 26:Nat):Int):=nat_tmod k 26
  have a2:IntKind.i64.wrap ((k:Int).tdiv 26)=((k / 26:Nat):Int):=by
   rw [show (k:Int).tdiv 26=((k / 26:Nat):Int) from (Int.ofNat_tdiv k 26).symm,w64 (by omega) (by omega)]
  have b1:IntKind.i64.wrap (65+((k % 26:Nat):Int))=((65+k % 26:Nat):Int):=by rw [w64 (by omega) (by omega)];omega
  have b2:IntKind.i64.wrap (65+((k / 26:Nat):Int))=((65+k / 26:Nat):Int):=by rw [w64 (by omega) (by omega)];omega
  have d1:IntKind.u8.wrap ((65+k % 26:Nat):Int)=((Pb.u8 (65+k % 26)).toNat:Int):=wr8 _
  have d2:IntKind.u8.wrap ((65+k / 26:Nat):Int)=((Pb.u8 (65+k / 26)).toNat:Int):=wr8 _
  have hpw:IntKind.i64.wrap p=p:=w64 (by omega) (by omega)
  have hip:iadR 1 (u32V pts) (I64 (k:Int))=some (.fptr [.int .u32 p]):=by rw [r_iadn,List.getElem?_map,hg];rfl
  have hcv:∀ (H:Hp) id,cvbsR (H.upd id ⟨1,true,[.int .u8 ((Pb.u8 (65+k % 26)).toNat:Int),.int .u8 81,.int .u8 ((Pb.u8 (65+k / 26)).toNat:Int)]⟩) (.slc id 0 3)=some (.str (nmY k)):=fun H id=>cv_own (l:=nmY k) h_same rfl rfl
  have hyk:=scoY_ok (k:=k) (by omega) hpp.1 hpp.2
  have hen:=c_Enter x.c s hB h2 (scoY k p) (by show (nmY k).length≤_;simp [nmY])
  obtain ⟨e1,e2,e3,e4⟩:=enter_ok h1 hyk
  have hss:=score_step h1 hyk h4 h3 h5
  have hte:=lenT_enter (c:=x.c) h2 (x:=scoY k p) (by show (nmY k).length≤_;simp [nmY])
  rw [e1] at hen
  generalize (enterM x.c s (scoY k p)).1=t at hen e2 e3 e4 hss hte
  generalize (enterM x.c s (scoY k p)).2.1=kk at hen e4
  have ne0:=nes5 0 b (cc+8) (cc+16) (cc+18) (by omega)
  have heq:eqaR true [2,0] (.agg [.str (nmY k),I64 p]) (.agg [.str (nmY k),I64 p])=some (.bool false):=by simp [eqaR,cellsEq,cellEq]
  have m3:=c_SameR s s h2
  have hen4:t.scores.length=n:=by rw [(isSt_iff.1 e2).2.2.2.1,hn]
  have hw:IntKind.i64.wrap ((k:Int)+1)=((k+1:Nat):Int):=by rw [w64 (by omega) (by omega)];omega
  rcases e4 with ⟨rfl,rfl⟩|⟨j,rfl,hj1,hj2⟩
  ·repeat' ((with_reducible first|refine hold (p:=IW _ _ u4_22 _ _) ?_|refine wr ?_|refine cpc hen ?_|refine cpc m3 ?_|refine k_cu ?_ ?_|refine wb2 ?_ ?_<;>(intro hb;try simp only [hb])|fail)<;>try simp only [go_sem,seval,hd,r_rem,r_quo,a1,a2,b1,b2,d1,d2,hpw,hip,hcv,heq,dqs,ne0])
   refine stageH (L:=[(1,u32V pts),(2,.ptr 0 0),(5,scosV A),(6,.ptr b 0),(7,I64 k),(8,.ptr (cc+16) 0)]) (H0:=((nil.upd 0 ⟨0,true,csD x⟩).upd b ⟨0,true,csS t⟩).upd (cc+16) ⟨0,true,[.str (scoY k p).name,I64 (scoY k p).points]⟩) (by simp [tmLe,tm,Tm.upd]) (fun j q hj=>?_) ?_
   ·by_cases e1:j=cc+16
    ·subst e1;rw [h_same] at hj;simp only [go_sem,ne0];exact hj
    rw [h_ne e1] at hj
    by_cases e2:j=b
    ·subst e2;rw [h_same] at hj;simp only [go_sem,ne0];exact hj
    rw [h_ne e2] at hj
    by_cases e0:j=0
    ·subst e0;rw [h_same] at hj;simp only [go_sem,ne0];exact hj
    ·rw [h_ne e0] at hj;cases hj
   refine w_ins x t pts A (scoY k p) k b (cc+16) _ _ h7 (by omega) hb0 (by omega) (by omega) (fun cc' hcc=>?_)
   simp only [go_sem,seval]
   repeat' ((with_reducible first|refine wr ?_|refine k_cu ?_ ?_|refine wb2 ?_ ?_<;>(intro hb;try simp only [hb])|fail)<;>try simp only [go_sem,seval,hw])
   exact ⟨(k+1,t,insM (scoY k p) A),⟨rfl,rfl⟩,Sub.refl _,inv ⟨by omega,hlt,e2,hte,hen4,hss,by simp only [ins_len];omega,by simp only [ins_len];omega,ins_ord _ h7⟩,by simp only;omega⟩
  ·have j1:decide ((j:Int) < -1)=false:=by simp only [decide_eq_false_iff_not];omega
   have j2:decide ((j:Int)≥0)=true:=by simp only [decide_eq_true_eq];omega
   have j3:decide ((j:Int)≥(t.scores.length:Int))=false:=by simp only [decide_eq_false_iff_not];omega
   have j4:decide ((j:Int)<0)=false:=by simp only [decide_eq_false_iff_not];omega
   repeat' ((with_reducible first|refine hold (p:=IW _ _ u4_22 _ _) ?_|refine wr ?_|refine cpc hen ?_|refine cpc m3 ?_|refine k_cu ?_ ?_|refine wb2 ?_ ?_<;>(intro hb;try simp only [hb])|fail)<;>try simp only [go_sem,seval,hd,r_rem,r_quo,a1,a2,b1,b2,d1,d2,hpw,hip,hcv,heq,dqs,j1,j2,j3,j4,hj2,ne0])
   refine stageH (L:=[(1,u32V pts),(2,.ptr 0 0),(5,scosV A),(6,.ptr b 0),(7,I64 k),(8,.ptr (cc+16) 0)]) (H0:=((nil.upd 0 ⟨0,true,csD x⟩).upd b ⟨0,true,csS t⟩).upd (cc+16) ⟨0,true,[.str (scoY k p).name,I64 (scoY k p).points]⟩) (by simp [tmLe,tm,Tm.upd]) (fun j q hj=>?_) ?_
   ·by_cases e1:j=cc+16
    ·subst e1;rw [h_same] at hj;simp only [go_sem,ne0];exact hj
    rw [h_ne e1] at hj
    by_cases e2:j=b
    ·subst e2;rw [h_same] at hj;simp only [go_sem,ne0];exact hj
    rw [h_ne e2] at hj
    by_cases e0:j=0
    ·subst e0;rw [h_same] at hj;simp only [go_sem,ne0];exact hj
    ·rw [h_ne e0] at hj;cases hj
   refine w_ins x t pts A (scoY k p) k b (cc+16) _ _ h7 (by omega) hb0 (by omega) (by omega) (fun cc' hcc=>?_)
   simp only [go_sem,seval]
   repeat' ((with_reducible first|refine wr ?_|refine k_cu ?_ ?_|refine wb2 ?_ ?_<;>(intro hb;try simp only [hb])|fail)<;>try simp only [go_sem,seval,hw])
   exact ⟨(k+1,t,insM (scoY k p) A),⟨rfl,rfl⟩,Sub.refl _,inv ⟨by omega,hlt,e2,hte,hen4,hss,by simp only [ins_len];omega,by simp only [ins_len];omega,ins_ord _ h7⟩,by simp only;omega⟩
 ·have hd:decide ((k:Int)<(pts.length:Int))=false:=by simpa using hlt
  repeat' ((with_reducible first|refine hold (p:=IW _ _ u4_31 _ _) ?_|refine wr ?_|refine k_cu ?_ ?_|refine wb2 ?_ ?_<;>(intro hb;try simp only [hb])|fail)<;>try simp only [go_sem,seval,hd])
  refine IW.stage (L:=[(2,.ptr 0 0),(5,scosV A),(6,.ptr b 0)]) (by simp [tmLe,tm,Tm.upd]) ?_
  exact w_end x s A b cc (by omega) (by rw [h3];exact h4) (by omega) hb0 hbc
theorem c_scoresL (x:Dsk) (pts:List Int) (hx:lenD x) (hpl:pts.length≤9223372036854775807) (hpv:∀ p∈pts,0≤p∧p<4294967296):PC Tryz.prog 4 [x.v,u32V pts] (.bool true):=by
 have s1:=c_good x hx
 refine PC.of mixedU isU4 (Nat.le_of_ble_eq_true rfl) (by simp [DV.nlL,DV.nl,nlL_ints,nlL_scos,nlL_adjs,nlL_u32]) rfl ?_
 show IW Tryz.prog 151 u4_1 ⟨argT _,_,_⟩ (rt [.tmp 4] _)
 cases e1:gdM x with
 | false =>
  rw [e1] at s1
  repeat' ((with_reducible first|refine wr ?_|refine cpc s1 ?_|refine cpc c_sane ?_|refine k_cu ?_ ?_|refine wb2 ?_ ?_<;>(intro hb;try simp only [hb])|fail)<;>try simp only [go_sem,seval])
  all_goals exact pc_ret rfl
 | true =>
  rw [e1] at s1
  have e2:smM x=true∧isStM x.c x.s=true:=by simpa [gdM] using e1
  obtain ⟨z1,z2,z3,z4,z5,z6,z7⟩:=sm_lim e2.1
  by_cases h30:pts.length≤30
  rotate_left
  ·have q:decide ((pts.length:Int)>30)=true:=by simp only [decide_eq_true_eq];omega
   repeat' ((with_reducible first|refine wr ?_|refine cpc s1 ?_|refine cpc c_sane ?_|refine k_cu ?_ ?_|refine wb2 ?_ ?_<;>(intro hb;try simp only [hb])|fail)<;>try simp only [go_sem,seval,q,List.length_map])
   all_goals exact pc_ret rfl
  have q:decide ((pts.length:Int)>30)=false:=by simp only [decide_eq_false_iff_not];omega
  have main:∀ cc,1≤cc→IW Tryz.prog 151 u4_7 ⟨tm [(1,u32V pts),(2,.ptr 0 0),(5,scosV x.s.scores)],nil.upd 0 ⟨0,true,csD x⟩,cc⟩ (rt [Eng.RV.tmp 4] fun v H' x => ∃ H2,GL H' [v] H2 [DV.bool true]):=fun cc hcc=>by
   have ne0:=nes2 0 cc (by omega)
   repeat' ((with_reducible first|refine hold (p:=IW _ _ u4_8 _ _) ?_|refine wr ?_|refine k_cu ?_ ?_|refine wb2 ?_ ?_<;>(intro hb;try simp only [hb])|fail)<;>try simp only [go_sem,seval,ne0])
   refine stageH (L:=[(1,u32V pts),(2,.ptr 0 0),(5,scosV x.s.scores),(6,.ptr cc 0)]) (H0:=(nil.upd 0 ⟨0,true,csD x⟩).upd cc ⟨0,true,csS x.s⟩) (by simp [tmLe,tm,Tm.upd]) (fun j q hj=>?_) (w_loop x pts cc (cc+1) hx e2.2 e2.1 h30 hpv hcc (by omega))
   by_cases e2:j=cc
   ·subst e2;rw [h_same] at hj ⊢;exact hj
   rw [h_ne e2] at hj ⊢
   rw [h_ne e2];exact hj
  have f3:∀ H,srcOf H 2 (scosV x.s.scores)=some (x.s.scores.length,cellsL (x.s.scores.map Sco.v)):=fun H=>by rw [r_srcl (unit_scos _),List.length_map]
  by_cases h0:x.s.scores.length=0
  ·have f4:∀ (H:Hp) c,appR H c 2 24 .snil x.s.scores.length (cellsL (x.s.scores.map Sco.v))=some (.snil,H,c):=fun H c=>by rw [h0];rfl
   repeat' ((with_reducible first|refine hold (p:=IW _ _ u4_7 _ _) ?_|refine wr ?_|refine cpc s1 ?_|refine cpc c_sane ?_|refine k_cu ?_ ?_|refine wb2 ?_ ?_<;>(intro hb;try simp only [hb])|fail)<;>try simp only [go_sem,seval,q,List.length_map,f3,f4])
   refine IW.keep [1,2,5] [u32V pts,.ptr 0 0,scosV x.s.scores] (H':=nil.upd 0 ⟨0,true,csD x⟩) ?_ (main _ (by omega))
   rw [List.eq_nil_of_length_eq_zero h0]
   refine GL.view fun ρ vs hA=>⟨hA.1,fun i a b ha hb=>?_⟩
   match i with
   | 0=>cases ha;exact hA.2 0 _ b rfl hb
   | 1=>cases ha;exact hA.2 1 _ b rfl hb
   | 2=>cases ha;exact (hA.2 2 _ b rfl hb).snil_lst
   | _+3=>cases ha
  ·have f4:∀ (H:Hp) c,appR H c 2 24 .snil x.s.scores.length (cellsL (x.s.scores.map Sco.v))=some (.slc c 0 x.s.scores.length,H.upd c ⟨2,true,cellsL (x.s.scores.map Sco.v)⟩,c+1):=fun H c=>by
    rw [r_appn' (by omega) (by omega) (by omega)]
   repeat' ((with_reducible first|refine hold (p:=IW _ _ u4_7 _ _) ?_|refine wr ?_|refine cpc s1 ?_|refine cpc c_sane ?_|refine k_cu ?_ ?_|refine wb2 ?_ ?_<;>(intro hb;try simp only [hb])|fail)<;>try simp only [go_sem,seval,q,List.length_map,f3,f4])
   refine IW.keep [1,2,5] [u32V pts,.ptr 0 0,scosV x.s.scores] (H':=nil.upd 0 ⟨0,true,csD x⟩) ?_ (main _ (by omega))
   refine GL.frzS (id:=1) (b:=⟨2,true,cellsL (x.s.scores.map Sco.v)⟩) h_same rfl (fun j=>?_) (.cons _ _ _ _ (.same _) (.cons _ _ _ _ (.same _) (.cons _ _ _ _ (fz_slc (u:=2) (by rw [List.length_map]) (scos_unit _) ⟨[],by simp⟩) .nil)))
   by_cases e0:j=0
   ·subst e0;right;exact ⟨by omega,by rw [h_same,h_ne (by omega),h_same]⟩
   ·left;rw [h_ne e0];rfl
end Go.Proofs.YtndjhpjcankkaaaGreatDoor
namespace Go.Proofs.YtndjhpjcankkaaaGreatDoor
open Go.Eng (IC IOper DReg IFn IsFn Callable)
open Go.Sym Go.Pb
theorem lenT_st {c:Book} {s:BSt} (hl:lenB c) (h:isStM c s=true):lenT s:=by
 obtain ⟨h1,h2,h3,h4, -⟩:=isSt_iff.1 h
 obtain ⟨f1,f2,f3,f4,f5⟩:=valid_fit h1
 obtain ⟨-, -,n3⟩:=st_num h
 have hl1:=hl.1
 exact ⟨by omega,by omega,by omega,fun x hx=>by have:=(n3 x hx).1;omega⟩
theorem lenT_dec {c:Book} (hl:lenB c) (t:List UInt8):lenT (decP41 c t).1:=by
 by_cases hv:validBM c=0
 ·rcases dec_spec41 hv t with ⟨s,h1,h2,h3⟩|⟨h1,h2⟩
  ·rw [h3];exact lenT_st hl h1
  ·rw [h2];exact lenT_no
 ·rw [show decP41 c t=(noSt,1) by simp [decP41,hv]];exact lenT_no
theorem lenT_load {c:Book} (hl:lenB c) (m:List UInt8):lenT (loadM c m).1:=by
 unfold loadM
 split
 ·exact lenT_no
 rename_i h
 have hv:validBM c=0:=by simpa using h
 split
 ·exact lenT_first hl hv
 split
 ·exact lenT_first hl hv
 ·exact lenT_dec hl _
theorem format_len (d:List UInt8):(formatM d).1.length≤2062:=by
 by_cases h:d.length≤1024
 ·rw [(open_format h).2.1];omega
 ·unfold formatM;rw [if_pos (by omega)];simp
theorem junk_dec {c:Book} (hv:validBM c=0):decP41 c [106,117,110,107]=(noSt,62):=by
 rcases dec_spec41 hv [106,117,110,107] with ⟨s,h1,h2, -⟩|⟨-,h2⟩
 ·exfalso
  have e:=split_unl (lnsM s) (lns_no10 h1)
  rw [← encS_lns,h2] at e
  have e2:splitM [106,117,110,107]=[[106,117,110,107]]:=rfl
  rw [e2] at e
  have:=congrArg List.getLast? e
  simp at this
 ·exact h2
theorem c_survives (x:Dsk) (y:BSt) (u:Nat) (hx:lenD x) (hy:lenT y) (hu:u<65536):PC Tryz.prog 8 [x.v,y.v,.int .u16 (u:Int)] (.bool true):=by
 have s1:=c_good x hx
 have hB:=hx.1
 have hT:=hx.2
 have s2:=c_IsStateR x.c y hB hy
 refine PC.of mixedU isU8 (Nat.le_of_ble_eq_true rfl) (by simp [DV.nlL,DV.nl,nlL_ints,nlL_scos,nlL_adjs]) (by simp [DV.nlL,DV.nl,nlL_ints,nlL_scos,nlL_adjs]) ?_
 show IW Tryz.prog 125 u8_1 ⟨argT _,_,_⟩ (rt [.tmp 6] _)
 cases e1:gdM x with
 | false =>
  rw [e1] at s1
  repeat' ((with_reducible first|refine wr ?_|refine cpc s1 ?_|refine cpc s2 ?_|refine cpc c_sane ?_|refine k_cu ?_ ?_|refine wb2 ?_ ?_<;>(intro hb;try simp only [hb])|fail)<;>try simp only [go_sem,seval])
  all_goals exact pc_ret rfl
 | true =>
  rw [e1] at s1
  have e2:smM x=true∧isStM x.c x.s=true:=by simpa [gdM] using e1
  cases e3:isStM x.c y with
  | false =>
   rw [e3] at s2
   repeat' ((with_reducible first|refine wr ?_|refine cpc s1 ?_|refine cpc s2 ?_|refine cpc c_sane ?_|refine k_cu ?_ ?_|refine wb2 ?_ ?_<;>(intro hb;try simp only [hb])|fail)<;>try simp only [go_sem,seval])
   all_goals exact pc_ret rfl
  | true =>
   rw [e3] at s2
   have hv:=st_valid e3
   have q1:=c_FormatN [106,117,110,107] (by decide)
   obtain ⟨f1,f2,f3⟩:=open_format (d:=[106,117,110,107]) (by decide)
   rw [f1] at q1
   generalize (formatM [106,117,110,107]).1=m0 at q1 f2 f3
   have q2:=c_Load x.c hB m0 (by omega)
   have e4:loadM x.c m0=(firstM x.c,62):=by
    unfold loadM
    rw [if_neg (by simp [hv]),show openM m0=([106,117,110,107],0) by unfold openM;rw [f3],junk_dec hv]
    simp
   rw [e4] at q2
   have q3:=c_NewR x.c hB
   rw [show newM x.c=(firstM x.c,0) by simp [newM,hv]] at q3
   have q4:=c_SameR (firstM x.c) (firstM x.c) (lenT_first hB hv)
   have q5:=c_Save x.c x.s m0 1048576 hB hT (by omega) (by constructor<;>decide)
   obtain ⟨g1,g2,g3⟩:=save_full (mem:=m0) (bud:=1048576) e2.2 (by rw [f3]) (by decide)
   rw [g1] at q5
   generalize (saveM x.c x.s m0 1048576).1=m1 at q5 g2 g3
   have g4:(curM m1).2.2.2=0:=congrArg Prod.snd g3
   have w1:IntKind.i64.wrap (u:Int)=(u:Int):=w64 (by omega) (by omega)
   have w2:(u:Int).tmod 1000=((u % 1000:Nat):Int):=nat_tmod u 1000
   obtain ⟨k,hk⟩:∃ k,k=u % 1000:=⟨_,rfl⟩
   have hk1:k<1000:=by omega
   rw [← hk] at w2
   have hle:=enc_len41 e3
   have q6:=c_Save x.c y m1 (k:Int) hB hy (by omega) (by constructor<;>omega)
   have e5:saveM x.c y m1 (k:Int)=commitM m1 (encS y) (k:Int):=by unfold saveM;rw [if_neg (by simp [e3])]
   rw [e5] at q6
   have q7:=c_EncodeR x.c y hB hy
   rw [show encM41 x.c y=(encS y,0) by simp [encM41,e3]] at q7
   have w3:IntKind.i64.wrap (((encS y).length:Int)+8)=(((encS y).length+8:Nat):Int):=by rw [w64 (by omega) (by omega)];omega
   by_cases hb:(encS y).length+8≤k
   ·have w4:decide ((k:Int)≥(((encS y).length+8:Nat):Int))=true:=by simp only [decide_eq_true_eq];omega
    obtain ⟨k1,k2,k3⟩:=commit_full (mem:=m1) (d:=encS y) (bud:=(k:Int)) g4 (by omega) (by omega)
    rw [k1] at q6
    generalize (commitM m1 (encS y) (k:Int)).1=m2 at q6 k2 k3
    have q8:=c_Load x.c hB m2 (by omega)
    rw [load_enc e3 k3] at q8
    have q9:=c_SameR y y hy
    repeat' ((with_reducible first|refine wr ?_|refine cpc s1 ?_|refine cpc s2 ?_|refine cpc q1 ?_|refine cpc q2 ?_|refine cpc q3 ?_|refine cpc q4 ?_|refine cpc q5 ?_|refine cpc q6 ?_|refine cpc q7 ?_|refine cpc q8 ?_|refine cpc q9 ?_|refine cpc c_sane ?_|refine k_cu ?_ ?_|refine wb2 ?_ ?_<;>(intro hb;try simp only [hb])|fail)<;>try simp only [go_sem,seval,r_rem,w1,w2,w3,w4,dqs])
    all_goals exact pc_ret rfl
   ·have w4:decide ((k:Int)≥(((encS y).length+8:Nat):Int))=false:=by simp only [decide_eq_false_iff_not];omega
    obtain ⟨k1,k2,k3⟩:=commit_part (mem:=m1) (d:=encS y) (bud:=(k:Int)) g4 (by omega) (by omega)
    rw [k1] at q6
    rw [g3] at k3
    generalize (commitM m1 (encS y) (k:Int)).1=m2 at q6 k2 k3
    have q8:=c_Load x.c hB m2 (by omega)
    rw [load_enc e2.2 k3] at q8
    have q9:=c_SameR x.s x.s hT
    repeat' ((with_reducible first|refine wr ?_|refine cpc s1 ?_|refine cpc s2 ?_|refine cpc q1 ?_|refine cpc q2 ?_|refine cpc q3 ?_|refine cpc q4 ?_|refine cpc q5 ?_|refine cpc q6 ?_|refine cpc q7 ?_|refine cpc q8 ?_|refine cpc q9 ?_|refine cpc c_sane ?_|refine k_cu ?_ ?_|refine wb2 ?_ ?_<;>(intro hb;try simp only [hb])|fail)<;>try simp only [go_sem,seval,r_rem,w1,w2,w3,w4,dqs])
    all_goals exact pc_ret rfl
theorem c_loads (x:Dsk) (raw:List UInt8) (bud:Int) (hx:lenD x) (hr:raw.length≤9223372036854775807) (hb:I6 bud):PC Tryz.prog 7 [x.v,.str raw,I64 bud] (.bool true):=by
 have s1:=c_small x hx
 have hB:=hx.1
 have hT:=hx.2
 refine PC.of mixedU isU7 (Nat.le_of_ble_eq_true rfl) (by simp [DV.nlL,DV.nl,nlL_ints,nlL_scos,nlL_adjs]) (by simp [DV.nlL,DV.nl,nlL_ints,nlL_scos,nlL_adjs]) ?_
 show IW Tryz.prog 118 u7_1 ⟨argT _,_,_⟩ (rt [.tmp 6] _)
 cases e1:smM x with
 | false =>
  rw [e1] at s1
  repeat' ((with_reducible first|refine wr ?_|refine cpc s1 ?_|refine cpc c_sane ?_|refine k_cu ?_ ?_|refine wb2 ?_ ?_<;>(intro hb;try simp only [hb])|fail)<;>try simp only [go_sem,seval])
  all_goals exact pc_ret rfl
 | true =>
  rw [e1] at s1
  by_cases h3k:raw.length≤3000
  rotate_left
  ·have q:decide ((raw.length:Int)>3000)=true:=by simp only [decide_eq_true_eq];omega
   repeat' ((with_reducible first|refine wr ?_|refine cpc s1 ?_|refine cpc c_sane ?_|refine k_cu ?_ ?_|refine wb2 ?_ ?_<;>(intro hb;try simp only [hb])|fail)<;>try simp only [go_sem,seval,q])
   all_goals exact pc_ret rfl
  have q:decide ((raw.length:Int)>3000)=false:=by simp only [decide_eq_false_iff_not];omega
  have q1:=c_EncodeR x.c x.s hB hT
  have hle:(encM41 x.c x.s).1.length≤840:=by
   cases e2:isStM x.c x.s with
   | false=>rw [show encM41 x.c x.s=([],1) by simp [encM41,e2]];simp
   | true=>rw [show encM41 x.c x.s=(encS x.s,0) by simp [encM41,e2]];exact enc_len41 e2
  generalize (encM41 x.c x.s).1=t at q1 hle
  generalize (encM41 x.c x.s).2=et at q1
  have hmn:mnR (I64 (raw.length:Int)) (I64 900)=some (I64 ((min raw.length 900:Nat):Int)):=by
   simp only [mnR];congr 2;split<;>omega
  have hsl:slsR raw none (some (I64 ((min raw.length 900:Nat):Int)))=some (.str (raw.take (min raw.length 900))):=by
   simp only [slsR,boundOf,Int.natCast_nonneg,if_true,Int.toNat_natCast]
   rw [if_pos ⟨by omega,by omega⟩];simp
  have q2:=c_FormatR (raw.take (min raw.length 900)) (by rw [List.length_take];omega)
  have q3:=c_FormatR t (by omega)
  have l2:=format_len (raw.take (min raw.length 900))
  have l3:=format_len t
  generalize (formatM (raw.take (min raw.length 900))).1=m at q2 l2
  generalize (formatM (raw.take (min raw.length 900))).2=em at q2
  generalize (formatM t).1=n at q3 l3
  generalize (formatM t).2=en at q3
  obtain ⟨ws,hws⟩:∃ ws:List (List UInt8),ws=[raw,m,n]:=⟨_,rfl⟩
  have hwl:∀ w∈ws,w.length≤1000000:=by rw [hws];intro w hw;simp at hw;rcases hw with rfl|rfl|rfl<;>omega
  have hw3:ws.length=3:=by rw [hws];rfl
  repeat' ((with_reducible first|refine wr ?_|refine cpc s1 ?_|refine cpc q1 ?_|refine cpc q2 ?_|refine cpc q3 ?_|refine cpc c_sane ?_|refine k_cu ?_ ?_|refine wb2 ?_ ?_<;>(intro hb;try simp only [hb])|fail)<;>try simp only [go_sem,seval,q,hmn,hsl])
  refine i_loop (fun j:Nat=>[(2,I64 bud),(3,.ptr 0 0),(57,.slc 1 0 3),(58,I64 3),(59,I64 j)]) (fun _=>(nil.upd 0 ⟨0,true,csD x⟩).upd 1 ⟨1,true,ws.map DV.str⟩) (fun j cc=>2≤cc∧j≤3) (fun j=>3-j) 0 (by simp [tmLe,tm,Tm.upd]) (by rw [hws];exact Sub.refl _) ⟨by omega,by omega⟩ ?_
  clear hws
  rintro j cc ⟨h2,hj⟩
  by_cases hlt:j<3
  ·have hd:decide ((j:Int)<3)=true:=by simp only [decide_eq_true_eq];omega
   have hw:IntKind.i64.wrap ((j:Int)+1)=((j+1:Nat):Int):=by rw [w64 (by omega) (by omega)];omega
   have hg:=List.getElem?_eq_getElem (show j<ws.length by omega)
   have hlw:=hwl _ (List.getElem_mem (show j<ws.length by omega))
   generalize ws[j]=w at hg hlw
   have hgc:(ws.map DV.str)[j]? = some (.str w):=by rw [List.getElem?_map,hg];rfl
   have hia:iadR 1 (.slc 1 0 3) (I64 (j:Int))=some (.ptr 1 j):=by
    have:=r_iadsn (sz:=1) (id:=1) (off:=0) (k:=.i64) hlt
    simpa using this
   have bl:∀ l:List UInt8,(l != l)=false:=fun l=>by simp
   have ne0:=nes4 0 1 cc (cc+1) (by omega)
   repeat' ((with_reducible first|refine wr ?_|refine cpc (c_Load x.c hB w hlw) ?_|refine cpc (c_LoadR x.c hB w hlw) ?_|refine cpc (c_Save x.c x.s w bud hB hT hlw hb) ?_|refine cpc (c_SaveR x.c x.s w bud hB hT hlw hb) ?_|refine cpc (c_SameR _ _ (lenT_load hB w)) ?_|refine k_cu ?_ ?_|refine wb2 ?_ ?_<;>(intro hb;try simp only [hb])|fail)<;>try simp only [go_sem,seval,hd,hw,hgc,hia,bqn,bl,dqs,ne0])
   exact ⟨j+1,rfl,by (repeat (refine sub_up1 ?_ (by omega)));exact Sub.refl _,inv ⟨by omega,by omega⟩,by omega⟩
  ·have hd:decide ((j:Int)<3)=false:=by simp only [decide_eq_false_iff_not];omega
   repeat' ((with_reducible first|refine wr ?_|refine cpc c_sane ?_|refine k_cu ?_ ?_|refine wb2 ?_ ?_<;>(intro hb;try simp only [hb])|fail)<;>try simp only [go_sem,seval,hd])
   exact pc_ret rfl
end Go.Proofs.YtndjhpjcankkaaaGreatDoor
namespace Go.Proofs.YtndjhpjcankkaaaGreatDoor
open Go.Eng (IC IOper DReg IFn IsFn Callable)
open Go.Sym Go.Pb
theorem dec_back {c:Book} (w:List UInt8) (h:(decP41 c w).2=0):encM41 c (decP41 c w).1=(w,0):=by
 by_cases hv:validBM c=0
 ·rcases dec_spec41 hv w with ⟨s,h1,h2,h3⟩|⟨h1,h2⟩
  ·rw [h3];simp [encM41,h1,h2]
  ·rw [h2] at h;cases h
 ·rw [show decP41 c w=(noSt,1) by simp [decP41,hv]] at h;cases h
theorem sub_up40 {B B2:Blk} {H:Hp} {c:Nat} {b:Blk} (h:Sub ((nil.upd 0 B).upd 40 B2) H) (hc:41≤c):Sub ((nil.upd 0 B).upd 40 B2) (H.upd c b):=fun j q hj=>by
 by_cases e:j=c
 ·subst e;rw [h_ne (by omega),h_ne (by omega)] at hj;cases hj
 ·rw [h_ne e];exact h _ q hj
def chrs:List UInt8:=[48,49,50,51,52,53,54,55,56,57,45,10,65,90,43,32]
theorem c_decodes (x:Dsk) (raw:List UInt8) (a0 a1 a2:Nat) (b0:a0<256) (b1:a1<256) (b2:a2<256) (hx:lenD x) (hr:raw.length≤9223372036854775807):PC Tryz.prog 6 [x.v,.str raw,.agg [.int .u8 (a0:Int),.int .u8 (a1:Int),.int .u8 (a2:Int)]] (.bool true):=by
 have s1:=c_small x hx
 have hB:=hx.1
 have hT:=hx.2
 refine PC.of mixedU isU6 (Nat.le_of_ble_eq_true rfl) (by simp [DV.nlL,DV.nl,nlL_ints,nlL_scos,nlL_adjs]) (by simp [DV.nlL,DV.nl,nlL_ints,nlL_scos,nlL_adjs]) ?_
 show IW Tryz.prog 138 u6_1 ⟨argT _,_,_⟩ (rt [.tmp 6] _)
 cases e1:smM x with
 | false =>
  rw [e1] at s1
  repeat' ((with_reducible first|refine wr ?_|refine cpc s1 ?_|refine cpc c_sane ?_|refine k_cu ?_ ?_|refine wb2 ?_ ?_<;>(intro hb;try simp only [hb])|fail)<;>try simp only [go_sem,seval])
  all_goals exact pc_ret rfl
 | true =>
  rw [e1] at s1
  by_cases h5:raw.length≤500
  rotate_left
  ·have q:decide ((raw.length:Int)>500)=true:=by simp only [decide_eq_true_eq];omega
   repeat' ((with_reducible first|refine wr ?_|refine cpc s1 ?_|refine cpc c_sane ?_|refine k_cu ?_ ?_|refine wb2 ?_ ?_<;>(intro hb;try simp only [hb])|fail)<;>try simp only [go_sem,seval,q])
   all_goals exact pc_ret rfl
  have q:decide ((raw.length:Int)>500)=false:=by simp only [decide_eq_false_iff_not];omega
  have q1:=c_EncodeR x.c x.s hB hT
  have hle:(encM41 x.c x.s).1.length≤840:=by
   cases e2:isStM x.c x.s with
   | false=>rw [show encM41 x.c x.s=([],1) by simp [encM41,e2]];simp
   | true=>rw [show encM41 x.c x.s=(encS x.s,0) by simp [encM41,e2]];exact enc_len41 e2
  generalize (encM41 x.c x.s).1=t at q1 hle
  generalize (encM41 x.c x.s).2=et at q1
  have i0:iadaR 3 1 (.ptr 1 0) (.int .i64 0)=some (.ptr 1 0):=rfl
  have i1:iadaR 3 1 (.ptr 1 0) (.int .i64 1)=some (.ptr 1 1):=rfl
  have i2:iadaR 3 1 (.ptr 1 0) (.int .i64 2)=some (.ptr 1 2):=rfl
  have w0:IntKind.i64.wrap (a0:Int)=(a0:Int):=w64 (by omega) (by omega)
  have w1:IntKind.i64.wrap (a1:Int)=(a1:Int):=w64 (by omega) (by omega)
  have w2:IntKind.i64.wrap ((a0:Int) * 256)=((a0 * 256:Nat):Int):=by rw [w64 (by omega) (by omega)];omega
  have w3:IntKind.i64.wrap (((a0 * 256:Nat):Int)+(a1:Int))=((a0 * 256+a1:Nat):Int):=by rw [w64 (by omega) (by omega)];omega
  have w4:IntKind.i64.wrap ((t.length:Int)+1)=((t.length+1:Nat):Int):=by rw [w64 (by omega) (by omega)];omega
  have w5:=nat_tmod (a0 * 256+a1) (t.length+1)
  have w6:¬ ((t.length+1:Nat):Int)=0:=by omega
  obtain ⟨k,hk⟩:∃ k,k=(a0 * 256+a1) % (t.length+1):=⟨_,rfl⟩
  have hkt:k≤t.length:=by have:=Nat.mod_lt (a0 * 256+a1) (show 0<t.length+1 by omega);omega
  rw [← hk] at w5
  have v1:(a2:Int).tmod 16=((a2 % 16:Nat):Int):=nat_tmod a2 16
  have hcg:=List.getElem?_eq_getElem (show a2 % 16<chrs.length by show _<16;omega)
  generalize chrs[a2 % 16]'(by show _<16;omega)=ch at hcg
  have hix:idxR (.str [48,49,50,51,52,53,54,55,56,57,45,10,65,90,43,32]) (.int .u8 ((a2 % 16:Nat):Int))=some (.int .u8 (ch.toNat:Int)):=by
   show idxR (.str chrs) _=_
   rw [r_idx,if_pos (by omega),Int.toNat_natCast,hcg];rfl
  have hcv:∀ (H:Hp) id,cvbsR (H.upd id ⟨1,true,[.int .u8 (ch.toNat:Int)]⟩) (.slc id 0 1)=some (.str [ch]):=fun H id=>cv_own (l:=[ch]) h_same rfl rfl
  have hs1:slsR t none (some (I64 (k:Int)))=some (.str (t.take k)):=by
   simp only [slsR,boundOf,Int.natCast_nonneg,if_true,Int.toNat_natCast]
   rw [if_pos ⟨hkt,by omega⟩];simp
  have hs2:slsR t (some (I64 (k:Int))) none=some (.str (t.drop k)):=by
   simp only [slsR,boundOf,Int.natCast_nonneg,if_true,Int.toNat_natCast]
   rw [if_pos ⟨Nat.le_refl _,hkt⟩,List.take_of_length_le (by rw [List.length_drop];omega)]
  have v2:IntKind.i64.wrap ((k:Int)+1)=((k+1:Nat):Int):=by rw [w64 (by omega) (by omega)];omega
  obtain ⟨m,hm⟩:∃ m,m=min (k+1) t.length:=⟨_,rfl⟩
  have hmt:m≤t.length:=by omega
  have hmn:mnR (I64 ((k+1:Nat):Int)) (I64 (t.length:Int))=some (I64 (m:Int)):=by
   simp only [mnR,hm];congr 2;split<;>omega
  have hs3:slsR t (some (I64 (m:Int))) none=some (.str (t.drop m)):=by
   simp only [slsR,boundOf,Int.natCast_nonneg,if_true,Int.toNat_natCast]
   rw [if_pos ⟨Nat.le_refl _,hmt⟩,List.take_of_length_le (by rw [List.length_drop];omega)]
  have lt:(t.take k).length≤840:=by rw [List.length_take];omega
  have ld:(t.drop k).length≤840:=by rw [List.length_drop];omega
  have lm:(t.drop m).length≤840:=by rw [List.length_drop];omega
  clear hk hm
  generalize t.take k=p1 at *
  generalize t.drop k=p2 at *
  generalize t.drop m=p3 at *
  have c1:=sadd (s:=p1) (t:=[ch]) (by simp;omega)
  obtain ⟨r1,hr1⟩:∃ r,r=p1++[ch]:=⟨_,rfl⟩
  have lr1:r1.length≤841:=by rw [hr1];simp;omega
  rw [← hr1] at c1
  have c2:=sadd (s:=r1) (t:=p2) (by omega)
  have c3:=sadd (s:=p1) (t:=p3) (by omega)
  have c4:=sadd (s:=r1) (t:=p3) (by omega)
  obtain ⟨r2,hr2⟩:∃ r,r=r1++p2:=⟨_,rfl⟩
  obtain ⟨r3,hr3⟩:∃ r,r=p1++p3:=⟨_,rfl⟩
  obtain ⟨r4,hr4⟩:∃ r,r=r1++p3:=⟨_,rfl⟩
  rw [← hr2] at c2
  rw [← hr3] at c3
  rw [← hr4] at c4
  have lr2:r2.length≤2000:=by rw [hr2];simp;omega
  have lr3:r3.length≤2000:=by rw [hr3];simp;omega
  have lr4:r4.length≤2000:=by rw [hr4];simp;omega
  obtain ⟨ws,hws⟩:∃ ws:List (List UInt8),ws=[raw,p1,r2,r3,r4]:=⟨_,rfl⟩
  have hwl:∀ w∈ws,w.length≤1000000:=by rw [hws];intro w hw;simp at hw;rcases hw with rfl|rfl|rfl|rfl|rfl<;>omega
  have hw3:ws.length=5:=by rw [hws];rfl
  repeat' ((with_reducible first|refine wr ?_|refine cpc s1 ?_|refine cpc q1 ?_|refine cpc c_sane ?_|refine k_cu ?_ ?_|refine wb2 ?_ ?_<;>(intro hb;try simp only [hb])|fail)<;>try simp only [go_sem,seval,q,i0,i1,i2,w0,w1,w2,w3,w4,w5,w6,r_rem,v1,hix,hcv,hs1,hs2,v2,hmn,hs3,c1,c2,c3,c4])
  refine i_loop (fun j:Nat=>[(3,.ptr 0 0),(91,.slc 40 0 5),(92,I64 5),(93,I64 j)]) (fun _=>(nil.upd 0 ⟨0,true,csD x⟩).upd 40 ⟨1,true,ws.map DV.str⟩) (fun j cc=>41≤cc∧j≤5) (fun j=>5-j) 0 (by simp [tmLe,tm,Tm.upd]) ?_ ⟨by omega,by omega⟩ ?_
  ·intro j q hj
   by_cases e4:j=40
   ·subst e4;rw [h_same] at hj ⊢;rw [hws] at hj;exact hj
   rw [h_ne e4] at hj ⊢
   by_cases e0:j=0
   ·subst e0;rw [h_ne (by omega),h_ne (by omega)];exact hj
   ·rw [h_ne e0] at hj;cases hj
  clear hws
  rintro j cc ⟨h2,hj⟩
  by_cases hlt:j<5
  ·have hd:decide ((j:Int)<5)=true:=by simp only [decide_eq_true_eq];omega
   have hw:IntKind.i64.wrap ((j:Int)+1)=((j+1:Nat):Int):=by rw [w64 (by omega) (by omega)];omega
   have hg:=List.getElem?_eq_getElem (show j<ws.length by omega)
   have hlw:=hwl _ (List.getElem_mem (show j<ws.length by omega))
   generalize ws[j]=w at hg hlw
   have hgc:(ws.map DV.str)[j]? = some (.str w):=by rw [List.getElem?_map,hg];rfl
   have hia:iadR 1 (.slc 40 0 5) (I64 (j:Int))=some (.ptr 40 j):=by
    have:=r_iadsn (sz:=1) (id:=40) (off:=0) (k:=.i64) hlt
    simpa using this
   have bl:∀ l:List UInt8,(l != l)=false:=fun l=>by simp
   have d1:=c_Decode x.c hB w hlw
   have d2:=c_DecodeR x.c hB w hlw
   rw [dec_same41] at d2
   have hld:=lenT_dec hB w
   have d3:=c_SameR _ (decP41 x.c w).1 hld
   have d4:=c_Encode x.c _ hB hld
   have hbk:=dec_back (c:=x.c) w
   generalize (decP41 x.c w).1=s' at d1 d2 d3 d4 hbk hld
   generalize (decP41 x.c w).2=e' at d1 d2 hbk
   have ne0:=nes4 0 40 cc (cc+1) (by omega)
   by_cases he:e'=0
   ·rw [hbk he] at d4
    have q5:(e' == 0)=true:=by simp [he]
    repeat' ((with_reducible first|refine wr ?_|refine cpc d1 ?_|refine cpc d2 ?_|refine cpc d3 ?_|refine cpc d4 ?_|refine k_cu ?_ ?_|refine wb2 ?_ ?_<;>(intro hb;try simp only [hb])|fail)<;>try simp only [go_sem,seval,hd,hw,hgc,hia,bqn,bl,dqs,q5,ne0])
    exact ⟨j+1,rfl,by (repeat (refine sub_up40 ?_ (by omega)));exact Sub.refl _,inv ⟨by omega,by omega⟩,by omega⟩
   ·have q5:(e' == 0)=false:=by simpa using he
    repeat' ((with_reducible first|refine wr ?_|refine cpc d1 ?_|refine cpc d2 ?_|refine cpc d3 ?_|refine cpc d4 ?_|refine k_cu ?_ ?_|refine wb2 ?_ ?_<;>(intro hb;try simp only [hb])|fail)<;>try simp only [go_sem,seval,hd,hw,hgc,hia,bqn,bl,dqs,q5,ne0])
    exact ⟨j+1,rfl,by (repeat (refine sub_up40 ?_ (by omega)));exact Sub.refl _,inv ⟨by omega,by omega⟩,by omega⟩
  ·have hd:decide ((j:Int)<5)=false:=by simp only [decide_eq_false_iff_not];omega
   repeat' ((with_reducible first|refine wr ?_|refine cpc c_sane ?_|refine k_cu ?_ ?_|refine wb2 ?_ ?_<;>(intro hb;try simp only [hb])|fail)<;>try simp only [go_sem,seval,hd])
   exact pc_ret rfl
end Go.Proofs.YtndjhpjcankkaaaGreatDoor
end
