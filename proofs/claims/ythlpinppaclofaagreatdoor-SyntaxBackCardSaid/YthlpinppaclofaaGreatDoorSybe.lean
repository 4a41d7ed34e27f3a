/-
  HELPERS of the claim: part 5 of its texts.
-/
import Derived.Test.YthlpinppaclofaaGreatDoorSybd
noncomputable section
set_option maxHeartbeats 4000000
set_option maxRecDepth 100000
set_option linter.unusedSimpArgs false
set_option linter.unusedVariables false
namespace Go.Proofs.YthlpinppaclofaaGreatDoor
open Go.Eng (IC IOper DReg IFn J0)
open Go.Sym Go.Pb
structure PaE (L:List Tok) (s:Rd) (q:Ex × Rd) (x:Ex) (s':Rd):Prop where
 eq:Eqv s' q.2
 vl:okR q.2=true->x=q.1
 bd:PI L s'
 pr:s'.par=s.par
abbrev PeC (L:List Tok) (E:Int) (f:Nat) (vs:List DV) (s:Rd) (q:Ex × Rd):Prop :=
 ∀ (H:Hp) (cc t:Nat),H t=some (paB L E s)->t<cc->AC Tryz.prog f (.ptr t 0 :: vs) H cc (fun v H' c' => ∃ x s',v=x.v/\H'=H.upd t (paB L E s')/\PaE L s q x s')
abbrev E1l (k v:Int) (n:List UInt8) (p:Int):Blk:=⟨0,true,[I64 k,I64 v,.str n,.snil,I64 p]⟩
theorem c_pleaf (L:List Tok) (E:Int) (hL:L.length<=1000000000) (hK:∀ t∈L,I1 t) (s m:Rd) (hq:Eqv s m) (hP:PI L s) (hp:isP L E s 5 [[40]]=false):PeC L E 196 [] s (G0 L E m):=by
 intro H cc t ht htc;have hri:=hP.i;have hro:=hP.o0;have hro1:=hP.o1;refine AC.bodyT B2 rfl (A0A rfl) fun hfr=>?_;have hio:=c_pisO L E s (H.upd cc B2j) (cc+2) t (cc+1) (by rw [A3 (by omega)];exact hfr _ (by omega)) (by rw [A3 (by omega)];exact ht) (by omega) 5 [[40]] (by simp);repeat' ((with_reducible first|refine wr ?_|refine A2 ?_ ?_|fail)<;>try simp only [go_sem,seval])
 refine AC.call hio ?_;rintro v H' c1 ⟨rfl,rfl⟩ hc1;simp only [go_sem,seval,hp];repeat' ((with_reducible first|refine wr ?_|refine A2 ?_ ?_|fail)<;>try simp only [go_sem,seval,hp])
 refine AC.call (c_here L E s _ _ t (by rw [A3 (by omega)];exact ht) (by omega)) ?_;rintro v H' c2 ⟨rfl,rfl⟩ hc2;have ne0:=A7y t cc c2 (c2+1) (by omega);have tail:∀ (kd vl:Int) (nm:List UInt8) (c3:Nat),c2+2<=c3->(kd,vl,nm)=lfK (A4 L E s)->IW Tryz.prog 96 (pz Tryz.prog 196 (.o (.o (.i (.i (.o .h)))))) ⟨tm [(0,.ptr t 0),(2,.ptr cc 0),(5,.ptr (c2+1) 0)],((H.upd cc B2j).upd c2 (tkB (A4 L E s))).upd (c2+1) (E1l kd vl nm (A4 L E s).pos),c3⟩ (rt [.cell 2 5 true] fun v H' c' => ∃ v2 H2,GL H' [v] H2 [v2]/\∃ x s',v2=x.v/\H2=H.upd t (paB L E s')/\PaE L s (G0 L E m) x s'):=by
  intro kd vl nm c3 hc3 hlf;have hGt:(((H.upd cc B2j).upd c2 (tkB (A4 L E s))).upd (c2+1) (E1l kd vl nm (A4 L E s).pos)) t=some (paB L E s):=by rw [A3 (by omega),A3 (by omega),A3 (by omega)];exact ht
  have hbad:∀ (e:Int) (c4:Nat),PaE L s (G0 L E m) Ex0 (pfl L E s e)->GL (((((H.upd cc B2j).upd c2 (tkB (A4 L E s))).upd (c2+1) (E1l kd vl nm (A4 L E s).pos)).upd t (paB L E (pfl L E s e))).upd cc B2j) [.agg [I64 0,I64 0,.str [],.snil,I64 0]] (H.upd t (paB L E (pfl L E s e))) [.agg [I64 0,I64 0,.str [],.lst [],I64 0]]:=fun e c4 _ =>
   B8m (cc:=cc) (D5 hfr htc) (fun j hj=>by simp [Hp.upd,show ¬j=cc by omega,show ¬j=c2 by omega,show ¬j=c2+1 by omega])
  by_cases hk0:kd=0
  ·have hd:(kd == 0)=true:=by simpa using hk0
   have hr:PaE L s (G0 L E m) Ex0 (pfl L E s 4):=by
    rcases hq.cas with ⟨rfl,ho⟩|⟨h1,h2⟩
    ·rw [B3c hK ho];unfold B8f;dsimp only;rw [<- hlf,if_pos hk0];exact ⟨.refl _,fun _=>rfl,hP.fl,B0n.2.2⟩
    ·rw [B0m h2,Y9 h1];exact ⟨hq,fun h=>(by simp [h2] at h),hP,rfl⟩
   repeat' ((with_reducible first|refine wr ?_|refine A2 ?_ ?_|fail)<;>try simp only [go_sem,seval,hd,ne0,A0,A1])
   refine AC.call (c_pfail L E s _ _ t hGt (by omega) 4) ?_;rintro v H' c4 ⟨rfl,rfl⟩ hc4;simp only [go_sem,seval,ne0,A0,A1];repeat' ((with_reducible first|refine wr ?_|refine A2 ?_ ?_|fail)<;>try simp only [go_sem,seval,ne0,A0,A1])
   rw [D6 (rv5 rfl A0)];exact ⟨_,_,hbad 4 c4 hr,Ex0,_,rfl,rfl,hr⟩
  have hd:(kd == 0)=false:=by simpa using hk0
  repeat' ((with_reducible first|refine wr ?_|refine A2 ?_ ?_|fail)<;>try simp only [go_sem,seval,hd,ne0,A0,A1])
  refine AC.call (c_pok L E s _ _ t hGt (by omega)) ?_;rintro v H' c4 ⟨rfl,rfl⟩ hc4;cases ho:okR s with
  | false =>
   have hm:okR m=false:=by rw [<- hq.ok,ho]
   have hr:PaE L s (G0 L E m) Ex0 (pfl L E s 4):=by
    rw [B0m hm,Y9 ho];exact ⟨hq,fun h=>(by simp [hm] at h),hP,rfl⟩
   simp only [go_sem,seval,ho];repeat' ((with_reducible first|refine wr ?_|refine A2 ?_ ?_|fail)<;>try simp only [go_sem,seval,ho,ne0,A0,A1])
   refine AC.call (c_pfail L E s _ _ t hGt (by omega) 4) ?_;rintro v H' c5 ⟨rfl,rfl⟩ hc5;simp only [go_sem,seval,ne0,A0,A1];repeat' ((with_reducible first|refine wr ?_|refine A2 ?_ ?_|fail)<;>try simp only [go_sem,seval,ne0,A0,A1])
   rw [D6 (rv5 rfl A0)];exact ⟨_,_,hbad 4 c4 hr,Ex0,_,rfl,rfl,hr⟩
  | true =>
   obtain rfl:s=m:=hq.s (by rw [<- hq.ok,ho]);have hpr:G0 L E s=B8f L E s:=B3c hK ho;unfold B8f at hpr;dsimp only at hpr;rw [<- hlf] at hpr;dsimp only at hpr;rw [if_neg hk0] at hpr;by_cases h32:s.ops=32
   ·have hd2:(s.ops == 32)=true:=by simpa using h32
    rw [if_pos (by omega)] at hpr;have hr:PaE L s (G0 L E s) Ex0 (pfl L E s 9):=by
     rw [hpr];refine ⟨.bad ?_ ?_ (A9p (by omega) (by decide)),fun _=>rfl,hP.fl,B0n.2.2⟩
     ·dsimp only;rw [C9x (by omega) ho,C8u ho]
     ·dsimp only;rw [C9x (by omega) ho,C8u ho]
    simp only [go_sem,seval,ho];repeat' ((with_reducible first|refine wr ?_|refine A2 ?_ ?_|fail)<;>try simp only [go_sem,seval,ho,hd2,hGt,ne0,A0,A1])
    refine AC.call (c_pfail L E s _ _ t hGt (by omega) 9) ?_;rintro v H' c5 ⟨rfl,rfl⟩ hc5;simp only [go_sem,seval,ne0,A0,A1];repeat' ((with_reducible first|refine wr ?_|refine A2 ?_ ?_|fail)<;>try simp only [go_sem,seval,ne0,A0,A1])
    rw [D6 (rv5 rfl A0)];exact ⟨_,_,hbad 9 c4 hr,Ex0,_,rfl,rfl,hr⟩
   ·have hd2:(s.ops == 32)=false:=by simpa using h32
    have hlt:s.i<L.length:=by
     have hk:(A4 L E s).kind≠0:=fun h=>by
      rw [lfK,if_neg (by omega),if_neg (by omega),if_neg (by omega)] at hlf;exact hk0 (congrArg (·.1) hlf)
     exact (G2 hk rfl).2
    have hw1:IntKind.i64.wrap (s.ops+1)=s.ops+1:=w6z (by omega);have hw2:IntKind.i64.wrap ((s.i:Int)+1)=((s.i+1:Nat):Int):=by rw [w6z (by omega)];omega
    rw [if_neg (by omega)] at hpr;have hP3:PI L ({ s with i:=s.i+1,ops:=s.ops+1 }:Rd):=⟨hlt,by show 0<=s.ops+1;omega,by show s.ops+1<=32;omega,hP.p0,hP.p1⟩;have hcn:=c_nmdP kd;cases hn:C4z kd with
    | true =>
     rw [hn] at hcn;simp only [go_sem,seval,ho];repeat' ((with_reducible first|refine wr ?_|refine cpc hcn ?_|refine A2 ?_ ?_|fail)<;>try simp only [go_sem,seval,ho,hd2,hGt,hw1,hw2,ne0,A0,A1])
     rw [if_pos hn] at hpr;obtain ⟨g1,g2⟩:=hP3.take (E:=E) (x:=1) (by decide);have hnm:vl=0/\nm=[]:=by
      unfold lfK at hlf;split at hlf
      ·cases hlf;cases hn
      ·split at hlf
       ·cases hlf;cases hn
       ·split at hlf<;>cases hlf<;>exact ⟨rfl,rfl⟩
     obtain ⟨rfl,rfl⟩:=hnm;refine AC.call (c_ptake L E { s with i:=s.i+1,ops:=s.ops+1 } _ _ t A0 (by omega) (by show s.i+1<=10000000000;omega) 1) ?_;rintro v H' c5 ⟨rfl,rfl⟩ hc5;simp only [go_sem,seval,ne0,A0,A1];repeat' ((with_reducible first|refine wr ?_|refine A2 ?_ ?_|fail)<;>try simp only [go_sem,seval,ne0,A0,A1])
     rw [D6 (rv5 rfl A0)];refine ⟨_,_,B8m (cc:=cc) (K:=H.upd t (paB L E (B1 L E ({ s with i:=s.i+1,ops:=s.ops+1 }:Rd) 1).2)) (D5 hfr htc) (fun j hj=>?_),.mk kd 0 (B1 L E ({ s with i:=s.i+1,ops:=s.ops+1 }:Rd) 1).1.text [] (A4 L E s).pos,_,rfl,rfl,?_⟩
     ·simp [Hp.upd,show ¬j=cc by omega,show ¬j=c2 by omega,show ¬j=c2+1 by omega];try (split<;>rfl)
     ·rw [hpr];exact ⟨.refl _,fun _=>rfl,g1,g2⟩
    | false =>
     rw [if_neg (by simp [hn])] at hpr;rw [hn] at hcn;simp only [go_sem,seval,ho];repeat' ((with_reducible first|refine wr ?_|refine cpc hcn ?_|refine A2 ?_ ?_|fail)<;>try simp only [go_sem,seval,ho,hd2,hGt,hw1,hw2,ne0,A0,A1])
     rw [D6 (rv5 rfl A0)];refine ⟨_,_,B8m (cc:=cc) (K:=H.upd t (paB L E ({ s with i:=s.i+1,ops:=s.ops+1 }:Rd))) (D5 hfr htc) (fun j hj=>?_),.mk kd vl nm [] (A4 L E s).pos,_,rfl,rfl,?_⟩
     ·simp [Hp.upd,show ¬j=cc by omega,show ¬j=c2 by omega,show ¬j=c2+1 by omega];try (split<;>rfl)
     ·rw [hpr];exact ⟨.refl _,fun _=>rfl,hP3,rfl⟩
 have hlk:=B5p C9 F8 rfl (A4 L E s).text;by_cases h3:(A4 L E s).kind=3
 ·have e3:((A4 L E s).kind == 3)=true:=by simpa using h3
  simp only [go_sem,seval,ne0,A0,A1];repeat' ((with_reducible first|refine E3 (p:=IW _ _ (pz Tryz.prog 196 (.o (.o (.i (.i (.o .h)))))) _ _) ?_|refine wr ?_|refine A2 ?_ ?_|fail)<;>try simp only [go_sem,seval,e3,ne0,A0,A1])
  and_intros
  all_goals try ((repeat rw [A3 (by omega)]);exact hfr _ (by omega))
  repeat' ((with_reducible first|refine E3 (p:=IW _ _ (pz Tryz.prog 196 (.o (.o (.i (.i (.o .h)))))) _ _) ?_|refine wr ?_|refine A2 ?_ ?_|fail)<;>try simp only [go_sem,seval,e3,ne0,A0,A1])
  exact IW.stage (by simp [C6,tm,Tm.upd]) (tail 1 (A4 L E s).value [] _ (by omega) (by rw [lfK,if_pos h3]))
 have e3:((A4 L E s).kind == 3)=false:=by simpa using h3
 by_cases h1:(A4 L E s).kind=1
 ·have e1:((A4 L E s).kind == 1)=true:=by simpa using h1
  simp only [go_sem,seval,ne0,A0,A1];repeat' ((with_reducible first|refine E3 (p:=IW _ _ (pz Tryz.prog 196 (.o (.o (.i (.i (.o .h)))))) _ _) ?_|refine wr ?_|refine A2 ?_ ?_|fail)<;>try simp only [go_sem,seval,e3,e1,ne0,A0,A1])
  and_intros
  all_goals try ((repeat rw [A3 (by omega)]);exact hfr _ (by omega))
  repeat' ((with_reducible first|refine E3 (p:=IW _ _ (pz Tryz.prog 196 (.o (.o (.i (.i (.o .h)))))) _ _) ?_|refine wr ?_|refine A2 ?_ ?_|fail)<;>try simp only [go_sem,seval,e3,e1,ne0,A0,A1])
  exact IW.stage (by simp [C6,tm,Tm.upd]) (tail 2 0 (A4 L E s).text _ (by omega) (by rw [lfK,if_neg h3,if_pos h1]))
 have e1:((A4 L E s).kind == 1)=false:=by simpa using h1
 by_cases h2:(A4 L E s).kind=2
 ·have e2:((A4 L E s).kind == 2)=true:=by simpa using h2
  simp only [go_sem,seval,ne0,A0,A1];repeat' ((with_reducible first|refine E3 (p:=IW _ _ (pz Tryz.prog 196 (.o (.o (.i (.i (.o .h)))))) _ _) ?_|refine wr ?_|refine cpc c_lvs ?_|refine A2 ?_ ?_|fail)<;>try simp only [go_sem,seval,e3,e1,e2,hlk,ne0,A0,A1])
  and_intros
  all_goals try ((repeat rw [A3 (by omega)]);exact hfr _ (by omega))
  repeat' ((with_reducible first|refine E3 (p:=IW _ _ (pz Tryz.prog 196 (.o (.o (.i (.i (.o .h)))))) _ _) ?_|refine wr ?_|refine cpc c_lvs ?_|refine A2 ?_ ?_|fail)<;>try simp only [go_sem,seval,e3,e1,e2,hlk,ne0,A0,A1])
  exact IW.stage (by simp [C6,tm,Tm.upd]) (tail (lkI C9 F8 (A4 L E s).text) 0 [] _ (by omega) (by rw [lfK,if_neg h3,if_neg h1,if_pos h2]))
 have e2:((A4 L E s).kind == 2)=false:=by simpa using h2
 simp only [go_sem,seval,ne0,A0,A1];repeat' ((with_reducible first|refine E3 (p:=IW _ _ (pz Tryz.prog 196 (.o (.o (.i (.i (.o .h)))))) _ _) ?_|refine wr ?_|refine A2 ?_ ?_|fail)<;>try simp only [go_sem,seval,e3,e1,e2,ne0,A0,A1])
 exact IW.stage (by simp [C6,tm,Tm.upd]) (tail 0 0 [] _ (by omega) (by rw [lfK,if_neg h3,if_neg h1,if_neg h2]))
theorem E5a {G:Hp} {k t:Nat} {b:Blk} (h:¬ t=k):L8 (G.upd k b) [k] t=G t:=by
 simp only [L8];rw [if_neg (by simpa using h),A3 h]
theorem mgP {X:Hp} {k t:Nat} {B:Blk} (h:¬ t=k):G6 [k] X ((L8 X [k]).upd t B)=X.upd t B:=by
 funext j
 simp only [G6];by_cases e:j=k
 ·subst e;rw [if_pos (by simp),A3 (fun e=>h e.symm)]
 ·rw [if_neg (by simpa using e)];by_cases e2:j=t
  ·subst e2;rw [A0,A0]
  ·rw [A3 e2,A3 e2];simp only [L8];rw [if_neg (by simpa using e)]
theorem c_pprim (L:List Tok) (E:Int) (hL:L.length<=1000000000) (hK:∀ t∈L,I1 t) (f:Nat)
  (ib:∀ n s m r,1<=n->n<=6->Eqv s m->F1 L E f n m=some r->PI L s->PeC L E 123 [I64 n] s r)
  (s m:Rd) (r:Ex × Rd) (hq:Eqv s m) (h:K9 L E (f+1) m=some r) (hP:PI L s) (hp0:isP L E s 5 [[45],[33]]=false):PeC L E 196 [] s r:=by
 unfold K9 at h;dsimp only at h;cases hp:isP L E s 5 [[40]] with
 | false =>
  rw [if_pos (D9o hK (by rw [<- hq.isP];exact hp0) (by rw [<- hq.isP];exact hp))] at h;cases h;exact c_pleaf L E hL hK s m hq hP hp
 | true =>
  obtain ⟨ho,hlt, -⟩:=U5 (by decide) hp;obtain rfl:s=m:=hq.s (by rw [<- hq.ok,ho]);have hk:B6 L E s K0=2:=C2a hK hp K0 (by decide +kernel);rw [hk,if_neg (by decide)] at h;have hri:=hP.i;have hp0':=hP.p0;have hp1:=hP.p1;intro H cc t ht htc;refine AC.bodyT B2 rfl (A0A rfl) fun hfr=>?_;have hio:=c_pisO L E s (H.upd cc B2j) (cc+2) t (cc+1) (by rw [A3 (by omega)];exact hfr _ (by omega)) (by rw [A3 (by omega)];exact ht) (by omega) 5 [[40]] (by simp);repeat' ((with_reducible first|refine wr ?_|refine A2 ?_ ?_|fail)<;>try simp only [go_sem,seval])
  refine AC.call hio ?_;rintro v H' c1 ⟨rfl,rfl⟩ hc1;simp only [go_sem,seval,hp];repeat' ((with_reducible first|refine wr ?_|refine A2 ?_ ?_|fail)<;>try simp only [go_sem,seval,hp])
  refine AC.call (c_deeper L E s _ _ t (by rw [A3 (by omega)];exact ht) (by omega) (by omega) hp0' hp1) ?_;rintro v H' c2 ⟨rfl,rfl⟩ hc2;have ne0:=V8 t cc c2 (by omega);by_cases h16:s.par=16
  ·have hd:(s.par == 16)=true:=by simpa using h16
   have hl:B9 L E s (s.par+1) 16 50=pfl L E s 50:=by rw [Z2,if_pos (by omega)]
   rw [hl,if_pos (by unfold pfl;exact O7 (by decide))] at h;cases h;rw [if_pos h16];simp only [go_sem,seval,hd,ne0,A0,A1];repeat' ((with_reducible first|refine wr ?_|refine A2 ?_ ?_|fail)<;>try simp only [go_sem,seval,hd,ne0,A0,A1])
   rw [D6 (rv5 rfl A0)];refine ⟨_,_,B8m (cc:=cc) (K:=H.upd t (paB L E (pfl L E s 50))) (D5 hfr htc) (fun j hj=>by simp [Hp.upd,show ¬j=cc by omega]),Ex0,_,rfl,rfl,.refl _,fun _=>rfl,hP.fl,B0n.2.2⟩
  ·have hd:(s.par == 16)=false:=by simpa using h16
   rw [A1u (by omega),if_neg (by rw [ho];decide),if_pos rfl] at h;rw [if_neg h16];have hP2:PI L ({ s with i:=s.i+1,par:=s.par+1 }:Rd):=⟨hlt,hP.o0,hP.o1,by show 0<=s.par+1;omega,by show s.par+1<=16;omega⟩;cases hb:F1 L E f 1 { s with i:=s.i+1,par:=s.par+1 } with
   | none=>rw [hb] at h;cases h
   | some q =>
    obtain ⟨e,m3⟩:=q;rw [hb] at h;dsimp only at h;cases h;simp only [go_sem,seval,hd,ne0,A0,A1];repeat' ((with_reducible first|refine wr ?_|refine A2 ?_ ?_|fail)<;>try simp only [go_sem,seval,hd,ne0,A0,A1])
    refine AC.call (ib 1 _ _ _ (by decide) (by decide) (.refl _) hb hP2 _ _ t A0 (by omega)) ?_;rintro v H' c3 ⟨x,s3,rfl,rfl,hx⟩ hc3;have hi3:=hx.bd.i;have ne0:=V8 t cc c3 (by omega);simp only [go_sem,seval,ne0,A0,A1,Ex.v_w];repeat' ((with_reducible first|refine wr ?_|refine A2 ?_ ?_|fail)<;>try simp only [go_sem,seval,ne0,A0,A1])
    refine AC.call (c_want L E s3 _ _ t (by repeat (first|exact A0|rw [A3 (by omega)])) (by omega) (by omega) 5 [41]) ?_;rintro v H' c4 ⟨rfl,rfl⟩ hc4;obtain ⟨w1,w2⟩:=hx.bd.want (E:=E) (k:=5) (w:=[41]) (by decide);have hpr3:=hx.pr;dsimp only at hpr3;have hw5:IntKind.i64.wrap ((E8 L E s3 5 [41]).par-1)=(E8 L E s3 5 [41]).par-1:=w6z (by omega);have heq:=hx.eq.want (L:=L) (E:=E) (k:=5) (w:=[41]) (fun s=>F5 hK (by decide +kernel));have hres:PaE L s (e, { C5 L E m3 [41] with par:=(C5 L E m3 [41]).par-1 }) x ({ E8 L E s3 5 [41] with par:=(E8 L E s3 5 [41]).par-1 }:Rd):=by
     refine ⟨heq.par (fun k=>by rw [heq.s k]),fun k=>?_,⟨w1.i,w1.o0,w1.o1,by show 0<=(E8 L E s3 5 [41]).par-1;omega,by show (E8 L E s3 5 [41]).par-1<=16;omega⟩,by show (E8 L E s3 5 [41]).par-1=s.par;omega⟩;have k2:okR (C5 L E m3 [41])=true:=k;exact hx.vl (A1g (A5z k2).1).1
    generalize E8 L E s3 5 [41]=s4 at *;simp only [go_sem,seval,ne0,A0,A1];repeat' ((with_reducible first|refine wr ?_|refine A2 ?_ ?_|fail)<;>try simp only [go_sem,seval,hw5,ne0,A0,A1])
    rw [D6 (rv5 rfl A0)];refine ⟨_,_,P6 (cc:=cc) (K:=H.upd t (paB L E { s4 with par:=s4.par-1 })) (D5 hfr htc) (fun j hj=>?_),x,_,rfl,rfl,hres⟩;simp [Hp.upd,show ¬j=cc by omega,show ¬j=c3 by omega];try (split<;>rfl)
theorem c_punary (L:List Tok) (E:Int) (hL:L.length<=1000000000) (hK:∀ t∈L,I1 t) (f:Nat)
  (ib:∀ n s m r,1<=n->n<=6->Eqv s m->F1 L E f n m=some r->PI L s->PeC L E 123 [I64 n] s r)
  (iu:∀ s m r,Eqv s m->K9 L E f m=some r->PI L s->PeC L E 166 [] s r)
  (s m:Rd) (r:Ex × Rd) (hq:Eqv s m) (h:K9 L E (f+1) m=some r) (hP:PI L s):PeC L E 166 [] s r:=by
 intro H cc t ht htc;have hri:=hP.i;have hp0':=hP.p0;have hp1:=hP.p1;refine AC.bodyT B2 rfl (A0A rfl) fun hfr=>?_;repeat' ((with_reducible first|refine wr ?_|refine A2 ?_ ?_|fail)<;>try simp only [go_sem,seval])
 refine AC.call (c_here L E s _ _ t (by rw [A3 (by omega)];exact ht) (by omega)) ?_;rintro v H' c1 ⟨rfl,rfl⟩ hc;have ne0:=A7y t cc c1 (c1+1) (by omega);have hio:=c_pisO L E s ((H.upd cc B2j).upd c1 (tkB (A4 L E s))) (c1+1+1) t (c1+1) (by rw [A3 (by omega),A3 (by omega)];exact hfr _ (by omega)) (by rw [A3 (by omega),A3 (by omega)];exact ht) (by omega) 5 [[45],[33]] (by simp);simp only [go_sem,seval,ne0,A0,A1];repeat' ((with_reducible first|refine wr ?_|refine A2 ?_ ?_|fail)<;>try simp only [go_sem,seval,ne0,A0,A1])
 refine AC.call hio ?_;rintro v H' c2 ⟨rfl,rfl⟩ hc2;have hGt:((H.upd cc B2j).upd c1 (tkB (A4 L E s))) t=some (paB L E s):=by rw [A3 (by omega),A3 (by omega)];exact ht
 cases hp:isP L E s 5 [[45],[33]] with
 | false =>
  simp only [go_sem,seval,hp];repeat' ((with_reducible first|refine wr ?_|refine A2 ?_ ?_|fail)<;>try simp only [go_sem,seval,hp])
  refine AC.call (c_pprim L E hL hK f ib s m r hq h hP hp _ _ t hGt (by omega)) ?_;rintro v H' c3 ⟨x,s3,rfl,rfl,hx⟩ hc3;simp only [go_sem,seval,ne0,A0,A1,Ex.v_w];repeat' ((with_reducible first|refine wr ?_|refine A2 ?_ ?_|fail)<;>try simp only [go_sem,seval,ne0,A0,A1])
  rw [D6 (rv5 rfl A0)];refine ⟨_,_,P6 (cc:=cc) (K:=H.upd t (paB L E s3)) (D5 hfr htc) (fun j hj=>?_),x,s3,rfl,rfl,hx⟩;simp [Hp.upd,show ¬j=cc by omega,show ¬j=c1 by omega]
 | true =>
  obtain ⟨ho,hlt, -⟩:=U5 (by decide) hp;obtain rfl:s=m:=hq.s (by rw [<- hq.ok,ho]);obtain ⟨b,hb33,hk⟩:∃ b:Bool,((A4 L E s).text == [33])=b/\B6 L E s K0=if b=true then 1 else 0:=by
   rcases D5a hp with h1|h1
   ·exact ⟨false,by rw [C1f h1];rfl,C2a hK h1 K0 (by decide +kernel)⟩
   ·exact ⟨true,by rw [C1f h1];rfl,C2a hK h1 K0 (by decide +kernel)⟩
  unfold K9 at h;dsimp only at h;rw [hk,if_neg (by cases b<;>decide)] at h;simp only [go_sem,seval,hp];repeat' ((with_reducible first|refine wr ?_|refine A2 ?_ ?_|fail)<;>try simp only [go_sem,seval,hp])
  refine AC.call (c_deeper L E s _ _ t hGt (by omega) (by omega) hp0' hp1) ?_;rintro v H' c3 ⟨rfl,rfl⟩ hc3;by_cases h16:s.par=16
  ·have hd:(s.par == 16)=true:=by simpa using h16
   have hl:B9 L E s (s.par+1) 16 50=pfl L E s 50:=by rw [Z2,if_pos (by omega)]
   rw [hl,if_pos (by unfold pfl;exact O7 (by decide))] at h;cases h;rw [if_pos h16];simp only [go_sem,seval,hd,ne0,A0,A1];repeat' ((with_reducible first|refine wr ?_|refine A2 ?_ ?_|fail)<;>try simp only [go_sem,seval,hd,ne0,A0,A1])
   rw [D6 (rv5 rfl A0)];refine ⟨_,_,B8m (cc:=cc) (K:=H.upd t (paB L E (pfl L E s 50))) (D5 hfr htc) (fun j hj=>by simp [Hp.upd,show ¬j=cc by omega,show ¬j=c1 by omega]),Ex0,_,rfl,rfl,.refl _,fun _=>rfl,hP.fl,B0n.2.2⟩
  have hd:(s.par == 16)=false:=by simpa using h16
  rw [A1u (by omega),if_neg (by rw [ho];decide),if_neg (by cases b<;>decide)] at h;rw [if_neg h16];have hP2:PI L ({ s with i:=s.i+1,par:=s.par+1 }:Rd):=⟨hlt,hP.o0,hP.o1,by show 0<=s.par+1;omega,by show s.par+1<=16;omega⟩;cases hu:K9 L E f { s with i:=s.i+1,par:=s.par+1 } with
  | none=>rw [hu] at h;cases h
  | some q =>
   obtain ⟨e,m3⟩:=q;rw [hu] at h;dsimp only at h;cases h;have ne0:=A0k t cc c1 (c3+2) (c3+6) (by omega);simp only [go_sem,seval,hd,ne0,A0,A1];repeat' ((with_reducible first|refine wr ?_|refine A2 ?_ ?_|fail)<;>try simp only [go_sem,seval,hd,ne0,A0,A1])
   refine AC.call (iu _ _ _ (.refl _) hu hP2 _ _ t (by rw [E5a (by omega)];exact A0) (by omega)) ?_;rintro v H' c4 ⟨x,s3,rfl,rfl,hx⟩ hc4;have hi3:=hx.bd.i;have hpr3:=hx.pr;have hb3:=hx.bd;have hxe:=hx.eq;have hxv:=hx.vl;dsimp only at hpr3 hxe hxv;have hw5:IntKind.i64.wrap (s3.par-1)=s3.par-1:=w6z (by omega);have hres:PaE L s (.mk (10+if b=true then 1 else 0) 0 [] [e] (A4 L E s).pos, { m3 with par:=m3.par-1 }) (.mk (if b=true then 11 else 10) 0 [] [x] (A4 L E s).pos) ({ s3 with par:=s3.par-1 }:Rd):=by
    refine ⟨hxe.par (fun k=>by rw [hxe.s k]),fun k=>?_,⟨hb3.i,hb3.o0,hb3.o1,by show 0<=s3.par-1;omega,by show s3.par-1<=16;omega⟩,by show s3.par-1=s.par;omega⟩;have k2:okR m3=true:=k;rw [hxv k2];cases b<;>rfl
   have hmg:∀ (X:Hp) (B:Blk),G6 [c3+6] X ((L8 X [c3+6]).upd t B)=X.upd t B:=fun X B=>mgP (by omega);cases b with
   | true =>
    simp only [go_sem,seval,ne0,A0,A1,hmg,Ex.v_w];repeat' ((with_reducible first|refine wr ?_|refine A2 ?_ ?_|fail)<;>try simp only [go_sem,seval,ne0,A0,A1,hb33])
    and_intros
    all_goals try ((repeat rw [A3 (by omega)]);exact hfr _ (by omega))
    repeat' ((with_reducible first|refine wr ?_|refine A2 ?_ ?_|fail)<;>try simp only [go_sem,seval,hw5,ne0,A0,A1,hb33])
    rw [D6 (rv5 rfl A0)];refine ⟨_,_,D0l (cc:=cc) (b:=c3+2) (K:=H.upd t (paB L E { s3 with par:=s3.par-1 })) [x] (D5 hfr htc) (by omega) ?_ (fun j hj=>?_),.mk 11 0 [] [x] (A4 L E s).pos,_,rfl,rfl,hres⟩
    ·rw [A7f];dsimp only
     repeat (first|exact A0|rw [A3 (by omega)])
    simp [Hp.upd,show ¬j=cc by omega,show ¬j=c1 by omega,show ¬j=c3+2 by omega,show ¬j=c3+6 by omega];try (split<;>rfl)
   | false =>
    simp only [go_sem,seval,ne0,A0,A1,hmg,Ex.v_w];repeat' ((with_reducible first|refine wr ?_|refine A2 ?_ ?_|fail)<;>try simp only [go_sem,seval,ne0,A0,A1,hb33])
    and_intros
    all_goals try ((repeat rw [A3 (by omega)]);exact hfr _ (by omega))
    repeat' ((with_reducible first|refine wr ?_|refine A2 ?_ ?_|fail)<;>try simp only [go_sem,seval,hw5,ne0,A0,A1,hb33])
    rw [D6 (rv5 rfl A0)];refine ⟨_,_,D0l (cc:=cc) (b:=c3+2) (K:=H.upd t (paB L E { s3 with par:=s3.par-1 })) [x] (D5 hfr htc) (by omega) ?_ (fun j hj=>?_),.mk 10 0 [] [x] (A4 L E s).pos,_,rfl,rfl,hres⟩
    ·rw [A7f];dsimp only
     repeat (first|exact A0|rw [A3 (by omega)])
    simp [Hp.upd,show ¬j=cc by omega,show ¬j=c1 by omega,show ¬j=c3+2 by omega,show ¬j=c3+6 by omega];try (split<;>rfl)
theorem c_plevel (L:List Tok) (E:Int) (hL:L.length<=1000000000) (hK:∀ t∈L,I1 t) (f:Nat)
  (ib:∀ g,g<=f->∀ n s m r,1<=n->n<=6->Eqv s m->F1 L E g n m=some r->PI L s->PeC L E 123 [I64 n] s r)
  (iu:∀ s m r,Eqv s m->K9 L E f m=some r->PI L s->PeC L E 166 [] s r)
  (n:Int) (s m:Rd) (r:Ex × Rd) (hn1:1<=n) (hn6:n<=6) (hq:Eqv s m) (h:F1 L E (f+1) n m=some r) (hP:PI L s):PeC L E 123 [I64 n] s r:=by
 intro H cc t ht htc;refine AC.bodyT B2 rfl (A0A rfl) fun hfr=>?_;unfold F1 at h;have ne0:=X3 t cc (by omega);by_cases h5:5<n
 ·rw [if_pos h5] at h;have hd:(n == 6)=true:=by simp;omega
  repeat' ((with_reducible first|refine wr ?_|refine A2 ?_ ?_|fail)<;>try simp only [go_sem,seval,hd])
  refine AC.call (iu _ _ _ hq h hP _ _ t (by rw [A3 (by omega)];exact ht) (by omega)) ?_;rintro v H' c1 ⟨x,s1,rfl,rfl,hx⟩ hc1;simp only [go_sem,seval,ne0,A0,A1,Ex.v_w];repeat' ((with_reducible first|refine wr ?_|refine A2 ?_ ?_|fail)<;>try simp only [go_sem,seval,ne0,A0,A1])
  rw [D6 (rv5 rfl A0)];refine ⟨_,_,P6 (cc:=cc) (K:=H.upd t (paB L E s1)) (D5 hfr htc) (fun j hj=>?_),x,s1,rfl,rfl,hx⟩;simp [Hp.upd,show ¬j=cc by omega]
 rw [if_neg h5] at h;have hd:(n == 6)=false:=by simp;omega
 have hw:IntKind.i64.wrap (n+1)=n+1:=w6z (by omega);cases hb:F1 L E f (n+1) m with
 | none=>rw [hb] at h;cases h
 | some q =>
  obtain ⟨e,m1⟩:=q;rw [hb] at h;dsimp only at h;repeat' ((with_reducible first|refine wr ?_|refine A2 ?_ ?_|fail)<;>try simp only [go_sem,seval,hd,hw])
  refine AC.call (ib f (A0H _) (n+1) _ _ _ (by omega) (by omega) hq hb hP _ _ t (by rw [A3 (by omega)];exact ht) (by omega)) ?_;rintro v H' c1 ⟨x,s1,rfl,rfl,hx⟩ hc1;have hx1:=hx.eq;have hx2:=hx.vl;have hx3:=hx.bd;have hx4:=hx.pr;dsimp only at hx1 hx2;have ne0:=V8 t cc c1 (by omega);simp only [go_sem,seval,ne0,A0,A1,Ex.v_w];repeat' ((with_reducible first|refine wr ?_|refine A2 ?_ ?_|fail)<;>try simp only [go_sem,seval,ne0,A0,A1])
  refine A4q (fun _:Nat × Ex × Rd × Ex × Rd=>[(0,.ptr t 0),(1,I64 n),(4,.ptr cc 0),(5,.ptr c1 0)]) (fun q=>((H.upd cc B2j).upd t (paB L E q.2.2.2.2)).upd c1 (exB q.2.2.2.1))
   (fun q c=>c1+1<=c/\q.1<=f/\I5 L E q.1 n q.2.1 q.2.2.1=some r/\Eqv q.2.2.2.2 q.2.2.1/\(okR q.2.2.1=true->q.2.2.2.1=q.2.1)/\PI L q.2.2.2.2/\q.2.2.2.2.par=s.par) (fun q=>q.1) (f,e,m1,x,s1) (fun b=>by simp [C6,tm,Tm.upd]) (by simp [C6,tm,Tm.upd]) (Sub.refl _) ⟨A0H _,A0H _,h,hx1,hx2,hx3,hx4⟩ ?_
  clear h hb hx hx1 hx2 hx3 hx4 s1 e m1 x;rintro ⟨g,e,m1,x,s1⟩ c ⟨hc,hg,hv,k1,k2,k3,k4⟩;dsimp only at hc hg hv k1 k2 k3 k4 ⊢;have hri:=k3.i;cases g with
  | zero=>simp [I5] at hv
  | succ g =>
  have hTt:∀ b:Blk,(((H.upd cc B2j).upd t (paB L E s1)).upd c1 b) t=some (paB L E s1):=fun b=>by rw [A3 (by omega),A0]
  repeat' ((with_reducible first|refine wr ?_|refine A2 ?_ ?_|fail)<;>try simp only [go_sem,seval])
  refine AC.call (c_pok L E s1 _ _ t (hTt _) (by omega)) ?_;rintro v H' c2 ⟨rfl,rfl⟩ hc2;cases ho:okR s1 with
  | false =>
   have hm:okR m1=false:=by rw [<- k1.ok,ho]
   obtain rfl:=(EN.all (g+1)).2.1 _ _ _ _ hv hm;simp only [go_sem,seval,ho];repeat' ((with_reducible first|refine wr ?_|refine A2 ?_ ?_|fail)<;>try simp only [go_sem,seval,ho,ne0,A0,A1])
   rw [D6 (rv5 rfl A0)];refine ⟨_,_,P6 (cc:=cc) (K:=H.upd t (paB L E s1)) (D5 hfr htc) (fun j hj=>?_),x,s1,rfl,rfl,k1,fun k=>(by simp [hm] at k),k3,k4⟩;simp [Hp.upd,show ¬j=cc by omega,show ¬j=c1 by omega]
  | true =>
  obtain rfl:s1=m1:=k1.s (by rw [<- k1.ok,ho]);obtain rfl:=k2 ho;unfold I5 at hv;dsimp only at hv;obtain ⟨hl1,hl2⟩:=E0m (E:=E) hK ho hn1 (by omega:n<=5);have hnn:0<=B6 L E s1 B7->s1.i<L.length:=fun h=>(I4 h).2.1;have hlk:=B5p B7 B2d rfl (A4 L E s1).text;simp only [go_sem,seval,ho];repeat' ((with_reducible first|refine wr ?_|refine A2 ?_ ?_|fail)<;>try simp only [go_sem,seval,ho,ne0,A0,A1])
  refine AC.call (c_here L E s1 _ _ t (hTt _) (by omega)) ?_;rintro v H' c3 ⟨rfl,rfl⟩ hc3;have ne0:=A0k t cc c1 c3 (c3+12) (by omega);by_cases hstop:B6 L E s1 B7<0\/B4 (12+B6 L E s1 B7)≠n
  ·rw [if_pos hstop] at hv;cases hv;have hs2:=hl1.1 hstop;by_cases hk5:(A4 L E s1).kind=5
   ·have e5:((A4 L E s1).kind != 5)=false:=by simpa using hk5
    have el:(B4 (lkI B7 B2d (A4 L E s1).text) != n)=true:=by
     rcases hs2 with h|h
     ·exact absurd hk5 h
     ·simpa using h
    simp only [go_sem,seval,ne0,A0,A1];repeat' ((with_reducible first|refine wr ?_|refine cpc c_ops ?_|refine cpc (c_levP _) ?_|refine A2 ?_ ?_|fail)<;>try simp only [go_sem,seval,e5,el,hlk,ne0,A0,A1])
    and_intros
    all_goals try ((repeat rw [A3 (by omega)]);exact hfr _ (by omega))
    repeat' ((with_reducible first|refine wr ?_|refine cpc c_ops ?_|refine cpc (c_levP _) ?_|refine A2 ?_ ?_|fail)<;>try simp only [go_sem,seval,e5,el,hlk,ne0,A0,A1])
    rw [D6 (rv5 rfl A0)];refine ⟨_,_,P6 (cc:=cc) (K:=H.upd t (paB L E s1)) (D5 hfr htc) (fun j hj=>?_),_,s1,rfl,rfl,.refl _,fun _=>rfl,k3,k4⟩;simp [Hp.upd,show ¬j=cc by omega,show ¬j=c1 by omega,show ¬j=c3 by omega]
   ·have e5:((A4 L E s1).kind != 5)=true:=by simpa using hk5
    simp only [go_sem,seval,ne0,A0,A1];repeat' ((with_reducible first|refine wr ?_|refine cpc c_ops ?_|refine cpc (c_levP _) ?_|refine A2 ?_ ?_|fail)<;>try simp only [go_sem,seval,e5,hlk,ne0,A0,A1])
    and_intros
    all_goals try ((repeat rw [A3 (by omega)]);exact hfr _ (by omega))
    repeat' ((with_reducible first|refine wr ?_|refine cpc c_ops ?_|refine cpc (c_levP _) ?_|refine A2 ?_ ?_|fail)<;>try simp only [go_sem,seval,e5,hlk,ne0,A0,A1])
    rw [D6 (rv5 rfl A0)];refine ⟨_,_,P6 (cc:=cc) (K:=H.upd t (paB L E s1)) (D5 hfr htc) (fun j hj=>?_),_,s1,rfl,rfl,.refl _,fun _=>rfl,k3,k4⟩;simp [Hp.upd,show ¬j=cc by omega,show ¬j=c1 by omega,show ¬j=c3 by omega]
  rw [if_neg hstop] at hv;have hk0:0<=B6 L E s1 B7:=by omega
  have hlt:=hnn hk0;obtain ⟨hl3,hk5,hl4⟩:=hl2 hk0;have e5:((A4 L E s1).kind != 5)=false:=by simpa using hk5
  have el:(B4 (lkI B7 B2d (A4 L E s1).text) != n)=false:=by
   rw [hl3];simp;omega
  have hP2:=k3.nxt hlt;have hwi:IntKind.i64.wrap ((s1.i:Int)+1)=((s1.i+1:Nat):Int):=by rw [w6z (by omega)];omega
  cases hb:F1 L E g (n+1) (A6 s1) with
  | none=>rw [hb] at hv;cases hv
  | some q =>
   obtain ⟨e2,m2⟩:=q;rw [hb] at hv;dsimp only at hv;rw [<- hl3] at hv;simp only [go_sem,seval,ne0,A0,A1];repeat' ((with_reducible first|refine wr ?_|refine cpc c_ops ?_|refine cpc (c_levP _) ?_|refine A2 ?_ ?_|fail)<;>try simp only [go_sem,seval,e5,el,hlk,hwi,hw,ne0,A0,A1])
   and_intros
   all_goals try ((repeat rw [A3 (by omega)]);exact hfr _ (by omega))
   repeat' ((with_reducible first|refine wr ?_|refine cpc c_ops ?_|refine cpc (c_levP _) ?_|refine A2 ?_ ?_|fail)<;>try simp only [go_sem,seval,e5,el,hlk,hwi,hw,ne0,A0,A1])
   refine AC.call (ib g (by omega) (n+1) (A6 s1) (A6 s1) _ (by omega) (by omega) (.refl _) hb hP2 _ _ t (by repeat (first|exact A0|rw [A3 (by omega)])) (by omega)) ?_;rintro v H' c4 ⟨y,s2,rfl,rfl,hy⟩ hc4;have y1:=hy.eq;have y2:=hy.vl;have y3:=hy.bd;have y4:=hy.pr;dsimp only at y1 y2;generalize lkI B7 B2d (A4 L E s1).text=kd at *;simp only [go_sem,seval,ne0,A0,A1,Ex.v_w];repeat' ((with_reducible first|refine wr ?_|refine A2 ?_ ?_|fail)<;>try simp only [go_sem,seval,ne0,A0,A1])
   and_intros
   all_goals try ((repeat rw [A3 (by omega)]);exact hfr _ (by omega))
   by_cases h3:n=3
   ·have hd3:(n == 3)=true:=by simpa using h3
    rw [if_pos h3] at hv;cases hv;repeat' ((with_reducible first|refine wr ?_|refine A2 ?_ ?_|fail)<;>try simp only [go_sem,seval,hd3,ne0,A0,A1])
    rw [D6 (rv5 rfl A0)];refine ⟨_,_,D0l (cc:=cc) (b:=c3+12) (K:=H.upd t (paB L E s2)) [x,y] (D5 hfr htc) (by omega) ?_ (fun j hj=>?_),.mk kd 0 [] [x,y] (A4 L E s1).pos,s2,rfl,rfl,y1,fun k=>(by rw [y2 k]),y3,y4.trans k4⟩
    ·rw [D0v];dsimp only
     repeat (first|exact A0|rw [A3 (by omega)])
    simp [Hp.upd,show ¬j=cc by omega,show ¬j=c1 by omega,show ¬j=c3 by omega,show ¬j=c3+12 by omega];try (split<;>rfl)
   ·have hd3:(n == 3)=false:=by simpa using h3
    rw [if_neg h3] at hv;repeat' ((with_reducible first|refine wr ?_|refine A2 ?_ ?_|fail)<;>try simp only [go_sem,seval,hd3,ne0,A0,A1])
    refine ⟨(g,.mk kd 0 [] [x,e2] (A4 L E s1).pos,m2,.mk kd 0 [] [x,y] (A4 L E s1).pos,s2),?_,inv ⟨by omega,by simp only;omega,hv,y1,fun k=>(by simp only [y2 k]),y3,y4.trans k4⟩,by simp only;omega⟩;refine GL.frzT (id:=c3+12) (b:=⟨5,true,A8 ([x,y].map Ex.v)⟩) ?_ rfl (fun j=>?_) (FzL.refl _)
    ·rw [D0v]
     repeat (first|exact A0|rw [A3 (by omega)])
    by_cases j1:j=c1
    ·subst j1;refine .inr ⟨by omega,.inr ⟨_,_,A0,A0,rfl,rfl,.cons _ _ _ _ (.same _) (.cons _ _ _ _ (.same _) (.cons _ _ _ _ (.same _) (.cons _ _ _ _ (M9 (u:=5) (xs:=[x,y].map Ex.v) (by simp) (A3b _) ⟨[],by simp⟩) (.cons _ _ _ _ (.same _) .nil)))),by simp [DV.one]⟩⟩
    ·by_cases j2:j=c3+12
     ·subst j2;left
      repeat rw [A3 (by omega)]
      exact hfr _ (by omega)
     ·by_cases j3:j=c3
      ·subst j3;left
       repeat rw [A3 (by omega)]
       exact hfr _ (by omega)
      refine .inr ⟨j2,.inl ?_⟩;simp [Hp.upd,j1,j2,j3];try (split<;>rfl)
theorem c_plu (L:List Tok) (E:Int) (hL:L.length<=1000000000) (hK:∀ t∈L,I1 t):∀ f:Nat,(∀ n s m r,1<=n->n<=6->Eqv s m->F1 L E f n m=some r->PI L s->PeC L E 123 [I64 n] s r)/\(∀ s m r,Eqv s m->K9 L E f m=some r->PI L s->PeC L E 166 [] s r):=by
 intro f
 induction f using Nat.strongRecOn with
 | _ f ih =>
  cases f with
  | zero=>exact ⟨fun n s m r _ _ _ h=>by simp [F1] at h,fun s m r _ h=>by simp [K9] at h⟩
  | succ f =>
   exact ⟨fun n s m r h1 h2 hq h hP=>c_plevel L E hL hK f (fun g hg=>(ih g (by omega)).1) (ih f (by omega)).2 n s m r h1 h2 hq h hP,
    fun s m r hq h hP=>c_punary L E hL hK f (ih f (by omega)).1 (ih f (by omega)).2 s m r hq h hP⟩
theorem c_pexpr (L:List Tok) (E:Int) (hL:L.length<=1000000000) (hK:∀ t∈L,I1 t) (f:Nat) (s m:Rd) (r:Ex × Rd) (hq:Eqv s m) (h:H7 L E f m=some r) (hi:s.i<=L.length) :
  ∀ (H:Hp) (cc t:Nat),H t=some (paB L E s)->t<cc->AC Tryz.prog 69 [.ptr t 0] H cc (fun v H' c' => ∃ x s',v=x.v/\H'=H.upd t (paB L E s')/\Eqv s' r.2/\(okR r.2=true->x=r.1)/\PI L s'):=by
 intro H cc t ht htc;refine AC.bodyT B2 rfl (A0A rfl) fun hfr=>?_;have ne0:=X3 t cc (by omega);repeat' ((with_reducible first|refine wr ?_|refine A2 ?_ ?_|fail)<;>try simp only [go_sem,seval,ht,ne0,A0,A1])
 refine AC.call ((c_plu L E hL hK f).1 1 { s with ops:=0,par:=0 } { m with ops:=0,par:=0 } r (by decide) (by decide) ⟨hq.e,hq.p,fun k=>by rw [hq.s k]⟩ h ⟨hi,A3G 0,(by decide:(0:Int)<=32),A3G 0,(by decide:(0:Int)<=16)⟩ _ _ t (by exact A0) (by omega)) ?_;rintro v H' c1 ⟨x,s1,rfl,rfl,hx⟩ hc1;simp only [go_sem,seval,ne0,A0,A1,Ex.v_w];repeat' ((with_reducible first|refine wr ?_|refine A2 ?_ ?_|fail)<;>try simp only [go_sem,seval,ne0,A0,A1])
 rw [D6 (rv5 rfl A0)];refine ⟨_,_,P6 (cc:=cc) (K:=H.upd t (paB L E s1)) (D5 hfr htc) (fun j hj=>?_),x,s1,rfl,rfl,hx.eq,hx.vl,hx.bd⟩;simp [Hp.upd,show ¬j=cc by omega];try (split<;>rfl)
theorem D0k {K H':Hp} {cc b:Nat} (l:List Pb.St) (hK:∀ i,cc<=i->K i=none) (hb0:cc<=b) (hb:H' b=some ⟨7,true,A8 (l.map Pb.St.v)⟩) (h:∀ j,j<cc->H' j=K j) :
  GL H' [.slc b 0 l.length] K [G1 l] :=
 GL.frzS (id:=b) hb rfl (fun j=>by
  by_cases hj:j<cc
  ·exact .inr ⟨by omega,(h j hj).symm⟩
  ·exact .inl (hK j (by omega))) (.cons _ _ _ _ (M9 (u:=7) (by simp) (A4i l) ⟨[],by simp⟩) .nil)
theorem D6h (e:Pb.St):A8 ([e].map Pb.St.v)=[I64 e.kind,.str e.name,.str e.text,H9 e.args,G1 e.thn,G1 e.els,I64 e.pos]:=by
 rw [A0N,Pb.St.v_w];rfl
theorem D0j {K H':Hp} {cc:Nat} {o:Option Nat} (l:List Pb.St) (hK:∀ i,cc<=i->K i=none) (ho:∀ i,o=some i->cc<=i) (hno:o=none->l=[]) (hb:∀ i,o=some i->H' i=some ⟨7,true,A8 (l.map Pb.St.v)⟩) (h:∀ j,j<cc->H' j=K j) :
  GL H' [C4 o l.length] K [G1 l]:=by
 cases o with
 | none =>
  obtain rfl:=hno rfl;exact (P6 hK h).trans (GL.view fun ρ vs hA=>N9 (fun v h=>h.snil_lst) vs hA)
 | some b=>exact D0k l hK (ho b rfl) (hb b rfl) h
end Go.Proofs.YthlpinppaclofaaGreatDoor
set_option maxHeartbeats 8000000
namespace Go.Proofs.YthlpinppaclofaaGreatDoor
open Go.Eng (IC IOper DReg IFn J0)
open Go.Sym Go.Pb
def NlR (a b:DV):Prop:=b=a\/(a=.snil/\b=.lst [])
theorem NlR.v {ρ : Ren} {v:Value} {a b:DV} (h:NlR a b) (k:VRel ρ a v):VRel ρ b v:=by
 rcases h with rfl|⟨rfl,rfl⟩
 ·exact k
 ·exact k.snil_lst
theorem E2m {ρ : Ren} {v:Value} {a b c d e f g d' e' f':DV} (hd:NlR d d') (he:NlR e e') (hf:NlR f f') (h:VRel ρ (.agg [a,b,c,d,e,f,g]) v):VRel ρ (.agg [a,b,c,d',e',f',g]) v:=by
 obtain ⟨bb,rfl,k1,k2⟩:=h.agg_inv;refine .agg _ _ k1 fun j x y hx hy=>?_
 match j with
 | 0=>cases hx;exact k2 0 _ y rfl hy
 | 1=>cases hx;exact k2 1 _ y rfl hy
 | 2=>cases hx;exact k2 2 _ y rfl hy
 | 3=>cases hx;exact hd.v (k2 3 _ y rfl hy)
 | 4=>cases hx;exact he.v (k2 4 _ y rfl hy)
 | 5=>cases hx;exact hf.v (k2 5 _ y rfl hy)
 | 6=>cases hx;exact k2 6 _ y rfl hy
 | _+7=>cases hx
theorem D7a {K H':Hp} {cc:Nat} {a b c d e f g d' e' f':DV} (hd:NlR d d') (he:NlR e e') (hf:NlR f f') (hK:∀ i,cc<=i->K i=none) (h:∀ j,j<cc->H' j=K j):GL H' [.agg [a,b,c,d,e,f,g]] K [.agg [a,b,c,d',e',f',g]] :=
 (P6 hK h).trans (GL.view fun ρ vs hA=>N9 (fun v h=>E2m hd he hf h) vs hA)
theorem A3w {K H':Hp} {cc i:Nat} {a b c e f g e' f':DV} (l:List Ex) (he:NlR e e') (hf:NlR f f') (hK:∀ i,cc<=i->K i=none) (hi0:cc<=i) (hb:H' i=some ⟨5,true,A8 (l.map Ex.v)⟩) (h:∀ j,j<cc->H' j=K j):GL H' [.agg [a,b,c,.slc i 0 l.length,e,f,g]] K [.agg [a,b,c,H9 l,e',f',g]] :=
 (GL.frzS (id:=i) hb rfl (fun j=>by
  by_cases hj:j<cc
  ·exact .inr ⟨by omega,(h j hj).symm⟩
  ·exact .inl (hK j (by omega))) (.cons _ _ _ _ (.agg _ _ (.cons _ _ _ _ (.same _) (.cons _ _ _ _ (.same _) (.cons _ _ _ _ (.same _) (.cons _ _ _ _ (M9 (u:=5) (by simp) (A3b l) ⟨[],by simp⟩) (.cons _ _ _ _ (.same _) (.cons _ _ _ _ (.same _) (.cons _ _ _ _ (.same _) .nil)))))))) .nil)).trans (GL.view fun ρ vs hA=>N9 (fun v h=>E2m (.inl rfl) he hf h) vs hA)
theorem rv7 {s:Sym.St} {x i u:Nat} {a b c d e f g:DV} {o:Bool} (h:s.T x=.ptr i 0) (hb:s.H i=some ⟨u,o,[a,b,c,d,e,f,g]⟩):A3j s [.cell x 7 true]=some (.agg [a,b,c,d,e,f,g]):=by
 simp only [A3j,A5r,h,ldv,hb];rfl
theorem c_begins (L:List Tok) (E:Int) (s:Rd) (H:Hp) (cc t:Nat) (ht:H t=some (paB L E s)) (htc:t<cc):AC Tryz.prog 210 [.ptr t 0] H cc (fun v H' c'=>v=.bool (B1r L E s)/\H'=H):=by
 refine AC.bodyT B2 rfl (A0A rfl) fun hfr=>?_;repeat' ((with_reducible first|refine wr ?_|refine A2 ?_ ?_|fail)<;>try simp only [go_sem,seval])
 refine AC.call (c_here L E s _ _ t ht (by omega)) ?_;rintro v H' c1 ⟨rfl,rfl⟩ hc;have ne0:=X3 t c1 (by omega);have hlk:=B5p B3 A0x rfl (A4 L E s).text;simp only [go_sem,seval,ne0,A0,A1];repeat' ((with_reducible first|refine wr ?_|refine A2 ?_ ?_|fail)<;>try simp only [go_sem,seval,ne0,A0,A1])
 refine AC.call (c_pok L E s _ _ t (by rw [A3 (by omega)];exact ht) (by omega)) ?_;rintro v H' c2 ⟨rfl,rfl⟩ hc2;unfold B1r;cases ho:okR s with
 | false =>
  simp only [go_sem,seval,ne0,A0,A1,ho];repeat' ((with_reducible first|refine wr ?_|refine A2 ?_ ?_|fail)<;>try simp only [go_sem,seval,ne0,A0,A1,ho])
  and_intros
  all_goals try ((repeat rw [A3 (by omega)]);exact hfr _ (by omega))
  repeat' ((with_reducible first|refine wr ?_|refine A2 ?_ ?_|fail)<;>try simp only [go_sem,seval,ne0,A0,A1,ho])
  exact ⟨_,_,A5w (fun i hi=>hfr i (by omega)),by simp [*],rfl⟩
 | true =>
  by_cases h1:(A4 L E s).kind=1
  ·have e1:((A4 L E s).kind == 1)=true:=by simpa using h1
   simp only [go_sem,seval,ne0,A0,A1,ho,e1];repeat' ((with_reducible first|refine wr ?_|refine A2 ?_ ?_|fail)<;>try simp only [go_sem,seval,ne0,A0,A1,ho,e1])
   and_intros
   all_goals try ((repeat rw [A3 (by omega)]);exact hfr _ (by omega))
   repeat' ((with_reducible first|refine wr ?_|refine A2 ?_ ?_|fail)<;>try simp only [go_sem,seval,ne0,A0,A1,ho])
   exact ⟨_,_,A5w (fun i hi=>hfr i (by omega)),by simp [*],rfl⟩
  have e1:((A4 L E s).kind == 1)=false:=by simpa using h1
  by_cases h2:(A4 L E s).kind=2
  ·have e2:((A4 L E s).kind == 2)=true:=by simpa using h2
   simp only [go_sem,seval,ne0,A0,A1,ho,e1,e2,hlk];repeat' ((with_reducible first|refine wr ?_|refine cpc c_stms ?_|refine A2 ?_ ?_|fail)<;>try simp only [go_sem,seval,ne0,A0,A1,ho,e1,e2,hlk])
   and_intros
   all_goals try ((repeat rw [A3 (by omega)]);exact hfr _ (by omega))
   repeat' ((with_reducible first|refine wr ?_|refine A2 ?_ ?_|fail)<;>try simp only [go_sem,seval,ne0,A0,A1,ho])
   exact ⟨_,_,A5w (fun i hi=>hfr i (by omega)),by simp [*],rfl⟩
  have e2:((A4 L E s).kind == 2)=false:=by simpa using h2
  simp only [go_sem,seval,ne0,A0,A1,ho,e1,e2];repeat' ((with_reducible first|refine wr ?_|refine A2 ?_ ?_|fail)<;>try simp only [go_sem,seval,ne0,A0,A1,ho,e1,e2])
  and_intros
  all_goals try ((repeat rw [A3 (by omega)]);exact hfr _ (by omega))
  repeat' ((with_reducible first|refine wr ?_|refine A2 ?_ ?_|fail)<;>try simp only [go_sem,seval,ne0,A0,A1,ho])
  exact ⟨_,_,A5w (fun i hi=>hfr i (by omega)),by simp [*],rfl⟩
abbrev PsC (L:List Tok) (E:Int) (f:Nat) (vs:List DV) (s:Rd) (q:Pb.St × Rd):Prop :=
 ∀ (H:Hp) (cc t:Nat),H t=some (paB L E s)->t<cc->AC Tryz.prog f (.ptr t 0 :: vs) H cc (fun v H' c' => ∃ x s',v=Pb.St.v x/\H'=H.upd t (paB L E s')/\Eqv s' q.2/\(okR q.2=true->x=q.1)/\PI L s')
abbrev PlC (L:List Tok) (E:Int) (f:Nat) (vs:List DV) (s:Rd) (q:List Pb.St × Rd):Prop :=
 ∀ (H:Hp) (cc t:Nat),H t=some (paB L E s)->t<cc->AC Tryz.prog f (.ptr t 0 :: vs) H cc (fun v H' c' => ∃ x s',v=G1 x/\H'=H.upd t (paB L E s')/\Eqv s' q.2/\(okR q.2=true->x=q.1)/\PI L s')
def B8v (L:List Tok) (E:Int) (f:Nat) (d:Int) (m:Rd):Option (List Pb.St × Rd):=if isR L E m [101,108,115,101]=true then N5 L E f d (A6 m) else some ([],m)
theorem A8q {L:List Tok} {E:Int} {m:Rd} {w:List UInt8} (k:okR (C5 L E m w)=true):okR m=true:=(A1g (A5z k).1).1
theorem E1k {L:List Tok} {E:Int} {f:Nat} {m:Rd} {q:Ex × Rd} (h:H7 L E f m=some q) (k:okR q.2=true):okR m=true:=by
 cases ho:okR m with
 | true=>rfl
 | false=>obtain rfl:=D0t h ho;have:okR m=true:=k;rw [ho] at this;cases this
theorem D7e {L:List Tok} {E:Int} {f:Nat} {d:Int} {m:Rd} {q:List Pb.St × Rd} (h:F6 L E f d m=some q) (k:okR q.2=true):okR m=true:=by
 cases ho:okR m with
 | true=>rfl
 | false=>obtain rfl:=D5x h ho;exact absurd k (by simp [ho])
theorem E6f {L:List Tok} {E:Int} {f:Nat} {d:Int} {m:Rd} {q:List Pb.St × Rd} (h:B8v L E f d m=some q) (k:okR q.2=true):okR m=true:=by
 unfold B8v at h;split at h
 ·rename_i hi;exact (A1g hi).1
 ·cases h;exact k
theorem c_pstmt (L:List Tok) (E:Int) (hL:L.length<=1000000000) (hK:∀ t∈L,I1 t) (f:Nat)
  (ib:∀ d s m r,0<=d->d<=9->Eqv s m->F6 L E f d m=some r->PI L s->PlC L E 198 [I64 d] s r)
  (io:∀ d s m r,0<=d->d<=8->Eqv s m->B8v L E f d m=some r->PI L s->PlC L E 222 [I64 (d+1)] s r)
  (d:Int) (s:Rd) (r:Pb.St × Rd) (hd0:0<=d) (hd:d<=8) (hbg:B1r L E s=true) (h:K7 L E (f+1) d s=some r) (hP:PI L s):PsC L E 211 [I64 d] s r:=by
 intro H cc t ht htc;obtain ⟨ho,hbk⟩:=(C4c hK).1 hbg;obtain ⟨hs1,hs2⟩:=B9w (E:=E) hK ho;have hri:=hP.i;unfold K7 at h;dsimp only at h;rw [A1u (by omega:¬ (8:Int)<d),if_neg (by rw [ho];decide)] at h;have hlt:s.i<L.length:=by
  rcases hbk with hk|hk
  ·exact (I4 hk).2.1
  ·exact (G2 (by decide) (G4 hk).2).2
 have hw1:IntKind.i64.wrap ((s.i:Int)+1)=((s.i+1:Nat):Int):=by rw [w6z (by omega)];omega
 have hwd:IntKind.i64.wrap (d+1)=d+1:=w6z (by omega);have hPn:=hP.nxt hlt;have hqn:=Eqv.refl (A6 s);refine AC.bodyT B2 rfl (A0A rfl) fun hfr=>?_;repeat' ((with_reducible first|refine wr ?_|refine A2 ?_ ?_|fail)<;>try simp only [go_sem,seval])
 refine AC.call (c_here L E s _ _ t (by rw [A3 (by omega)];exact ht) (by omega)) ?_;rintro v H' c1 ⟨rfl,rfl⟩ hc1;have ne0:=A7y t cc c1 (c1+1) (by omega);by_cases hk1:(A4 L E s).kind=1
 ·have e1:((A4 L E s).kind == 1)=true:=by simpa using hk1
  have hkk:F9 L E s 1=true:=by unfold F9;rw [ho,hk1];rfl
  have htk:B1 L E s 1=(A4 L E s,A6 s):=by unfold B1;rw [hkk,if_neg (by decide)]
  have hk:B6 L E s B3<0:=by
   by_cases hk:B6 L E s B3<0
   ·exact hk
   ·have:=(hs1 (by omega)).1;omega
  rw [if_pos hk,htk] at h;dsimp only at h;cases hz2:H7 L E f (C5 L E (A6 s) [61]) with
  | none=>rw [hz2] at h;cases h
  | some qhz2 =>
   obtain ⟨e,m2⟩:=qhz2;rw [hz2] at h;dsimp only at h;cases h;simp only [go_sem,seval,ne0,A0,A1];repeat' ((with_reducible first|refine wr ?_|refine A2 ?_ ?_|fail)<;>try simp only [go_sem,seval,e1,ht,hw1,ne0,A0,A1])
   refine AC.call (c_want L E (A6 s) _ _ t (by repeat (first|exact A0|rw [A3 (by omega)]|rw [F0 (by omega)])) (by omega) (by have:=hPn.i;omega) 5 [61]) ?_;rintro v H' c3 ⟨rfl,rfl⟩ hc3;have qc3:=hqn.want (L:=L) (E:=E) (k:=5) (w:=[61]) (fun s=>F5 hK (by decide +kernel));have bc3:=(hPn.want (E:=E) (k:=5) (w:=[61]) (by decide)).1;simp only [go_sem,seval,ne0,A0,A1];repeat' ((with_reducible first|refine wr ?_|refine A2 ?_ ?_|fail)<;>try simp only [go_sem,seval,ne0,A0,A1])
   refine AC.call (c_pexpr L E hL hK f (E8 L E (A6 s) 5 [61]) (C5 L E (A6 s) [61]) (e,m2) qc3 hz2 bc3.i _ _ t (by repeat (first|exact A0|rw [A3 (by omega)]|rw [F0 (by omega)])) (by omega)) ?_;rintro v H' c4 ⟨xc4,sc4,rfl,rfl,qc4,uc4,bc4⟩ hc4;dsimp only at qc4 uc4;have ne0:=A0k t cc c1 (c1+1) c4 (by omega);simp only [go_sem,seval,Ex.v_w,ne0,A0,A1];repeat' ((with_reducible first|refine wr ?_|refine A2 ?_ ?_|fail)<;>try simp only [go_sem,seval,ne0,A0,A1])
   refine AC.call (c_want L E sc4 _ _ t (by repeat (first|exact A0|rw [A3 (by omega)]|rw [F0 (by omega)])) (by omega) (by have:=bc4.i;omega) 5 [59]) ?_;rintro v H' c5 ⟨rfl,rfl⟩ hc5;have qc5:=qc4.want (L:=L) (E:=E) (k:=5) (w:=[59]) (fun s=>F5 hK (by decide +kernel));have bc5:=(bc4.want (E:=E) (k:=5) (w:=[59]) (by decide)).1;simp only [go_sem,seval,ne0,A0,A1];repeat' ((with_reducible first|refine wr ?_|refine A2 ?_ ?_|fail)<;>try simp only [go_sem,seval,ne0,A0,A1])
   rw [D6 (rv7 rfl A0)];refine ⟨_,_,A3w (cc:=cc) (K:=H.upd t (paB L E (E8 L E sc4 5 [59]))) (i:=c4) [xc4] (.inr ⟨rfl,rfl⟩) (.inr ⟨rfl,rfl⟩) (D5 hfr htc) (by omega) ?_ (fun j hj=>?_),.mk 1 (A4 L E s).text [] [xc4] [] [] (A4 L E s).pos,(E8 L E sc4 5 [59]),by rw [Pb.St.v_w];rfl,rfl,qc5,fun k=>?_,bc5⟩
   ·rw [A7f];dsimp only
    repeat (first|exact A0|rw [A3 (by omega)]|rw [F0 (by omega)])
   ·simp [Hp.upd,Hp.del,show ¬j=cc by omega,show ¬j=c1 by omega,show ¬j=c1+1 by omega,show ¬j=c4 by omega];try (split<;>rfl)
   ·rw [uc4 (A8q k)]
 have e1:((A4 L E s).kind == 1)=false:=by simpa using hk1
 have hk0:0<=B6 L E s B3:=by
  rcases hbk with hk|hk
  ·exact hk
  ·exact absurd (G4 hk).2 hk1
 obtain ⟨hk2,hlv,hk18⟩:=hs1 hk0;have hlk:=B5p B3 A0x rfl (A4 L E s).text;rw [if_neg (by omega)] at h;generalize B6 L E s B3=k at h hlv hk0 hk18;rw [hlv] at hlk;clear hlv hs1 hs2 hbk;simp only [go_sem,seval,ne0,A0,A1];repeat' ((with_reducible first|refine wr ?_|refine cpc c_stms ?_|refine A2 ?_ ?_|fail)<;>try simp only [go_sem,seval,e1,ht,hw1,hlk,ne0,A0,A1])
 and_intros
 all_goals try ((repeat rw [A3 (by omega)]);exact hfr _ (by omega))
 by_cases k0:k=0
 ·rw [if_pos (.inl k0)] at h;cases hz6:H7 L E f (A6 s) with
  | none=>rw [hz6] at h;cases h
  | some qhz6 =>
   obtain ⟨e,m2⟩:=qhz6;rw [hz6] at h;dsimp only at h;cases hz7:F6 L E f (d+1) m2 with
   | none=>rw [hz7] at h;cases h
   | some qhz7 =>
    obtain ⟨tt,m3⟩:=qhz7;rw [hz7] at h;dsimp only at h;have h':(match B8v L E f d m3 with|none=>none|some (o,s4)=>some (Pb.St.mk 2 [] [] [e] tt o (A4 L E s).pos,s4))=some r:=by
     unfold B8v;cases hi:isR L E m3 [101,108,115,101] with
     | true=>rw [if_pos ⟨k0,hi⟩] at h;rw [if_pos rfl];exact h
     | false=>rw [if_neg (by simp [hi])] at h;rw [if_neg (by decide), <- h];subst k0;rfl
    clear h;have h:=h';clear h';cases hz8:B8v L E f d m3 with
    | none=>rw [hz8] at h;cases h
    | some qhz8 =>
     obtain ⟨oo,m4⟩:=qhz8;rw [hz8] at h;dsimp only at h;cases h;have f2:(2+k == 2)=true:=by simp;omega
     have f3:(2+k == 3)=false:=by simp;omega
     have f4:(2+k == 4)=false:=by simp;omega
     have f8:(2+k == 8)=false:=by simp;omega
     have f10:(2+k == 10)=false:=by simp;omega
     have f9:(2+k == 9)=false:=by simp;omega
     have f18:(2+k == 18)=false:=by simp;omega
     have f19:(2+k == 19)=false:=by simp;omega
     repeat' ((with_reducible first|refine wr ?_|refine A2 ?_ ?_|fail)<;>try simp only [go_sem,seval,f2,f3,f4,f8,f10,f9,f18,f19,hwd,ne0,A0,A1])
     refine AC.call (c_pexpr L E hL hK f (A6 s) (A6 s) (e,m2) hqn hz6 hPn.i _ _ t (by repeat (first|exact A0|rw [A3 (by omega)]|rw [F0 (by omega)])) (by omega)) ?_;rintro v H' c9 ⟨xc9,sc9,rfl,rfl,qc9,uc9,bc9⟩ hc9;dsimp only at qc9 uc9;have ne0:=A0k t cc c1 (c1+1) c9 (by omega);simp only [go_sem,seval,Ex.v_w,ne0,A0,A1];repeat' ((with_reducible first|refine wr ?_|refine A2 ?_ ?_|fail)<;>try simp only [go_sem,seval,hwd,ne0,A0,A1])
     refine AC.call (ib (d+1) sc9 m2 (tt,m3) (by omega) (by omega) qc9 hz7 bc9 _ _ t (by repeat (first|exact A0|rw [A3 (by omega)]|rw [F0 (by omega)])) (by omega)) ?_;rintro v H' c10 ⟨xc10,sc10,rfl,rfl,qc10,uc10,bc10⟩ hc10;dsimp only at qc10 uc10;simp only [go_sem,seval,ne0,A0,A1];repeat' ((with_reducible first|refine wr ?_|refine A2 ?_ ?_|fail)<;>try simp only [go_sem,seval,hwd,ne0,A0,A1])
     refine AC.call (io d sc10 m3 (oo,m4) (by omega) (by omega) qc10 hz8 bc10 _ _ t (by repeat (first|exact A0|rw [A3 (by omega)]|rw [F0 (by omega)])) (by omega)) ?_;rintro v H' c11 ⟨xc11,sc11,rfl,rfl,qc11,uc11,bc11⟩ hc11;dsimp only at qc11 uc11;simp only [go_sem,seval,ne0,A0,A1];repeat' ((with_reducible first|refine wr ?_|refine A2 ?_ ?_|fail)<;>try simp only [go_sem,seval,hwd,ne0,A0,A1])
     subst k0;rw [D6 (rv7 rfl A0)];refine ⟨_,_,A3w (cc:=cc) (K:=H.upd t (paB L E sc11)) (i:=c9) [xc9] (.inl rfl) (.inl rfl) (D5 hfr htc) (by omega) ?_ (fun j hj=>?_),.mk 2 [] [] [xc9] xc10 xc11 (A4 L E s).pos,sc11,by rw [Pb.St.v_w];rfl,rfl,qc11,fun k=>?_,bc11⟩
     ·rw [A7f];dsimp only
      repeat (first|exact A0|rw [A3 (by omega)]|rw [F0 (by omega)])
     ·simp [Hp.upd,Hp.del,show ¬j=cc by omega,show ¬j=c1 by omega,show ¬j=c1+1 by omega,show ¬j=c9 by omega];try (split<;>rfl)
     ·have k3:=E6f hz8 k;have k2:=D7e hz7 k3;rw [uc11 k,uc10 k3,uc9 k2]
 by_cases k1:k=1
 ·rw [if_pos (.inr k1)] at h;cases hz12:H7 L E f (A6 s) with
  | none=>rw [hz12] at h;cases h
  | some qhz12 =>
   obtain ⟨e,m2⟩:=qhz12;rw [hz12] at h;dsimp only at h;cases hz13:F6 L E f (d+1) m2 with
   | none=>rw [hz13] at h;cases h
   | some qhz13 =>
    obtain ⟨tt,m3⟩:=qhz13;rw [hz13] at h;dsimp only at h;rw [if_neg (fun h=>k0 h.1)] at h;cases h;have f2:(2+k == 2)=false:=by simp;omega
    have f3:(2+k == 3)=true:=by simp;omega
    have f4:(2+k == 4)=false:=by simp;omega
    have f8:(2+k == 8)=false:=by simp;omega
    have f10:(2+k == 10)=false:=by simp;omega
    have f9:(2+k == 9)=false:=by simp;omega
    have f18:(2+k == 18)=false:=by simp;omega
    have f19:(2+k == 19)=false:=by simp;omega
    repeat' ((with_reducible first|refine wr ?_|refine A2 ?_ ?_|fail)<;>try simp only [go_sem,seval,f2,f3,f4,f8,f10,f9,f18,f19,hwd,ne0,A0,A1])
    refine AC.call (c_pexpr L E hL hK f (A6 s) (A6 s) (e,m2) hqn hz12 hPn.i _ _ t (by repeat (first|exact A0|rw [A3 (by omega)]|rw [F0 (by omega)])) (by omega)) ?_;rintro v H' c14 ⟨xc14,sc14,rfl,rfl,qc14,uc14,bc14⟩ hc14;dsimp only at qc14 uc14;have ne0:=A0k t cc c1 (c1+1) c14 (by omega);simp only [go_sem,seval,Ex.v_w,ne0,A0,A1];repeat' ((with_reducible first|refine wr ?_|refine A2 ?_ ?_|fail)<;>try simp only [go_sem,seval,hwd,ne0,A0,A1])
    refine AC.call (ib (d+1) sc14 m2 (tt,m3) (by omega) (by omega) qc14 hz13 bc14 _ _ t (by repeat (first|exact A0|rw [A3 (by omega)]|rw [F0 (by omega)])) (by omega)) ?_;rintro v H' c15 ⟨xc15,sc15,rfl,rfl,qc15,uc15,bc15⟩ hc15;dsimp only at qc15 uc15;simp only [go_sem,seval,ne0,A0,A1];repeat' ((with_reducible first|refine wr ?_|refine A2 ?_ ?_|fail)<;>try simp only [go_sem,seval,hwd,ne0,A0,A1])
    subst k1;rw [D6 (rv7 rfl A0)];refine ⟨_,_,A3w (cc:=cc) (K:=H.upd t (paB L E sc15)) (i:=c14) [xc14] (.inl rfl) (.inr ⟨rfl,rfl⟩) (D5 hfr htc) (by omega) ?_ (fun j hj=>?_),.mk 3 [] [] [xc14] xc15 [] (A4 L E s).pos,sc15,by rw [Pb.St.v_w];rfl,rfl,qc15,fun k=>?_,bc15⟩
    ·rw [A7f];dsimp only
     repeat (first|exact A0|rw [A3 (by omega)]|rw [F0 (by omega)])
    ·simp [Hp.upd,Hp.del,show ¬j=cc by omega,show ¬j=c1 by omega,show ¬j=c1+1 by omega,show ¬j=c14 by omega];try (split<;>rfl)
    ·have k2:=D7e hz13 k;rw [uc15 k,uc14 k2];rfl
 rw [if_neg (by omega)] at h;unfold G9 at h;by_cases k4:2+k=4
 ·rw [if_pos k4] at h;cases hz16:H7 L E f (A6 s) with
  | none=>rw [hz16] at h;cases h
  | some qhz16 =>
   obtain ⟨e,m2⟩:=qhz16;rw [hz16] at h;dsimp only at h;cases h;have f2:(2+k == 2)=false:=by simp;omega
   have f3:(2+k == 3)=false:=by simp;omega
   have f4:(2+k == 4)=true:=by simp;omega
   have f8:(2+k == 8)=false:=by simp;omega
   have f10:(2+k == 10)=false:=by simp;omega
   have f9:(2+k == 9)=false:=by simp;omega
   have f18:(2+k == 18)=false:=by simp;omega
   have f19:(2+k == 19)=false:=by simp;omega
   repeat' ((with_reducible first|refine wr ?_|refine A2 ?_ ?_|fail)<;>try simp only [go_sem,seval,f2,f3,f4,f8,f10,f9,f18,f19,ne0,A0,A1])
   refine AC.call (c_pexpr L E hL hK f (A6 s) (A6 s) (e,m2) hqn hz16 hPn.i _ _ t (by repeat (first|exact A0|rw [A3 (by omega)]|rw [F0 (by omega)])) (by omega)) ?_;rintro v H' c17 ⟨xc17,sc17,rfl,rfl,qc17,uc17,bc17⟩ hc17;dsimp only at qc17 uc17;have ne0:=A0k t cc c1 (c1+1) c17 (by omega);simp only [go_sem,seval,Ex.v_w,ne0,A0,A1];repeat' ((with_reducible first|refine wr ?_|refine A2 ?_ ?_|fail)<;>try simp only [go_sem,seval,ne0,A0,A1])
   refine AC.call (c_want L E sc17 _ _ t (by repeat (first|exact A0|rw [A3 (by omega)]|rw [F0 (by omega)])) (by omega) (by have:=bc17.i;omega) 5 [59]) ?_;rintro v H' c18 ⟨rfl,rfl⟩ hc18;have qc18:=qc17.want (L:=L) (E:=E) (k:=5) (w:=[59]) (fun s=>F5 hK (by decide +kernel));have bc18:=(bc17.want (E:=E) (k:=5) (w:=[59]) (by decide)).1;simp only [go_sem,seval,ne0,A0,A1];repeat' ((with_reducible first|refine wr ?_|refine A2 ?_ ?_|fail)<;>try simp only [go_sem,seval,ne0,A0,A1])
   rw [D6 (rv7 rfl A0)];refine ⟨_,_,A3w (cc:=cc) (K:=H.upd t (paB L E (E8 L E sc17 5 [59]))) (i:=c17) [xc17] (.inr ⟨rfl,rfl⟩) (.inr ⟨rfl,rfl⟩) (D5 hfr htc) (by omega) ?_ (fun j hj=>?_),.mk (2+k) [] [] [xc17] [] [] (A4 L E s).pos,(E8 L E sc17 5 [59]),by rw [Pb.St.v_w];rfl,rfl,qc18,fun k=>?_,bc18⟩
   ·rw [A7f];dsimp only
    repeat (first|exact A0|rw [A3 (by omega)]|rw [F0 (by omega)])
   ·simp [Hp.upd,Hp.del,show ¬j=cc by omega,show ¬j=c1 by omega,show ¬j=c1+1 by omega,show ¬j=c17 by omega];try (split<;>rfl)
   ·rw [uc17 (A8q k)]
 rw [if_neg k4] at h;by_cases k18:2+k=18
 ·rw [if_pos k18] at h;cases hz19:H7 L E f (C5 L E (B1 L E (A6 s) 4).2 [44]) with
  | none=>rw [hz19] at h;cases h
  | some qhz19 =>
   obtain ⟨e,m2⟩:=qhz19;rw [hz19] at h;dsimp only at h;cases h;have f2:(2+k == 2)=false:=by simp;omega
   have f3:(2+k == 3)=false:=by simp;omega
   have f4:(2+k == 4)=false:=by simp;omega
   have f8:(2+k == 8)=false:=by simp;omega
   have f10:(2+k == 10)=false:=by simp;omega
   have f9:(2+k == 9)=false:=by simp;omega
   have f18:(2+k == 18)=true:=by simp;omega
   have f19:(2+k == 19)=false:=by simp;omega
   repeat' ((with_reducible first|refine wr ?_|refine A2 ?_ ?_|fail)<;>try simp only [go_sem,seval,f2,f3,f4,f8,f10,f9,f18,f19,ne0,A0,A1])
   refine AC.call (c_ptake L E (A6 s) _ _ t (by repeat (first|exact A0|rw [A3 (by omega)]|rw [F0 (by omega)])) (by omega) (by have:=hPn.i;omega) 4) ?_;rintro v H' c20 ⟨rfl,rfl⟩ hc20;obtain ⟨qc20,vc20⟩:=hqn.take (L:=L) (E:=E) (k:=4);have bc20:=(hPn.take (E:=E) (x:=4) (by decide)).1;simp only [go_sem,seval,ne0,A0,A1];repeat' ((with_reducible first|refine wr ?_|refine A2 ?_ ?_|fail)<;>try simp only [go_sem,seval,ne0,A0,A1])
   refine AC.call (c_want L E (B1 L E (A6 s) 4).2 _ _ t (by repeat (first|exact A0|rw [A3 (by omega)]|rw [F0 (by omega)])) (by omega) (by have:=bc20.i;omega) 5 [44]) ?_;rintro v H' c21 ⟨rfl,rfl⟩ hc21;have qc21:=qc20.want (L:=L) (E:=E) (k:=5) (w:=[44]) (fun s=>F5 hK (by decide +kernel));have bc21:=(bc20.want (E:=E) (k:=5) (w:=[44]) (by decide)).1;simp only [go_sem,seval,ne0,A0,A1];repeat' ((with_reducible first|refine wr ?_|refine A2 ?_ ?_|fail)<;>try simp only [go_sem,seval,ne0,A0,A1])
   refine AC.call (c_pexpr L E hL hK f (E8 L E (B1 L E (A6 s) 4).2 5 [44]) (C5 L E (B1 L E (A6 s) 4).2 [44]) (e,m2) qc21 hz19 bc21.i _ _ t (by repeat (first|exact A0|rw [A3 (by omega)]|rw [F0 (by omega)])) (by omega)) ?_;rintro v H' c22 ⟨xc22,sc22,rfl,rfl,qc22,uc22,bc22⟩ hc22;dsimp only at qc22 uc22;have ne0:=A0k t cc c1 (c1+1) c22 (by omega);simp only [go_sem,seval,Ex.v_w,ne0,A0,A1];repeat' ((with_reducible first|refine wr ?_|refine A2 ?_ ?_|fail)<;>try simp only [go_sem,seval,ne0,A0,A1])
   refine AC.call (c_want L E sc22 _ _ t (by repeat (first|exact A0|rw [A3 (by omega)]|rw [F0 (by omega)])) (by omega) (by have:=bc22.i;omega) 5 [59]) ?_;rintro v H' c23 ⟨rfl,rfl⟩ hc23;have qc23:=qc22.want (L:=L) (E:=E) (k:=5) (w:=[59]) (fun s=>F5 hK (by decide +kernel));have bc23:=(bc22.want (E:=E) (k:=5) (w:=[59]) (by decide)).1;simp only [go_sem,seval,ne0,A0,A1];repeat' ((with_reducible first|refine wr ?_|refine A2 ?_ ?_|fail)<;>try simp only [go_sem,seval,ne0,A0,A1])
   rw [D6 (rv7 rfl A0)];refine ⟨_,_,A3w (cc:=cc) (K:=H.upd t (paB L E (E8 L E sc22 5 [59]))) (i:=c22) [xc22] (.inr ⟨rfl,rfl⟩) (.inr ⟨rfl,rfl⟩) (D5 hfr htc) (by omega) ?_ (fun j hj=>?_),.mk (2+k) [] (B1 L E (A6 s) 4).1.text [xc22] [] [] (A4 L E s).pos,(E8 L E sc22 5 [59]),by rw [Pb.St.v_w];rfl,rfl,qc23,fun k=>?_,bc23⟩
   ·rw [A7f];dsimp only
    repeat (first|exact A0|rw [A3 (by omega)]|rw [F0 (by omega)])
   ·simp [Hp.upd,Hp.del,show ¬j=cc by omega,show ¬j=c1 by omega,show ¬j=c1+1 by omega,show ¬j=c22 by omega];try (split<;>rfl)
   ·rw [uc22 (A8q k)]
 rw [if_neg k18] at h;by_cases k19:2+k=19
 ·rw [if_pos k19] at h;cases h;have f2:(2+k == 2)=false:=by simp;omega
  have f3:(2+k == 3)=false:=by simp;omega
  have f4:(2+k == 4)=false:=by simp;omega
  have f8:(2+k == 8)=false:=by simp;omega
  have f10:(2+k == 10)=false:=by simp;omega
  have f9:(2+k == 9)=false:=by simp;omega
  have f18:(2+k == 18)=false:=by simp;omega
  have f19:(2+k == 19)=true:=by simp;omega
  repeat' ((with_reducible first|refine wr ?_|refine A2 ?_ ?_|fail)<;>try simp only [go_sem,seval,f2,f3,f4,f8,f10,f9,f18,f19,ne0,A0,A1])
  refine AC.call (c_want L E (A6 s) _ _ t (by repeat (first|exact A0|rw [A3 (by omega)]|rw [F0 (by omega)])) (by omega) (by have:=hPn.i;omega) 5 [59]) ?_;rintro v H' c24 ⟨rfl,rfl⟩ hc24;have qc24:=hqn.want (L:=L) (E:=E) (k:=5) (w:=[59]) (fun s=>F5 hK (by decide +kernel));have bc24:=(hPn.want (E:=E) (k:=5) (w:=[59]) (by decide)).1;simp only [go_sem,seval,ne0,A0,A1];repeat' ((with_reducible first|refine wr ?_|refine A2 ?_ ?_|fail)<;>try simp only [go_sem,seval,ne0,A0,A1])
  rw [D6 (rv7 rfl A0)];refine ⟨_,_,D7a (cc:=cc) (K:=H.upd t (paB L E (E8 L E (A6 s) 5 [59]))) (.inr ⟨rfl,rfl⟩) (.inr ⟨rfl,rfl⟩) (.inr ⟨rfl,rfl⟩) (D5 hfr htc) (fun j hj=>?_),.mk (2+k) [] [] [] [] [] (A4 L E s).pos,(E8 L E (A6 s) 5 [59]),by rw [Pb.St.v_w];rfl,rfl,qc24,fun k=>?_,bc24⟩
  ·simp [Hp.upd,Hp.del,show ¬j=cc by omega,show ¬j=c1 by omega,show ¬j=c1+1 by omega];try (split<;>rfl)
  ·rfl
 rw [if_neg k19] at h;dsimp only at h;by_cases k8:2+k=8
 ·rw [if_pos (by omega)] at h;cases hz25:H7 L E f (B1 L E (A6 s) 1).2 with
  | none=>rw [hz25] at h;cases h
  | some qhz25 =>
   obtain ⟨e,m2⟩:=qhz25;rw [hz25] at h;dsimp only at h;rw [if_neg (by omega)] at h;cases h;have f2:(2+k == 2)=false:=by simp;omega
   have f3:(2+k == 3)=false:=by simp;omega
   have f4:(2+k == 4)=false:=by simp;omega
   have f8:(2+k == 8)=true:=by simp;omega
   have f10:(2+k == 10)=false:=by simp;omega
   have f9:(2+k == 9)=false:=by simp;omega
   have f18:(2+k == 18)=false:=by simp;omega
   have f19:(2+k == 19)=false:=by simp;omega
   repeat' ((with_reducible first|refine wr ?_|refine A2 ?_ ?_|fail)<;>try simp only [go_sem,seval,f2,f3,f4,f8,f10,f9,f18,f19,ne0,A0,A1])
   refine AC.call (c_ptake L E (A6 s) _ _ t (by repeat (first|exact A0|rw [A3 (by omega)]|rw [F0 (by omega)])) (by omega) (by have:=hPn.i;omega) 1) ?_;rintro v H' c26 ⟨rfl,rfl⟩ hc26;obtain ⟨qc26,vc26⟩:=hqn.take (L:=L) (E:=E) (k:=1);have bc26:=(hPn.take (E:=E) (x:=1) (by decide)).1;simp only [go_sem,seval,ne0,A0,A1];repeat' ((with_reducible first|refine wr ?_|refine A2 ?_ ?_|fail)<;>try simp only [go_sem,seval,ne0,A0,A1])
   refine AC.call (c_pexpr L E hL hK f (B1 L E (A6 s) 1).2 (B1 L E (A6 s) 1).2 (e,m2) qc26 hz25 bc26.i _ _ t (by repeat (first|exact A0|rw [A3 (by omega)]|rw [F0 (by omega)])) (by omega)) ?_;rintro v H' c27 ⟨xc27,sc27,rfl,rfl,qc27,uc27,bc27⟩ hc27;dsimp only at qc27 uc27;have ne0:=A0k t cc c1 (c1+1) c27 (by omega);simp only [go_sem,seval,Ex.v_w,ne0,A0,A1];repeat' ((with_reducible first|refine wr ?_|refine A2 ?_ ?_|fail)<;>try simp only [go_sem,seval,ne0,A0,A1])
   refine AC.call (c_want L E sc27 _ _ t (by repeat (first|exact A0|rw [A3 (by omega)]|rw [F0 (by omega)])) (by omega) (by have:=bc27.i;omega) 5 [59]) ?_;rintro v H' c28 ⟨rfl,rfl⟩ hc28;have qc28:=qc27.want (L:=L) (E:=E) (k:=5) (w:=[59]) (fun s=>F5 hK (by decide +kernel));have bc28:=(bc27.want (E:=E) (k:=5) (w:=[59]) (by decide)).1;simp only [go_sem,seval,ne0,A0,A1];repeat' ((with_reducible first|refine wr ?_|refine A2 ?_ ?_|fail)<;>try simp only [go_sem,seval,ne0,A0,A1])
   rw [D6 (rv7 rfl A0)];refine ⟨_,_,A3w (cc:=cc) (K:=H.upd t (paB L E (E8 L E sc27 5 [59]))) (i:=c27) [xc27] (.inr ⟨rfl,rfl⟩) (.inr ⟨rfl,rfl⟩) (D5 hfr htc) (by omega) ?_ (fun j hj=>?_),.mk (2+k) (B1 L E (A6 s) 1).1.text [] [xc27] [] [] (A4 L E s).pos,(E8 L E sc27 5 [59]),by rw [Pb.St.v_w];rfl,rfl,qc28,fun k=>?_,bc28⟩
   ·rw [A7f];dsimp only
    repeat (first|exact A0|rw [A3 (by omega)]|rw [F0 (by omega)])
   ·simp [Hp.upd,Hp.del,show ¬j=cc by omega,show ¬j=c1 by omega,show ¬j=c1+1 by omega,show ¬j=c27 by omega];try (split<;>rfl)
   ·rw [uc27 (A8q k)]
 by_cases k10:2+k=10
 ·rw [if_pos (by omega)] at h;cases hz29:H7 L E f (B1 L E (A6 s) 1).2 with
  | none=>rw [hz29] at h;cases h
  | some qhz29 =>
   obtain ⟨e,m2⟩:=qhz29;rw [hz29] at h;dsimp only at h;rw [if_neg (by omega)] at h;cases h;have f2:(2+k == 2)=false:=by simp;omega
   have f3:(2+k == 3)=false:=by simp;omega
   have f4:(2+k == 4)=false:=by simp;omega
   have f8:(2+k == 8)=false:=by simp;omega
   have f10:(2+k == 10)=true:=by simp;omega
   have f9:(2+k == 9)=false:=by simp;omega
   have f18:(2+k == 18)=false:=by simp;omega
   have f19:(2+k == 19)=false:=by simp;omega
   repeat' ((with_reducible first|refine wr ?_|refine A2 ?_ ?_|fail)<;>try simp only [go_sem,seval,f2,f3,f4,f8,f10,f9,f18,f19,ne0,A0,A1])
   refine AC.call (c_ptake L E (A6 s) _ _ t (by repeat (first|exact A0|rw [A3 (by omega)]|rw [F0 (by omega)])) (by omega) (by have:=hPn.i;omega) 1) ?_;rintro v H' c30 ⟨rfl,rfl⟩ hc30;obtain ⟨qc30,vc30⟩:=hqn.take (L:=L) (E:=E) (k:=1);have bc30:=(hPn.take (E:=E) (x:=1) (by decide)).1;simp only [go_sem,seval,ne0,A0,A1];repeat' ((with_reducible first|refine wr ?_|refine A2 ?_ ?_|fail)<;>try simp only [go_sem,seval,ne0,A0,A1])
   refine AC.call (c_pexpr L E hL hK f (B1 L E (A6 s) 1).2 (B1 L E (A6 s) 1).2 (e,m2) qc30 hz29 bc30.i _ _ t (by repeat (first|exact A0|rw [A3 (by omega)]|rw [F0 (by omega)])) (by omega)) ?_;rintro v H' c31 ⟨xc31,sc31,rfl,rfl,qc31,uc31,bc31⟩ hc31;dsimp only at qc31 uc31;have ne0:=A0k t cc c1 (c1+1) c31 (by omega);simp only [go_sem,seval,Ex.v_w,ne0,A0,A1];repeat' ((with_reducible first|refine wr ?_|refine A2 ?_ ?_|fail)<;>try simp only [go_sem,seval,ne0,A0,A1])
   refine AC.call (c_want L E sc31 _ _ t (by repeat (first|exact A0|rw [A3 (by omega)]|rw [F0 (by omega)])) (by omega) (by have:=bc31.i;omega) 5 [59]) ?_;rintro v H' c32 ⟨rfl,rfl⟩ hc32;have qc32:=qc31.want (L:=L) (E:=E) (k:=5) (w:=[59]) (fun s=>F5 hK (by decide +kernel));have bc32:=(bc31.want (E:=E) (k:=5) (w:=[59]) (by decide)).1;simp only [go_sem,seval,ne0,A0,A1];repeat' ((with_reducible first|refine wr ?_|refine A2 ?_ ?_|fail)<;>try simp only [go_sem,seval,ne0,A0,A1])
   rw [D6 (rv7 rfl A0)];refine ⟨_,_,A3w (cc:=cc) (K:=H.upd t (paB L E (E8 L E sc31 5 [59]))) (i:=c31) [xc31] (.inr ⟨rfl,rfl⟩) (.inr ⟨rfl,rfl⟩) (D5 hfr htc) (by omega) ?_ (fun j hj=>?_),.mk (2+k) (B1 L E (A6 s) 1).1.text [] [xc31] [] [] (A4 L E s).pos,(E8 L E sc31 5 [59]),by rw [Pb.St.v_w];rfl,rfl,qc32,fun k=>?_,bc32⟩
   ·rw [A7f];dsimp only
    repeat (first|exact A0|rw [A3 (by omega)]|rw [F0 (by omega)])
   ·simp [Hp.upd,Hp.del,show ¬j=cc by omega,show ¬j=c1 by omega,show ¬j=c1+1 by omega,show ¬j=c31 by omega];try (split<;>rfl)
   ·rw [uc31 (A8q k)]
 by_cases k9:2+k=9
 ·rw [if_pos (by omega)] at h;cases hz33:H7 L E f (B1 L E (A6 s) 1).2 with
  | none=>rw [hz33] at h;cases h
  | some qhz33 =>
   obtain ⟨e,m2⟩:=qhz33;rw [hz33] at h;dsimp only at h;rw [if_pos k9] at h;cases hz34:H7 L E f (C5 L E m2 [44]) with
   | none=>rw [hz34] at h;cases h
   | some qhz34 =>
    obtain ⟨e2,m3⟩:=qhz34;rw [hz34] at h;dsimp only at h;cases h;have f2:(2+k == 2)=false:=by simp;omega
    have f3:(2+k == 3)=false:=by simp;omega
    have f4:(2+k == 4)=false:=by simp;omega
    have f8:(2+k == 8)=false:=by simp;omega
    have f10:(2+k == 10)=false:=by simp;omega
    have f9:(2+k == 9)=true:=by simp;omega
    have f18:(2+k == 18)=false:=by simp;omega
    have f19:(2+k == 19)=false:=by simp;omega
    repeat' ((with_reducible first|refine wr ?_|refine A2 ?_ ?_|fail)<;>try simp only [go_sem,seval,f2,f3,f4,f8,f10,f9,f18,f19,ne0,A0,A1])
    refine AC.call (c_ptake L E (A6 s) _ _ t (by repeat (first|exact A0|rw [A3 (by omega)]|rw [F0 (by omega)])) (by omega) (by have:=hPn.i;omega) 1) ?_;rintro v H' c35 ⟨rfl,rfl⟩ hc35;obtain ⟨qc35,vc35⟩:=hqn.take (L:=L) (E:=E) (k:=1);have bc35:=(hPn.take (E:=E) (x:=1) (by decide)).1;simp only [go_sem,seval,ne0,A0,A1];repeat' ((with_reducible first|refine wr ?_|refine A2 ?_ ?_|fail)<;>try simp only [go_sem,seval,ne0,A0,A1])
    refine AC.call (c_pexpr L E hL hK f (B1 L E (A6 s) 1).2 (B1 L E (A6 s) 1).2 (e,m2) qc35 hz33 bc35.i _ _ t (by repeat (first|exact A0|rw [A3 (by omega)]|rw [F0 (by omega)])) (by omega)) ?_;rintro v H' c36 ⟨xc36,sc36,rfl,rfl,qc36,uc36,bc36⟩ hc36;dsimp only at qc36 uc36;have ne0:=A0k t cc c1 (c1+1) c36 (by omega);simp only [go_sem,seval,Ex.v_w,ne0,A0,A1];repeat' ((with_reducible first|refine wr ?_|refine A2 ?_ ?_|fail)<;>try simp only [go_sem,seval,ne0,A0,A1])
    refine AC.call (c_want L E sc36 _ _ t (by repeat (first|exact A0|rw [A3 (by omega)]|rw [F0 (by omega)])) (by omega) (by have:=bc36.i;omega) 5 [44]) ?_;rintro v H' c37 ⟨rfl,rfl⟩ hc37;have qc37:=qc36.want (L:=L) (E:=E) (k:=5) (w:=[44]) (fun s=>F5 hK (by decide +kernel));have bc37:=(bc36.want (E:=E) (k:=5) (w:=[44]) (by decide)).1;simp only [go_sem,seval,ne0,A0,A1];repeat' ((with_reducible first|refine wr ?_|refine A2 ?_ ?_|fail)<;>try simp only [go_sem,seval,ne0,A0,A1])
    refine AC.call (c_pexpr L E hL hK f (E8 L E sc36 5 [44]) (C5 L E m2 [44]) (e2,m3) qc37 hz34 bc37.i _ _ t (by repeat (first|exact A0|rw [A3 (by omega)]|rw [F0 (by omega)])) (by omega)) ?_;rintro v H' c38 ⟨xc38,sc38,rfl,rfl,qc38,uc38,bc38⟩ hc38;dsimp only at qc38 uc38;have ne0:=E4c t cc c1 (c1+1) c36 (c37+4) (by omega);simp only [go_sem,seval,Ex.v_w,ne0,A0,A1];repeat' ((with_reducible first|refine wr ?_|refine A2 ?_ ?_|fail)<;>try simp only [go_sem,seval,ne0,A0,A1])
    refine ⟨?_,?_⟩
    ·and_intros
     all_goals ((repeat rw [A3 (by omega)]);exact hfr _ (by omega))
    have ne0:=E4b t cc c1 (c1+1) c36 (c37+4) c38 (by omega);try simp only [go_sem,seval,A2h,F0,A1h,ne0,A0,A1]
    repeat' ((with_reducible first|refine wr ?_|refine A2 ?_ ?_|fail)<;>try simp only [go_sem,seval,A2h,F0,A1h,ne0,A0,A1])
    refine M5 (E0 (by rfl) (by omega) (by omega)) ?_;try simp only [go_sem,seval,F0,A1h,ne0,A0,A1]
    repeat' ((with_reducible first|refine wr ?_|refine A2 ?_ ?_|fail)<;>try simp only [go_sem,seval,F0,A1h,ne0,A0,A1])
    refine AC.call (c_want L E sc38 _ _ t (by repeat (first|exact A0|rw [A3 (by omega)]|rw [F0 (by omega)])) (by omega) (by have:=bc38.i;omega) 5 [59]) ?_;rintro v H' c39 ⟨rfl,rfl⟩ hc39;have qc39:=qc38.want (L:=L) (E:=E) (k:=5) (w:=[59]) (fun s=>F5 hK (by decide +kernel));have bc39:=(bc38.want (E:=E) (k:=5) (w:=[59]) (by decide)).1;simp only [go_sem,seval,ne0,A0,A1];repeat' ((with_reducible first|refine wr ?_|refine A2 ?_ ?_|fail)<;>try simp only [go_sem,seval,ne0,A0,A1])
    rw [D6 (rv7 rfl A0)];refine ⟨_,_,A3w (cc:=cc) (K:=H.upd t (paB L E (E8 L E sc38 5 [59]))) (i:=c38) [xc36,xc38] (.inr ⟨rfl,rfl⟩) (.inr ⟨rfl,rfl⟩) (D5 hfr htc) (by omega) ?_ (fun j hj=>?_),.mk (2+k) (B1 L E (A6 s) 1).1.text [] [xc36,xc38] [] [] (A4 L E s).pos,(E8 L E sc38 5 [59]),by rw [Pb.St.v_w];rfl,rfl,qc39,fun k=>?_,bc39⟩
    ·rw [D0v];dsimp only
     repeat (first|exact A0|rw [A3 (by omega)]|rw [F0 (by omega)])
    ·simp [Hp.upd,Hp.del,show ¬j=cc by omega,show ¬j=c1 by omega,show ¬j=c1+1 by omega,show ¬j=c36 by omega,show ¬j=c37+4 by omega,show ¬j=c38 by omega];try (split<;>rfl)
    ·have k2:=A8q k;have k3:=A8q (E1k hz34 k2);rw [uc38 k2,uc36 k3]
 rw [if_neg (by omega)] at h;cases h;have f2:(2+k == 2)=false:=by simp;omega
 have f3:(2+k == 3)=false:=by simp;omega
 have f4:(2+k == 4)=false:=by simp;omega
 have f8:(2+k == 8)=false:=by simp;omega
 have f10:(2+k == 10)=false:=by simp;omega
 have f9:(2+k == 9)=false:=by simp;omega
 have f18:(2+k == 18)=false:=by simp;omega
 have f19:(2+k == 19)=false:=by simp;omega
 repeat' ((with_reducible first|refine wr ?_|refine A2 ?_ ?_|fail)<;>try simp only [go_sem,seval,f2,f3,f4,f8,f10,f9,f18,f19,ne0,A0,A1])
 refine AC.call (c_ptake L E (A6 s) _ _ t (by repeat (first|exact A0|rw [A3 (by omega)]|rw [F0 (by omega)])) (by omega) (by have:=hPn.i;omega) 1) ?_;rintro v H' c40 ⟨rfl,rfl⟩ hc40;obtain ⟨qc40,vc40⟩:=hqn.take (L:=L) (E:=E) (k:=1);have bc40:=(hPn.take (E:=E) (x:=1) (by decide)).1;simp only [go_sem,seval,ne0,A0,A1];repeat' ((with_reducible first|refine wr ?_|refine A2 ?_ ?_|fail)<;>try simp only [go_sem,seval,ne0,A0,A1])
 refine AC.call (c_want L E (B1 L E (A6 s) 1).2 _ _ t (by repeat (first|exact A0|rw [A3 (by omega)]|rw [F0 (by omega)])) (by omega) (by have:=bc40.i;omega) 5 [59]) ?_;rintro v H' c41 ⟨rfl,rfl⟩ hc41;have qc41:=qc40.want (L:=L) (E:=E) (k:=5) (w:=[59]) (fun s=>F5 hK (by decide +kernel));have bc41:=(bc40.want (E:=E) (k:=5) (w:=[59]) (by decide)).1;simp only [go_sem,seval,ne0,A0,A1];repeat' ((with_reducible first|refine wr ?_|refine A2 ?_ ?_|fail)<;>try simp only [go_sem,seval,ne0,A0,A1])
 rw [D6 (rv7 rfl A0)];refine ⟨_,_,D7a (cc:=cc) (K:=H.upd t (paB L E (E8 L E (B1 L E (A6 s) 1).2 5 [59]))) (.inr ⟨rfl,rfl⟩) (.inr ⟨rfl,rfl⟩) (.inr ⟨rfl,rfl⟩) (D5 hfr htc) (fun j hj=>?_),.mk (2+k) (B1 L E (A6 s) 1).1.text [] [] [] [] (A4 L E s).pos,(E8 L E (B1 L E (A6 s) 1).2 5 [59]),by rw [Pb.St.v_w];rfl,rfl,qc41,fun k=>?_,bc41⟩
 ·simp [Hp.upd,Hp.del,show ¬j=cc by omega,show ¬j=c1 by omega,show ¬j=c1+1 by omega];try (split<;>rfl)
 ·rfl
theorem c_pother (L:List Tok) (E:Int) (hL:L.length<=1000000000) (hK:∀ t∈L,I1 t) (f:Nat)
  (ib:∀ g,g<f->∀ d s m r,0<=d->d<=9->Eqv s m->F6 L E g d m=some r->PI L s->PlC L E 198 [I64 d] s r)
  (is:∀ g,g<f->∀ d s r,0<=d->d<=8->B1r L E s=true->K7 L E g d s=some r->PI L s->PsC L E 211 [I64 d] s r)
  (d:Int) (s m:Rd) (r:List Pb.St × Rd) (hd0:0<=d) (hd:d<=8) (hq:Eqv s m) (h:B8v L E f d m=some r) (hP:PI L s):PlC L E 222 [I64 (d+1)] s r:=by
 intro H cc t ht htc;have hri:=hP.i;refine AC.bodyT B2 rfl (A0A rfl) fun hfr=>?_;have hio:=c_pisO L E s H (cc+1) t cc (hfr _ (A0H _)) ht (by omega) 2 [[101,108,115,101]] (by simp);unfold B8v at h;rw [X4 hK (by decide +kernel), <- hq.isP] at h;repeat' ((with_reducible first|refine wr ?_|refine A2 ?_ ?_|fail)<;>try simp only [go_sem,seval])
 refine AC.call hio ?_;rintro v H c1 ⟨rfl,rfl⟩ hc1;cases he:isP L E s 2 [[101,108,115,101]] with
 | false =>
  rw [he,if_neg (by decide)] at h;cases h;simp only [go_sem,seval,he];repeat' ((with_reducible first|refine wr ?_|refine A2 ?_ ?_|fail)<;>try simp only [go_sem,seval,he])
  exact ⟨_,_,GL.view fun ρ vs hA=>N9 (fun v h=>h.snil_lst) vs hA,[],s,rfl,(upd_same ht).symm,hq,fun _=>rfl,hP⟩
 | true =>
  obtain ⟨ho,hlt, -⟩:=U5 (by decide) he;obtain rfl:s=m:=hq.s (by rw [<- hq.ok,ho]);rw [he,if_pos rfl] at h;have hP1:=hP.nxt hlt;have hw1:IntKind.i64.wrap ((s.i:Int)+1)=((s.i+1:Nat):Int):=by rw [w6z (by omega)];omega
  have hio2:=c_pisO L E (A6 s) (H.upd t (paB L E (A6 s))) (c1+1) t c1 (by rw [A3 (by omega)];exact hfr _ (by omega)) A0 (by omega) 2 [[105,102]] (by simp);cases f with
  | zero=>simp [N5] at h
  | succ f =>
  unfold N5 at h;rw [X4 hK (by decide +kernel)] at h;simp only [go_sem,seval,he];repeat' ((with_reducible first|refine wr ?_|refine A2 ?_ ?_|fail)<;>try simp only [go_sem,seval,he,ht,hw1,A0,A1])
  refine AC.call hio2 ?_;rintro v H' c2 ⟨rfl,rfl⟩ hc2;cases hf:isP L E (A6 s) 2 [[105,102]] with
  | false =>
   rw [hf,if_neg (by decide)] at h;simp only [go_sem,seval,hf];repeat' ((with_reducible first|refine wr ?_|refine A2 ?_ ?_|fail)<;>try simp only [go_sem,seval,hf])
   refine AC.call (ib f (by omega) (d+1) _ _ r (by omega) (by omega) (.refl _) h hP1 _ _ t A0 (by omega)) ?_;rintro v H' c3 ⟨x,s3,rfl,rfl,q1,q2,q3⟩ hc3;simp only [go_sem,seval,A1];repeat' ((with_reducible first|refine wr ?_|refine A2 ?_ ?_|fail)<;>try simp only [go_sem,seval,A1])
   exact ⟨_,_,GL.refl _ _,x,s3,rfl,rfl,q1,q2,q3⟩
  | true =>
   rw [hf,if_pos rfl] at h;cases hs:K7 L E f (d+1) (A6 s) with
   | none=>rw [hs] at h;cases h
   | some q =>
   obtain ⟨x0,m3⟩:=q;rw [hs] at h;cases h;by_cases h8:d+1>8
   ·have hd8:decide (d+1>8)=true:=by simpa using h8
    have hm3:okR m3=false/\Eqv (pfl L E (A6 s) 50) m3:=by
     cases f with
     | zero=>simp [K7] at hs
     | succ f =>
      unfold K7 at hs;dsimp only at hs;have hl:B9 L E (A6 s) (d+1) 8 50=pfl L E (A6 s) 50:=by rw [Z2,if_pos h8]
      have hnk:okR (pfl L E (A6 s) 50)=false:=by unfold pfl;exact O7 (by decide)
      rw [hl,if_pos hnk] at hs;cases hs;exact ⟨hnk,.refl _⟩
    simp only [go_sem,seval,hf];repeat' ((with_reducible first|refine wr ?_|refine A2 ?_ ?_|fail)<;>try simp only [go_sem,seval,hf,hd8])
    refine AC.call (c_pfail L E (A6 s) _ _ t A0 (by omega) 50) ?_;rintro v H' c3 ⟨rfl,rfl⟩ hc3;simp only [go_sem,seval,A1];repeat' ((with_reducible first|refine wr ?_|refine A2 ?_ ?_|fail)<;>try simp only [go_sem,seval,A1])
    exact ⟨_,_,GL.view fun ρ vs hA=>N9 (fun v h=>h.snil_lst) vs hA,[],_,rfl,rfl,hm3.2,fun k=>(by simp [hm3.1] at k),hP1.fl⟩
   ·have hd8:decide (d+1>8)=false:=by simpa using h8
    have hbg:B1r L E (A6 s)=true:=by
     obtain ⟨g1,g2,g3⟩:=U5 (by decide) hf;unfold B1r;rw [g1,g3,C1f hf];decide +kernel
    simp only [go_sem,seval,hf];repeat' ((with_reducible first|refine wr ?_|refine A2 ?_ ?_|fail)<;>try simp only [go_sem,seval,hf,hd8])
    refine AC.call (is f (by omega) (d+1) (A6 s) _ (by omega) (by omega) hbg hs hP1 _ _ t A0 (by omega)) ?_;rintro v H' c3 ⟨x,s3,rfl,rfl,q1,q2,q3⟩ hc3;simp only [go_sem,seval,A1,Pb.St.v_w];repeat' ((with_reducible first|refine wr ?_|refine A2 ?_ ?_|fail)<;>try simp only [go_sem,seval,A1])
    refine ⟨_,_,D0k (cc:=cc) (K:=H.upd t (paB L E s3)) [x] (D5 hfr htc) (by omega) (by rw [D6h];exact A0) (fun j hj=>by rw [A3 (by omega)]),[x],s3,rfl,rfl,q1,fun k=>(by rw [q2 k]),q3⟩
theorem c_pblock (L:List Tok) (E:Int) (hL:L.length<=1000000000) (hK:∀ t∈L,I1 t) (f:Nat)
  (is:∀ g,g<=f->∀ d s r,0<=d->d<=8->B1r L E s=true->K7 L E g d s=some r->PI L s->PsC L E 211 [I64 d] s r)
  (d:Int) (s m:Rd) (r:List Pb.St × Rd) (hd0:0<=d) (hd:d<=9) (hq:Eqv s m) (h:F6 L E (f+1) d m=some r) (hP:PI L s):PlC L E 198 [I64 d] s r:=by
 intro H cc t ht htc;have hri:=hP.i;refine AC.bodyT B2 rfl (A0A rfl) fun hfr=>?_;unfold F6 at h;repeat' ((with_reducible first|refine wr ?_|refine A2 ?_ ?_|fail)<;>try simp only [go_sem,seval])
 refine AC.call (c_want L E s _ _ t ht (by omega) (by omega) 5 [123]) ?_;rintro v H' c1 ⟨rfl,rfl⟩ hc1;have q0:=hq.want (L:=L) (E:=E) (k:=5) (w:=[123]) (fun s=>F5 hK (by decide +kernel));have b0:=(hP.want (E:=E) (k:=5) (w:=[123]) (by decide)).1;simp only [go_sem,seval];repeat' ((with_reducible first|refine wr ?_|refine A2 ?_ ?_|fail)<;>try simp only [go_sem,seval])
 refine D2 (fun q:Nat × List Pb.St × Rd × Option Nat × List Pb.St × Rd=>[(0,.ptr t 0),(1,I64 d),(5,C4 q.2.2.2.1 q.2.2.2.2.1.length)]) (fun q=>D4 (H.upd t (paB L E q.2.2.2.2.2)) q.2.2.2.1 ⟨7,true,A8 (q.2.2.2.2.1.map Pb.St.v)⟩)
  (fun q c=>cc<=c/\q.1<=f/\(q.2.2.2.1=none->q.2.2.2.2.1=[])/\(∀ i,q.2.2.2.1=some i->cc<=i/\i<c)/\q.2.2.2.2.1.length<=64/\J3 L E q.1 d q.2.1 q.2.2.1=some r/\Eqv q.2.2.2.2.2 q.2.2.1/\(okR q.2.2.1=true->q.2.2.2.2.1=q.2.1)/\PI L q.2.2.2.2.2) (fun q=>q.1) (f,[],C5 L E m [123],none,[],E8 L E s 5 [123])
  (by simp [C6,tm,Tm.upd,C4]) (Sub.refl _) ⟨hc1,A0H _,fun _=>rfl,(fun i hi=>by cases hi),by simp,h,q0,fun _=>rfl,b0⟩ ?_
 clear h q0 b0 hri;rintro ⟨g,l,m,o,xs,u⟩ c ⟨hc,hg,hno,ho,hl1,hv,hq,hxs,hP⟩;dsimp only at hc hg hno ho hl1 hv hq hxs hP ⊢;have hri:=hP.i;have hHt:D4 (H.upd t (paB L E u)) o ⟨7,true,A8 (xs.map Pb.St.v)⟩ t=some (paB L E u):=by rw [F3 (fun i hi=>by have:=ho i hi;omega),A0]
 have hfin:∀ (z:Rd) (j:Nat),j<cc->((D4 (H.upd t (paB L E u)) o ⟨7,true,A8 (xs.map Pb.St.v)⟩).upd t (paB L E z)) j=(H.upd t (paB L E z)) j:=fun z j hj=>by
  by_cases ej:j=t
  ·subst ej;rw [A0,A0]
  ·rw [A3 ej,A3 ej,F3 (fun i hi=>by have:=ho i hi;omega),A3 ej]
 have hbo:∀ (z:Rd) (i:Nat),o=some i->((D4 (H.upd t (paB L E u)) o ⟨7,true,A8 (xs.map Pb.St.v)⟩).upd t (paB L E z)) i=some ⟨7,true,A8 (xs.map Pb.St.v)⟩:=fun z i hi=>by
  have:=ho i hi;rw [A3 (by omega)];subst hi;exact A0
 have hsub:∀ z,Sub (D4 (H.upd t (paB L E z)) o ⟨7,true,A8 (xs.map Pb.St.v)⟩) ((D4 (H.upd t (paB L E u)) o ⟨7,true,A8 (xs.map Pb.St.v)⟩).upd t (paB L E z)):=fun z j b hj=>by
  by_cases e:j=t
  ·subst e;rw [F3 (fun i hi=>by have:=ho i hi;omega),A0] at hj;rw [A0];exact hj
  ·rw [A3 e];cases o with
   | none=>simp only [D4] at hj ⊢;rw [A3 e] at hj ⊢;exact hj
   | some i =>
    simp only [D4] at hj ⊢;by_cases e2:j=i
    ·subst e2;rw [A0] at hj ⊢;exact hj
    ·rw [A3 e2,A3 e] at hj ⊢;exact hj
 cases g with
 | zero=>simp [J3] at hv
 | succ g =>
 unfold J3 at hv;repeat' ((with_reducible first|refine wr ?_|refine A2 ?_ ?_|fail)<;>try simp only [go_sem,seval])
 refine AC.call (c_begins L E u _ _ t hHt (by omega)) ?_;rintro v H' c2 ⟨rfl,rfl⟩ hc2;have hba:=C4c (E:=E) hK (s:=u);cases hb:B1r L E u with
 | false =>
  have hres:Eqv (E8 L E u 5 [125]) r.2/\(okR r.2=true->xs=r.1):=by
   by_cases h1:okR m=true/\isR L E m [125]=false
   ·rw [if_pos h1] at hv;obtain rfl:=hq.s h1.1;have hn:¬ (0<=B6 L E u B3\/F9 L E u 1=true):=fun hh=>by
     have:=hba.2 ⟨h1.1,hh⟩;rw [hb] at this;cases this
    rw [if_pos ⟨by omega,by cases hk:F9 L E u 1 with|false=>rfl|true=>exact absurd (.inr hk) hn⟩] at hv;cases hv;have hw:E8 L E u 5 [125]=P2 L E u:=by
     rw [E8, <- F5 hK (by decide +kernel),if_pos h1.2];rfl
    rw [hw];exact ⟨.refl _,fun k=>(by rw [V5] at k;cases k)⟩
   ·rw [if_neg h1] at hv;cases hv;exact ⟨hq.want (fun s=>F5 hK (by decide +kernel)),fun k=>hxs (A8q k)⟩
  have b1:=(hP.want (E:=E) (k:=5) (w:=[125]) (by decide)).1;simp only [go_sem,seval,hb];repeat' ((with_reducible first|refine wr ?_|refine A2 ?_ ?_|fail)<;>try simp only [go_sem,seval,hb])
  refine AC.call (c_want L E u _ _ t hHt (by omega) (by omega) 5 [125]) ?_;rintro v H' c3 ⟨rfl,rfl⟩ hc3;simp only [go_sem,seval];repeat' ((with_reducible first|refine wr ?_|refine A2 ?_ ?_|fail)<;>try simp only [go_sem,seval])
  exact ⟨_,_,D0j (cc:=cc) xs (D5 hfr htc) (fun i hi=>(ho i hi).1) hno (hbo _) (hfin _),xs,_,rfl,rfl,hres.1,hres.2,b1⟩
 | true =>
  obtain ⟨hok,hbk⟩:=hba.1 hb;obtain rfl:u=m:=hq.s (by rw [<- hq.ok,hok]);obtain rfl:xs=l:=hxs hok;have hnb:isR L E u [125]=false:=by
   rw [F5 hK (by decide +kernel)];have hk5:((A4 L E u).kind == 5)=false:=by
    rcases hbk with hk|hk
    ·have:=((B9w (E:=E) hK hok).1 hk).1;simp [this]
    ·have:=(G4 hk).2;simp [this]
   unfold isP;rw [hok,hk5];rfl
  rw [if_pos ⟨hok,hnb⟩,if_neg (fun hh=>by
   rcases hbk with hk|hk
   ·omega
   ·rw [hh.2] at hk;cases hk)] at hv
  have hlen:B2g (C4 o xs.length)=some (I64 xs.length):=by
   cases o with
   | none=>rw [hno rfl];rfl
   | some b=>rfl
  cases hs:K7 L E g d (B9 L E u ((xs.length:Int)+1) 64 9) with
  | none=>rw [hs] at hv;cases hv
  | some q =>
  obtain ⟨x0,m1⟩:=q;rw [hs] at hv;dsimp only at hv;by_cases h64:xs.length=64
  ·have hd64:((xs.length:Int) == 64)=true:=by simp;omega
   have hl:B9 L E u ((xs.length:Int)+1) 64 9=pfl L E u 9:=by rw [Z2,if_pos (by omega)]
   have hnk:okR (pfl L E u 9)=false:=by unfold pfl;exact O7 (by decide)
   rw [hl] at hs;cases D2s hs hnk;simp only [go_sem,seval,hb];repeat' ((with_reducible first|refine wr ?_|refine A2 ?_ ?_|fail)<;>try simp only [go_sem,seval,hb,hlen,hd64])
   refine AC.call (c_pfail L E u _ _ t hHt (by omega) 9) ?_;rintro v H' c3 ⟨rfl,rfl⟩ hc3;simp only [go_sem,seval];repeat' ((with_reducible first|refine wr ?_|refine A2 ?_ ?_|fail)<;>try simp only [go_sem,seval])
   refine ⟨(g,xs++[St0],pfl L E u 9,o,xs,pfl L E u 9),by simp [C6,tm,Tm.upd],?_,inv ⟨by omega,by simp only;omega,hno,(fun i hi=>⟨(ho i hi).1,by have:=(ho i hi).2;omega⟩),hl1,hv,.refl _,fun k=>(by rw [hnk] at k;cases k),hP.fl⟩,by simp only;omega⟩;exact hsub _
  have hd64:((xs.length:Int) == 64)=false:=by simp;omega
  rw [A1u (by omega)] at hs;by_cases h8:d>8
  ·have hd8:decide (d>8)=true:=by simpa using h8
   have hnk:okR (pfl L E u 50)=false:=by unfold pfl;exact O7 (by decide)
   have hm1:m1=pfl L E u 50:=by
    cases g with
    | zero=>simp [K7] at hs
    | succ g =>
     unfold K7 at hs;dsimp only at hs;have hl:B9 L E u d 8 50=pfl L E u 50:=by rw [Z2,if_pos h8]
     rw [hl,if_pos hnk] at hs;cases hs;rfl
   subst hm1;simp only [go_sem,seval,hb];repeat' ((with_reducible first|refine wr ?_|refine A2 ?_ ?_|fail)<;>try simp only [go_sem,seval,hb,hlen,hd64,hd8])
   refine AC.call (c_pfail L E u _ _ t hHt (by omega) 50) ?_;rintro v H' c3 ⟨rfl,rfl⟩ hc3;simp only [go_sem,seval];repeat' ((with_reducible first|refine wr ?_|refine A2 ?_ ?_|fail)<;>try simp only [go_sem,seval])
   refine ⟨(g,xs++[x0],pfl L E u 50,o,xs,pfl L E u 50),by simp [C6,tm,Tm.upd],?_,inv ⟨by omega,by simp only;omega,hno,(fun i hi=>⟨(ho i hi).1,by have:=(ho i hi).2;omega⟩),hl1,hv,.refl _,fun k=>(by rw [hnk] at k;cases k),hP.fl⟩,by simp only;omega⟩;exact hsub _
  have hd8:decide (d>8)=false:=by simpa using h8
  simp only [go_sem,seval,hb];repeat' ((with_reducible first|refine wr ?_|refine A2 ?_ ?_|fail)<;>try simp only [go_sem,seval,hb,hlen,hd64,hd8])
  refine AC.call (is g (by omega) d u _ hd0 (by omega) hb hs hP _ _ t hHt (by omega)) ?_;rintro v H' c3 ⟨x,s3,rfl,rfl,q1,q2,q3⟩ hc3;dsimp only at q1 q2;have ne0:=V8 t c3 (c3+1) (by omega);simp only [go_sem,seval,ne0,A1,Pb.St.v_w];repeat' ((with_reducible first|refine wr ?_|refine A2 ?_ ?_|fail)<;>try simp only [go_sem,seval,ne0])
  refine D0 (L6 (cs:=A8 (xs.map Pb.St.v)) (fun e=>by rw [hno e];exact ⟨rfl,rfl⟩) (fun i hi=>?_) (by rw [B8 (u:=7) (A4i _)];simp) (by omega) (by omega) (by omega)) ?_
  ·have:=ho i hi;rw [A3 (by omega)];exact hbo _ i hi
  simp only [go_sem,seval,ne0];repeat' ((with_reducible first|refine wr ?_|refine A2 ?_ ?_|fail)<;>try simp only [go_sem,seval,ne0])
  refine ⟨(g,xs++[x0],m1,some (c3+1),xs++[x],s3),by simp only [A0C,A0K];rfl,?_,inv ⟨by omega,by simp only;omega,(fun h=>by cases h),(fun i hi=>by cases hi;omega),by simp only [A0C,A0K];omega,hv,q1,fun k=>(by simp only [q2 k]),q3⟩,by simp only;omega⟩;intro jj b hj;simp only [D4] at hj;by_cases e1:jj=c3+1
  ·subst e1;rw [A0] at hj ⊢;rw [<- hj,A0Z,H6,D6h]
  ·rw [A3 e1] at hj ⊢;by_cases e2:jj=t
   ·subst e2;rw [A0] at hj;rw [N2 (fun i hi=>by have:=ho i hi;omega),A3 (by omega),A0];exact hj
   ·rw [A3 e2] at hj;have hjc:jj<cc:=Classical.byContradiction fun h=>by rw [hfr jj (by omega)] at hj;cases hj
    rw [N2 (fun i hi=>by have:=ho i hi;omega),A3 (by omega),A3 e2,F3 (fun i hi=>by have:=ho i hi;omega),A3 e2];exact hj
theorem c_pst (L:List Tok) (E:Int) (hL:L.length<=1000000000) (hK:∀ t∈L,I1 t):∀ f:Nat,
  (∀ d s m r,0<=d->d<=9->Eqv s m->F6 L E f d m=some r->PI L s->PlC L E 198 [I64 d] s r) /\
  (∀ d s r,0<=d->d<=8->B1r L E s=true->K7 L E f d s=some r->PI L s->PsC L E 211 [I64 d] s r):=by
 intro f
 induction f using Nat.strongRecOn with
 | _ f ih =>
  cases f with
  | zero=>exact ⟨fun d s m r _ _ _ h=>by simp [F6] at h,fun d s r _ _ _ h=>by simp [K7] at h⟩
  | succ f =>
   exact ⟨fun d s m r h1 h2 hq h hP=>c_pblock L E hL hK f (fun g hg=>(ih g (by omega)).2) d s m r h1 h2 hq h hP,
    fun d s r h1 h2 hb h hP=>c_pstmt L E hL hK f (ih f (by omega)).1 (fun d s m r h1 h2 hq h hP=>c_pother L E hL hK f (fun g hg=>(ih g (by omega)).1) (fun g hg=>(ih g (by omega)).2) d s m r h1 h2 hq h hP) d s r h1 h2 hb h hP⟩
end Go.Proofs.YthlpinppaclofaaGreatDoor
set_option maxHeartbeats 4000000
namespace Go.Proofs.YthlpinppaclofaaGreatDoor
open Go.Eng (IC IOper DReg IFn J0)
open Go.Sym Go.Pb
theorem E2p {ρ : Ren} {v:Value} {a b e:DV} (h:VRel ρ (.agg [a,b,.snil,e]) v):VRel ρ (.agg [a,b,.lst [],e]) v:=by
 obtain ⟨bb,rfl,k1,k2⟩:=h.agg_inv;refine .agg _ _ k1 fun j x y hx hy=>?_
 match j with
 | 0=>cases hx;exact k2 0 _ y rfl hy
 | 1=>cases hx;exact k2 1 _ y rfl hy
 | 2=>cases hx;exact (k2 2 _ y rfl hy).snil_lst
 | 3=>cases hx;exact k2 3 _ y rfl hy
 | _+4=>cases hx
theorem E5g {K H':Hp} {cc:Nat} {o:Option Nat} {a b e:DV} (l:List Hd) (hK:∀ i,cc<=i->K i=none) (ho:∀ i,o=some i->cc<=i) (hno:o=none->l=[]) (hb:∀ i,o=some i->H' i=some ⟨4,true,A8 (l.map Hd.v)⟩) (h:∀ j,j<cc->H' j=K j) :
  GL H' [.agg [a,b,C4 o l.length,e]] K [.agg [a,b,A0z l,e]]:=by
 cases o with
 | none =>
  obtain rfl:=hno rfl;exact (P6 hK h).trans (GL.view fun ρ vs hA=>N9 (fun v h=>E2p h) vs hA)
 | some i =>
  have:=ho i rfl;exact GL.frzS (id:=i) (hb i rfl) rfl (fun j=>by
   by_cases hj:j<cc
   ·exact .inr ⟨by omega,(h j hj).symm⟩
   ·exact .inl (hK j (by omega))) (.cons _ _ _ _ (.agg _ _ (.cons _ _ _ _ (.same _) (.cons _ _ _ _ (.same _) (.cons _ _ _ _ (M9 (u:=4) (by simp) (A4r l) ⟨[],by simp⟩) (.cons _ _ _ _ (.same _) .nil))))) .nil)
end Go.Proofs.YthlpinppaclofaaGreatDoor
set_option maxHeartbeats 8000000
namespace Go.Proofs.YthlpinppaclofaaGreatDoor
open Go.Eng (IC IOper DReg IFn J0)
open Go.Sym Go.Pb
theorem C6k {L:List Tok} {E:Int} {s:Rd} {k:Int} {w:List UInt8} (h:isR L E s w=isP L E s k [w]):E8 L E s k w=C5 L E s w:=by unfold E8 C5;rw [h];rfl
theorem A2n {L:List Tok} {E:Int} (hK:∀ t∈L,I1 t) {s:Rd} {w:List UInt8} (h:E4 w=false):E8 L E s 5 w=C5 L E s w:=C6k (F5 hK h)
theorem c_pdecl (L:List Tok) (E:Int) (s:Rd) (H:Hp) (cc t:Nat) (ht:H t=some (paB L E s)) (htc:t<cc) (hL:L.length<=1000000000) (hv:∀ x∈L,0<=x.value/\x.value<=9223372036854775807) (hK:∀ t∈L,I1 t) (hd:isP L E s 2 C3=true) :
  AC Tryz.prog 126 [.ptr t 0] H cc (fun v H' c'=>v=(Q7 L E (B6 L E s C3) s).1.v/\H'=H.upd t (paB L E (Q7 L E (B6 L E s C3) s).2)):=by
 obtain ⟨hok,hi,hk2⟩:=U5 (by decide) hd;have hkd:B6 L E s C3=Q9 (A4 L E s).text 0 C3:=A1o (A5l hK s (by decide +kernel)) (by rw [hok,hk2];rfl) 0;have hk0:0<=B6 L E s C3:=by
  have:=A9r (A5l (E:=E) hK s (l:=C3) (by decide +kernel));rw [hd] at this;exact of_decide_eq_true this.symm
 have hk8:B6 L E s C3<8:=(C2b L E s C3 0).2;have htk:B1 L E s 2=(A4 L E s,A6 s):=by
  have hkk:F9 L E s 2=true:=by unfold F9;rw [hok,hk2];rfl
  unfold B1;rw [hkk,if_neg (by decide)]
 have hix:=c_Idx (A4 L E s).text C3 (by decide);rw [<- hkd] at hix;generalize B6 L E s C3=k at *;have hwk:IntKind.i64.wrap (1+k)=1+k:=w6z (by omega);have hn:(A6 s).i<=L.length:=hi;have hti:=Y0 (E:=E) (x:=1) (by decide) hn;refine AC.bodyT B2 rfl (A0A rfl) fun hfr=>?_;repeat' ((with_reducible first|refine wr ?_|refine A2 ?_ ?_|fail)<;>try simp only [go_sem,seval])
 refine AC.call (c_ptake L E s _ _ t (by rw [A3 (by omega)];exact ht) (by omega) (by omega) 2) ?_;rintro v H' c1 ⟨rfl,rfl⟩ hc1;rw [htk];have ne0:=A7y t cc c1 (c1+1+8) (by omega);simp only [go_sem,seval,ne0,A0,A1];repeat' ((with_reducible first|refine wr ?_|refine cpc c_pdecls ?_|refine cpc hix ?_|refine A2 ?_ ?_|fail)<;>try simp only [go_sem,seval,hwk,ne0,A0,A1])
 refine ⟨by and_intros<;>((repeat rw [A3 (by omega)]);exact hfr _ (by omega)),?_⟩;repeat' ((with_reducible first|refine wr ?_|refine cpc c_pdecls ?_|refine cpc hix ?_|refine A2 ?_ ?_|fail)<;>try simp only [go_sem,seval,hwk,ne0,A0,A1])
 refine ⟨by and_intros<;>((repeat rw [A3 (by omega)]);exact hfr _ (by omega)),?_⟩;repeat' ((with_reducible first|refine wr ?_|refine cpc c_pdecls ?_|refine cpc hix ?_|refine A2 ?_ ?_|fail)<;>try simp only [go_sem,seval,hwk,ne0,A0,A1])
 refine AC.call (c_ptake L E (A6 s) _ _ t (by repeat (first|exact A0|rw [A3 (by omega)])) (by omega) (by omega) 1) ?_;rintro v H' c2 ⟨rfl,rfl⟩ hc2;have hval:∀ z,0<=(B1 L E z 3).1.value/\(B1 L E z 3).1.value<=9223372036854775807:=fun z=>by
  unfold B1;split
  ·exact ⟨A3G 0,(by decide:(0:Int)<=9223372036854775807)⟩
  ·show 0<=(A4 L E z).value/\(A4 L E z).value<=9223372036854775807;unfold A4;rw [A0S];cases hg:L[z.i]? with
   | none=>exact ⟨A3G 0,(by decide:(0:Int)<=9223372036854775807)⟩
   | some x=>exact hv x (A0Y hg)
 obtain ⟨D,hD⟩:∃ D,D=Q7 L E k s:=⟨_,rfl⟩;rw [<- hD];unfold Q7 at hD;dsimp only at hD;generalize (A4 L E s).pos=p at hD ⊢;generalize (B1 L E (A6 s) 1).2=s2 at hD hti ⊢;by_cases h6:k+1<=6
 ·rw [if_pos h6] at hD;have f7:(1+k == 7)=false:=by simp;omega
  have f8:(1+k == 8)=false:=by simp;omega
  have hw2:IntKind.i64.wrap ((s2.i:Int)+1)=((s2.i+1:Nat):Int):=by rw [w6z (by omega)];omega
  by_cases h5:k=5
  ·have f6:(1+k == 6)=true:=by simp;omega
   have hm:(k+1 == 6)=true:=by simp;omega
   rw [hm,A1J] at hD;have hm2:isR L E s2 [45]=isP L E s2 5 [[45]]:=F5 hK (by decide +kernel);rw [hm2] at hD;simp only [go_sem,seval,ne0,A0,A1];repeat' ((with_reducible first|refine wr ?_|refine A2 ?_ ?_|fail)<;>try simp only [go_sem,seval,f6,f7,f8,ne0,A0,A1])
   refine AC.call (c_pisO L E s2 _ _ t c2 (by (repeat rw [A3 (by omega)]);exact hfr _ (by omega)) (by repeat (first|exact A0|rw [A3 (by omega)])) (by omega) 5 [[45]] (by simp)) ?_;rintro v H' c3 ⟨rfl,rfl⟩ hc3;cases hq:isP L E s2 5 [[45]] with
   | true =>
    rw [hq,if_pos rfl,if_pos rfl] at hD;have hn2:(A6 s2).i<=L.length:=(U5 (by decide) hq).2.1;have hv2:=hval (A6 s2);have hneg:IntKind.i64.wrap (0-(B1 L E (A6 s2) 3).1.value) = -(B1 L E (A6 s2) 3).1.value:=by rw [w6z (by omega)];omega
    simp only [go_sem,seval,hq,hw2,ne0,A0,A1];repeat' ((with_reducible first|refine wr ?_|refine A2 ?_ ?_|fail)<;>try simp only [go_sem,seval,hw2,ne0,A0,A1])
    have h4i:=Y0 (E:=E) (x:=3) (by decide) hn2;subst hD;refine AC.call (c_ptake L E (A6 s2) _ _ t (by repeat (first|exact A0|rw [A3 (by omega)])) (by omega) (by omega) 3) ?_;rintro v H' c4 ⟨rfl,rfl⟩ hc4;try dsimp only
    simp only [go_sem,seval,hneg,ne0,A0,A1];repeat' ((with_reducible first|refine wr ?_|refine A2 ?_ ?_|fail)<;>try simp only [go_sem,seval,hneg,ne0,A0,A1])
    refine AC.call (c_want L E (B1 L E (A6 s2) 3).2 _ _ t (by repeat (first|exact A0|rw [A3 (by omega)])) (by omega) (by omega) 5 [59]) ?_;rintro v H' c9 ⟨rfl,rfl⟩ hc9;rw [A2n hK (by decide +kernel)];simp only [go_sem,seval,ne0,A0,A1];repeat' ((with_reducible first|refine wr ?_|refine A2 ?_ ?_|fail)<;>try simp only [go_sem,seval,ne0,A0,A1])
    rw [D6 (rv4 rfl A0)];refine ⟨_,_,P6 (cc:=cc) (D5 hfr htc) (fun j hj=>?_),rfl,rfl⟩;simp [Hp.upd,show ¬j=cc by omega,show ¬j=c1 by omega,show ¬j=c1+1+8 by omega];try (split<;>rfl)
   | false =>
    rw [hq,if_neg (by decide),if_neg (by decide)] at hD;simp only [go_sem,seval,hq,ne0,A0,A1];repeat' ((with_reducible first|refine wr ?_|refine A2 ?_ ?_|fail)<;>try simp only [go_sem,seval,ne0,A0,A1])
    have h4i:=Y0 (E:=E) (x:=3) (by decide) hti;subst hD;refine AC.call (c_ptake L E s2 _ _ t (by repeat (first|exact A0|rw [A3 (by omega)])) (by omega) (by omega) 3) ?_;rintro v H' c4 ⟨rfl,rfl⟩ hc4;try dsimp only
    simp only [go_sem,seval,ne0,A0,A1];repeat' ((with_reducible first|refine wr ?_|refine A2 ?_ ?_|fail)<;>try simp only [go_sem,seval,ne0,A0,A1])
    refine AC.call (c_want L E (B1 L E s2 3).2 _ _ t (by repeat (first|exact A0|rw [A3 (by omega)])) (by omega) (by omega) 5 [59]) ?_;rintro v H' c9 ⟨rfl,rfl⟩ hc9;rw [A2n hK (by decide +kernel)];simp only [go_sem,seval,ne0,A0,A1];repeat' ((with_reducible first|refine wr ?_|refine A2 ?_ ?_|fail)<;>try simp only [go_sem,seval,ne0,A0,A1])
    rw [D6 (rv4 rfl A0)];refine ⟨_,_,P6 (cc:=cc) (D5 hfr htc) (fun j hj=>?_),rfl,rfl⟩;simp [Hp.upd,show ¬j=cc by omega,show ¬j=c1 by omega,show ¬j=c1+1+8 by omega];try (split<;>rfl)
  ·have hm:(k+1 == 6)=false:=by simp;omega
   have f6:(1+k == 6)=false:=by simp;omega
   rw [hm,A3K,if_neg (by decide)] at hD;simp only [go_sem,seval,ne0,A0,A1];repeat' ((with_reducible first|refine wr ?_|refine A2 ?_ ?_|fail)<;>try simp only [go_sem,seval,f6,f7,f8,ne0,A0,A1])
   have h4i:=Y0 (E:=E) (x:=3) (by decide) hti;subst hD;refine AC.call (c_ptake L E s2 _ _ t (by repeat (first|exact A0|rw [A3 (by omega)])) (by omega) (by omega) 3) ?_;rintro v H' c4 ⟨rfl,rfl⟩ hc4;try dsimp only
   simp only [go_sem,seval,ne0,A0,A1];repeat' ((with_reducible first|refine wr ?_|refine A2 ?_ ?_|fail)<;>try simp only [go_sem,seval,ne0,A0,A1])
   refine AC.call (c_want L E (B1 L E s2 3).2 _ _ t (by repeat (first|exact A0|rw [A3 (by omega)])) (by omega) (by omega) 5 [59]) ?_;rintro v H' c9 ⟨rfl,rfl⟩ hc9;rw [A2n hK (by decide +kernel)];simp only [go_sem,seval,ne0,A0,A1];repeat' ((with_reducible first|refine wr ?_|refine A2 ?_ ?_|fail)<;>try simp only [go_sem,seval,ne0,A0,A1])
   rw [D6 (rv4 rfl A0)];refine ⟨_,_,P6 (cc:=cc) (D5 hfr htc) (fun j hj=>?_),rfl,rfl⟩;simp [Hp.upd,show ¬j=cc by omega,show ¬j=c1 by omega,show ¬j=c1+1+8 by omega];try (split<;>rfl)
 ·rw [if_neg h6] at hD;have f:((1+k == 7)=true)\/((1+k == 7)=false/\(1+k == 8)=true):=by
   by_cases hh:k=6
   ·left;simp;omega
   ·right;constructor<;>simp<;>omega
  subst hD;rcases f with f7|⟨f7,f8⟩
  ·simp only [go_sem,seval,ne0,A0,A1];repeat' ((with_reducible first|refine wr ?_|refine A2 ?_ ?_|fail)<;>try simp only [go_sem,seval,f7,ne0,A0,A1])
   refine AC.call (c_want L E s2 _ _ t (by repeat (first|exact A0|rw [A3 (by omega)])) (by omega) (by omega) 5 [59]) ?_;rintro v H' c9 ⟨rfl,rfl⟩ hc9;rw [A2n hK (by decide +kernel)];simp only [go_sem,seval,ne0,A0,A1];repeat' ((with_reducible first|refine wr ?_|refine A2 ?_ ?_|fail)<;>try simp only [go_sem,seval,ne0,A0,A1])
   rw [D6 (rv4 rfl A0)];refine ⟨_,_,P6 (cc:=cc) (D5 hfr htc) (fun j hj=>?_),rfl,rfl⟩;simp [Hp.upd,show ¬j=cc by omega,show ¬j=c1 by omega,show ¬j=c1+1+8 by omega];try (split<;>rfl)
  ·simp only [go_sem,seval,ne0,A0,A1];repeat' ((with_reducible first|refine wr ?_|refine A2 ?_ ?_|fail)<;>try simp only [go_sem,seval,f7,f8,ne0,A0,A1])
   refine AC.call (c_want L E s2 _ _ t (by repeat (first|exact A0|rw [A3 (by omega)])) (by omega) (by omega) 5 [59]) ?_;rintro v H' c9 ⟨rfl,rfl⟩ hc9;rw [A2n hK (by decide +kernel)];simp only [go_sem,seval,ne0,A0,A1];repeat' ((with_reducible first|refine wr ?_|refine A2 ?_ ?_|fail)<;>try simp only [go_sem,seval,ne0,A0,A1])
   rw [D6 (rv4 rfl A0)];refine ⟨_,_,P6 (cc:=cc) (D5 hfr htc) (fun j hj=>?_),rfl,rfl⟩;simp [Hp.upd,show ¬j=cc by omega,show ¬j=c1 by omega,show ¬j=c1+1+8 by omega];try (split<;>rfl)
def hdM (L:List Tok) (E:Int) (f:Nat) (s:Rd):Option (Hd × Rd) :=
 let p:=(A4 L E s).pos
 let s2:=A6 s
 let k:=B6 L E s2 C8
 if k<0 then some (⟨0,[],[],p⟩,P2 L E s2) else
 let s3:=A6 s2
 let n:=if 2<=k then (B1 L E s3 1).1.text else []
 let s4:=if 2<=k then (B1 L E s3 1).2 else s3
 match F6 L E f 1 s4 with
 | none=>none
 | some (b,s5)=>some (⟨1+k,n,b,p⟩,s5)
theorem c_phand (L:List Tok) (E:Int) (hL:L.length<=1000000000) (hK:∀ t∈L,I1 t) (f:Nat) (s:Rd) (q:Hd × Rd) (h:hdM L E f s=some q) (hP:PI L s) (hon:isP L E s 2 [[111,110]]=true) :
  ∀ (H:Hp) (cc t:Nat),H t=some (paB L E s)->t<cc->AC Tryz.prog 172 [.ptr t 0] H cc (fun v H' c' => ∃ x s',v=Hd.v x/\H'=H.upd t (paB L E s')/\Eqv s' q.2/\(okR q.2=true->x=q.1)/\PI L s'):=by
 intro H cc t ht htc;obtain ⟨hok,hi,hk2⟩:=U5 (by decide) hon;have htk:B1 L E s 2=(A4 L E s,A6 s):=by
  have hkk:F9 L E s 2=true:=by unfold F9;rw [hok,hk2];rfl
  unfold B1;rw [hkk,if_neg (by decide)]
 have hP1:=hP.nxt hi;have hri:=hP1.i;have hri0:=hP.i;unfold hdM at h;dsimp only at h;have hpa:=A9r (A5l (E:=E) hK (A6 s) (l:=C8) (by decide +kernel));have hkr:B6 L E (A6 s) C8<6:=(C2b L E (A6 s) C8 0).2;have hkx:0<=B6 L E (A6 s) C8->B6 L E (A6 s) C8=Q9 (A4 L E (A6 s)).text 0 C8/\(A4 L E (A6 s)).kind=2/\(A6 s).i<L.length:=fun hh=>by
  rw [decide_eq_true hh] at hpa;obtain ⟨g1,g2,g3⟩:=U5 (by decide) hpa;exact ⟨A1o (A5l hK (A6 s) (by decide +kernel)) (by rw [g1,g3];rfl) 0,g3,g2⟩
 have hix:=c_Idx (A4 L E (A6 s)).text C8 (by decide);refine AC.bodyT B2 rfl (A0A rfl) fun hfr=>?_;repeat' ((with_reducible first|refine wr ?_|refine A2 ?_ ?_|fail)<;>try simp only [go_sem,seval])
 refine AC.call (c_ptake L E s _ _ t (by rw [A3 (by omega)];exact ht) (by omega) (by omega) 2) ?_;rintro v H' c1 ⟨rfl,rfl⟩ hc1;rw [htk];have ne0:=V8 t cc c1 (by omega);simp only [go_sem,seval,ne0,A0,A1];repeat' ((with_reducible first|refine wr ?_|refine cpc c_ptrigs ?_|refine A2 ?_ ?_|fail)<;>try simp only [go_sem,seval,ne0,A0,A1])
 refine AC.call (c_pis L E (A6 s) _ _ t (by repeat (first|exact A0|rw [A3 (by omega)])) (by omega) 2 C8 (by decide)) ?_;rintro v H' c2 ⟨rfl,rfl⟩ hc2;by_cases hk:B6 L E (A6 s) C8<0
 ·rw [if_pos hk] at h;cases h;have hpf:isP L E (A6 s) 2 C8=false:=by rw [hpa];exact decide_eq_false (by omega)
  simp only [go_sem,seval,hpf,ne0,A0,A1];repeat' ((with_reducible first|refine wr ?_|refine cpc c_ptrigs ?_|refine A2 ?_ ?_|fail)<;>try simp only [go_sem,seval,ne0,A0,A1])
  refine AC.call (c_pfail L E (A6 s) _ _ t (by repeat (first|exact A0|rw [A3 (by omega)])) (by omega) 4) ?_;rintro v H' c3 ⟨rfl,rfl⟩ hc3;simp only [go_sem,seval,ne0,A0,A1];repeat' ((with_reducible first|refine wr ?_|refine A2 ?_ ?_|fail)<;>try simp only [go_sem,seval,ne0,A0,A1])
  rw [D6 (rv4 rfl A0)];refine ⟨_,_,(P6 (cc:=cc) (K:=H.upd t (paB L E (pfl L E (A6 s) 4))) (D5 hfr htc) (fun j hj=>?_)).trans (GL.view fun ρ vs hA=>N9 (fun v h=>E2p h) vs hA),⟨0,[],[],(A4 L E s).pos⟩,_,rfl,rfl,.refl _,fun k=>?_,hP1.fl⟩
  ·simp [Hp.upd,show ¬j=cc by omega,show ¬j=c1 by omega];try (split<;>rfl)
  ·exact absurd k (by rw [V5];decide)
 rw [if_neg hk] at h;obtain ⟨hk1,hkd2,hi2⟩:=hkx (by omega);rw [<- hk1] at hix;have hpt:isP L E (A6 s) 2 C8=true:=by rw [hpa];exact decide_eq_true (by omega)
 have htk2:B1 L E (A6 s) 2=(A4 L E (A6 s),A6 (A6 s)):=by
  have hkk:F9 L E (A6 s) 2=true:=by unfold F9;rw [(U5 (by decide) hpt).1,hkd2];rfl
  unfold B1;rw [hkk,if_neg (by decide)]
 have hP2:=hP1.nxt hi2;have hri2:=hP2.i;generalize B6 L E (A6 s) C8=k at *;have hwk:IntKind.i64.wrap (1+k)=1+k:=w6z (by omega);simp only [go_sem,seval,hpt,ne0,A0,A1];repeat' ((with_reducible first|refine wr ?_|refine cpc c_ptrigs ?_|refine A2 ?_ ?_|fail)<;>try simp only [go_sem,seval,ne0,A0,A1])
 refine AC.call (c_ptake L E (A6 s) _ _ t (by repeat (first|exact A0|rw [A3 (by omega)])) (by omega) (by omega) 2) ?_;rintro v H' c3 ⟨rfl,rfl⟩ hc3;rw [htk2];by_cases hk2':2<=k
 ·rw [if_pos hk2',if_pos hk2'] at h;have hd3:decide (1+k≥3)=true:=by simp;omega
  simp only [go_sem,seval,hwk,ne0,A0,A1];repeat' ((with_reducible first|refine wr ?_|refine cpc hix ?_|refine A2 ?_ ?_|fail)<;>try simp only [go_sem,seval,hwk,hd3,ne0,A0,A1])
  refine AC.call (c_ptake L E (A6 (A6 s)) _ _ t (by repeat (first|exact A0|rw [A3 (by omega)])) (by omega) (by omega) 1) ?_;rintro v H' c4 ⟨rfl,rfl⟩ hc4;have hP3:=(hP2.take (E:=E) (x:=1) (by decide)).1;cases hb:F6 L E f 1 (B1 L E (A6 (A6 s)) 1).2 with
  | none=>rw [hb] at h;cases h
  | some qb =>
   obtain ⟨bd,m5⟩:=qb;rw [hb] at h;dsimp only at h;cases h;simp only [go_sem,seval,ne0,A0,A1];repeat' ((with_reducible first|refine wr ?_|refine A2 ?_ ?_|fail)<;>try simp only [go_sem,seval,ne0,A0,A1])
   refine AC.call ((c_pst L E hL hK f).1 1 _ _ (bd,m5) (by decide) (by decide) (.refl _) hb hP3 _ _ t (by repeat (first|exact A0|rw [A3 (by omega)])) (by omega)) ?_;rintro v H' c5 ⟨x,s5,rfl,rfl,q1,q2,q3⟩ hc5;dsimp only at q1 q2;simp only [go_sem,seval,ne0,A0,A1];repeat' ((with_reducible first|refine wr ?_|refine A2 ?_ ?_|fail)<;>try simp only [go_sem,seval,ne0,A0,A1])
   rw [D6 (rv4 rfl A0)];refine ⟨_,_,P6 (cc:=cc) (K:=H.upd t (paB L E s5)) (D5 hfr htc) (fun j hj=>?_),⟨1+k,(B1 L E (A6 (A6 s)) 1).1.text,x,(A4 L E s).pos⟩,s5,rfl,rfl,q1,fun k=>(by rw [q2 k]),q3⟩;simp [Hp.upd,show ¬j=cc by omega,show ¬j=c1 by omega];try (split<;>rfl)
 ·rw [if_neg hk2',if_neg hk2'] at h;have hd3:decide (1+k≥3)=false:=by simp;omega
  cases hb:F6 L E f 1 (A6 (A6 s)) with
  | none=>rw [hb] at h;cases h
  | some qb =>
   obtain ⟨bd,m5⟩:=qb;rw [hb] at h;dsimp only at h;cases h;simp only [go_sem,seval,hwk,ne0,A0,A1];repeat' ((with_reducible first|refine wr ?_|refine cpc hix ?_|refine A2 ?_ ?_|fail)<;>try simp only [go_sem,seval,hwk,hd3,ne0,A0,A1])
   refine AC.call ((c_pst L E hL hK f).1 1 _ _ (bd,m5) (by decide) (by decide) (.refl _) hb hP2 _ _ t (by repeat (first|exact A0|rw [A3 (by omega)])) (by omega)) ?_;rintro v H' c5 ⟨x,s5,rfl,rfl,q1,q2,q3⟩ hc5;dsimp only at q1 q2;simp only [go_sem,seval,ne0,A0,A1];repeat' ((with_reducible first|refine wr ?_|refine A2 ?_ ?_|fail)<;>try simp only [go_sem,seval,ne0,A0,A1])
   rw [D6 (rv4 rfl A0)];refine ⟨_,_,P6 (cc:=cc) (K:=H.upd t (paB L E s5)) (D5 hfr htc) (fun j hj=>?_),⟨1+k,[],x,(A4 L E s).pos⟩,s5,rfl,rfl,q1,fun k=>(by rw [q2 k]),q3⟩;simp [Hp.upd,show ¬j=cc by omega,show ¬j=c1 by omega];try (split<;>rfl)
theorem C3k {L:List Tok} {E:Int} {g:Nat} {l:List Hd} {s:Rd} {r:List Hd × Rd} (h:K5 L E g l s=some r) (ho:okR s=false):r.2=s:=by
 cases g with
 | zero=>simp [K5] at h
 | succ g =>
  unfold K5 at h;dsimp only at h;rw [ho,if_neg (by simp),A7e ho] at h;cases h;rfl
theorem D0u {L:List Tok} {E:Int} {s:Rd} {w:List UInt8} (h:isR L E s w=true):C5 L E s w=A6 s:=by unfold C5;rw [h,if_neg (by decide)]
theorem C9m {L:List Tok} {E:Int} {g:Nat} {l:List Hd} {u:Rd} {r:List Hd × Rd} (hok:okR u=true) (hnb:isR L E u [125]=false) (hon:isR L E u [111,110]=true) (hl:l.length+1<=32) (h:K5 L E (g+1) l u=some r) :
  ∃ q,hdM L E g u=some q/\(okR q.2=true->K5 L E g (l++[q.1]) q.2=some r)/\(okR q.2=false->r.2=q.2):=by
 unfold K5 at h;dsimp only at h;rw [if_pos ⟨hok,hnb⟩,if_neg (by simp [hon]),A1u (by omega),D0u hon] at h;unfold hdM;dsimp only;by_cases hk:B6 L E (A6 u) C8<0
 ·rw [if_pos hk] at h ⊢;cases h;exact ⟨_,rfl,fun k=>(by rw [V5] at k;cases k),fun _=>rfl⟩
 ·rw [if_neg hk] at h ⊢;generalize (if 2<=B6 L E (A6 u) C8 then (B1 L E (A6 (A6 u)) 1).2 else A6 (A6 u))=s4 at h ⊢;cases hb:F6 L E g 1 s4 with
  | none=>rw [hb] at h;cases h
  | some qb =>
   obtain ⟨bd,m5⟩:=qb;rw [hb] at h;dsimp only at h ⊢;exact ⟨_,rfl,fun _=>h,fun k=>C3k h k⟩
theorem c_pmode (L:List Tok) (E:Int) (hL:L.length<=1000000000) (hK:∀ t∈L,I1 t) (f:Nat) (s:Rd) (r:Md × Rd) (h:A0l L E f s=some r) (hP:PI L s) (hmo:isP L E s 2 [[109,111,100,101]]=true) :
  ∀ (H:Hp) (cc t:Nat),H t=some (paB L E s)->t<cc->AC Tryz.prog 127 [.ptr t 0] H cc (fun v H' c' => ∃ x s',v=Md.v x/\H'=H.upd t (paB L E s')/\Eqv s' r.2/\(okR r.2=true->x=r.1)/\PI L s'):=by
 intro H cc t ht htc;obtain ⟨hok0,hi0,hk2⟩:=U5 (by decide) hmo;have htk:B1 L E s 2=(A4 L E s,A6 s):=by
  have hkk:F9 L E s 2=true:=by unfold F9;rw [hok0,hk2];rfl
  unfold B1;rw [hkk,if_neg (by decide)]
 have hP1:=hP.nxt hi0;unfold A0l at h;dsimp only at h;have hmoR:isR L E s [109,111,100,101]=true:=by rw [X4 hK (by decide +kernel)];exact hmo
 rw [D0u hmoR] at h;have hri0:=hP.i;have hri1:=hP1.i;have b2:=(hP1.take (E:=E) (x:=1) (by decide)).1;generalize hs1:A6 s=s1 at h b2 hP1 hri1 htk;have b3:=(b2.take (E:=E) (x:=3) (by decide)).1;have b4:=(b3.want (E:=E) (k:=5) (w:=[123]) (by decide)).1;rw [A2n hK (by decide +kernel)] at b4;refine AC.bodyT B2 rfl (A0A rfl) fun hfr=>?_;repeat' ((with_reducible first|refine wr ?_|refine A2 ?_ ?_|fail)<;>try simp only [go_sem,seval])
 refine AC.call (c_ptake L E s _ _ t (by rw [A3 (by omega)];exact ht) (by omega) (by omega) 2) ?_;rintro v H' c1 ⟨rfl,rfl⟩ hc1;rw [htk];have ne0:=V8 t cc c1 (by omega);simp only [go_sem,seval,ne0,A0,A1];repeat' ((with_reducible first|refine wr ?_|refine A2 ?_ ?_|fail)<;>try simp only [go_sem,seval,ne0,A0,A1])
 refine AC.call (c_ptake L E s1 _ _ t (by repeat (first|exact A0|rw [A3 (by omega)])) (by omega) (by omega) 1) ?_;rintro v H' c3 ⟨rfl,rfl⟩ hc3;simp only [go_sem,seval,ne0,A0,A1];repeat' ((with_reducible first|refine wr ?_|refine A2 ?_ ?_|fail)<;>try simp only [go_sem,seval,ne0,A0,A1])
 generalize (B1 L E s1 1).1.text=n at h ⊢;generalize (B1 L E s1 1).2=s2 at h b2 b3 b4 ⊢;have hri2:=b2.i;refine AC.call (c_ptake L E s2 _ _ t (by repeat (first|exact A0|rw [A3 (by omega)])) (by omega) (by omega) 3) ?_;rintro v H' c4 ⟨rfl,rfl⟩ hc4;simp only [go_sem,seval,ne0,A0,A1];repeat' ((with_reducible first|refine wr ?_|refine A2 ?_ ?_|fail)<;>try simp only [go_sem,seval,ne0,A0,A1])
 have hri3:=b3.i;refine AC.call (c_want L E (B1 L E s2 3).2 _ _ t (by repeat (first|exact A0|rw [A3 (by omega)])) (by omega) (by omega) 5 [123]) ?_;rintro v H' c5 ⟨rfl,rfl⟩ hc5;rw [A2n hK (by decide +kernel)];generalize (B1 L E s2 3).1.value=z at h ⊢;generalize C5 L E (B1 L E s2 3).2 [123]=s3 at h b4 ⊢;generalize (A4 L E s).pos=p at h ⊢;cases hm:K5 L E f [] s3 with
 | none=>rw [hm] at h;cases h
 | some q =>
  obtain ⟨hl,s4⟩:=q;rw [hm] at h;dsimp only at h;cases h;simp only [go_sem,seval,ne0,A0,A1];repeat' ((with_reducible first|refine wr ?_|refine A2 ?_ ?_|fail)<;>try simp only [go_sem,seval,ne0,A0,A1])
  refine D2 (fun _:Nat × Option Nat × List Hd × Rd=>[(0,.ptr t 0),(2,.ptr cc 0),(3,.ptr c1 0)]) (fun q=>D4 (((H.upd cc ⟨0,true,[.str [],I64 0,.snil,I64 0]⟩).upd c1 ⟨0,true,[.str n,I64 z,C4 q.2.1 q.2.2.1.length,I64 p]⟩).upd t (paB L E q.2.2.2)) q.2.1 ⟨4,true,A8 (q.2.2.1.map Hd.v)⟩)
   (fun q c=>c1+1<=c/\q.1<=f/\(q.2.1=none->q.2.2.1=[])/\(∀ i,q.2.1=some i->c1<i/\i<c)/\q.2.2.1.length<=32/\PI L q.2.2.2/\((okR q.2.2.2=true/\K5 L E q.1 q.2.2.1 q.2.2.2=some (hl,s4))\/(okR q.2.2.2=false/\Eqv q.2.2.2 s4))) (fun q=>q.1) (f,none,[],s3)
   (by simp [C6,tm,Tm.upd]) (fun j b hj=>?_) ⟨by omega,A0H _,fun _=>rfl,(fun i hi=>by cases hi),by simp,b4,by
    cases ho:okR s3 with
    | true=>exact .inl ⟨rfl,hm⟩
    | false=>exact .inr ⟨rfl,by have:=C3k hm ho;dsimp only at this;rw [this];exact .refl _⟩⟩ ?_
  ·simp only [D4,B4j] at hj;by_cases e1:j=t
   ·subst e1;rw [A0] at hj ⊢;exact hj
   ·rw [A3 e1] at hj ⊢;by_cases e2:j=c1
    ·subst e2;rw [A0] at hj ⊢;exact hj
    ·rw [A3 e2] at hj ⊢;simp only [A3 e1,A3 e2];exact hj
  clear hm b2 b3 b4;rintro ⟨g,o,l,u⟩ c ⟨hc,hg,hno,ho,hl1,hPu,hv⟩;dsimp only at hc hg hno ho hl1 hPu hv ⊢;have hriu:=hPu.i;have hHt:D4 (((H.upd cc ⟨0,true,[.str [],I64 0,.snil,I64 0]⟩).upd c1 ⟨0,true,[.str n,I64 z,C4 o l.length,I64 p]⟩).upd t (paB L E u)) o ⟨4,true,A8 (l.map Hd.v)⟩ t=some (paB L E u):=by rw [F3 (fun i hi=>by have:=ho i hi;omega),A0]
  have hbx:(D4 (((H.upd cc ⟨0,true,[.str [],I64 0,.snil,I64 0]⟩).upd c1 ⟨0,true,[.str n,I64 z,C4 o l.length,I64 p]⟩).upd t (paB L E u)) o ⟨4,true,A8 (l.map Hd.v)⟩) c1=some ⟨0,true,[.str n,I64 z,C4 o l.length,I64 p]⟩:=by rw [F3 (fun i hi=>by have:=ho i hi;omega),A3 (by omega),A0]
  have hbo:∀ i:Nat,o=some i->(D4 (((H.upd cc ⟨0,true,[.str [],I64 0,.snil,I64 0]⟩).upd c1 ⟨0,true,[.str n,I64 z,C4 o l.length,I64 p]⟩).upd t (paB L E u)) o ⟨4,true,A8 (l.map Hd.v)⟩) i=some ⟨4,true,A8 (l.map Hd.v)⟩:=fun i hi=>by subst hi;exact A0
  have hbj:∀ j:Nat,j<cc->¬ j=t->(D4 (((H.upd cc ⟨0,true,[.str [],I64 0,.snil,I64 0]⟩).upd c1 ⟨0,true,[.str n,I64 z,C4 o l.length,I64 p]⟩).upd t (paB L E u)) o ⟨4,true,A8 (l.map Hd.v)⟩) j=H j:=fun j h1 h2=>by rw [F3 (fun i hi=>by have:=ho i hi;omega),A3 h2,A3 (by omega),A3 (by omega)]
  have hb0:(D4 (((H.upd cc ⟨0,true,[.str [],I64 0,.snil,I64 0]⟩).upd c1 ⟨0,true,[.str n,I64 z,C4 o l.length,I64 p]⟩).upd t (paB L E u)) o ⟨4,true,A8 (l.map Hd.v)⟩) cc=some ⟨0,true,[.str [],I64 0,.snil,I64 0]⟩:=by rw [F3 (fun i hi=>by have:=ho i hi;omega),A3 (by omega),A3 (by omega),A0]
  have hbn:∀ j:Nat,c<=j->(D4 (((H.upd cc ⟨0,true,[.str [],I64 0,.snil,I64 0]⟩).upd c1 ⟨0,true,[.str n,I64 z,C4 o l.length,I64 p]⟩).upd t (paB L E u)) o ⟨4,true,A8 (l.map Hd.v)⟩) j=none:=fun j h1=>by rw [F3 (fun i hi=>by have:=ho i hi;omega),A3 (by omega),A3 (by omega),A3 (by omega)];exact hfr _ (by omega)
  have hT:(C4 o l.length).one=true:=by cases o<;>rfl
  have hlen:B2g (C4 o l.length)=some (I64 l.length):=by
   cases o with
   | none=>rw [hno rfl];rfl
   | some b=>rfl
  generalize hHH:D4 (((H.upd cc ⟨0,true,[.str [],I64 0,.snil,I64 0]⟩).upd c1 ⟨0,true,[.str n,I64 z,C4 o l.length,I64 p]⟩).upd t (paB L E u)) o ⟨4,true,A8 (l.map Hd.v)⟩=HH at hHt hbx hbo hbj hb0 hbn ⊢;have fin:∀ (u2:Rd) (e:DV) (x:Blk) (q1 q2:DV),GL ((HH.upd t (paB L E u2)).upd cc x) [.agg [q1,q2,C4 o l.length,e]] (H.upd t (paB L E u2)) [.agg [q1,q2,A0z l,e]]:=fun u2 e x q1 q2 =>
   E5g (cc:=cc) l (D5 hfr htc) (fun i hi=>by have:=ho i hi;omega) hno (fun i hi=>by have:=ho i hi;rw [A3 (by omega),A3 (by omega)];exact hbo i hi) (fun j hj=>by
    rw [A3 (by omega)];by_cases e1:j=t
    ·subst e1;rw [A0,A0]
    ·rw [A3 e1,A3 e1,hbj j hj e1])
  repeat' ((with_reducible first|refine wr ?_|refine A2 ?_ ?_|fail)<;>try simp only [go_sem,seval])
  refine AC.call (c_pisO L E u HH _ t c (hbn c (A0H _)) hHt (by omega) 2 [[111,110]] (by simp)) ?_;rintro v H' c6 ⟨rfl,rfl⟩ hc6;have hend:isP L E u 2 [[111,110]]=false->Eqv (E8 L E u 5 [125]) s4/\(okR s4=true->l=hl):=fun hon=>by
   rcases hv with ⟨hok,hv⟩|⟨hok,hv⟩
   ·cases g with
    | zero=>simp [K5] at hv
    | succ g =>
     unfold K5 at hv;dsimp only at hv;by_cases hb:isR L E u [125]=false
     ·rw [if_pos ⟨hok,hb⟩,if_pos (by rw [X4 hK (by decide +kernel)];exact hon)] at hv;cases hv;have hw:E8 L E u 5 [125]=P2 L E u:=by rw [E8, <- F5 hK (by decide +kernel),if_pos hb];rfl
      rw [hw];exact ⟨.refl _,fun _=>rfl⟩
     ·rw [if_neg (fun hh=>hb hh.2)] at hv;cases hv;rw [A2n hK (by decide +kernel)];exact ⟨.refl _,fun _=>rfl⟩
   ·rw [A9w hok];exact ⟨hv,fun k=>by rw [<- hv.ok,hok] at k;cases k⟩
  cases hon:isP L E u 2 [[111,110]] with
  | false =>
   obtain ⟨r1,r2⟩:=hend hon;have b7:=(hPu.want (E:=E) (k:=5) (w:=[125]) (by decide)).1;simp only [go_sem,seval,hon];repeat' ((with_reducible first|refine wr ?_|refine A2 ?_ ?_|fail)<;>try simp only [go_sem,seval,hon])
   refine AC.call (c_want L E u _ _ t hHt (by omega) (by omega) 5 [125]) ?_;rintro v H' c7 ⟨rfl,rfl⟩ hc7;simp only [go_sem,seval,ne0,A0,hbx,hb0,hT];repeat' ((with_reducible first|refine wr ?_|refine A2 ?_ ?_|fail)<;>try simp only [go_sem,seval,ne0,A0,hbx,hb0,hT])
   refine D0 (C6a (by rfl) (by decide) (by clear hHH;cases o<;>rfl)) ?_;simp only [go_sem,seval,ne0,A0];repeat' ((with_reducible first|refine wr ?_|refine A2 ?_ ?_|fail)<;>try simp only [go_sem,seval,ne0,A0])
   rw [D6 (rv4 rfl A0)];exact ⟨_,_,fin _ _ _ _ _,⟨n,z,l,p⟩,_,rfl,rfl,r1,fun k=>(by rw [r2 k]),b7⟩
  | true =>
   obtain ⟨hok,hlt,hkd2⟩:=U5 (by decide) hon;have hv:K5 L E g l u=some (hl,s4):=by
    rcases hv with ⟨-,hv⟩|⟨hn, -⟩
    ·exact hv
    ·rw [hok] at hn;cases hn
   have hnb:isR L E u [125]=false:=by
    rw [F5 hK (by decide +kernel)];unfold isP;rw [hkd2];simp
   have honR:isR L E u [111,110]=true:=by rw [X4 hK (by decide +kernel)];exact hon
   cases g with
   | zero=>simp [K5] at hv
   | succ g =>
   by_cases h32:l.length=32
   ·have hd32:((l.length:Int) == 32)=true:=by simp;omega
    have hs4:s4=pfl L E u 9:=by
     unfold K5 at hv;dsimp only at hv;have hl9:B9 L E u ((l.length:Int)+1) 32 9=pfl L E u 9:=by rw [Z2,if_pos (by omega)]
     have hnk:okR (pfl L E u 9)=false:=by unfold pfl;exact O7 (by decide)
     rw [if_pos ⟨hok,hnb⟩,if_neg (by simp [honR]),hl9,A7e hnk,B6,A3e hnk,if_pos (by decide),A9e hnk] at hv;cases hv;rfl
    have hnk:okR (pfl L E u 9)=false:=by unfold pfl;exact O7 (by decide)
    simp only [go_sem,seval,hon];repeat' ((with_reducible first|refine wr ?_|refine A2 ?_ ?_|fail)<;>try simp only [go_sem,seval,hon,hbx,hlen,hd32])
    refine AC.call (c_pfail L E u _ _ t hHt (by omega) 9) ?_;rintro v H' c7 ⟨rfl,rfl⟩ hc7;have b7:=hPu.fl (E:=E) (e:=9);have hri7:=b7.i;simp only [go_sem,seval];repeat' ((with_reducible first|refine wr ?_|refine A2 ?_ ?_|fail)<;>try simp only [go_sem,seval])
    refine AC.call (c_want L E (pfl L E u 9) _ _ t A0 (by omega) (by omega) 5 [125]) ?_;rintro v H' c8 ⟨rfl,rfl⟩ hc8;rw [A9w hnk,A1];simp only [go_sem,seval,ne0,A0,hbx,hb0,hT];repeat' ((with_reducible first|refine wr ?_|refine A2 ?_ ?_|fail)<;>try simp only [go_sem,seval,ne0,A0,hbx,hb0,hT])
    refine D0 (C6a (by rfl) (by decide) (by clear hHH;cases o<;>rfl)) ?_;simp only [go_sem,seval,ne0,A0];repeat' ((with_reducible first|refine wr ?_|refine A2 ?_ ?_|fail)<;>try simp only [go_sem,seval,ne0,A0])
    rw [D6 (rv4 rfl A0)];refine ⟨_,_,fin _ _ _ _ _,⟨n,z,l,p⟩,_,rfl,rfl,by rw [hs4];exact .refl _,fun k=>?_,b7⟩;rw [hs4,hnk] at k;cases k
   have hd32:((l.length:Int) == 32)=false:=by simp;omega
   obtain ⟨q,hq1,hq2,hq3⟩:=C9m hok hnb honR (by omega) hv;simp only [go_sem,seval,hon];repeat' ((with_reducible first|refine wr ?_|refine A2 ?_ ?_|fail)<;>try simp only [go_sem,seval,hon,hbx,hlen,hd32])
   refine AC.call (c_phand L E hL hK g u q hq1 hPu hon _ _ t hHt (by omega)) ?_;rintro v H' c7 ⟨x,s5,rfl,rfl,y1,y2,y3⟩ hc7;have ne0:=A0k t cc c1 (c6+4) c7 (by omega);simp only [go_sem,seval,ne0,A0,A1,hbx];repeat' ((with_reducible first|refine wr ?_|refine A2 ?_ ?_|fail)<;>try simp only [go_sem,seval,ne0,A0,A1,hbx])
   refine ⟨⟨by rw [A3 (by omega)];exact hbn _ (by omega),by rw [A3 (by omega)];exact hbn _ (by omega)⟩,?_⟩;have hl4:(A8 (l.map Hd.v)).length=l.length * 4:=B8 (u:=4) (A4r _) |>.trans (by simp);refine M5 (L6 (cs:=A8 (l.map Hd.v)) (fun e=>by rw [hno e];exact ⟨rfl,rfl⟩) (fun i hi=>?_) hl4 (by omega) (by omega) (by omega)) ?_
   ·have:=ho i hi
    repeat rw [A3 (by omega)]
    exact hbo i hi
   have hdx:∀ X:Hp,A2h X o c1=X c1:=fun X=>N2 (fun i hi=>by have:=ho i hi;omega);simp only [go_sem,seval,ne0,A0,A1,hdx,hbx];repeat' ((with_reducible first|refine wr ?_|refine A2 ?_ ?_|fail)<;>try simp only [go_sem,seval,ne0,A0,A1,hdx,hbx])
   refine ⟨(g,some c7,l++[x],s5),?_,inv ⟨by omega,by simp only;omega,(fun h=>by cases h),(fun i hi=>by cases hi;omega),by simp only [A0C,A0K];omega,y3,?_⟩,by simp only;omega⟩
   ·intro j b hj;simp only [D4,B0d,A0C,A0K,A0Z,H6] at hj;by_cases e1:j=c7
    ·subst e1;rw [A0] at hj;rw [A3 (by omega),A0, <- hj];rfl
    rw [A3 e1] at hj;by_cases e2:j=t
    ·subst e2;rw [A0] at hj;rw [A3 (by omega),A3 (by omega),N2 (fun i hi=>by have:=ho i hi;omega),A3 (by omega),A0];exact hj
    rw [A3 e2] at hj;by_cases e3:j=c1
    ·subst e3;rw [A0] at hj ⊢;exact hj
    rw [A3 e3] at hj ⊢;by_cases e4:j=cc
    ·subst e4;rw [A0] at hj;rw [A3 (by omega),N2 (fun i hi=>by have:=ho i hi;omega)]
     repeat rw [A3 (by omega)]
     rw [hb0];exact hj
    ·rw [A3 e4] at hj;have hjc:j<cc:=Classical.byContradiction fun h=>by rw [hfr j (by omega)] at hj;cases hj
     rw [A3 (by omega),N2 (fun i hi=>by have:=ho i hi;omega)]
     repeat rw [A3 (by omega)]
     rw [hbj j hjc e2];exact hj
   ·dsimp only;cases k:okR q.2 with
    | true =>
     have e5:=y1.s k;rw [y2 k,e5];exact .inl ⟨k,hq2 k⟩
    | false =>
     have e5:=hq3 k;dsimp only at e5;rw [e5];exact .inr ⟨by rw [y1.ok,k],y1⟩
end Go.Proofs.YthlpinppaclofaaGreatDoor
set_option maxHeartbeats 4000000
namespace Go.Proofs.YthlpinppaclofaaGreatDoor
open Go.Eng (IC IOper DReg IFn J0)
open Go.Sym Go.Pb
theorem E7f {ρ : Ren} {v:Value} {a:DV} (h:VRel ρ (.agg [a,.snil]) v):VRel ρ (.agg [a,.lst []]) v:=by
 obtain ⟨bb,rfl,k1,k2⟩:=h.agg_inv;refine .agg _ _ k1 fun j x y hx hy=>?_
 match j with
 | 0=>cases hx;exact k2 0 _ y rfl hy
 | 1=>cases hx;exact (k2 1 _ y rfl hy).snil_lst
 | _+2=>cases hx
theorem E5f {K H':Hp} {cc:Nat} {o:Option Nat} {a:DV} (l:List Md) (hK:∀ i,cc<=i->K i=none) (ho:∀ i,o=some i->cc<=i) (hno:o=none->l=[]) (hb:∀ i,o=some i->H' i=some ⟨4,true,A8 (l.map Md.v)⟩) (h:∀ j,j<cc->H' j=K j) :
  GL H' [.agg [a,C4 o l.length]] K [.agg [a,U2 l]]:=by
 cases o with
 | none =>
  obtain rfl:=hno rfl;exact (P6 hK h).trans (GL.view fun ρ vs hA=>N9 (fun v h=>E7f h) vs hA)
 | some i =>
  have:=ho i rfl;exact GL.frzS (id:=i) (hb i rfl) rfl (fun j=>by
   by_cases hj:j<cc
   ·exact .inr ⟨by omega,(h j hj).symm⟩
   ·exact .inl (hK j (by omega))) (.cons _ _ _ _ (.agg _ _ (.cons _ _ _ _ (.same _) (.cons _ _ _ _ (M9 (u:=4) (by simp) (A4o l) ⟨[],by simp⟩) .nil))) .nil)
theorem rv2 {s:Sym.St} {x i u:Nat} {a b:DV} {o:Bool} (h:s.T x=.ptr i 0) (hb:s.H i=some ⟨u,o,[a,b]⟩):A3j s [.cell x 2 true]=some (.agg [a,b]):=by
 simp only [A3j,A5r,h,ldv,ldB,hb];rfl
end Go.Proofs.YthlpinppaclofaaGreatDoor
set_option maxHeartbeats 8000000
namespace Go.Proofs.YthlpinppaclofaaGreatDoor
open Go.Eng (IC IOper DReg IFn J0)
open Go.Sym Go.Pb
theorem A9i {L:List Tok} {E:Int} {g:Nat} {l:List Md} {s:Rd} {r:List Md × Rd} (h:I9 L E g l s=some r) (ho:okR s=false):r=(l,s):=by
 cases g with
 | zero=>simp [I9] at h
 | succ g =>
  unfold I9 at h;dsimp only at h;rw [ho,if_neg (by simp)] at h;cases h;rfl
theorem C2w {L:List Tok} {E:Int} {g:Nat} {l:List Dc} {s:Rd} {r:List Dc × Rd} (h:J9 L E g l s=some r) (ho:okR s=false):r=(l,s):=by
 cases g with
 | zero=>simp [J9] at h
 | succ g =>
  unfold J9 at h;dsimp only at h;rw [B6,A3e ho,if_pos (by decide)] at h;cases h;rfl
theorem C8t {L:List Tok} {E:Int} (hK:∀ t∈L,I1 t) {s:Rd} {w:List UInt8} (hw:E4 w=false) (h:PI L s):PI L (C5 L E s w):=by
 rw [<- A2n hK hw];exact (h.want (by decide)).1
theorem D9q {L:List Tok} {E:Int} (hK:∀ t∈L,I1 t) {s:Rd} {k:Int} (h:PI L s) (hi:s.i<L.length):PI L (Q7 L E k s).2:=by
 unfold Q7;dsimp only;have h1:=((h.nxt hi).take (E:=E) (x:=1) (by decide)).1;generalize (B1 L E (A6 s) 1).2=s2 at h1 ⊢;split
 ·have h2:PI L (if (k+1 == 6 && isR L E s2 [45])=true then A6 s2 else s2):=by
   split
   ·rename_i hh;simp only [A0D] at hh;exact h1.nxt (A1g hh.2).2
   ·exact h1
  exact C8t hK (by decide +kernel) ((h2.take (E:=E) (x:=3) (by decide)).1)
 ·exact C8t hK (by decide +kernel) h1
theorem c_prules (L:List Tok) (E:Int) (hL:L.length<=1000000000) (hv0:∀ x∈L,0<=x.value/\x.value<=9223372036854775807) (hK:∀ t∈L,I1 t) (f:Nat) (s:Rd) (r:Ru × Rd) (h:Y8 L E f s=some r) (hP:PI L s) :
  ∀ (H:Hp) (cc t:Nat),H t=some (paB L E s)->t<cc->AC Tryz.prog 73 [.ptr t 0] H cc (fun v H' c' => ∃ x s',v=Ru.v x/\H'=H.upd t (paB L E s')/\Eqv s' r.2/\(okR r.2=true->x=r.1)/\PI L s'):=by
 intro H cc t ht htc;refine AC.bodyT B2 rfl (A0A rfl) fun hfr=>?_;unfold Y8 at h;cases hd:J9 L E f [] s with
 | none=>rw [hd] at h;cases h
 | some q =>
 obtain ⟨dl,s1⟩:=q;rw [hd] at h;dsimp only at h;cases hm:I9 L E f [] s1 with
 | none=>rw [hm] at h;cases h
 | some q =>
 obtain ⟨ml,s2⟩:=q;rw [hm] at h;cases h;have tail:∀ (o:Option Nat) (l:List Dc) (u:Rd) (c:Nat),cc+2<=c->(o=none->l=[])->(∀ i,o=some i->cc+1<i/\i<c)->PI L u->((okR u=true/\l=dl/\u=s1)\/(okR u=false/\Eqv u s1)) ->
   IW Tryz.prog 39 (pz Tryz.prog 73 (.o (.o (.o (.i .h))))) ⟨tm [(0,.ptr t 0),(2,.ptr cc 0),(3,.ptr (cc+1) 0)],D4 (((H.upd cc ⟨0,true,[.snil,.snil]⟩).upd t (paB L E u)).upd (cc+1) ⟨0,true,[C4 o l.length,.snil]⟩) o ⟨4,true,A8 (l.map Dc.v)⟩,c⟩ (rt [.cell 2 2 true] fun v H' c' => ∃ v2 H2,GL H' [v] H2 [v2]/\∃ x s',v2=Ru.v x/\H2=H.upd t (paB L E s')/\Eqv s' s2/\(okR s2=true->x=⟨dl,ml⟩)/\PI L s'):=by
  intro o l u c hc hno ho hPu hv;refine IW.keep [0,2,3] [.ptr t 0,.ptr cc 0,.ptr (cc+1) 0] (E5k (Hb:=(H.upd cc ⟨0,true,[.snil,.snil]⟩).upd t (paB L E u)) (ci:=cc+1) (u:=4) (pre:=[]) (suf:=[.snil]) (xs:=l.map Dc.v) (by simp [DV.one]) (fun h=>by rw [hno h];rfl) (fun i hi=>by have:=ho i hi;exact ⟨by omega,by rw [A3 (by omega),A3 (by omega)];exact hfr i (by omega)⟩) (by simp) (A4y _)) ?_;repeat' ((with_reducible first|refine wr ?_|refine A2 ?_ ?_|fail)<;>try simp only [go_sem,seval])
  refine D2 (fun q:Nat × Option Nat × List Md × Rd=>[(0,.ptr t 0),(2,.ptr cc 0),(3,.ptr (cc+1) 0)]) (fun q=>D4 (((H.upd cc ⟨0,true,[.snil,.snil]⟩).upd t (paB L E q.2.2.2)).upd (cc+1) ⟨0,true,[O1 l,C4 q.2.1 q.2.2.1.length]⟩) q.2.1 ⟨4,true,A8 (q.2.2.1.map Md.v)⟩)
   (fun q c=>cc+2<=c/\q.1<=f/\(q.2.1=none->q.2.2.1=[])/\(∀ i,q.2.1=some i->cc+1<i/\i<c)/\q.2.2.1.length<=16/\PI L q.2.2.2/\((okR q.2.2.2=true/\l=dl/\I9 L E q.1 q.2.2.1 q.2.2.2=some (ml,s2))\/(okR q.2.2.2=false/\Eqv q.2.2.2 s2))) (fun q=>q.1) (f,none,[],u)
   (by simp [C6,tm,Tm.upd]) (fun j b hj=>hj) ⟨by omega,A0H _,fun _=>rfl,(fun i hi=>by cases hi),by simp,hPu,by
    rcases hv with ⟨g1,g2,g3⟩|⟨g1,g2⟩
    ·exact .inl ⟨g1,g2,by dsimp only;rw [g3];exact hm⟩
    ·have:=A9i hm (by rw [<- g2.ok];exact g1);cases this;exact .inr ⟨g1,g2⟩⟩ ?_
  clear hv hno ho hPu;rintro ⟨g,o,m,u⟩ c ⟨hc,hg,hno,ho,hl1,hPu,hv⟩;dsimp only at hc hg hno ho hl1 hPu hv ⊢;have hriu:=hPu.i;have hlen:B2g (C4 o m.length)=some (I64 m.length):=by
   cases o with
   | none=>rw [hno rfl];rfl
   | some b=>rfl
  have hHt:D4 (((H.upd cc ⟨0,true,[.snil,.snil]⟩).upd t (paB L E u)).upd (cc+1) ⟨0,true,[O1 l,C4 o m.length]⟩) o ⟨4,true,A8 (m.map Md.v)⟩ t=some (paB L E u):=by rw [F3 (fun i hi=>by have:=ho i hi;omega),A3 (by omega),A0]
  have hbx:D4 (((H.upd cc ⟨0,true,[.snil,.snil]⟩).upd t (paB L E u)).upd (cc+1) ⟨0,true,[O1 l,C4 o m.length]⟩) o ⟨4,true,A8 (m.map Md.v)⟩ (cc+1)=some ⟨0,true,[O1 l,C4 o m.length]⟩:=by rw [F3 (fun i hi=>by have:=ho i hi;omega),A0]
  have hbo:∀ i:Nat,o=some i->D4 (((H.upd cc ⟨0,true,[.snil,.snil]⟩).upd t (paB L E u)).upd (cc+1) ⟨0,true,[O1 l,C4 o m.length]⟩) o ⟨4,true,A8 (m.map Md.v)⟩ i=some ⟨4,true,A8 (m.map Md.v)⟩:=fun i hi=>by subst hi;exact A0
  have hbj:∀ j:Nat,j<cc->¬ j=t->D4 (((H.upd cc ⟨0,true,[.snil,.snil]⟩).upd t (paB L E u)).upd (cc+1) ⟨0,true,[O1 l,C4 o m.length]⟩) o ⟨4,true,A8 (m.map Md.v)⟩ j=H j:=fun j h1 h2=>by rw [F3 (fun i hi=>by have:=ho i hi;omega),A3 (by omega),A3 h2,A3 (by omega)]
  have hb0:D4 (((H.upd cc ⟨0,true,[.snil,.snil]⟩).upd t (paB L E u)).upd (cc+1) ⟨0,true,[O1 l,C4 o m.length]⟩) o ⟨4,true,A8 (m.map Md.v)⟩ cc=some ⟨0,true,[.snil,.snil]⟩:=by rw [F3 (fun i hi=>by have:=ho i hi;omega),A3 (by omega),A3 (by omega),A0]
  have hbn:∀ j:Nat,c<=j->D4 (((H.upd cc ⟨0,true,[.snil,.snil]⟩).upd t (paB L E u)).upd (cc+1) ⟨0,true,[O1 l,C4 o m.length]⟩) o ⟨4,true,A8 (m.map Md.v)⟩ j=none:=fun j h1=>by rw [F3 (fun i hi=>by have:=ho i hi;omega),A3 (by omega),A3 (by omega),A3 (by omega)];exact hfr _ (by omega)
  have hT:(C4 o m.length).one=true:=by cases o<;>rfl
  generalize hHH:D4 (((H.upd cc ⟨0,true,[.snil,.snil]⟩).upd t (paB L E u)).upd (cc+1) ⟨0,true,[O1 l,C4 o m.length]⟩) o ⟨4,true,A8 (m.map Md.v)⟩=HH at hHt hbx hbo hbj hb0 hbn ⊢;have fin:∀ (u2:Rd) (x:Blk),GL ((HH.upd t (paB L E u2)).upd cc x) [.agg [O1 l,C4 o m.length]] (H.upd t (paB L E u2)) [.agg [O1 l,U2 m]]:=fun u2 x =>
   E5f (cc:=cc) m (D5 hfr htc) (fun i hi=>by have:=ho i hi;omega) hno (fun i hi=>by have:=ho i hi;rw [A3 (by omega),A3 (by omega)];exact hbo i hi) (fun j hj=>by
    rw [A3 (by omega)];by_cases e1:j=t
    ·subst e1;rw [A0,A0]
    ·rw [A3 e1,A3 e1,hbj j hj e1])
  have ne0:=V8 t cc (cc+1) (by omega);repeat' ((with_reducible first|refine wr ?_|refine A2 ?_ ?_|fail)<;>try simp only [go_sem,seval])
  refine AC.call (c_pisO L E u HH _ t c (hbn c (A0H _)) hHt (by omega) 2 [[109,111,100,101]] (by simp)) ?_;rintro v H' c2 ⟨rfl,rfl⟩ hc2;cases hmo:isP L E u 2 [[109,111,100,101]] with
  | false =>
   have hres:Eqv (if u.i<L.length then pfl L E u 4 else u) s2/\(okR s2=true->(⟨l,m⟩:Ru)=⟨dl,ml⟩):=by
    rcases hv with ⟨hok,g1,hv⟩|⟨hok,hv⟩
    ·cases g with
     | zero=>simp [I9] at hv
     | succ g =>
      unfold I9 at hv;dsimp only at hv;by_cases hlt:u.i<L.length
      ·rw [if_pos ⟨hok,hlt⟩,if_pos (by rw [X4 hK (by decide +kernel)];exact hmo)] at hv;cases hv;rw [if_pos hlt,g1];exact ⟨.refl _,fun _=>rfl⟩
      ·rw [if_neg (fun hh=>hlt hh.2)] at hv;cases hv;rw [if_neg hlt,g1];exact ⟨.refl _,fun _=>rfl⟩
    ·rw [show (if u.i<L.length then pfl L E u 4 else u)=u by rw [Y9 hok];split<;>rfl];exact ⟨hv,fun k=>by rw [<- hv.ok,hok] at k;cases k⟩
   have b3:PI L (if u.i<L.length then pfl L E u 4 else u):=by
    split
    ·exact hPu.fl
    ·exact hPu
   simp only [go_sem,seval,hmo];repeat' ((with_reducible first|refine wr ?_|refine A2 ?_ ?_|fail)<;>try simp only [go_sem,seval,hmo])
   refine AC.call (c_pend L E u _ _ t hHt (by omega)) ?_;rintro v H' c3 ⟨rfl,rfl⟩ hc3;generalize (if u.i<L.length then pfl L E u 4 else u)=u3 at hres b3 ⊢;simp only [go_sem,seval,ne0,A0,hbx,hb0,hT];repeat' ((with_reducible first|refine wr ?_|refine A2 ?_ ?_|fail)<;>try simp only [go_sem,seval,ne0,A0,hbx,hb0,hT])
   refine D0 (C6a (by rfl) (by decide) (by clear hHH;cases o<;>rfl)) ?_;simp only [go_sem,seval,ne0,A0];repeat' ((with_reducible first|refine wr ?_|refine A2 ?_ ?_|fail)<;>try simp only [go_sem,seval,ne0,A0])
   rw [D6 (rv2 rfl A0)];exact ⟨_,_,fin _ _,⟨l,m⟩,u3,rfl,rfl,hres.1,hres.2,b3⟩
  | true =>
   obtain ⟨hok,hlt,hkd2⟩:=U5 (by decide) hmo;obtain ⟨hdl,hv⟩:l=dl/\I9 L E g m u=some (ml,s2):=by
    rcases hv with ⟨-,g1,hv⟩|⟨hn, -⟩
    ·exact ⟨g1,hv⟩
    ·rw [hok] at hn;cases hn
   have hmoR:isR L E u [109,111,100,101]=true:=by rw [X4 hK (by decide +kernel)];exact hmo
   cases g with
   | zero=>simp [I9] at hv
   | succ g =>
   unfold I9 at hv;dsimp only at hv;rw [if_pos ⟨hok,hlt⟩,if_neg (by simp [hmoR])] at hv;by_cases h16:m.length=16
   ·have hd16:((m.length:Int) == 16)=true:=by simp;omega
    have hl9:B9 L E u ((m.length:Int)+1) 16 9=pfl L E u 9:=by rw [Z2,if_pos (by omega)]
    have hnk:okR (pfl L E u 9)=false:=by unfold pfl;exact O7 (by decide)
    rw [hl9,if_neg (by rw [hnk];decide)] at hv;have e1:m=ml:=(congrArg Prod.fst (A9i hv hnk)).symm;have e2:pfl L E u 9=s2:=(congrArg Prod.snd (A9i hv hnk)).symm;subst e1 e2;have b3:=hPu.fl (E:=E) (e:=9);simp only [go_sem,seval,hmo];repeat' ((with_reducible first|refine wr ?_|refine A2 ?_ ?_|fail)<;>try simp only [go_sem,seval,hmo,hbx,hlen,hd16])
    refine AC.call (c_pfail L E u _ _ t hHt (by omega) 9) ?_;rintro v H' c3 ⟨rfl,rfl⟩ hc3;simp only [go_sem,seval];repeat' ((with_reducible first|refine wr ?_|refine A2 ?_ ?_|fail)<;>try simp only [go_sem,seval])
    refine AC.call (c_pend L E (pfl L E u 9) _ _ t A0 (by omega)) ?_;rintro v H' c4 ⟨rfl,rfl⟩ hc4;rw [show (if (pfl L E u 9).i<L.length then pfl L E (pfl L E u 9) 4 else pfl L E u 9)=pfl L E u 9 by rw [Y9 hnk];split<;>rfl,A1];simp only [go_sem,seval,ne0,A0,hbx,hb0,hT];repeat' ((with_reducible first|refine wr ?_|refine A2 ?_ ?_|fail)<;>try simp only [go_sem,seval,ne0,A0,hbx,hb0,hT])
    refine D0 (C6a (by rfl) (by decide) (by clear hHH;cases o<;>rfl)) ?_;simp only [go_sem,seval,ne0,A0];repeat' ((with_reducible first|refine wr ?_|refine A2 ?_ ?_|fail)<;>try simp only [go_sem,seval,ne0,A0])
    rw [D6 (rv2 rfl A0)];exact ⟨_,_,fin _ _,⟨l,m⟩,_,rfl,rfl,.refl _,fun k=>(by rw [hnk] at k;cases k),b3⟩
   have hd16:((m.length:Int) == 16)=false:=by simp;omega
   rw [A1u (by omega),if_pos hok] at hv;cases hmd:A0l L E g u with
   | none=>rw [hmd] at hv;cases hv
   | some qm =>
   obtain ⟨md,u2⟩:=qm;rw [hmd] at hv;dsimp only at hv;simp only [go_sem,seval,hmo];repeat' ((with_reducible first|refine wr ?_|refine A2 ?_ ?_|fail)<;>try simp only [go_sem,seval,hmo,hbx,hlen,hd16])
   refine AC.call (c_pmode L E hL hK g u (md,u2) hmd hPu hmo _ _ t hHt (by omega)) ?_;rintro v H' c3 ⟨x,s5,rfl,rfl,y1,y2,y3⟩ hc3;dsimp only at y1 y2;have ne0:=A0k t cc (cc+1) (c2+4) c3 (by omega);simp only [go_sem,seval,ne0,A0,A1,hbx];repeat' ((with_reducible first|refine wr ?_|refine A2 ?_ ?_|fail)<;>try simp only [go_sem,seval,ne0,A0,A1,hbx])
   refine ⟨⟨by rw [A3 (by omega)];exact hbn _ (by omega),by rw [A3 (by omega)];exact hbn _ (by omega)⟩,?_⟩;have hl4:(A8 (m.map Md.v)).length=m.length * 4:=B8 (u:=4) (A4o _) |>.trans (by simp);refine M5 (L6 (cs:=A8 (m.map Md.v)) (fun e=>by rw [hno e];exact ⟨rfl,rfl⟩) (fun i hi=>by have:=ho i hi;rw [A3 (by omega),A3 (by omega)];exact hbo i hi) hl4 (by omega) (by omega) (by omega)) ?_;have hdx:∀ X:Hp,A2h X o (cc+1)=X (cc+1):=fun X=>N2 (fun i hi=>by have:=ho i hi;omega);simp only [go_sem,seval,ne0,A0,A1,hdx,hbx];repeat' ((with_reducible first|refine wr ?_|refine A2 ?_ ?_|fail)<;>try simp only [go_sem,seval,ne0,A0,A1,hdx,hbx])
   refine ⟨(g,some c3,m++[x],s5),?_,inv ⟨by omega,by simp only;omega,(fun h=>by cases h),(fun i hi=>by cases hi;omega),by simp only [A0C,A0K];omega,y3,?_⟩,by simp only;omega⟩
   ·intro j b hj;simp only [D4,B0d,A0C,A0K,A0Z,H6] at hj;by_cases e1:j=cc+1
    ·subst e1;by_cases e3:cc+1=c3
     ·omega
     rw [A3 e3,A0] at hj;rw [A0];exact hj
    rw [A3 e1];by_cases e0:j=c3
    ·subst e0;rw [A0] at hj;rw [A0, <- hj];rfl
    rw [A3 e0] at hj ⊢;rw [A3 e1] at hj;by_cases e2:j=t
    ·subst e2;rw [A0] at hj;rw [N2 (fun i hi=>by have:=ho i hi;omega),A3 (by omega),A0];exact hj
    rw [A3 e2] at hj;by_cases e4:j=cc
    ·subst e4;rw [A0] at hj;rw [N2 (fun i hi=>by have:=ho i hi;omega)]
     repeat rw [A3 (by omega)]
     rw [hb0];exact hj
    ·rw [A3 e4] at hj;have hjc:j<cc:=Classical.byContradiction fun h=>by rw [hfr j (by omega)] at hj;cases hj
     rw [N2 (fun i hi=>by have:=ho i hi;omega)]
     repeat rw [A3 (by omega)]
     rw [hbj j hjc e2];exact hj
   ·dsimp only;cases k:okR u2 with
    | true =>
     rw [y2 k,y1.s k];exact .inl ⟨k,hdl,hv⟩
    | false =>
     cases A9i hv k;exact .inr ⟨by rw [y1.ok,k],y1⟩
 have ne0:=V8 t cc (cc+1) (by omega);repeat' ((with_reducible first|refine wr ?_|refine A2 ?_ ?_|fail)<;>try simp only [go_sem,seval,ne0,A0,A1])
 refine D2 (fun q:Nat × Option Nat × List Dc × Rd=>[(0,.ptr t 0),(2,.ptr cc 0),(3,.ptr (cc+1) 0)]) (fun q=>D4 (((H.upd cc ⟨0,true,[.snil,.snil]⟩).upd t (paB L E q.2.2.2)).upd (cc+1) ⟨0,true,[C4 q.2.1 q.2.2.1.length,.snil]⟩) q.2.1 ⟨4,true,A8 (q.2.2.1.map Dc.v)⟩)
  (fun q c=>cc+2<=c/\q.1<=f/\(q.2.1=none->q.2.2.1=[])/\(∀ i,q.2.1=some i->cc+1<i/\i<c)/\q.2.2.1.length<=128/\PI L q.2.2.2/\J9 L E q.1 q.2.2.1 q.2.2.2=some (dl,s1)) (fun q=>q.1) (f,none,[],s)
  (by simp [C6,tm,Tm.upd]) (fun j b hj=>?_) ⟨by omega,A0H _,fun _=>rfl,(fun i hi=>by cases hi),by simp,hP,hd⟩ ?_
 ·simp only [D4,B4j] at hj;by_cases e1:j=cc+1
  ·subst e1;rw [A0] at hj ⊢;exact hj
  ·rw [A3 e1] at hj ⊢;by_cases e2:j=t
   ·subst e2;rw [A0] at hj;rw [A3 (by omega),ht];exact hj
   ·rw [A3 e2] at hj;exact hj
 clear hd;rintro ⟨g,o,l,u⟩ c ⟨hc,hg,hno,ho,hl1,hPu,hv⟩;dsimp only at hc hg hno ho hl1 hPu hv ⊢;cases g with
 | zero=>simp [J9] at hv
 | succ g =>
 unfold J9 at hv;dsimp only at hv;have hriu:=hPu.i;have hlen:B2g (C4 o l.length)=some (I64 l.length):=by
  cases o with
  | none=>rw [hno rfl];rfl
  | some b=>rfl
 have hHt:D4 (((H.upd cc ⟨0,true,[.snil,.snil]⟩).upd t (paB L E u)).upd (cc+1) ⟨0,true,[C4 o l.length,.snil]⟩) o ⟨4,true,A8 (l.map Dc.v)⟩ t=some (paB L E u):=by rw [F3 (fun i hi=>by have:=ho i hi;omega),A3 (by omega),A0]
 have hbx:D4 (((H.upd cc ⟨0,true,[.snil,.snil]⟩).upd t (paB L E u)).upd (cc+1) ⟨0,true,[C4 o l.length,.snil]⟩) o ⟨4,true,A8 (l.map Dc.v)⟩ (cc+1)=some ⟨0,true,[C4 o l.length,.snil]⟩:=by rw [F3 (fun i hi=>by have:=ho i hi;omega),A0]
 have hbo:∀ i:Nat,o=some i->D4 (((H.upd cc ⟨0,true,[.snil,.snil]⟩).upd t (paB L E u)).upd (cc+1) ⟨0,true,[C4 o l.length,.snil]⟩) o ⟨4,true,A8 (l.map Dc.v)⟩ i=some ⟨4,true,A8 (l.map Dc.v)⟩:=fun i hi=>by subst hi;exact A0
 have hbj:∀ j:Nat,j<cc->¬ j=t->D4 (((H.upd cc ⟨0,true,[.snil,.snil]⟩).upd t (paB L E u)).upd (cc+1) ⟨0,true,[C4 o l.length,.snil]⟩) o ⟨4,true,A8 (l.map Dc.v)⟩ j=H j:=fun j h1 h2=>by rw [F3 (fun i hi=>by have:=ho i hi;omega),A3 (by omega),A3 h2,A3 (by omega)]
 have hb0:D4 (((H.upd cc ⟨0,true,[.snil,.snil]⟩).upd t (paB L E u)).upd (cc+1) ⟨0,true,[C4 o l.length,.snil]⟩) o ⟨4,true,A8 (l.map Dc.v)⟩ cc=some ⟨0,true,[.snil,.snil]⟩:=by rw [F3 (fun i hi=>by have:=ho i hi;omega),A3 (by omega),A3 (by omega),A0]
 have hbn:∀ j:Nat,c<=j->D4 (((H.upd cc ⟨0,true,[.snil,.snil]⟩).upd t (paB L E u)).upd (cc+1) ⟨0,true,[C4 o l.length,.snil]⟩) o ⟨4,true,A8 (l.map Dc.v)⟩ j=none:=fun j h1=>by rw [F3 (fun i hi=>by have:=ho i hi;omega),A3 (by omega),A3 (by omega),A3 (by omega)];exact hfr _ (by omega)
 have hsub:∀ z,Sub (D4 (((H.upd cc ⟨0,true,[.snil,.snil]⟩).upd t (paB L E z)).upd (cc+1) ⟨0,true,[C4 o l.length,.snil]⟩) o ⟨4,true,A8 (l.map Dc.v)⟩) ((D4 (((H.upd cc ⟨0,true,[.snil,.snil]⟩).upd t (paB L E u)).upd (cc+1) ⟨0,true,[C4 o l.length,.snil]⟩) o ⟨4,true,A8 (l.map Dc.v)⟩).upd t (paB L E z)):=fun z j b hj=>by
  by_cases e2:j=t
  ·subst e2;rw [F3 (fun i hi=>by have:=ho i hi;omega),A3 (by omega),A0] at hj;rw [A0];exact hj
  ·rw [A3 e2];cases o with
   | none =>
    simp only [D4] at hj ⊢;by_cases e1:j=cc+1
    ·subst e1;rw [A0] at hj ⊢;exact hj
    ·rw [A3 e1,A3 e2] at hj ⊢;exact hj
   | some i =>
    simp only [D4] at hj ⊢;by_cases e0:j=i
    ·subst e0;rw [A0] at hj ⊢;exact hj
    rw [A3 e0] at hj ⊢;by_cases e1:j=cc+1
    ·subst e1;rw [A0] at hj ⊢;exact hj
    ·rw [A3 e1,A3 e2] at hj ⊢;exact hj
 have htail:=tail o l;generalize hHH:D4 (((H.upd cc ⟨0,true,[.snil,.snil]⟩).upd t (paB L E u)).upd (cc+1) ⟨0,true,[C4 o l.length,.snil]⟩) o ⟨4,true,A8 (l.map Dc.v)⟩=HH at hHt hbx hbo hbj hb0 hbn hsub ⊢;have hpa:=A9r (A5l (E:=E) hK u (l:=C3) (by decide +kernel));repeat' ((with_reducible first|refine wr ?_|refine cpc c_pdecls ?_|refine A2 ?_ ?_|fail)<;>try simp only [go_sem,seval])
 refine AC.call (c_pis L E u _ _ t hHt (by omega) 2 C3 (by decide)) ?_;rintro v H' c2 ⟨rfl,rfl⟩ hc2;by_cases hk:B6 L E u C3<0
 ·have hpf:isP L E u 2 C3=false:=by rw [hpa];exact decide_eq_false (by omega)
  rw [if_pos hk] at hv;have e1:l=dl:=congrArg Prod.fst (Option.some.inj hv);have e2:u=s1:=congrArg Prod.snd (Option.some.inj hv);subst e1 e2;simp only [go_sem,seval,hpf];repeat' ((with_reducible first|refine E3 (p:=IW _ _ (pz Tryz.prog 73 (.o (.o (.o (.i .h))))) _ _) ?_|refine wr ?_|refine A2 ?_ ?_|fail)<;>try simp only [go_sem,seval,hpf])
  rw [<- hHH];refine IW.stage (by simp [C6,tm,Tm.upd]) (htail u c2 (by omega) hno (fun i hi=>by have:=ho i hi;omega) hPu ?_);cases ho:okR u with
  | true=>exact .inl ⟨rfl,rfl,rfl⟩
  | false=>exact .inr ⟨rfl,.refl _⟩
 have hpt:isP L E u 2 C3=true:=by rw [hpa];exact decide_eq_true (by omega)
 obtain ⟨hok,hlt, -⟩:=U5 (by decide) hpt;rw [if_neg hk] at hv;by_cases h128:l.length=128
 ·have hd128:((l.length:Int) == 128)=true:=by simp;omega
  have hl9:B9 L E u ((l.length:Int)+1) 128 9=pfl L E u 9:=by rw [Z2,if_pos (by omega)]
  have hnk:okR (pfl L E u 9)=false:=by unfold pfl;exact O7 (by decide)
  rw [hl9,if_neg (by rw [hnk];decide)] at hv;have e1:l=dl:=(congrArg Prod.fst (C2w hv hnk)).symm;have e2:pfl L E u 9=s1:=(congrArg Prod.snd (C2w hv hnk)).symm;subst e1 e2;simp only [go_sem,seval,hpt];repeat' ((with_reducible first|refine wr ?_|refine A2 ?_ ?_|fail)<;>try simp only [go_sem,seval,hpt,hbx,hlen,hd128])
  refine AC.call (c_pfail L E u _ _ t hHt (by omega) 9) ?_;rintro v H' c3 ⟨rfl,rfl⟩ hc3;simp only [go_sem,seval];repeat' ((with_reducible first|refine E3 (p:=IW _ _ (pz Tryz.prog 73 (.o (.o (.o (.i .h))))) _ _) ?_|refine wr ?_|refine A2 ?_ ?_|fail)<;>try simp only [go_sem,seval])
  exact IW.weaken (X0 (by simp [C6,tm,Tm.upd])) (hsub _) (htail (pfl L E u 9) c3 (by omega) hno (fun i hi=>by have:=ho i hi;omega) hPu.fl (.inr ⟨hnk,.refl _⟩))
 have hd128:((l.length:Int) == 128)=false:=by simp;omega
 rw [A1u (by omega),if_pos hok] at hv;simp only [go_sem,seval,hpt];repeat' ((with_reducible first|refine wr ?_|refine A2 ?_ ?_|fail)<;>try simp only [go_sem,seval,hpt,hbx,hlen,hd128])
 refine AC.call (c_pdecl L E u _ _ t hHt (by omega) hL hv0 hK hpt) ?_;rintro v H' c3 ⟨rfl,rfl⟩ hc3;have y3:=D9q (E:=E) (k:=B6 L E u C3) hK hPu hlt;generalize Q7 L E (B6 L E u C3) u=Q at hv y3 ⊢;obtain ⟨dc,u2⟩:=Q;dsimp only at hv y3 ⊢;have ne0:=A0k t cc (cc+1) (c2+4) c3 (by omega);simp only [go_sem,seval,ne0,A0,A1,hbx];repeat' ((with_reducible first|refine wr ?_|refine A2 ?_ ?_|fail)<;>try simp only [go_sem,seval,ne0,A0,A1,hbx])
 refine ⟨⟨by rw [A3 (by omega)];exact hbn _ (by omega),by rw [A3 (by omega)];exact hbn _ (by omega)⟩,?_⟩;have hl4:(A8 (l.map Dc.v)).length=l.length * 4:=B8 (u:=4) (A4y _) |>.trans (by simp);refine M5 (L6 (cs:=A8 (l.map Dc.v)) (fun e=>by rw [hno e];exact ⟨rfl,rfl⟩) (fun i hi=>by have:=ho i hi;rw [A3 (by omega),A3 (by omega)];exact hbo i hi) hl4 (by omega) (by omega) (by omega)) ?_;have hdx:∀ X:Hp,A2h X o (cc+1)=X (cc+1):=fun X=>N2 (fun i hi=>by have:=ho i hi;omega);simp only [go_sem,seval,ne0,A0,A1,hdx,hbx];repeat' ((with_reducible first|refine wr ?_|refine A2 ?_ ?_|fail)<;>try simp only [go_sem,seval,ne0,A0,A1,hdx,hbx])
 refine ⟨(g,some c3,l++[dc],u2),?_,inv ⟨by omega,by simp only;omega,(fun h=>by cases h),(fun i hi=>by cases hi;omega),by simp only [A0C,A0K];omega,y3,hv⟩,by simp only;omega⟩;intro j b hj;simp only [D4,B0d,A0C,A0K,A0Z,H6] at hj;by_cases e1:j=cc+1
 ·subst e1;by_cases e3:cc+1=c3
  ·omega
  rw [A3 e3,A0] at hj;rw [A0];exact hj
 rw [A3 e1];by_cases e0:j=c3
 ·subst e0;rw [A0] at hj;rw [A0, <- hj];rfl
 rw [A3 e0] at hj ⊢;rw [A3 e1] at hj;by_cases e2:j=t
 ·subst e2;rw [A0] at hj;rw [N2 (fun i hi=>by have:=ho i hi;omega),A3 (by omega),A0];exact hj
 rw [A3 e2] at hj;by_cases e4:j=cc
 ·subst e4;rw [A0] at hj;rw [N2 (fun i hi=>by have:=ho i hi;omega)]
  repeat rw [A3 (by omega)]
  rw [hb0];exact hj
 ·rw [A3 e4] at hj;have hjc:j<cc:=Classical.byContradiction fun h=>by rw [hfr j (by omega)] at hj;cases hj
  rw [N2 (fun i hi=>by have:=ho i hi;omega)]
  repeat rw [A3 (by omega)]
  rw [hbj j hjc e2];exact hj
end Go.Proofs.YthlpinppaclofaaGreatDoor
set_option maxHeartbeats 4000000
namespace Go.Proofs.YthlpinppaclofaaGreatDoor
open Go.Eng (IC IOper DReg IFn J0)
open Go.Sym Go.Pb
theorem c_letter (c:UInt8):PC Tryz.prog 142 [.int .u8 c.toNat] (.bool (ltB c)):=by
 refine PC.ofT B2 rfl (A0A rfl) (by simp [DV.nlL,DV.nl]) (by simp [DV.nlL,DV.nl]) ?_;repeat' ((with_reducible first|refine wr ?_|refine A2 ?_ ?_|refine wb2 ?_ ?_<;>(intro hb;try simp only [hb])|fail)<;>try simp only [go_sem,seval])
 all_goals (refine A9 (congrArg DV.bool ?_);rw [A2O];simp_all [ltB]<;>omega)
theorem c_digit (c:UInt8):PC Tryz.prog 162 [.int .u8 c.toNat] (.bool (dgB c)):=by
 refine PC.ofT B2 rfl (A0A rfl) (by simp [DV.nlL,DV.nl]) (by simp [DV.nlL,DV.nl]) ?_;repeat' ((with_reducible first|refine wr ?_|refine A2 ?_ ?_|refine wb2 ?_ ?_<;>(intro hb;try simp only [hb])|fail)<;>try simp only [go_sem,seval])
 all_goals (refine A9 (congrArg DV.bool ?_);rw [A2O];simp_all [dgB]<;>omega)
theorem c_letterR (c:UInt8):PC Tryz.prog 132 [.int .u8 c.toNat] (.bool (ltB c)):=by
 refine PC.ofT B2 rfl (A0A rfl) (by simp [DV.nlL,DV.nl]) (by simp [DV.nlL,DV.nl]) ?_;repeat' ((with_reducible first|refine wr ?_|refine A2 ?_ ?_|refine wb2 ?_ ?_<;>(intro hb;try simp only [hb])|fail)<;>try simp only [go_sem,seval])
 all_goals (refine A9 (congrArg DV.bool ?_);rw [A2O];simp_all [ltB]<;>omega)
theorem c_digitR (c:UInt8):PC Tryz.prog 134 [.int .u8 c.toNat] (.bool (dgB c)):=by
 refine PC.ofT B2 rfl (A0A rfl) (by simp [DV.nlL,DV.nl]) (by simp [DV.nlL,DV.nl]) ?_;repeat' ((with_reducible first|refine wr ?_|refine A2 ?_ ?_|refine wb2 ?_ ?_<;>(intro hb;try simp only [hb])|fail)<;>try simp only [go_sem,seval])
 all_goals (refine A9 (congrArg DV.bool ?_);rw [A2O];simp_all [dgB]<;>omega)
theorem c_part (c:UInt8):PC Tryz.prog 144 [.int .u8 c.toNat] (.bool (ptB c)):=by
 refine PC.ofT B2 rfl (A0A rfl) (by simp [DV.nlL,DV.nl]) (by simp [DV.nlL,DV.nl]) ?_;repeat' ((with_reducible first|refine wr ?_|refine cpc (c_letter c) ?_|refine cpc (c_digit c) ?_|refine A2 ?_ ?_|refine wb2 ?_ ?_<;>(intro hb;try simp only [hb])|fail)<;>try simp only [go_sem,seval])
 all_goals (refine A9 (congrArg DV.bool ?_);rw [A2O];simp_all [ptB]<;>omega)
theorem c_no10 (c:UInt8):PC Tryz.prog 161 [.int .u8 c.toNat] (.bool (decide (c.toNat≠10))):=by
 refine PC.ofT B2 rfl (A0A rfl) (by simp [DV.nlL,DV.nl]) (by simp [DV.nlL,DV.nl]) ?_;repeat' ((with_reducible first|refine wr ?_|refine A2 ?_ ?_|fail)<;>try simp only [go_sem,seval])
 all_goals (refine A9 (congrArg DV.bool ?_);rw [A2O];simp_all<;>omega)
theorem c_span {p:UInt8->Bool} {f:Nat} {a cs:List DV} (s:List UInt8) (hs:s.length<=9223372036854775807) (na:DV.nlL a=true) (ncs:DV.nlL cs=true) (hf:∀ x∈s,PC Tryz.prog f (a++[.int .u8 x.toNat]++cs) (.bool (p x))) :
  PC Tryz.prog 143 [.str s,.func f a cs] (I64 (C1 p s)):=by
 refine PC.ofT B2 rfl (A0A rfl) (by simp [DV.nlL,DV.nl,na,ncs]) rfl ?_;repeat' ((with_reducible first|refine wr ?_|refine A2 ?_ ?_|fail)<;>try simp only [go_sem,seval])
 refine D2 (fun k:Nat=>[(0,.str s),(1,.func f a cs),(5,I64 k)]) (fun _=>nil) (fun k _=>k<=s.length/\k<=C1 p s) (fun k=>s.length-k) 0 (by simp [C6,tm,Tm.upd]) (Sub.nil _) (by simp) ?_;rintro k c ⟨hk,he⟩;by_cases hlt:k<s.length
 ·have hd:decide ((k:Int)<s.length)=true:=by simpa using hlt
  have hg:=A0E hlt;have hw:=w64 (n:=(k:Int)+1);have hst:=B4o hg he;have hc:=hf s[k] (A1B hlt);repeat' ((with_reducible first|refine wr ?_|refine cpc hc ?_|refine A2 ?_ ?_|refine wb2 ?_ ?_<;>(intro hb;try simp only [hb])|fail)<;>try simp only [go_sem,seval,hd,hg,hw])
  ·exact ⟨k+1,rfl,Sub.refl _,inv ⟨by omega,hst.1 hb⟩,by omega⟩
  ·refine A9 ?_;rw [hst.2 hb]
 ·have hd:decide ((k:Int)<s.length)=false:=by simpa using hlt
  repeat' ((with_reducible first|refine wr ?_|refine A2 ?_ ?_|fail)<;>try simp only [go_sem,seval,hd])
  refine A9 ?_;rw [B7c (by omega) he]
theorem c_spanPt (s:List UInt8) (hs:s.length<=9223372036854775807):PC Tryz.prog 143 [.str s,.func 144 [] []] (I64 (C1 ptB s)) :=
 c_span s hs rfl rfl fun x _=>c_part x
theorem c_spanDg (s:List UInt8) (hs:s.length<=9223372036854775807):PC Tryz.prog 143 [.str s,.func 162 [] []] (I64 (C1 dgB s)) :=
 c_span s hs rfl rfl fun x _=>c_digit x
theorem c_spanCm (s:List UInt8) (hs:s.length<=9223372036854775807):PC Tryz.prog 143 [.str s,.func 161 [] []] (I64 (C1 (fun c=>decide (c.toNat≠10)) s)) :=
 c_span s hs rfl rfl fun x _=>c_no10 x
end Go.Proofs.YthlpinppaclofaaGreatDoor
end
