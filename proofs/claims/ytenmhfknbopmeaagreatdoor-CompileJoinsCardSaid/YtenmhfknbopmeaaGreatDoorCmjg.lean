/-
  HELPERS of the claim: part 7 of its texts.
-/
import Derived.Test.YtenmhfknbopmeaaGreatDoorCmjf
noncomputable section
set_option maxHeartbeats 4000000
set_option maxRecDepth 100000
set_option linter.unusedSimpArgs false
set_option linter.unusedVariables false
namespace Go.Proofs.YtenmhfknbopmeaaGreatDoor
open Go.Eng (IC IOper DReg IFn I5)
open Go.Sym Go.Pb
theorem D9s{ρ : Ren}{v:Value}{a b e:DV}(h:VRel ρ (.agg [a,b,.snil,e]) v):VRel ρ (.agg [a,b,.lst [],e]) v:=by
 obtain⟨bb,rfl,k1,k2⟩:=h.agg_inv;refine .agg _ _ k1 fun j x y hx hy=>?_
 match j with
 |0=>cases hx;exact k2 0 _ y rfl hy
 |1=>cases hx;exact k2 1 _ y rfl hy
 |2=>cases hx;exact (k2 2 _ y rfl hy).snil_lst
 |3=>cases hx;exact k2 3 _ y rfl hy
 |_+4=>cases hx
theorem C9t{K H':Hp}{cc:Nat}{o:Option Nat}{a b e:DV}(l:List Hd)(hK:∀ i,cc<=i->K i=none)(ho:∀ i,o=some i->cc<=i)(hno:o=none->l=[])(hb:∀ i,o=some i->H' i=some ⟨4,true,cellsL (l.map Hd.v)⟩)(h:∀ j,j<cc->H' j=K j):
  GL H' [.agg [a,b,todoV o l.length,e]] K [.agg [a,b,N8 l,e]]:=by
 cases o with
 |none =>
  obtain rfl:=hno rfl;exact (N9 hK h).trans (GL.view fun ρ vs hA=>arel_one (fun v h=>D9s h) vs hA)
 |some i =>
  have:=ho i rfl;exact GL.frzS (id:=i) (hb i rfl) rfl (fun j=>by
   by_cases hj:j<cc
   ·exact .inr ⟨by omega,(h j hj).symm⟩
   ·exact .inl (hK j (by omega))) (.cons _ _ _ _ (.agg _ _ (.cons _ _ _ _ (.same _) (.cons _ _ _ _ (.same _) (.cons _ _ _ _ (M2 (u:=4) (by simp) (A4h l) ⟨[],by simp⟩) (.cons _ _ _ _ (.same _) .nil))))) .nil)
theorem c_mode(L:List Tok)(E:Int)(hL:L.length<=1000000000)(f:Nat)(s:Rd)(r:Md × Rd)(h:A1p L E f s=some r)(hi:s.i<=L.length):RdC L E 92 [] s (r.1.v,r.2):=by
 intro H cc t ht htc;refine AC.bodyT A2 rfl (A0A rfl) fun hfr=>?_;unfold A1p at h;dsimp only at h;have i1:=G6 (E:=E) (x:=[109,111,100,101]) hi;generalize hs1:B5 L E s [109,111,100,101]=s1 at h i1;have i2:=I6 (E:=E) (x:=1) (by decide) i1;have i3:=I6 (E:=E) (x:=3) (by decide) i2;have i4:=G6 (E:=E) (x:=[123]) i3;repeat' (apply wr<;>try simp only[go_sem,seval])
 refine AC.call (c_peek L E s _ _ t (by rw[hnO];exact ht) (by omega)) ?_;rintro v H' c1 ⟨rfl,rfl⟩ hc1;have ne0:=U6 t cc c1 (by omega);simp only[go_sem,seval];repeat' (apply wr<;>try simp only[go_sem,seval,A0])
 refine AC.call (c_expect L E s _ _ t (by repeat (first|exact ht|rw[hnO])) (by omega) (by omega) _) ?_;rintro v H' c2 ⟨rfl,rfl⟩ hc2;rw[hs1];simp only[go_sem,seval];repeat' (apply wr<;>try simp only[go_sem,seval])
 refine AC.call (c_name L E s1 _ _ t (by repeat (first|exact h_same|rw[hnO])) (by omega) (by omega)) ?_;rintro v H' c3 ⟨rfl,rfl⟩ hc3;generalize (A4 L E s1 1).1.text=n at h ⊢;generalize (A4 L E s1 1).2=s2 at h i2 i3 i4 ⊢;simp only[go_sem,seval,ne0,h_same,A0];repeat' (apply wr<;>try simp only[go_sem,seval])
 refine AC.call (c_take L E s2 _ _ t (by repeat (first|exact h_same|rw[hnO])) (by omega) (by omega) 3) ?_;rintro v H' c4 ⟨rfl,rfl⟩ hc4;try dsimp only
 simp only[go_sem,seval,ne0,h_same];repeat' (apply wr<;>try simp only[go_sem,seval])
 refine AC.call (c_expect L E (A4 L E s2 3).2 _ _ t (by repeat (first|exact h_same|rw[hnO])) (by omega) (by omega) _) ?_;rintro v H' c5 ⟨rfl,rfl⟩ hc5;generalize (A4 L E s2 3).1.value=z at h ⊢;generalize B5 L E (A4 L E s2 3).2 [123]=s3 at h i4 ⊢;generalize (A7 L E s).pos=p at h ⊢;cases hm:S2 L E f [] s3 with
 |none=>rw[hm]at h;cases h
 |some q =>
  obtain⟨hl,s4⟩:=q;rw[hm]at h;dsimp only at h;cases h;simp only[go_sem,seval];repeat' (apply wr<;>try simp only[go_sem,seval])
  refine B6 (fun _:Nat × Option Nat × List Hd × Rd=>[(0,.ptr t 0),(2,.ptr cc 0),(3,.ptr c1 0)]) (fun q=>optH (((H.upd cc ⟨0,true,[.str [],I64 0,.snil,I64 0]⟩).upd c1 ⟨0,true,[.str n,I64 z,todoV q.2.1 q.2.2.1.length,I64 p]⟩).upd t (rdR L E q.2.2.2)) q.2.1 ⟨4,true,cellsL (q.2.2.1.map Hd.v)⟩)
   (fun q c=>c1+1<=c/\q.1<=f/\q.2.2.2.i<=L.length/\(q.2.1=none->q.2.2.1=[])/\(∀ i,q.2.1=some i->c1<i/\i<c)/\q.2.2.1.length<=32/\S2 L E q.1 q.2.2.1 q.2.2.2=some (hl,s4)) (fun q=>q.1) (f,none,[],s3)
   (by simp[B9,tm,Tm.upd]) (fun j b hj=>?_) ⟨by omega,A0C _,i4,fun _=>rfl,(fun i hi=>by cases hi),by simp,hm⟩ ?_
  ·simp only[optH,A4p]at hj;by_cases e1:j=t
   ·subst e1;rw[h_same]at hj ⊢;exact hj
   ·rw[h_ne e1]at hj ⊢;by_cases e2:j=c1
    ·subst e2;rw[h_same]at hj ⊢;exact hj
    ·rw[h_ne e2]at hj ⊢;simp only[h_ne e1,h_ne e2];exact hj
  clear hm i1 i2 i3 i4;rintro⟨g,o,l,u⟩ c ⟨hc,hg,hi5,hno,ho,hl1,hv⟩;dsimp only at hc hg hi5 hno ho hl1 hv ⊢;cases g with
  |zero=>simp[S2]at hv
  |succ g =>
  unfold S2 at hv;dsimp only at hv;have hHt:optH (((H.upd cc ⟨0,true,[.str [],I64 0,.snil,I64 0]⟩).upd c1 ⟨0,true,[.str n,I64 z,todoV o l.length,I64 p]⟩).upd t (rdR L E u)) o ⟨4,true,cellsL (l.map Hd.v)⟩ t=some (rdR L E u):=by rw[B1 (fun i hi=>by have:=ho i hi;omega),h_same]
  repeat' (apply wr<;>try simp only[go_sem,seval])
  refine AC.call (c_rdok L E u _ _ t hHt (by omega)) ?_;rintro v H' c6 ⟨rfl,rfl⟩ hc6;have hbx:(optH (((H.upd cc ⟨0,true,[.str [],I64 0,.snil,I64 0]⟩).upd c1 ⟨0,true,[.str n,I64 z,todoV o l.length,I64 p]⟩).upd t (rdR L E u)) o ⟨4,true,cellsL (l.map Hd.v)⟩) c1=some ⟨0,true,[.str n,I64 z,todoV o l.length,I64 p]⟩:=by rw[B1 (fun i hi=>by have:=ho i hi;omega),hnO,h_same]
  have hbo:∀ i:Nat,o=some i->(optH (((H.upd cc ⟨0,true,[.str [],I64 0,.snil,I64 0]⟩).upd c1 ⟨0,true,[.str n,I64 z,todoV o l.length,I64 p]⟩).upd t (rdR L E u)) o ⟨4,true,cellsL (l.map Hd.v)⟩) i=some ⟨4,true,cellsL (l.map Hd.v)⟩:=fun i hi=>by subst hi;exact h_same
  have hbj:∀ j:Nat,j<cc->¬ j=t->(optH (((H.upd cc ⟨0,true,[.str [],I64 0,.snil,I64 0]⟩).upd c1 ⟨0,true,[.str n,I64 z,todoV o l.length,I64 p]⟩).upd t (rdR L E u)) o ⟨4,true,cellsL (l.map Hd.v)⟩) j=H j:=fun j h1 h2=>by rw[B1 (fun i hi=>by have:=ho i hi;omega),h_ne h2,hnO,hnO]
  have hb0:(optH (((H.upd cc ⟨0,true,[.str [],I64 0,.snil,I64 0]⟩).upd c1 ⟨0,true,[.str n,I64 z,todoV o l.length,I64 p]⟩).upd t (rdR L E u)) o ⟨4,true,cellsL (l.map Hd.v)⟩) cc=some ⟨0,true,[.str [],I64 0,.snil,I64 0]⟩:=by rw[B1 (fun i hi=>by have:=ho i hi;omega),hnO,hnO,h_same]
  have hT:(todoV o l.length).one=true:=by cases o<;>rfl
  generalize hHH:optH (((H.upd cc ⟨0,true,[.str [],I64 0,.snil,I64 0]⟩).upd c1 ⟨0,true,[.str n,I64 z,todoV o l.length,I64 p]⟩).upd t (rdR L E u)) o ⟨4,true,cellsL (l.map Hd.v)⟩=HH at hHt hbx hbo hbj hb0 ⊢;have fin:∀ (u2:Rd) (e:DV) (x:Blk) (q1 q2:DV),GL ((HH.upd t (rdR L E u2)).upd cc x) [.agg [q1,q2,todoV o l.length,e]] (H.upd t (rdR L E u2)) [.agg [q1,q2,N8 l,e]]:=fun u2 e x q1 q2 =>
   C9t (cc:=cc) l (B7 hfr htc) (fun i hi=>by have:=ho i hi;omega) hno (fun i hi=>by have:=ho i hi;rw[hnO,hnO];exact hbo i hi) (fun j hj=>by
    rw[hnO];by_cases e1:j=t
    ·subst e1;rw[h_same,h_same]
    ·rw[h_ne e1,h_ne e1,hbj j hj e1])
  cases hok:okR u with
  |false =>
   rw[if_neg (by simp[hok])]at hv;have e1:l=hl:=congrArg Prod.fst (Option.some.inj hv);have e2:B5 L E u [125]=s4:=congrArg Prod.snd (Option.some.inj hv);subst e1 e2;simp only[go_sem,seval];repeat' (apply wr<;>try simp only[go_sem,seval])
   refine AC.call (c_expect L E u _ _ t hHt (by omega) (by omega) _) ?_;rintro v H' c7 ⟨rfl,rfl⟩ hc7;simp only[go_sem,seval];repeat' (apply wr<;>try simp only[go_sem,seval,ne0,hbx,hb0])
   refine O7 (A9q (by rfl) (by decide) (by clear hHH;cases o<;>rfl)) ?_;simp only[go_sem,seval];repeat' (apply wr<;>try simp only[go_sem,seval])
   rw[C7 (rv4 rfl h_same)];exact⟨_,_,fin _ _ _ _ _,rfl,rfl⟩
  |true =>
   simp only[go_sem,seval];repeat' (apply wr<;>try simp only[go_sem,seval,hok])
   refine AC.call (c_is L E u _ _ t hHt (by omega) _) ?_;rintro v H' c7 ⟨rfl,rfl⟩ hc7;cases hq:isR L E u [125] with
   |true =>
    rw[if_neg (by simp[hq])]at hv;have e1:l=hl:=congrArg Prod.fst (Option.some.inj hv);have e2:B5 L E u [125]=s4:=congrArg Prod.snd (Option.some.inj hv);subst e1 e2;simp only[go_sem,seval];repeat' (apply wr<;>try simp only[go_sem,seval])
    refine AC.call (c_expect L E u _ _ t hHt (by omega) (by omega) _) ?_;rintro v H' c8 ⟨rfl,rfl⟩ hc8;simp only[go_sem,seval];repeat' (apply wr<;>try simp only[go_sem,seval,ne0,hbx,hb0])
    refine O7 (A9q (by rfl) (by decide) (by clear hHH;cases o<;>rfl)) ?_;simp only[go_sem,seval];repeat' (apply wr<;>try simp only[go_sem,seval])
    rw[C7 (rv4 rfl h_same)];exact⟨_,_,fin _ _ _ _ _,rfl,rfl⟩
   |false =>
    rw[if_pos ⟨hok,hq⟩]at hv;simp only[go_sem,seval];repeat' (apply wr<;>try simp only[go_sem,seval])
    refine AC.call (c_is L E u _ _ t hHt (by omega) _) ?_;rintro v H' c8 ⟨rfl,rfl⟩ hc8;cases hon:isR L E u [111,110] with
    |false =>
     rw[if_pos hon]at hv;have e1:l=hl:=congrArg Prod.fst (Option.some.inj hv);have e2:K8 L E u=s4:=congrArg Prod.snd (Option.some.inj hv);subst e1 e2;simp only[go_sem,seval];repeat' (apply wr<;>try simp only[go_sem,seval])
     refine AC.call (c_syntax L E u _ _ t hHt (by omega)) ?_;rintro v H' c9 ⟨rfl,rfl⟩ hc9;simp only[go_sem,seval];repeat' (apply wr<;>try simp only[go_sem,seval,ne0,hbx,hb0])
     refine O7 (A9q (by rfl) (by decide) (by clear hHH;cases o<;>rfl)) ?_;simp only[go_sem,seval];repeat' (apply wr<;>try simp only[go_sem,seval])
     rw[C7 (rv4 rfl h_same)];exact⟨_,_,fin _ _ _ _ _,rfl,rfl⟩
    |true =>
     rw[if_neg (by simp[hon])]at hv;have hlen:A5l (todoV o l.length)=some (I64 l.length):=by
      cases o with
      |none=>rw[hno rfl];rfl
      |some b=>rfl
     have hwl:IntKind.i64.wrap ((l.length:Int)+1)=(l.length:Int)+1:=w6z (by omega);simp only[go_sem,seval];repeat' (apply wr<;>try simp only[go_sem,seval,hbx,hlen,hwl])
     refine AC.call (c_limit L E u _ _ t hHt (by omega) _ _ _) ?_;rintro v H' c9 ⟨rfl,rfl⟩ hc9;have j1:(A9 L E u ((l.length:Int)+1) 32 9).i<=L.length:=by rw[D8];exact hi5
     generalize hlq:A9 L E u ((l.length:Int)+1) 32 9=u1 at hv j1 ⊢;have j2:=G6 (E:=E) (x:=[111,110]) j1;simp only[go_sem,seval];repeat' (apply wr<;>try simp only[go_sem,seval])
     refine AC.call (c_peek L E u1 _ _ t h_same (by omega)) ?_;rintro v H' c10 ⟨rfl,rfl⟩ hc10;have ne0:=T8 t cc c1 c10 (by omega);simp only[go_sem,seval];repeat' (apply wr<;>try simp only[go_sem,seval,A0])
     refine AC.call (c_expect L E u1 _ _ t (by repeat (first|exact h_same|rw[hnO])) (by omega) (by omega) _) ?_;rintro v H' c11 ⟨rfl,rfl⟩ hc11;generalize hu2:B5 L E u1 [111,110]=u2 at hv j2 ⊢;simp only[go_sem,seval];repeat' ((with_reducible first|apply wr|refine cpc c_trigs31 ?_|fail)<;>try simp only[go_sem,seval])
     refine AC.call (c_among L E u2 _ _ t (by repeat (first|exact h_same|rw[hnO])) (by omega) C6 (by decide)) ?_;rintro v H' c12 ⟨rfl,rfl⟩ hc12;have hkr : -1<=A8 L E u2 C6/\A8 L E u2 C6<6:=A1h L E u2 C6 0;have hnn:0<=A8 L E u2 C6->okR u2=true/\u2.i<L.length:=fun h=>⟨(E2 h).1,(E2 h).2.1⟩;generalize A8 L E u2 C6=k at hv hkr hnn;by_cases hk:k<0
     ·rw[if_pos hk]at hv;have e1:l=hl:=congrArg Prod.fst (Option.some.inj hv);have e2:K8 L E u2=s4:=congrArg Prod.snd (Option.some.inj hv);subst e1 e2;have hdk:decide (k<0)=true:=by simpa using hk
      simp only[go_sem,seval];repeat' (apply wr<;>try simp only[go_sem,seval,hdk])
      refine AC.call (c_syntax L E u2 _ _ t (by repeat (first|exact h_same|rw[hnO])) (by omega)) ?_;rintro v H' c13 ⟨rfl,rfl⟩ hc13;simp only[go_sem,seval];repeat' (apply wr<;>try simp only[go_sem,seval,ne0,hbx,hb0])
      refine O7 (A9q (by rfl) (by decide) (by clear hHH;cases o<;>rfl)) ?_;simp only[go_sem,seval];repeat' (apply wr<;>try simp only[go_sem,seval])
      rw[C7 (rv4 rfl h_same)];refine⟨_,_,C9t (cc:=cc) l (B7 hfr htc) (fun i hi=>by have:=ho i hi;omega) hno (fun i hi=>?_) (fun j hj=>?_),rfl,rfl⟩
      ·have:=ho i hi;dsimp only
       repeat rw[hnO]
       exact hbo i hi
      ·by_cases e1:j=t
       ·subst e1;dsimp only;rw[hnO,h_same,h_same]
       ·dsimp only
        repeat rw[hnO]
        exact hbj j hj e1
     rw[if_neg hk]at hv;have hdk:decide (k<0)=false:=by simpa using hk
     obtain⟨hok2,hi2⟩:=hnn (by omega);have hw2:IntKind.i64.wrap ((u2.i:Int)+1)=((u2.i+1:Nat):Int):=by rw[w6z (by omega)];omega
     have hwk:IntKind.i64.wrap (1+k)=1+k:=w6z (by omega);have hn2:(A6 u2).i<=L.length:=hi2;have ht2:=I6 (E:=E) (x:=1) (by decide) hn2;have hl32:l.length+1<=32:=by
      have hok1:okR u1=true:=by
       cases hz:okR u1 with
       |true=>rfl
       |false =>
        have:B5 L E u1 [111,110]=K8 L E u1:=by unfold B5 isR;rw[hz];rfl
        rw[<- hu2,this,A0y]at hok2;cases hok2
      have:=(E1 (L:=L) (E:=E) (s:=u) (n:=(l.length:Int)+1) (m:=32) (e:=9) (by decide) (by rw[hlq];exact hok1)).2.1;omega
     simp only[go_sem,seval];by_cases hk2:2<=k
     ·rw[if_pos hk2,if_pos hk2]at hv;have hd2:decide (k≥2)=true:=by simpa using hk2
      repeat' (apply wr<;>try simp only[go_sem,seval,hdk,hd2,hw2,hwk,ne0,h_same,A0])
      refine AC.call (c_name L E (A6 u2) _ _ t (by repeat (first|exact h_same|rw[hnO])) (by omega) (by omega)) ?_;rintro v H' c14 ⟨rfl,rfl⟩ hc14;simp only[go_sem,seval,ne0,h_same];repeat' (apply wr<;>try simp only[go_sem,seval])
      cases hb:K7 L E g 1 (A4 L E (A6 u2) 1).2 with
      |none=>rw[hb]at hv;cases hv
      |some qb =>
       obtain⟨bd,s6⟩:=qb;rw[hb]at hv;dsimp only at hv;have j6:=(II.all g).1 _ _ _ hb ht2;refine AC.call ((c_stm L E hL g).2.1 1 (A4 L E (A6 u2) 1).2 (bd,s6) (by decide) (by decide) hb ht2 _ _ t (by repeat (first|exact h_same|rw[hnO])) (by omega)) ?_;rintro v H' c15 ⟨rfl,rfl⟩ hc15;try dsimp only
       have ne0:=A2m t cc c1 c10 c15 (by omega);simp only[go_sem,seval,ne0,h_same];repeat' (apply wr<;>try simp only[go_sem,seval,ne0,h_same,hbx])
       have hl4:(cellsL (l.map Hd.v)).length=l.length * 4:=C4 (u:=4) (A4h _) |>.trans (by simp);refine O7 (E8 (cs:=cellsL (l.map Hd.v)) (fun e=>by rw[hno e];exact⟨rfl,rfl⟩) (fun i hi=>?_) hl4 (by omega) (by omega) (by omega)) ?_
       ·have:=ho i hi
        repeat rw[hnO]
        exact hbo i hi
       have hdx:∀ X:Hp,delO X o c1=X c1:=fun X=>B4 (fun i hi=>by have:=ho i hi;omega);have ne0:=B3x t cc c1 c10 c15 (c15+1) (by omega);simp only[go_sem,seval,ne0,hdx,hbx];repeat' (apply wr<;>try simp only[go_sem,seval,ne0,h_same,A0,hdx,hbx])
       refine⟨(g,some (c15+1),l++[⟨1+k,(A4 L E (A6 u2) 1).1.text,bd,(A7 L E u1).pos⟩],s6),?_,inv ⟨by omega,by simp only;omega,j6,(fun h=>by cases h),(fun i hi=>by cases hi;omega),by simp only[A0D,A0K];omega,hv⟩,by simp only;omega⟩;intro j b hj;simp only[optH,A0x,A0D,A0K,A1K,F3]at hj;by_cases e1:j=c15+1
       ·subst e1;rw[h_same]at hj;rw[hnO,h_same, <- hj];rfl
       rw[h_ne e1]at hj;by_cases e2:j=t
       ·subst e2;rw[h_same]at hj;rw[hnO,hnO,B4 (fun i hi=>by have:=ho i hi;omega),hnO,hnO,h_same];exact hj
       rw[h_ne e2]at hj;by_cases e3:j=c1
       ·subst e3;rw[h_same]at hj ⊢;exact hj
       rw[h_ne e3]at hj ⊢;by_cases e4:j=cc
       ·subst e4;rw[h_same]at hj;rw[hnO,B4 (fun i hi=>by have:=ho i hi;omega)]
        repeat rw[hnO]
        rw[hb0];exact hj
       ·rw[h_ne e4]at hj;have hjc:j<cc:=Classical.byContradiction fun h=>by rw[hfr j (by omega)]at hj;cases hj
        rw[hnO,B4 (fun i hi=>by have:=ho i hi;omega)]
        repeat rw[hnO]
        rw[hbj j hjc e2];exact hj
     ·rw[if_neg hk2,if_neg hk2]at hv;have hd2:decide (k≥2)=false:=by simpa using hk2
      repeat' (apply wr<;>try simp only[go_sem,seval,hdk,hd2,hw2,hwk,ne0,h_same,A0])
      cases hb:K7 L E g 1 (A6 u2) with
      |none=>rw[hb]at hv;cases hv
      |some qb =>
       obtain⟨bd,s6⟩:=qb;rw[hb]at hv;dsimp only at hv;have j6:=(II.all g).1 _ _ _ hb hn2;refine AC.call ((c_stm L E hL g).2.1 1 (A6 u2) (bd,s6) (by decide) (by decide) hb hn2 _ _ t (by repeat (first|exact h_same|rw[hnO])) (by omega)) ?_;rintro v H' c15 ⟨rfl,rfl⟩ hc15;try dsimp only
       have ne0:=A2m t cc c1 c10 c15 (by omega);simp only[go_sem,seval,ne0,h_same];repeat' (apply wr<;>try simp only[go_sem,seval,ne0,h_same,hbx])
       have hl4:(cellsL (l.map Hd.v)).length=l.length * 4:=C4 (u:=4) (A4h _) |>.trans (by simp);refine O7 (E8 (cs:=cellsL (l.map Hd.v)) (fun e=>by rw[hno e];exact⟨rfl,rfl⟩) (fun i hi=>?_) hl4 (by omega) (by omega) (by omega)) ?_
       ·have:=ho i hi
        repeat rw[hnO]
        exact hbo i hi
       have hdx:∀ X:Hp,delO X o c1=X c1:=fun X=>B4 (fun i hi=>by have:=ho i hi;omega);have ne0:=B3x t cc c1 c10 c15 (c15+1) (by omega);simp only[go_sem,seval,ne0,hdx,hbx];repeat' (apply wr<;>try simp only[go_sem,seval,ne0,h_same,A0,hdx,hbx])
       refine⟨(g,some (c15+1),l++[⟨1+k,[],bd,(A7 L E u1).pos⟩],s6),?_,inv ⟨by omega,by simp only;omega,j6,(fun h=>by cases h),(fun i hi=>by cases hi;omega),by simp only[A0D,A0K];omega,hv⟩,by simp only;omega⟩;intro j b hj;simp only[optH,A0x,A0D,A0K,A1K,F3]at hj;by_cases e1:j=c15+1
       ·subst e1;rw[h_same]at hj;rw[hnO,h_same, <- hj];rfl
       rw[h_ne e1]at hj;by_cases e2:j=t
       ·subst e2;rw[h_same]at hj;rw[hnO,hnO,B4 (fun i hi=>by have:=ho i hi;omega),hnO,hnO,h_same];exact hj
       rw[h_ne e2]at hj;by_cases e3:j=c1
       ·subst e3;rw[h_same]at hj ⊢;exact hj
       rw[h_ne e3]at hj ⊢;by_cases e4:j=cc
       ·subst e4;rw[h_same]at hj;rw[hnO,B4 (fun i hi=>by have:=ho i hi;omega)]
        repeat rw[hnO]
        rw[hb0];exact hj
       ·rw[h_ne e4]at hj;have hjc:j<cc:=Classical.byContradiction fun h=>by rw[hfr j (by omega)]at hj;cases hj
        rw[hnO,B4 (fun i hi=>by have:=ho i hi;omega)]
        repeat rw[hnO]
        rw[hbj j hjc e2];exact hj
theorem D9r{ρ : Ren}{v:Value}{a:DV}(h:VRel ρ (.agg [a,.snil]) v):VRel ρ (.agg [a,.lst []]) v:=by
 obtain⟨bb,rfl,k1,k2⟩:=h.agg_inv;refine .agg _ _ k1 fun j x y hx hy=>?_
 match j with
 |0=>cases hx;exact k2 0 _ y rfl hy
 |1=>cases hx;exact (k2 1 _ y rfl hy).snil_lst
 |_+2=>cases hx
theorem rv2{s:Sym.St}{x i u:Nat}{a b:DV}{o:Bool}(h:s.T x=.ptr i 0)(hb:s.H i=some ⟨u,o,[a,b]⟩):resV s [.cell x 2 true]=some (.agg [a,b]):=by
 simp only[resV,A0q,h,ldv,hb];rfl
theorem c_letter(c:UInt8):PC Tryz.prog 181 [.int .u8 c.toNat] (.bool (ltB c)):=by
 refine PC.go A2 ?_;repeat' ((with_reducible first|refine wr ?_|refine wb2 ?_ ?_<;>(intro hb;try simp only[hb])|fail)<;>try simp only[go_sem,seval])
 all_goals (refine A1 (congrArg DV.bool ?_);rw[A2C];simp_all[ltB]<;>omega)
theorem c_digit(c:UInt8):PC Tryz.prog 183 [.int .u8 c.toNat] (.bool (dgB c)):=by
 refine PC.go A2 ?_;repeat' ((with_reducible first|refine wr ?_|refine wb2 ?_ ?_<;>(intro hb;try simp only[hb])|fail)<;>try simp only[go_sem,seval])
 all_goals (refine A1 (congrArg DV.bool ?_);rw[A2C];simp_all[dgB]<;>omega)
theorem c_letterR(c:UInt8):PC Tryz.prog 132 [.int .u8 c.toNat] (.bool (ltB c)):=by
 refine PC.go A2 ?_;repeat' ((with_reducible first|refine wr ?_|refine wb2 ?_ ?_<;>(intro hb;try simp only[hb])|fail)<;>try simp only[go_sem,seval])
 all_goals (refine A1 (congrArg DV.bool ?_);rw[A2C];simp_all[ltB]<;>omega)
theorem c_digitR(c:UInt8):PC Tryz.prog 134 [.int .u8 c.toNat] (.bool (dgB c)):=by
 refine PC.go A2 ?_;repeat' ((with_reducible first|refine wr ?_|refine wb2 ?_ ?_<;>(intro hb;try simp only[hb])|fail)<;>try simp only[go_sem,seval])
 all_goals (refine A1 (congrArg DV.bool ?_);rw[A2C];simp_all[dgB]<;>omega)
theorem c_part(c:UInt8):PC Tryz.prog 182 [.int .u8 c.toNat] (.bool (ptB c)):=by
 refine PC.go A2 ?_;repeat' ((with_reducible first|refine wr ?_|refine cpc (c_letter c) ?_|refine cpc (c_digit c) ?_|refine wb2 ?_ ?_<;>(intro hb;try simp only[hb])|fail)<;>try simp only[go_sem,seval])
 all_goals (refine A1 (congrArg DV.bool ?_);rw[A2C];simp_all[ptB]<;>omega)
theorem c_span{p:UInt8->Bool}{f:Nat}{a cs:List DV}(s:List UInt8)(hs:s.length<=9223372036854775807)(na:DV.nlL a=true)(ncs:DV.nlL cs=true)(hf:∀ x∈s,PC Tryz.prog f (a++[.int .u8 x.toNat]++cs) (.bool (p x))):
  PC Tryz.prog 179 [.str s,.func f a cs] (I64 (B0 p s)):=by
 refine PC.ofT A2 rfl (A0A rfl) (by simp[DV.nlL,DV.nl,na,ncs]) rfl ?_;repeat' (apply wr<;>try simp only[go_sem,seval])
 refine B6 (fun k:Nat=>[(0,.str s),(1,.func f a cs),(5,I64 k)]) (fun _=>nil) (fun k _=>k<=s.length/\k<=B0 p s) (fun k=>s.length-k) 0 (by simp[B9,tm,Tm.upd]) (Sub.nil _) (by simp) ?_;rintro k c ⟨hk,he⟩;by_cases hlt:k<s.length
 ·have hd:=dtz hlt;have hg:=A0B hlt;have hw:=w64 (n:=(k:Int)+1);have hst:=A8g hg he;have hc:=hf s[k] (A0S hlt);repeat' ((with_reducible first|refine wr ?_|refine cpc hc ?_|refine wb2 ?_ ?_<;>(intro hb;try simp only[hb])|fail)<;>try simp only[go_sem,seval,hd,hg,hw])
  ·exact⟨k+1,rfl,Sub.refl _,inv ⟨by omega,hst.1 hb⟩,by omega⟩
  ·refine A1 ?_;rw[hst.2 hb]
 ·have hd:=dfz hlt;repeat' (apply wr<;>try simp only[go_sem,seval,hd])
  refine A1 ?_;rw[B0h (by omega) he]
theorem c_spanPt(s:List UInt8)(hs:s.length<=9223372036854775807):PC Tryz.prog 179 [.str s,.func 182 [] []] (I64 (B0 ptB s)) :=
 c_span s hs rfl rfl fun x _=>c_part x
end Go.Proofs.YtenmhfknbopmeaaGreatDoor
end
