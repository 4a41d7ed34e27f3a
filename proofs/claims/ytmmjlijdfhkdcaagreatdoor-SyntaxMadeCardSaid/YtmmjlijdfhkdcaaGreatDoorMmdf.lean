/-
  HELPERS of the claim: part 6 of its texts.
-/
import Derived.Test.YtmmjlijdfhkdcaaGreatDoorMmde
noncomputable section
set_option maxHeartbeats 4000000
set_option maxRecDepth 100000
set_option linter.unusedSimpArgs false
set_option linter.unusedVariables false
namespace Go.Proofs.YtmmjlijdfhkdcaaGreatDoor
open Go.Eng (IC IOper DReg IFn M8)
open Go.Sym Go.Pb
theorem D6z{ρ : Ren}{v:Value}{a b e:DV}(h:VRel ρ (.agg [a,b,.snil,e]) v):VRel ρ (.agg [a,b,.lst [],e]) v:=by
 obtain⟨bb,rfl,k1,k2⟩:=h.agg_inv;refine .agg _ _ k1 fun j x y hx hy=>?_
 match j with
 |0=>cases hx;exact k2 0 _ y rfl hy
 |1=>cases hx;exact k2 1 _ y rfl hy
 |2=>cases hx;exact (k2 2 _ y rfl hy).snil_lst
 |3=>cases hx;exact k2 3 _ y rfl hy
 |_+4=>cases hx
theorem C7q{K H':Hp}{cc:Nat}{o:Option Nat}{a b e:DV}(l:List Hd)(hK:∀ i,cc<=i->K i=none)(ho:∀ i,o=some i->cc<=i)(hno:o=none->l=[])(hb:∀ i,o=some i->H' i=some ⟨4,true,A3 (l.map Hd.v)⟩)(h:∀ j,j<cc->H' j=K j):
  GL H' [.agg [a,b,A8 o l.length,e]] K [.agg [a,b,A1c l,e]]:=by
 cases o with
 |none =>
  obtain rfl:=hno rfl;exact (R6 hK h).trans (GL.view fun ρ vs hA=>S3 (fun v h=>D6z h) vs hA)
 |some i =>
  have:=ho i rfl;exact GL.frzS (id:=i) (hb i rfl) rfl (fun j=>by
   by_cases hj:j<cc
   ·exact .inr ⟨by omega,(h j hj).symm⟩
   ·exact .inl (hK j (by omega))) (.cons _ _ _ _ (.agg _ _ (.cons _ _ _ _ (.same _) (.cons _ _ _ _ (.same _) (.cons _ _ _ _ (M6 (u:=4) (by simp) (A2u l) ⟨[],by simp⟩) (.cons _ _ _ _ (.same _) .nil))))) .nil)
theorem c_mode(L:List Tok)(E:Int)(hL:L.length<=1000000000)(f:Nat)(s:Rd)(r:Md × Rd)(h:A1a L E f s=some r)(hi:s.i<=L.length):RdC L E 44 [] s (r.1.v,r.2):=by
 intro H cc t ht htc;refine AC.bodyT B1 rfl (A0C rfl) fun hfr=>?_;unfold A1a at h;dsimp only at h;have i1:=H4 (E:=E) (x:=[109,111,100,101]) hi;generalize hs1:D6 L E s [109,111,100,101]=s1 at h i1;have i2:=J7 (E:=E) (x:=1) (by decide) i1;have i3:=J7 (E:=E) (x:=3) (by decide) i2;have i4:=H4 (E:=E) (x:=[123]) i3;repeat' ((with_reducible first|refine wr ?_|refine A1 ?_ ?_|refine wb2 ?_ ?_<;>(intro hb;try simp only[hb])|fail)<;>try simp only[go_sem,seval])
 refine AC.call (c_peek L E s _ _ t (by rw[hnO];exact ht) (by omega)) ?_;rintro v H' c1 ⟨rfl,rfl⟩ hc1;have ne0:=L8 t cc c1 (by omega);simp only[go_sem,seval,ne0];repeat' ((with_reducible first|refine wr ?_|refine A1 ?_ ?_|refine wb2 ?_ ?_<;>(intro hb;try simp only[hb])|fail)<;>try simp only[go_sem,seval,ne0,A0,A2])
 refine AC.call (c_expect L E s _ _ t (by repeat (first|exact ht|rw[hnO])) (by omega) (by omega) _) ?_;rintro v H' c2 ⟨rfl,rfl⟩ hc2;rw[hs1];simp only[go_sem,seval,ne0];repeat' ((with_reducible first|refine wr ?_|refine A1 ?_ ?_|refine wb2 ?_ ?_<;>(intro hb;try simp only[hb])|fail)<;>try simp only[go_sem,seval,ne0,A0,A2])
 refine AC.call (c_name L E s1 _ _ t (by repeat (first|exact A0|rw[hnO])) (by omega) (by omega)) ?_;rintro v H' c3 ⟨rfl,rfl⟩ hc3;generalize (B4 L E s1 1).1.text=n at h ⊢;generalize (B4 L E s1 1).2=s2 at h i2 i3 i4 ⊢;simp only[go_sem,seval,ne0,A0,A2];repeat' ((with_reducible first|refine wr ?_|refine A1 ?_ ?_|refine wb2 ?_ ?_<;>(intro hb;try simp only[hb])|fail)<;>try simp only[go_sem,seval,ne0,A0,A2])
 refine AC.call (c_take L E s2 _ _ t (by repeat (first|exact A0|rw[hnO])) (by omega) (by omega) 3) ?_;rintro v H' c4 ⟨rfl,rfl⟩ hc4;try dsimp only
 simp only[go_sem,seval,ne0,A0,A2];repeat' ((with_reducible first|refine wr ?_|refine A1 ?_ ?_|refine wb2 ?_ ?_<;>(intro hb;try simp only[hb])|fail)<;>try simp only[go_sem,seval,ne0,A0,A2])
 refine AC.call (c_expect L E (B4 L E s2 3).2 _ _ t (by repeat (first|exact A0|rw[hnO])) (by omega) (by omega) _) ?_;rintro v H' c5 ⟨rfl,rfl⟩ hc5;generalize (B4 L E s2 3).1.value=z at h ⊢;generalize D6 L E (B4 L E s2 3).2 [123]=s3 at h i4 ⊢;generalize (C2 L E s).pos=p at h ⊢;cases hm:U6 L E f [] s3 with
 |none=>rw[hm]at h;cases h
 |some q =>
  obtain⟨hl,s4⟩:=q;rw[hm]at h;dsimp only at h;cases h;simp only[go_sem,seval,ne0,A0,A2];repeat' ((with_reducible first|refine wr ?_|refine A1 ?_ ?_|refine wb2 ?_ ?_<;>(intro hb;try simp only[hb])|fail)<;>try simp only[go_sem,seval,ne0,A0,A2])
  refine D4 (fun _:Nat × Option Nat × List Hd × Rd=>[(0,.ptr t 0),(2,.ptr cc 0),(3,.ptr c1 0)]) (fun q=>B9 (((H.upd cc ⟨0,true,[.str [],I64 0,.snil,I64 0]⟩).upd c1 ⟨0,true,[.str n,I64 z,A8 q.2.1 q.2.2.1.length,I64 p]⟩).upd t (rdR L E q.2.2.2)) q.2.1 ⟨4,true,A3 (q.2.2.1.map Hd.v)⟩)
   (fun q c=>c1+1<=c/\q.1<=f/\q.2.2.2.i<=L.length/\(q.2.1=none->q.2.2.1=[])/\(∀ i,q.2.1=some i->c1<i/\i<c)/\q.2.2.1.length<=32/\U6 L E q.1 q.2.2.1 q.2.2.2=some (hl,s4)) (fun q=>q.1) (f,none,[],s3)
   (by simp[C5,tm,Tm.upd]) (fun j b hj=>?_) ⟨by omega,A0J _,i4,fun _=>rfl,(fun i hi=>by cases hi),by simp,hm⟩ ?_
  ·simp only[B9,A1s]at hj;by_cases e1:j=t
   ·subst e1;rw[A0]at hj ⊢;exact hj
   ·rw[A6 e1]at hj ⊢;by_cases e2:j=c1
    ·subst e2;rw[A0]at hj ⊢;exact hj
    ·rw[A6 e2]at hj ⊢;simp only[A6 e1,A6 e2];exact hj
  clear hm i1 i2 i3 i4;rintro⟨g,o,l,u⟩ c ⟨hc,hg,hi5,hno,ho,hl1,hv⟩;dsimp only at hc hg hi5 hno ho hl1 hv ⊢;cases g with
  |zero=>simp[U6]at hv
  |succ g =>
  unfold U6 at hv;dsimp only at hv;have hHt:B9 (((H.upd cc ⟨0,true,[.str [],I64 0,.snil,I64 0]⟩).upd c1 ⟨0,true,[.str n,I64 z,A8 o l.length,I64 p]⟩).upd t (rdR L E u)) o ⟨4,true,A3 (l.map Hd.v)⟩ t=some (rdR L E u):=by rw[B6 (fun i hi=>by have:=ho i hi;omega),A0]
  repeat' ((with_reducible first|refine wr ?_|refine A1 ?_ ?_|refine wb2 ?_ ?_<;>(intro hb;try simp only[hb])|fail)<;>try simp only[go_sem,seval])
  refine AC.call (c_rdok L E u _ _ t hHt (by omega)) ?_;rintro v H' c6 ⟨rfl,rfl⟩ hc6;have hbx:(B9 (((H.upd cc ⟨0,true,[.str [],I64 0,.snil,I64 0]⟩).upd c1 ⟨0,true,[.str n,I64 z,A8 o l.length,I64 p]⟩).upd t (rdR L E u)) o ⟨4,true,A3 (l.map Hd.v)⟩) c1=some ⟨0,true,[.str n,I64 z,A8 o l.length,I64 p]⟩:=by rw[B6 (fun i hi=>by have:=ho i hi;omega),hnO,A0]
  have hbo:∀ i:Nat,o=some i->(B9 (((H.upd cc ⟨0,true,[.str [],I64 0,.snil,I64 0]⟩).upd c1 ⟨0,true,[.str n,I64 z,A8 o l.length,I64 p]⟩).upd t (rdR L E u)) o ⟨4,true,A3 (l.map Hd.v)⟩) i=some ⟨4,true,A3 (l.map Hd.v)⟩:=fun i hi=>by subst hi;exact A0
  have hbj:∀ j:Nat,j<cc->¬ j=t->(B9 (((H.upd cc ⟨0,true,[.str [],I64 0,.snil,I64 0]⟩).upd c1 ⟨0,true,[.str n,I64 z,A8 o l.length,I64 p]⟩).upd t (rdR L E u)) o ⟨4,true,A3 (l.map Hd.v)⟩) j=H j:=fun j h1 h2=>by rw[B6 (fun i hi=>by have:=ho i hi;omega),A6 h2,hnO,hnO]
  have hb0:(B9 (((H.upd cc ⟨0,true,[.str [],I64 0,.snil,I64 0]⟩).upd c1 ⟨0,true,[.str n,I64 z,A8 o l.length,I64 p]⟩).upd t (rdR L E u)) o ⟨4,true,A3 (l.map Hd.v)⟩) cc=some ⟨0,true,[.str [],I64 0,.snil,I64 0]⟩:=by rw[B6 (fun i hi=>by have:=ho i hi;omega),hnO,hnO,A0]
  have hT:(A8 o l.length).one=true:=by cases o<;>rfl
  generalize hHH:B9 (((H.upd cc ⟨0,true,[.str [],I64 0,.snil,I64 0]⟩).upd c1 ⟨0,true,[.str n,I64 z,A8 o l.length,I64 p]⟩).upd t (rdR L E u)) o ⟨4,true,A3 (l.map Hd.v)⟩=HH at hHt hbx hbo hbj hb0 ⊢;have fin:∀ (u2:Rd) (e:DV) (x:Blk) (q1 q2:DV),GL ((HH.upd t (rdR L E u2)).upd cc x) [.agg [q1,q2,A8 o l.length,e]] (H.upd t (rdR L E u2)) [.agg [q1,q2,A1c l,e]]:=fun u2 e x q1 q2 =>
   C7q (cc:=cc) l (D7 hfr htc) (fun i hi=>by have:=ho i hi;omega) hno (fun i hi=>by have:=ho i hi;rw[hnO,hnO];exact hbo i hi) (fun j hj=>by
    rw[hnO];by_cases e1:j=t
    ·subst e1;rw[A0,A0]
    ·rw[A6 e1,A6 e1,hbj j hj e1])
  cases hok:okR u with
  |false =>
   rw[if_neg (by simp[hok])]at hv;have e1:l=hl:=congrArg Prod.fst (Option.some.inj hv);have e2:D6 L E u [125]=s4:=congrArg Prod.snd (Option.some.inj hv);subst e1 e2;simp only[go_sem,seval,hok];repeat' ((with_reducible first|refine wr ?_|refine A1 ?_ ?_|refine wb2 ?_ ?_<;>(intro hb;try simp only[hb])|fail)<;>try simp only[go_sem,seval,hok])
   refine AC.call (c_expect L E u _ _ t hHt (by omega) (by omega) _) ?_;rintro v H' c7 ⟨rfl,rfl⟩ hc7;simp only[go_sem,seval,ne0,A0,hbx,hb0,hT];repeat' ((with_reducible first|refine wr ?_|refine A1 ?_ ?_|refine wb2 ?_ ?_<;>(intro hb;try simp only[hb])|fail)<;>try simp only[go_sem,seval,ne0,A0,hbx,hb0,hT])
   refine C6 (A3j (by rfl) (by decide) (by clear hHH;cases o<;>rfl)) ?_;simp only[go_sem,seval,ne0,A0];repeat' ((with_reducible first|refine wr ?_|refine A1 ?_ ?_|refine wb2 ?_ ?_<;>(intro hb;try simp only[hb])|fail)<;>try simp only[go_sem,seval,ne0,A0])
   rw[E6 (rv4 rfl A0)];exact⟨_,_,fin _ _ _ _ _,rfl,rfl⟩
  |true =>
   simp only[go_sem,seval,hok];repeat' ((with_reducible first|refine wr ?_|refine A1 ?_ ?_|refine wb2 ?_ ?_<;>(intro hb;try simp only[hb])|fail)<;>try simp only[go_sem,seval,hok])
   refine AC.call (c_is L E u _ _ t hHt (by omega) _) ?_;rintro v H' c7 ⟨rfl,rfl⟩ hc7;cases hq:isR L E u [125] with
   |true =>
    rw[if_neg (by simp[hq])]at hv;have e1:l=hl:=congrArg Prod.fst (Option.some.inj hv);have e2:D6 L E u [125]=s4:=congrArg Prod.snd (Option.some.inj hv);subst e1 e2;simp only[go_sem,seval,hq];repeat' ((with_reducible first|refine wr ?_|refine A1 ?_ ?_|refine wb2 ?_ ?_<;>(intro hb;try simp only[hb])|fail)<;>try simp only[go_sem,seval,hq])
    refine AC.call (c_expect L E u _ _ t hHt (by omega) (by omega) _) ?_;rintro v H' c8 ⟨rfl,rfl⟩ hc8;simp only[go_sem,seval,ne0,A0,hbx,hb0,hT];repeat' ((with_reducible first|refine wr ?_|refine A1 ?_ ?_|refine wb2 ?_ ?_<;>(intro hb;try simp only[hb])|fail)<;>try simp only[go_sem,seval,ne0,A0,hbx,hb0,hT])
    refine C6 (A3j (by rfl) (by decide) (by clear hHH;cases o<;>rfl)) ?_;simp only[go_sem,seval,ne0,A0];repeat' ((with_reducible first|refine wr ?_|refine A1 ?_ ?_|refine wb2 ?_ ?_<;>(intro hb;try simp only[hb])|fail)<;>try simp only[go_sem,seval,ne0,A0])
    rw[E6 (rv4 rfl A0)];exact⟨_,_,fin _ _ _ _ _,rfl,rfl⟩
   |false =>
    rw[if_pos ⟨hok,hq⟩]at hv;simp only[go_sem,seval,hq];repeat' ((with_reducible first|refine wr ?_|refine A1 ?_ ?_|refine wb2 ?_ ?_<;>(intro hb;try simp only[hb])|fail)<;>try simp only[go_sem,seval,hq])
    refine AC.call (c_is L E u _ _ t hHt (by omega) _) ?_;rintro v H' c8 ⟨rfl,rfl⟩ hc8;cases hon:isR L E u [111,110] with
    |false =>
     rw[if_pos hon]at hv;have e1:l=hl:=congrArg Prod.fst (Option.some.inj hv);have e2:N8 L E u=s4:=congrArg Prod.snd (Option.some.inj hv);subst e1 e2;simp only[go_sem,seval,hon];repeat' ((with_reducible first|refine wr ?_|refine A1 ?_ ?_|refine wb2 ?_ ?_<;>(intro hb;try simp only[hb])|fail)<;>try simp only[go_sem,seval,hon])
     refine AC.call (c_syntax L E u _ _ t hHt (by omega)) ?_;rintro v H' c9 ⟨rfl,rfl⟩ hc9;simp only[go_sem,seval,ne0,A0,hbx,hb0,hT];repeat' ((with_reducible first|refine wr ?_|refine A1 ?_ ?_|refine wb2 ?_ ?_<;>(intro hb;try simp only[hb])|fail)<;>try simp only[go_sem,seval,ne0,A0,hbx,hb0,hT])
     refine C6 (A3j (by rfl) (by decide) (by clear hHH;cases o<;>rfl)) ?_;simp only[go_sem,seval,ne0,A0];repeat' ((with_reducible first|refine wr ?_|refine A1 ?_ ?_|refine wb2 ?_ ?_<;>(intro hb;try simp only[hb])|fail)<;>try simp only[go_sem,seval,ne0,A0])
     rw[E6 (rv4 rfl A0)];exact⟨_,_,fin _ _ _ _ _,rfl,rfl⟩
    |true =>
     rw[if_neg (by simp[hon])]at hv;have hlen:A1v (A8 o l.length)=some (I64 l.length):=by
      cases o with
      |none=>rw[hno rfl];rfl
      |some b=>rfl
     have hwl:IntKind.i64.wrap ((l.length:Int)+1)=(l.length:Int)+1:=w6z (by omega);simp only[go_sem,seval,hon];repeat' ((with_reducible first|refine wr ?_|refine A1 ?_ ?_|refine wb2 ?_ ?_<;>(intro hb;try simp only[hb])|fail)<;>try simp only[go_sem,seval,hon,hbx,hlen,hwl])
     refine AC.call (c_limit L E u _ _ t hHt (by omega) _ _ _) ?_;rintro v H' c9 ⟨rfl,rfl⟩ hc9;have j1:(C9 L E u ((l.length:Int)+1) 32 9).i<=L.length:=by rw[F0];exact hi5
     generalize hlq:C9 L E u ((l.length:Int)+1) 32 9=u1 at hv j1 ⊢;have j2:=H4 (E:=E) (x:=[111,110]) j1;simp only[go_sem,seval];repeat' ((with_reducible first|refine wr ?_|refine A1 ?_ ?_|refine wb2 ?_ ?_<;>(intro hb;try simp only[hb])|fail)<;>try simp only[go_sem,seval])
     refine AC.call (c_peek L E u1 _ _ t A0 (by omega)) ?_;rintro v H' c10 ⟨rfl,rfl⟩ hc10;have ne0:=V7 t cc c1 c10 (by omega);simp only[go_sem,seval,ne0];repeat' ((with_reducible first|refine wr ?_|refine A1 ?_ ?_|refine wb2 ?_ ?_<;>(intro hb;try simp only[hb])|fail)<;>try simp only[go_sem,seval,ne0,A0,A2])
     refine AC.call (c_expect L E u1 _ _ t (by repeat (first|exact A0|rw[hnO])) (by omega) (by omega) _) ?_;rintro v H' c11 ⟨rfl,rfl⟩ hc11;generalize hu2:D6 L E u1 [111,110]=u2 at hv j2 ⊢;simp only[go_sem,seval,ne0];repeat' ((with_reducible first|refine wr ?_|refine cpc c_trigs31 ?_|refine A1 ?_ ?_|refine wb2 ?_ ?_<;>(intro hb;try simp only[hb])|fail)<;>try simp only[go_sem,seval,ne0,A0,A2])
     refine AC.call (c_among L E u2 _ _ t (by repeat (first|exact A0|rw[hnO])) (by omega) D5 (by decide)) ?_;rintro v H' c12 ⟨rfl,rfl⟩ hc12;have hkr : -1<=C3 L E u2 D5/\C3 L E u2 D5<6:=A1f L E u2 D5 0;have hnn:0<=C3 L E u2 D5->okR u2=true/\u2.i<L.length:=fun h=>⟨(F7 h).1,(F7 h).2.1⟩;generalize C3 L E u2 D5=k at hv hkr hnn;by_cases hk:k<0
     ·rw[if_pos hk]at hv;have e1:l=hl:=congrArg Prod.fst (Option.some.inj hv);have e2:N8 L E u2=s4:=congrArg Prod.snd (Option.some.inj hv);subst e1 e2;have hdk:decide (k<0)=true:=by simpa using hk
      simp only[go_sem,seval,ne0,hdk];repeat' ((with_reducible first|refine wr ?_|refine A1 ?_ ?_|refine wb2 ?_ ?_<;>(intro hb;try simp only[hb])|fail)<;>try simp only[go_sem,seval,hdk])
      refine AC.call (c_syntax L E u2 _ _ t (by repeat (first|exact A0|rw[hnO])) (by omega)) ?_;rintro v H' c13 ⟨rfl,rfl⟩ hc13;simp only[go_sem,seval,ne0,A0,hbx,hb0,hT];repeat' ((with_reducible first|refine wr ?_|refine A1 ?_ ?_|refine wb2 ?_ ?_<;>(intro hb;try simp only[hb])|fail)<;>try simp only[go_sem,seval,ne0,A0,hbx,hb0,hT])
      refine C6 (A3j (by rfl) (by decide) (by clear hHH;cases o<;>rfl)) ?_;simp only[go_sem,seval,ne0,A0];repeat' ((with_reducible first|refine wr ?_|refine A1 ?_ ?_|refine wb2 ?_ ?_<;>(intro hb;try simp only[hb])|fail)<;>try simp only[go_sem,seval,ne0,A0])
      rw[E6 (rv4 rfl A0)];refine⟨_,_,C7q (cc:=cc) l (D7 hfr htc) (fun i hi=>by have:=ho i hi;omega) hno (fun i hi=>?_) (fun j hj=>?_),rfl,rfl⟩
      ·have:=ho i hi;dsimp only
       repeat rw[hnO]
       exact hbo i hi
      ·by_cases e1:j=t
       ·subst e1;dsimp only;rw[hnO,A0,A0]
       ·dsimp only
        repeat rw[hnO]
        exact hbj j hj e1
     rw[if_neg hk]at hv;have hdk:decide (k<0)=false:=by simpa using hk
     obtain⟨hok2,hi2⟩:=hnn (by omega);have hw2:IntKind.i64.wrap ((u2.i:Int)+1)=((u2.i+1:Nat):Int):=by rw[w6z (by omega)];omega
     have hwk:IntKind.i64.wrap (1+k)=1+k:=w6z (by omega);have hn2:(B2 u2).i<=L.length:=hi2;have ht2:=J7 (E:=E) (x:=1) (by decide) hn2;have hl32:l.length+1<=32:=by
      have hok1:okR u1=true:=by
       cases hz:okR u1 with
       |true=>rfl
       |false =>
        have:D6 L E u1 [111,110]=N8 L E u1:=by unfold D6 isR;rw[hz];rfl
        rw[<- hu2,this,W9]at hok2;cases hok2
      have:=(F5 (L:=L) (E:=E) (s:=u) (n:=(l.length:Int)+1) (m:=32) (e:=9) (by decide) (by rw[hlq];exact hok1)).2.1;omega
     simp only[go_sem,seval,ne0,hdk];by_cases hk2:2<=k
     ·rw[if_pos hk2,if_pos hk2]at hv;have hd2:decide (k≥2)=true:=by simpa using hk2
      repeat' ((with_reducible first|refine wr ?_|refine A1 ?_ ?_|refine wb2 ?_ ?_<;>(intro hb;try simp only[hb])|fail)<;>try simp only[go_sem,seval,hdk,hd2,hw2,hwk,ne0,A0,A2])
      refine AC.call (c_name L E (B2 u2) _ _ t (by repeat (first|exact A0|rw[hnO])) (by omega) (by omega)) ?_;rintro v H' c14 ⟨rfl,rfl⟩ hc14;simp only[go_sem,seval,ne0,A0,A2];repeat' ((with_reducible first|refine wr ?_|refine A1 ?_ ?_|refine wb2 ?_ ?_<;>(intro hb;try simp only[hb])|fail)<;>try simp only[go_sem,seval,ne0,A0,A2])
      cases hb:K3 L E g 1 (B4 L E (B2 u2) 1).2 with
      |none=>rw[hb]at hv;cases hv
      |some qb =>
       obtain⟨bd,s6⟩:=qb;rw[hb]at hv;dsimp only at hv;have j6:=(II.all g).1 _ _ _ hb ht2;refine AC.call ((c_stm L E hL g).2.1 1 (B4 L E (B2 u2) 1).2 (bd,s6) (by decide) (by decide) hb ht2 _ _ t (by repeat (first|exact A0|rw[hnO])) (by omega)) ?_;rintro v H' c15 ⟨rfl,rfl⟩ hc15;try dsimp only
       have ne0:=T1 t cc c1 c10 c15 (by omega);simp only[go_sem,seval,ne0,A0,A2,hbx];repeat' ((with_reducible first|refine wr ?_|refine A1 ?_ ?_|refine wb2 ?_ ?_<;>(intro hb;try simp only[hb])|fail)<;>try simp only[go_sem,seval,ne0,A0,A2,hbx])
       have hl4:(A3 (l.map Hd.v)).length=l.length * 4:=C0 (u:=4) (A2u _) |>.trans (by simp);refine C6 (E0 (cs:=A3 (l.map Hd.v)) (fun e=>by rw[hno e];exact⟨rfl,rfl⟩) (fun i hi=>?_) hl4 (by omega) (by omega) (by omega)) ?_
       ·have:=ho i hi
        repeat rw[hnO]
        exact hbo i hi
       have hdx:∀ X:Hp,I5 X o c1=X c1:=fun X=>C7 (fun i hi=>by have:=ho i hi;omega);have ne0:=A9a t cc c1 c10 c15 (c15+1) (by omega);simp only[go_sem,seval,ne0,A0,A2,hdx,hbx];repeat' ((with_reducible first|refine wr ?_|refine A1 ?_ ?_|refine wb2 ?_ ?_<;>(intro hb;try simp only[hb])|fail)<;>try simp only[go_sem,seval,ne0,A0,A2,hdx,hbx])
       refine⟨(g,some (c15+1),l++[⟨1+k,(B4 L E (B2 u2) 1).1.text,bd,(C2 L E u1).pos⟩],s6),?_,inv ⟨by omega,by simp only;omega,j6,(fun h=>by cases h),(fun i hi=>by cases hi;omega),by simp only[A0A,A0G];omega,hv⟩,by simp only;omega⟩;intro j b hj;simp only[B9,P3,A0A,A0G,A0S,C1]at hj;by_cases e1:j=c15+1
       ·subst e1;rw[A0]at hj;rw[hnO,A0, <- hj];rfl
       rw[A6 e1]at hj;by_cases e2:j=t
       ·subst e2;rw[A0]at hj;rw[hnO,hnO,C7 (fun i hi=>by have:=ho i hi;omega),hnO,hnO,A0];exact hj
       rw[A6 e2]at hj;by_cases e3:j=c1
       ·subst e3;rw[A0]at hj ⊢;exact hj
       rw[A6 e3]at hj ⊢;by_cases e4:j=cc
       ·subst e4;rw[A0]at hj;rw[hnO,C7 (fun i hi=>by have:=ho i hi;omega)]
        repeat rw[hnO]
        rw[hb0];exact hj
       ·rw[A6 e4]at hj;have hjc:j<cc:=Classical.byContradiction fun h=>by rw[hfr j (by omega)]at hj;cases hj
        rw[hnO,C7 (fun i hi=>by have:=ho i hi;omega)]
        repeat rw[hnO]
        rw[hbj j hjc e2];exact hj
     ·rw[if_neg hk2,if_neg hk2]at hv;have hd2:decide (k≥2)=false:=by simpa using hk2
      repeat' ((with_reducible first|refine wr ?_|refine A1 ?_ ?_|refine wb2 ?_ ?_<;>(intro hb;try simp only[hb])|fail)<;>try simp only[go_sem,seval,hdk,hd2,hw2,hwk,ne0,A0,A2])
      cases hb:K3 L E g 1 (B2 u2) with
      |none=>rw[hb]at hv;cases hv
      |some qb =>
       obtain⟨bd,s6⟩:=qb;rw[hb]at hv;dsimp only at hv;have j6:=(II.all g).1 _ _ _ hb hn2;refine AC.call ((c_stm L E hL g).2.1 1 (B2 u2) (bd,s6) (by decide) (by decide) hb hn2 _ _ t (by repeat (first|exact A0|rw[hnO])) (by omega)) ?_;rintro v H' c15 ⟨rfl,rfl⟩ hc15;try dsimp only
       have ne0:=T1 t cc c1 c10 c15 (by omega);simp only[go_sem,seval,ne0,A0,A2,hbx];repeat' ((with_reducible first|refine wr ?_|refine A1 ?_ ?_|refine wb2 ?_ ?_<;>(intro hb;try simp only[hb])|fail)<;>try simp only[go_sem,seval,ne0,A0,A2,hbx])
       have hl4:(A3 (l.map Hd.v)).length=l.length * 4:=C0 (u:=4) (A2u _) |>.trans (by simp);refine C6 (E0 (cs:=A3 (l.map Hd.v)) (fun e=>by rw[hno e];exact⟨rfl,rfl⟩) (fun i hi=>?_) hl4 (by omega) (by omega) (by omega)) ?_
       ·have:=ho i hi
        repeat rw[hnO]
        exact hbo i hi
       have hdx:∀ X:Hp,I5 X o c1=X c1:=fun X=>C7 (fun i hi=>by have:=ho i hi;omega);have ne0:=A9a t cc c1 c10 c15 (c15+1) (by omega);simp only[go_sem,seval,ne0,A0,A2,hdx,hbx];repeat' ((with_reducible first|refine wr ?_|refine A1 ?_ ?_|refine wb2 ?_ ?_<;>(intro hb;try simp only[hb])|fail)<;>try simp only[go_sem,seval,ne0,A0,A2,hdx,hbx])
       refine⟨(g,some (c15+1),l++[⟨1+k,[],bd,(C2 L E u1).pos⟩],s6),?_,inv ⟨by omega,by simp only;omega,j6,(fun h=>by cases h),(fun i hi=>by cases hi;omega),by simp only[A0A,A0G];omega,hv⟩,by simp only;omega⟩;intro j b hj;simp only[B9,P3,A0A,A0G,A0S,C1]at hj;by_cases e1:j=c15+1
       ·subst e1;rw[A0]at hj;rw[hnO,A0, <- hj];rfl
       rw[A6 e1]at hj;by_cases e2:j=t
       ·subst e2;rw[A0]at hj;rw[hnO,hnO,C7 (fun i hi=>by have:=ho i hi;omega),hnO,hnO,A0];exact hj
       rw[A6 e2]at hj;by_cases e3:j=c1
       ·subst e3;rw[A0]at hj ⊢;exact hj
       rw[A6 e3]at hj ⊢;by_cases e4:j=cc
       ·subst e4;rw[A0]at hj;rw[hnO,C7 (fun i hi=>by have:=ho i hi;omega)]
        repeat rw[hnO]
        rw[hb0];exact hj
       ·rw[A6 e4]at hj;have hjc:j<cc:=Classical.byContradiction fun h=>by rw[hfr j (by omega)]at hj;cases hj
        rw[hnO,C7 (fun i hi=>by have:=ho i hi;omega)]
        repeat rw[hnO]
        rw[hbj j hjc e2];exact hj
theorem D6y{ρ : Ren}{v:Value}{a:DV}(h:VRel ρ (.agg [a,.snil]) v):VRel ρ (.agg [a,.lst []]) v:=by
 obtain⟨bb,rfl,k1,k2⟩:=h.agg_inv;refine .agg _ _ k1 fun j x y hx hy=>?_
 match j with
 |0=>cases hx;exact k2 0 _ y rfl hy
 |1=>cases hx;exact (k2 1 _ y rfl hy).snil_lst
 |_+2=>cases hx
theorem C7p{K H':Hp}{cc:Nat}{o:Option Nat}{a:DV}(l:List Md)(hK:∀ i,cc<=i->K i=none)(ho:∀ i,o=some i->cc<=i)(hno:o=none->l=[])(hb:∀ i,o=some i->H' i=some ⟨4,true,A3 (l.map Md.v)⟩)(h:∀ j,j<cc->H' j=K j):
  GL H' [.agg [a,A8 o l.length]] K [.agg [a,H3 l]]:=by
 cases o with
 |none =>
  obtain rfl:=hno rfl;exact (R6 hK h).trans (GL.view fun ρ vs hA=>S3 (fun v h=>D6y h) vs hA)
 |some i =>
  have:=ho i rfl;exact GL.frzS (id:=i) (hb i rfl) rfl (fun j=>by
   by_cases hj:j<cc
   ·exact .inr ⟨by omega,(h j hj).symm⟩
   ·exact .inl (hK j (by omega))) (.cons _ _ _ _ (.agg _ _ (.cons _ _ _ _ (.same _) (.cons _ _ _ _ (M6 (u:=4) (by simp) (A7f l) ⟨[],by simp⟩) .nil))) .nil)
theorem rv2{s:Sym.St}{x i u:Nat}{a b:DV}{o:Bool}(h:s.T x=.ptr i 0)(hb:s.H i=some ⟨u,o,[a,b]⟩):resV s [.cell x 2 true]=some (.agg [a,b]):=by
 simp only[resV,A3g,h,ldv,ldB,hb];rfl
theorem c_rules(L:List Tok)(E:Int)(hL:L.length<=1000000000)(hv:∀ x∈L,0<=x.value/\x.value<=9223372036854775807)(f:Nat)(s:Rd)(r:Ru × Rd)(h:A4h L E f s=some r)(hi:s.i<=L.length):RdC L E 13 [] s (r.1.v,r.2):=by
 intro H cc t ht htc;refine AC.bodyT B1 rfl (A0C rfl) fun hfr=>?_;unfold A4h at h;cases hd:U5 L E f [] s with
 |none=>rw[hd]at h;cases h
 |some q =>
 obtain⟨dl,s1⟩:=q;rw[hd]at h;dsimp only at h;cases hm:P4 L E f [] s1 with
 |none=>rw[hm]at h;cases h
 |some q =>
 obtain⟨ml,s2⟩:=q;rw[hm]at h;cases h;have ne0:=L8 t cc (cc+1) (by omega);repeat' ((with_reducible first|refine wr ?_|refine cpc c_decls31 ?_|refine A1 ?_ ?_|refine wb2 ?_ ?_<;>(intro hb;try simp only[hb])|fail)<;>try simp only[go_sem,seval,ne0,A0,A2])
 refine AC.call (c_among L E s _ _ t (by repeat (first|exact ht|rw[hnO])) (by omega) D0 (by decide)) ?_;rintro v H' c1 ⟨rfl,rfl⟩ hc1;simp only[go_sem,seval,ne0];repeat' ((with_reducible first|refine wr ?_|refine A1 ?_ ?_|refine wb2 ?_ ?_<;>(intro hb;try simp only[hb])|fail)<;>try simp only[go_sem,seval,ne0])
 refine D4 (fun q:Nat × Option Nat × List Dc × Rd=>[(0,.ptr t 0),(2,.ptr cc 0),(3,.ptr (cc+1) 0),(4,I64 (C3 L E q.2.2.2 D0))]) (fun q=>B9 (((H.upd cc ⟨0,true,[.snil,.snil]⟩).upd t (rdR L E q.2.2.2)).upd (cc+1) ⟨0,true,[A8 q.2.1 q.2.2.1.length,.snil]⟩) q.2.1 ⟨4,true,A3 (q.2.2.1.map Dc.v)⟩)
  (fun q c=>cc+2<=c/\q.1<=f/\q.2.2.2.i<=L.length/\(q.2.1=none->q.2.2.1=[])/\(∀ i,q.2.1=some i->cc+1<i/\i<c)/\q.2.2.1.length<=128/\U5 L E q.1 q.2.2.1 q.2.2.2=some (dl,s1)) (fun q=>q.1) (f,none,[],s)
  (by simp[C5,tm,Tm.upd]) (fun j b hj=>?_) ⟨by omega,A0J _,hi,fun _=>rfl,(fun i hi=>by cases hi),by simp,hd⟩ ?_
 ·simp only[B9,A1s]at hj;by_cases e1:j=cc+1
  ·subst e1;rw[A0]at hj ⊢;exact hj
  ·rw[A6 e1]at hj ⊢;by_cases e2:j=t
   ·subst e2;rw[A0]at hj;rw[hnO,ht];exact hj
   ·rw[A6 e2]at hj;exact hj
 clear hd;rintro⟨g,o,l,u⟩ c ⟨hc,hg,hi5,hno,ho,hl1,hv0⟩;dsimp only at hc hg hi5 hno ho hl1 hv0 ⊢;cases g with
 |zero=>simp[U5]at hv0
 |succ g =>
 unfold U5 at hv0;dsimp only at hv0;have hkr : -1<=C3 L E u D0/\C3 L E u D0<8:=A1f L E u D0 0;have hw:IntKind.i64.wrap ((l.length:Int)+1)=(l.length:Int)+1:=w6z (by omega);have hlen:A1v (A8 o l.length)=some (I64 l.length):=by
  cases o with
  |none=>rw[hno rfl];rfl
  |some b=>rfl
 by_cases hk:C3 L E u D0<0
 ·rw[if_pos hk]at hv0;have hdk:decide (C3 L E u D0≥0)=false:=by simp;omega
  have e1:l=dl:=congrArg Prod.fst (Option.some.inj hv0);have e2:u=s1:=congrArg Prod.snd (Option.some.inj hv0);subst e1 e2;repeat' ((with_reducible first|refine wr ?_|refine A1 ?_ ?_|refine wb2 ?_ ?_<;>(intro hb;try simp only[hb])|fail)<;>try simp only[go_sem,seval,hdk])
  clear hdk hkr hk hv0;refine IW.keep [0,2,3] [.ptr t 0,.ptr cc 0,.ptr (cc+1) 0] (B7v (Hb:=(H.upd cc ⟨0,true,[.snil,.snil]⟩).upd t (rdR L E u)) (ci:=cc+1) (u:=4) (pre:=[]) (suf:=[.snil]) (xs:=l.map Dc.v) (by simp[DV.one]) (fun h=>by rw[hno h];rfl) (fun i hi=>by have:=ho i hi;exact⟨by omega,by rw[hnO,hnO];exact hfr i (by omega)⟩) (by simp) (A2z _)) ?_;refine D4 (fun q:Nat × Option Nat × List Md × Rd=>[(0,.ptr t 0),(2,.ptr cc 0),(3,.ptr (cc+1) 0)]) (fun q=>B9 (((H.upd cc ⟨0,true,[.snil,.snil]⟩).upd t (rdR L E q.2.2.2)).upd (cc+1) ⟨0,true,[E3 l,A8 q.2.1 q.2.2.1.length]⟩) q.2.1 ⟨4,true,A3 (q.2.2.1.map Md.v)⟩)
   (fun q c=>cc+2<=c/\q.1<=f/\q.2.2.2.i<=L.length/\(q.2.1=none->q.2.2.1=[])/\(∀ i,q.2.1=some i->cc+1<i/\i<c)/\q.2.2.1.length<=16/\P4 L E q.1 q.2.2.1 q.2.2.2=some (ml,s2)) (fun q=>q.1) (f,none,[],u)
   (by simp[C5,tm,Tm.upd]) (fun j b hj=>hj) ⟨by omega,A0J _,hi5,fun _=>rfl,(fun i hi=>by cases hi),by simp,hm⟩ ?_
  clear hm hlen hw;clear hno ho hl1 hi5;rintro⟨g,o,m,u⟩ c ⟨hc,hg,hi5,hno,ho,hl1,hv⟩;dsimp only at hc hg hi5 hno ho hl1 hv ⊢;cases g with
  |zero=>simp[P4]at hv
  |succ g =>
  unfold P4 at hv;dsimp only at hv;have hw:IntKind.i64.wrap ((m.length:Int)+1)=(m.length:Int)+1:=w6z (by omega);have hlen:A1v (A8 o m.length)=some (I64 m.length):=by
   cases o with
   |none=>rw[hno rfl];rfl
   |some b=>rfl
  have hHt:B9 (((H.upd cc ⟨0,true,[.snil,.snil]⟩).upd t (rdR L E u)).upd (cc+1) ⟨0,true,[E3 l,A8 o m.length]⟩) o ⟨4,true,A3 (m.map Md.v)⟩ t=some (rdR L E u):=by rw[B6 (fun i hi=>by have:=ho i hi;omega),hnO,A0]
  have hbx:B9 (((H.upd cc ⟨0,true,[.snil,.snil]⟩).upd t (rdR L E u)).upd (cc+1) ⟨0,true,[E3 l,A8 o m.length]⟩) o ⟨4,true,A3 (m.map Md.v)⟩ (cc+1)=some ⟨0,true,[E3 l,A8 o m.length]⟩:=by rw[B6 (fun i hi=>by have:=ho i hi;omega),A0]
  have hbo:∀ i:Nat,o=some i->B9 (((H.upd cc ⟨0,true,[.snil,.snil]⟩).upd t (rdR L E u)).upd (cc+1) ⟨0,true,[E3 l,A8 o m.length]⟩) o ⟨4,true,A3 (m.map Md.v)⟩ i=some ⟨4,true,A3 (m.map Md.v)⟩:=fun i hi=>by subst hi;exact A0
  have hbj:∀ j:Nat,j<cc->¬ j=t->B9 (((H.upd cc ⟨0,true,[.snil,.snil]⟩).upd t (rdR L E u)).upd (cc+1) ⟨0,true,[E3 l,A8 o m.length]⟩) o ⟨4,true,A3 (m.map Md.v)⟩ j=H j:=fun j h1 h2=>by rw[B6 (fun i hi=>by have:=ho i hi;omega),hnO,A6 h2,hnO]
  have hb0:B9 (((H.upd cc ⟨0,true,[.snil,.snil]⟩).upd t (rdR L E u)).upd (cc+1) ⟨0,true,[E3 l,A8 o m.length]⟩) o ⟨4,true,A3 (m.map Md.v)⟩ cc=some ⟨0,true,[.snil,.snil]⟩:=by rw[B6 (fun i hi=>by have:=ho i hi;omega),hnO,hnO,A0]
  have hbn:∀ j:Nat,c<=j->B9 (((H.upd cc ⟨0,true,[.snil,.snil]⟩).upd t (rdR L E u)).upd (cc+1) ⟨0,true,[E3 l,A8 o m.length]⟩) o ⟨4,true,A3 (m.map Md.v)⟩ j=none:=fun j h1=>by rw[B6 (fun i hi=>by have:=ho i hi;omega),hnO,hnO,hnO];exact hfr j (by omega)
  have hT:(A8 o m.length).one=true:=by cases o<;>rfl
  generalize hHH:B9 (((H.upd cc ⟨0,true,[.snil,.snil]⟩).upd t (rdR L E u)).upd (cc+1) ⟨0,true,[E3 l,A8 o m.length]⟩) o ⟨4,true,A3 (m.map Md.v)⟩=HH at hHt hbx hbo hbj hb0 hbn ⊢;have fin:∀ (u2:Rd) (x:Blk),GL ((HH.upd t (rdR L E u2)).upd cc x) [.agg [E3 l,A8 o m.length]] (H.upd t (rdR L E u2)) [.agg [E3 l,H3 m]]:=fun u2 x =>
   C7p (cc:=cc) m (D7 hfr htc) (fun i hi=>by have:=ho i hi;omega) hno (fun i hi=>by have:=ho i hi;rw[hnO,hnO];exact hbo i hi) (fun j hj=>by
    rw[hnO];by_cases e1:j=t
    ·subst e1;rw[A0,A0]
    ·rw[A6 e1,A6 e1,hbj j hj e1])
  have fin0:∀ (x:Blk),GL (HH.upd cc x) [.agg [E3 l,A8 o m.length]] (H.upd t (rdR L E u)) [.agg [E3 l,H3 m]]:=fun x=>by
   have h1:=fin u x
   rwa [upd_same hHt]at h1
  repeat' ((with_reducible first|refine wr ?_|refine A1 ?_ ?_|refine wb2 ?_ ?_<;>(intro hb;try simp only[hb])|fail)<;>try simp only[go_sem,seval])
  refine AC.call (c_rdok L E u _ _ t hHt (by omega)) ?_;rintro v H' c2 ⟨rfl,rfl⟩ hc2;cases hok:okR u with
  |false =>
   rw[if_neg (by simp[hok])]at hv;have e1:m=ml:=congrArg Prod.fst (Option.some.inj hv);have e2:u=s2:=congrArg Prod.snd (Option.some.inj hv);subst e1 e2;have ne0:=L8 t cc (cc+1) (by omega);simp only[go_sem,seval,hok,hbx,ne0,hT,hb0];repeat' ((with_reducible first|refine wr ?_|refine A1 ?_ ?_|refine wb2 ?_ ?_<;>(intro hb;try simp only[hb])|fail)<;>try simp only[go_sem,seval,hok,hHt,hbx,ne0,hT])
   rw[hb0];refine C6 (A3j (by rfl) (by decide) (by clear hHH;cases o<;>rfl)) ?_;simp only[go_sem,seval,ne0,A0];repeat' ((with_reducible first|refine wr ?_|refine A1 ?_ ?_|refine wb2 ?_ ?_<;>(intro hb;try simp only[hb])|fail)<;>try simp only[go_sem,seval,ne0,A0])
   rw[E6 (rv2 rfl A0)];exact⟨_,_,fin0 _,rfl,rfl⟩
  |true =>
   by_cases hlt:u.i<L.length
   ·rw[if_pos ⟨hok,hlt⟩]at hv;have hdl:decide ((u.i:Int)<(L.length:Int))=true:=by simpa using hlt
    simp only[go_sem,seval,hok,hHt,hdl];repeat' ((with_reducible first|refine wr ?_|refine A1 ?_ ?_|refine wb2 ?_ ?_<;>(intro hb;try simp only[hb])|fail)<;>try simp only[go_sem,seval,hok,hHt,hdl])
    refine AC.call (c_is L E u _ _ t hHt (by omega) _) ?_;rintro v H' c3 ⟨rfl,rfl⟩ hc3;cases hmo:isR L E u [109,111,100,101] with
    |false =>
     rw[if_pos hmo]at hv;have e1:m=ml:=congrArg Prod.fst (Option.some.inj hv);have e2:N8 L E u=s2:=congrArg Prod.snd (Option.some.inj hv);subst e1 e2;have ne0:=L8 t cc (cc+1) (by omega);simp only[go_sem,seval,hmo];repeat' ((with_reducible first|refine wr ?_|refine A1 ?_ ?_|refine wb2 ?_ ?_<;>(intro hb;try simp only[hb])|fail)<;>try simp only[go_sem,seval,hmo])
     refine AC.call (c_syntax L E u _ _ t hHt (by omega)) ?_;rintro v H' c4 ⟨rfl,rfl⟩ hc4;simp only[go_sem,seval,ne0,A0,hbx,hb0,hT];repeat' ((with_reducible first|refine wr ?_|refine A1 ?_ ?_|refine wb2 ?_ ?_<;>(intro hb;try simp only[hb])|fail)<;>try simp only[go_sem,seval,ne0,A0,hbx,hb0,hT])
     refine C6 (A3j (by rfl) (by decide) (by clear hHH;cases o<;>rfl)) ?_;simp only[go_sem,seval,ne0,A0];repeat' ((with_reducible first|refine wr ?_|refine A1 ?_ ?_|refine wb2 ?_ ?_<;>(intro hb;try simp only[hb])|fail)<;>try simp only[go_sem,seval,ne0,A0])
     rw[E6 (rv2 rfl A0)];exact⟨_,_,fin _ _,rfl,rfl⟩
    |true =>
     rw[if_neg (by rw[hmo];decide)]at hv;simp only[go_sem,seval,hmo];repeat' ((with_reducible first|refine wr ?_|refine A1 ?_ ?_|refine wb2 ?_ ?_<;>(intro hb;try simp only[hb])|fail)<;>try simp only[go_sem,seval,hmo,hbx,hlen,hw])
     refine AC.call (c_limit L E u _ _ t hHt (by omega) _ _ _) ?_;rintro v H' c4 ⟨rfl,rfl⟩ hc4;have j1:(C9 L E u ((m.length:Int)+1) 16 9).i=u.i:=F0;have j2:=fun h=>F5 (L:=L) (E:=E) (s:=u) (n:=(m.length:Int)+1) (m:=16) (e:=9) (by decide) h;generalize C9 L E u ((m.length:Int)+1) 16 9=u1 at hv j1 j2 ⊢;simp only[go_sem,seval];repeat' ((with_reducible first|refine wr ?_|refine A1 ?_ ?_|refine wb2 ?_ ?_<;>(intro hb;try simp only[hb])|fail)<;>try simp only[go_sem,seval])
     refine AC.call (c_rdok L E u1 _ _ t A0 (by omega)) ?_;rintro v H' c5 ⟨rfl,rfl⟩ hc5;cases hok1:okR u1 with
     |false =>
      rw[if_neg (by rw[hok1];decide)]at hv;simp only[go_sem,seval,hok1];repeat' ((with_reducible first|refine wr ?_|refine A1 ?_ ?_|refine wb2 ?_ ?_<;>(intro hb;try simp only[hb])|fail)<;>try simp only[go_sem,seval,hok1])
      refine⟨(g,o,m,u1),?_,inv ⟨by omega,by simp only;omega,by rw[j1];exact hi5,hno,(fun i hi=>by have:=ho i hi;omega),hl1,hv⟩,by simp only;omega⟩;intro j b hj;by_cases e2:j=t
      ·subst e2;rw[B6 (fun i hi=>by have:=ho i hi;omega),hnO,A0]at hj;rw[A0];exact hj
      ·rw[A6 e2, <- hHH];cases o with
       |none =>
        simp only[B9]at hj ⊢;by_cases e1:j=cc+1
        ·subst e1;rw[A0]at hj ⊢;exact hj
        ·rw[A6 e1,A6 e2]at hj ⊢;exact hj
       |some i =>
        simp only[B9]at hj ⊢;by_cases e0:j=i
        ·subst e0;rw[A0]at hj ⊢;exact hj
        rw[A6 e0]at hj ⊢;by_cases e1:j=cc+1
        ·subst e1;rw[A0]at hj ⊢;exact hj
        ·rw[A6 e1,A6 e2]at hj ⊢;exact hj
     |true =>
      rw[if_pos hok1]at hv;obtain⟨-,j3,rfl⟩:=j2 hok1;cases hmd:A1a L E g u1 with
      |none=>rw[hmd]at hv;cases hv
      |some qm =>
       obtain⟨md,u2⟩:=qm;rw[hmd]at hv;dsimp only at hv;have j6:=C1z hmd hi5;have ne0:=L8 t cc (cc+1) (by omega);simp only[go_sem,seval,hok1,ne0,A0,A2,hbx];repeat' ((with_reducible first|refine wr ?_|refine A1 ?_ ?_|refine wb2 ?_ ?_<;>(intro hb;try simp only[hb])|fail)<;>try simp only[go_sem,seval,hok1,ne0,A0,A2,hbx])
       refine AC.call (c_mode L E hL g u1 (md,u2) hmd hi5 _ _ t A0 (by omega)) ?_;rintro v H' c6 ⟨rfl,rfl⟩ hc6;dsimp only;have ne0:=T1 t cc (cc+1) c6 (c6+1) (by omega);simp only[go_sem,seval,ne0,A0,A2,hbx];repeat' ((with_reducible first|refine wr ?_|refine A1 ?_ ?_|refine wb2 ?_ ?_<;>(intro hb;try simp only[hb])|fail)<;>try simp only[go_sem,seval,ne0,A0,A2,hbx])
       refine⟨⟨by rw[hnO];exact hbn _ (by omega),by rw[hnO];exact hbn _ (by omega)⟩,?_⟩;have hl4:(A3 (m.map Md.v)).length=m.length * 4:=C0 (u:=4) (A7f _) |>.trans (by simp);repeat' ((with_reducible first|refine wr ?_|refine A1 ?_ ?_|refine wb2 ?_ ?_<;>(intro hb;try simp only[hb])|fail)<;>try simp only[go_sem,seval,ne0,A0,A2,hbx])
       rw[E0 (cs:=A3 (m.map Md.v)) (fun e=>by rw[hno e];exact⟨rfl,rfl⟩) (fun i hi=>by have:=ho i hi;rw[hnO,hnO];exact hbo i hi) hl4 (by omega) (by omega) (by omega)];have hdx:∀ X:Hp,I5 X o (cc+1)=X (cc+1):=fun X=>C7 (fun i hi=>by have:=ho i hi;omega);have ne0:=T1 t cc (cc+1) (c5+4) c6 (by omega);simp only[go_sem,seval,ne0,A0,A2,hdx,hbx];repeat' ((with_reducible first|refine wr ?_|refine A1 ?_ ?_|refine wb2 ?_ ?_<;>(intro hb;try simp only[hb])|fail)<;>try simp only[go_sem,seval,ne0,A0,A2,hdx,hbx])
       refine⟨(g,some c6,m++[md],u2),?_,inv ⟨by omega,by simp only;omega,j6,(fun h=>by cases h),(fun i hi=>by cases hi;omega),by simp only[A0A,A0G];omega,hv⟩,by simp only;omega⟩;intro j b hj;simp only[B9,P3,A0A,A0G,A0S,C1]at hj;by_cases e1:j=cc+1
       ·subst e1;by_cases e3:cc+1=c6
        ·omega
        rw[A6 e3,A0]at hj;rw[A0];exact hj
       rw[A6 e1];by_cases e0:j=c6
       ·subst e0;rw[A0]at hj;rw[A0, <- hj];rfl
       rw[A6 e0]at hj ⊢;rw[A6 e1]at hj;by_cases e2:j=t
       ·subst e2;rw[A0]at hj;rw[C7 (fun i hi=>by have:=ho i hi;omega),hnO,A0];exact hj
       rw[A6 e2]at hj;by_cases e4:j=cc
       ·subst e4;rw[A0]at hj;rw[C7 (fun i hi=>by have:=ho i hi;omega)]
        repeat rw[hnO]
        rw[hb0];exact hj
       ·rw[A6 e4]at hj;have hjc:j<cc:=Classical.byContradiction fun h=>by rw[hfr j (by omega)]at hj;cases hj
        rw[C7 (fun i hi=>by have:=ho i hi;omega)]
        repeat rw[hnO]
        rw[hbj j hjc e2];exact hj
   ·rw[if_neg (by simp[hlt])]at hv;have hdl:decide ((u.i:Int)<(L.length:Int))=false:=by simpa using hlt
    have e1:m=ml:=congrArg Prod.fst (Option.some.inj hv);have e2:u=s2:=congrArg Prod.snd (Option.some.inj hv);subst e1 e2;have ne0:=L8 t cc (cc+1) (by omega);simp only[go_sem,seval,hok,hHt,hdl,hbx,ne0,hT,hb0];repeat' ((with_reducible first|refine wr ?_|refine A1 ?_ ?_|refine wb2 ?_ ?_<;>(intro hb;try simp only[hb])|fail)<;>try simp only[go_sem,seval,hok,hHt,hdl,hbx,ne0,hT])
    rw[hb0];refine C6 (A3j (by rfl) (by decide) (by clear hHH;cases o<;>rfl)) ?_;simp only[go_sem,seval,ne0,A0];repeat' ((with_reducible first|refine wr ?_|refine A1 ?_ ?_|refine wb2 ?_ ?_<;>(intro hb;try simp only[hb])|fail)<;>try simp only[go_sem,seval,ne0,A0])
    rw[E6 (rv2 rfl A0)];exact⟨_,_,fin0 _,rfl,rfl⟩
 ·rw[if_neg hk]at hv0;have hdk:decide (C3 L E u D0≥0)=true:=by simp;omega
  have hHt:B9 (((H.upd cc ⟨0,true,[.snil,.snil]⟩).upd t (rdR L E u)).upd (cc+1) ⟨0,true,[A8 o l.length,.snil]⟩) o ⟨4,true,A3 (l.map Dc.v)⟩ t=some (rdR L E u):=by rw[B6 (fun i hi=>by have:=ho i hi;omega),hnO,A0]
  have hbx:B9 (((H.upd cc ⟨0,true,[.snil,.snil]⟩).upd t (rdR L E u)).upd (cc+1) ⟨0,true,[A8 o l.length,.snil]⟩) o ⟨4,true,A3 (l.map Dc.v)⟩ (cc+1)=some ⟨0,true,[A8 o l.length,.snil]⟩:=by rw[B6 (fun i hi=>by have:=ho i hi;omega),A0]
  have hbo:∀ i:Nat,o=some i->B9 (((H.upd cc ⟨0,true,[.snil,.snil]⟩).upd t (rdR L E u)).upd (cc+1) ⟨0,true,[A8 o l.length,.snil]⟩) o ⟨4,true,A3 (l.map Dc.v)⟩ i=some ⟨4,true,A3 (l.map Dc.v)⟩:=fun i hi=>by subst hi;exact A0
  have hbj:∀ j:Nat,j<cc->¬ j=t->B9 (((H.upd cc ⟨0,true,[.snil,.snil]⟩).upd t (rdR L E u)).upd (cc+1) ⟨0,true,[A8 o l.length,.snil]⟩) o ⟨4,true,A3 (l.map Dc.v)⟩ j=H j:=fun j h1 h2=>by rw[B6 (fun i hi=>by have:=ho i hi;omega),hnO,A6 h2,hnO]
  have hb0:B9 (((H.upd cc ⟨0,true,[.snil,.snil]⟩).upd t (rdR L E u)).upd (cc+1) ⟨0,true,[A8 o l.length,.snil]⟩) o ⟨4,true,A3 (l.map Dc.v)⟩ cc=some ⟨0,true,[.snil,.snil]⟩:=by rw[B6 (fun i hi=>by have:=ho i hi;omega),hnO,hnO,A0]
  have hbn:∀ j:Nat,c<=j->B9 (((H.upd cc ⟨0,true,[.snil,.snil]⟩).upd t (rdR L E u)).upd (cc+1) ⟨0,true,[A8 o l.length,.snil]⟩) o ⟨4,true,A3 (l.map Dc.v)⟩ j=none:=fun j h1=>by rw[B6 (fun i hi=>by have:=ho i hi;omega),hnO,hnO,hnO];exact hfr j (by omega)
  obtain⟨hok0,hi0, -⟩:=F7 (show 0<=C3 L E u D0 by omega);generalize hHH:B9 (((H.upd cc ⟨0,true,[.snil,.snil]⟩).upd t (rdR L E u)).upd (cc+1) ⟨0,true,[A8 o l.length,.snil]⟩) o ⟨4,true,A3 (l.map Dc.v)⟩=HH at hHt hbx hbo hbj hb0 hbn ⊢;generalize hkk:C3 L E u D0=k at hv0 hk hdk hkr ⊢;repeat' ((with_reducible first|refine wr ?_|refine A1 ?_ ?_|refine wb2 ?_ ?_<;>(intro hb;try simp only[hb])|fail)<;>try simp only[go_sem,seval,hdk,hbx,hlen,hw])
  refine AC.call (c_limit L E u _ _ t hHt (by omega) _ _ _) ?_;rintro v H' c2 ⟨rfl,rfl⟩ hc2;have j1:(C9 L E u ((l.length:Int)+1) 128 9).i=u.i:=F0;have j2:=fun h=>F5 (L:=L) (E:=E) (s:=u) (n:=(l.length:Int)+1) (m:=128) (e:=9) (by decide) h;generalize C9 L E u ((l.length:Int)+1) 128 9=u1 at hv0 j1 j2 ⊢;simp only[go_sem,seval];repeat' ((with_reducible first|refine wr ?_|refine A1 ?_ ?_|refine wb2 ?_ ?_<;>(intro hb;try simp only[hb])|fail)<;>try simp only[go_sem,seval])
  refine AC.call (c_rdok L E u1 _ _ t A0 (by omega)) ?_;rintro v H' c3 ⟨rfl,rfl⟩ hc3;cases hok:okR u1 with
  |false =>
   rw[if_neg (by rw[hok];decide)]at hv0;simp only[go_sem,seval,hok];repeat' ((with_reducible first|refine wr ?_|refine cpc c_decls31 ?_|refine A1 ?_ ?_|refine wb2 ?_ ?_<;>(intro hb;try simp only[hb])|fail)<;>try simp only[go_sem,seval,hok])
   refine AC.call (c_among L E u1 _ _ t A0 (by omega) D0 (by decide)) ?_;rintro v H' c4 ⟨rfl,rfl⟩ hc4;simp only[go_sem,seval];repeat' ((with_reducible first|refine wr ?_|refine A1 ?_ ?_|refine wb2 ?_ ?_<;>(intro hb;try simp only[hb])|fail)<;>try simp only[go_sem,seval])
   refine⟨(g,o,l,u1),by simp[C5,tm,Tm.upd],?_,inv ⟨by omega,by simp only;omega,by rw[j1];exact hi5,hno,(fun i hi=>by have:=ho i hi;omega),hl1,hv0⟩,by simp only;omega⟩;intro j b hj;by_cases e2:j=t
   ·subst e2;rw[B6 (fun i hi=>by have:=ho i hi;omega),hnO,A0]at hj;rw[A0];exact hj
   ·rw[A6 e2, <- hHH];cases o with
    |none =>
     simp only[B9]at hj ⊢;by_cases e1:j=cc+1
     ·subst e1;rw[A0]at hj ⊢;exact hj
     ·rw[A6 e1,A6 e2]at hj ⊢;exact hj
    |some i =>
     simp only[B9]at hj ⊢;by_cases e0:j=i
     ·subst e0;rw[A0]at hj ⊢;exact hj
     rw[A6 e0]at hj ⊢;by_cases e1:j=cc+1
     ·subst e1;rw[A0]at hj ⊢;exact hj
     ·rw[A6 e1,A6 e2]at hj ⊢;exact hj
  |true =>
   rw[if_pos hok]at hv0;obtain⟨-,j3,rfl⟩:=j2 hok;simp only[go_sem,seval,hok];have ne0:=L8 t cc (cc+1) (by omega);repeat' ((with_reducible first|refine wr ?_|refine A1 ?_ ?_|refine wb2 ?_ ?_<;>(intro hb;try simp only[hb])|fail)<;>try simp only[go_sem,seval,hok,ne0,A0,A2,hbx])
   refine AC.call (c_declaration L E u1 _ _ t A0 (by omega) hL hv k (by omega) (by omega) (by omega)) ?_;rintro v H' c4 ⟨rfl,rfl⟩ hc4;have ne0:=T1 t cc (cc+1) c4 (c4+1) (by omega);simp only[go_sem,seval,ne0,A0,A2,hbx];repeat' ((with_reducible first|refine wr ?_|refine A1 ?_ ?_|refine wb2 ?_ ?_<;>(intro hb;try simp only[hb])|fail)<;>try simp only[go_sem,seval,ne0,A0,A2,hbx])
   refine⟨⟨by rw[hnO];exact hbn _ (by omega),by rw[hnO];exact hbn _ (by omega)⟩,?_⟩;have hl4:(A3 (l.map Dc.v)).length=l.length * 4:=C0 (u:=4) (A2z _) |>.trans (by simp);repeat' ((with_reducible first|refine wr ?_|refine A1 ?_ ?_|refine wb2 ?_ ?_<;>(intro hb;try simp only[hb])|fail)<;>try simp only[go_sem,seval,ne0,A0,A2,hbx])
   rw[E0 (cs:=A3 (l.map Dc.v)) (fun e=>by rw[hno e];exact⟨rfl,rfl⟩) (fun i hi=>by have:=ho i hi;rw[hnO,hnO];exact hbo i hi) hl4 (by omega) (by omega) (by omega)];have hdx:∀ X:Hp,I5 X o (cc+1)=X (cc+1):=fun X=>C7 (fun i hi=>by have:=ho i hi;omega);have ne0:=T1 t cc (cc+1) (c3+5) c4 (by omega);simp only[go_sem,seval,ne0,A0,A2,hdx,hbx];repeat' ((with_reducible first|refine wr ?_|refine cpc c_decls31 ?_|refine A1 ?_ ?_|refine wb2 ?_ ?_<;>(intro hb;try simp only[hb])|fail)<;>try simp only[go_sem,seval,ne0,A0,A2,hdx,hbx])
   refine AC.call (c_among L E (Q2 L E k u1).2 _ _ t (by rw[hnO,hnO,C7 (fun i hi=>by have:=ho i hi;omega),hnO,A0]) (by omega) D0 (by decide)) ?_;rintro v H' c5 ⟨rfl,rfl⟩ hc5;simp only[go_sem,seval];repeat' ((with_reducible first|refine wr ?_|refine A1 ?_ ?_|refine wb2 ?_ ?_<;>(intro hb;try simp only[hb])|fail)<;>try simp only[go_sem,seval])
   refine⟨(g,some c4,l++[(Q2 L E k u1).1],(Q2 L E k u1).2),by simp[C5,tm,Tm.upd],?_,inv ⟨by omega,by simp only;omega,C3i (by omega),(fun h=>by cases h),(fun i hi=>by cases hi;omega),by simp only[A0A,A0G];omega,hv0⟩,by simp only;omega⟩;intro j b hj;simp only[B9,P3,A0A,A0G,A0S,C1]at hj;by_cases e1:j=cc+1
   ·subst e1;by_cases e3:cc+1=c4
    ·omega
    rw[A6 e3,A0]at hj;rw[A0];exact hj
   rw[A6 e1];by_cases e0:j=c4
   ·subst e0;rw[A0]at hj;rw[A0, <- hj];rfl
   rw[A6 e0]at hj ⊢;rw[A6 e1]at hj;by_cases e2:j=t
   ·subst e2;rw[A0]at hj;rw[C7 (fun i hi=>by have:=ho i hi;omega),hnO,A0];exact hj
   rw[A6 e2]at hj;by_cases e4:j=cc
   ·subst e4;rw[A0]at hj;rw[C7 (fun i hi=>by have:=ho i hi;omega)]
    repeat rw[hnO]
    rw[hb0];exact hj
   ·rw[A6 e4]at hj;have hjc:j<cc:=Classical.byContradiction fun h=>by rw[hfr j (by omega)]at hj;cases hj
    rw[C7 (fun i hi=>by have:=ho i hi;omega)]
    repeat rw[hnO]
    rw[hbj j hjc e2];exact hj
theorem B7f{H:Hp}{t:Nat}{o:Option Nat}{B a b:Blk}(h:∀ i,o=some i->¬ t=i):(B9 (H.upd t a) o B).upd t b=B9 (H.upd t b) o B:=by
 cases o with
 |none=>exact A2
 |some i =>
  have hi:=h i rfl
  funext j
  simp only[B9];by_cases e:j=t
  ·subst e;rw[A0,A6 hi,A0]
  ·by_cases e2:j=i
   ·subst e2;rw[A6 e,A0,A0]
   ·rw[A6 e,A6 e2,A6 e,A6 e2,A6 e]
theorem c_blockO(L:List Tok)(E:Int)(hL:L.length<=1000000000)(f:Nat)
  (is:∀ g,g<=f->∀ d s r,0<=d->d<=100->U3 L E g d s=some r->s.i<=L.length->RdC L E 121 [I64 d] s (r.1.v,r.2))
  (d:Int) (s:Rd) (r:List Pb.St × Rd) (hd0:0<=d) (hd:d<=100) (h:K3 L E (f+1) d s=some r) (hi:s.i<=L.length) (H:Hp) (cc t:Nat) (ht:H t=some (rdR L E s)) (htc:t<cc) :
  AC Tryz.prog 82 [.ptr t 0,I64 d] H cc (fun v H' c' => ∃ o,(o=none->r.1=[])/\(∀ i,o=some i->cc<=i/\i<c')/\v=A8 o r.1.length/\H'=B9 (H.upd t (rdR L E r.2)) o ⟨7,true,A3 (r.1.map Pb.St.v)⟩):=by
 refine AC.bodyT B1 rfl (A0C rfl) fun hfr=>?_;unfold K3 at h;repeat' ((with_reducible first|refine wr ?_|refine A1 ?_ ?_|refine wb2 ?_ ?_<;>(intro hb;try simp only[hb])|fail)<;>try simp only[go_sem,seval])
 refine AC.call (c_expect L E s _ _ t ht (by omega) (by omega) _) ?_;rintro v H' c1 ⟨rfl,rfl⟩ hc1;simp only[go_sem,seval];repeat' ((with_reducible first|refine wr ?_|refine A1 ?_ ?_|refine wb2 ?_ ?_<;>(intro hb;try simp only[hb])|fail)<;>try simp only[go_sem,seval])
 refine D4 (fun q:Nat × Option Nat × List Pb.St × Rd=>[(0,.ptr t 0),(1,I64 d),(5,A8 q.2.1 q.2.2.1.length)]) (fun q=>B9 (H.upd t (rdR L E q.2.2.2)) q.2.1 ⟨7,true,A3 (q.2.2.1.map Pb.St.v)⟩)
  (fun q c=>cc<=c/\q.1<=f/\q.2.2.2.i<=L.length/\(q.2.1=none->q.2.2.1=[])/\(∀ i,q.2.1=some i->cc<=i/\i<c)/\q.2.2.1.length<=65/\(okR q.2.2.2=true->q.2.2.1.length<=64)/\S1 L E q.1 d q.2.2.1 q.2.2.2=some r) (fun q=>q.1) (f,none,[],D6 L E s [123])
  (by simp[C5,tm,Tm.upd,A8]) (Sub.refl _) ⟨hc1,A0J _,H4 hi,fun _=>rfl,(fun i hi=>by cases hi),by simp,fun _=>by simp,h⟩ ?_
 clear h hi;rintro⟨g,o,l,u⟩ c ⟨hc,hg,hi,hno,ho,hl1,hl2,hv⟩;dsimp only at hc hg hi hno ho hl1 hl2 hv ⊢;have hHt:B9 (H.upd t (rdR L E u)) o ⟨7,true,A3 (l.map Pb.St.v)⟩ t=some (rdR L E u):=by rw[B6 (fun i hi=>by have:=ho i hi;omega),A0]
 have hfin:∀ (z:Rd) (j:Nat),j<cc->((B9 (H.upd t (rdR L E u)) o ⟨7,true,A3 (l.map Pb.St.v)⟩).upd t (rdR L E z)) j=(H.upd t (rdR L E z)) j:=fun z j hj=>by
  by_cases ej:j=t
  ·subst ej;rw[A0,A0]
  ·rw[A6 ej,A6 ej,B6 (fun i hi=>by have:=ho i hi;omega),A6 ej]
 have hbo:∀ (z:Rd) (i:Nat),o=some i->((B9 (H.upd t (rdR L E u)) o ⟨7,true,A3 (l.map Pb.St.v)⟩).upd t (rdR L E z)) i=some ⟨7,true,A3 (l.map Pb.St.v)⟩:=fun z i hi=>by
  have:=ho i hi;rw[hnO];subst hi;exact A0
 cases g with
 |zero=>simp[S1]at hv
 |succ g =>
 unfold S1 at hv;repeat' ((with_reducible first|refine wr ?_|refine A1 ?_ ?_|refine wb2 ?_ ?_<;>(intro hb;try simp only[hb])|fail)<;>try simp only[go_sem,seval])
 refine AC.call (c_rdok L E u _ _ t hHt (by omega)) ?_;rintro v H' c2 ⟨rfl,rfl⟩ hc2;cases hok:okR u with
 |false =>
  rw[if_neg (by simp[hok])]at hv;cases hv;simp only[go_sem,seval,hok];repeat' ((with_reducible first|refine wr ?_|refine A1 ?_ ?_|refine wb2 ?_ ?_<;>(intro hb;try simp only[hb])|fail)<;>try simp only[go_sem,seval,hok])
  refine AC.call (c_expect L E u _ _ t hHt (by omega) (by omega) _) ?_;rintro v H' c3 ⟨rfl,rfl⟩ hc3;simp only[go_sem,seval];repeat' ((with_reducible first|refine wr ?_|refine A1 ?_ ?_|refine wb2 ?_ ?_<;>(intro hb;try simp only[hb])|fail)<;>try simp only[go_sem,seval])
  exact⟨_,_,GL.refl _ _,o,hno,fun i hi=>⟨(ho i hi).1,by have:=(ho i hi).2;show i<c3;omega⟩,rfl,B7f fun i hi=>by have:=ho i hi;omega⟩
 |true =>
  simp only[go_sem,seval,hok];repeat' ((with_reducible first|refine wr ?_|refine A1 ?_ ?_|refine wb2 ?_ ?_<;>(intro hb;try simp only[hb])|fail)<;>try simp only[go_sem,seval,hok])
  refine AC.call (c_is L E u _ _ t hHt (by omega) _) ?_;rintro v H' c3 ⟨rfl,rfl⟩ hc3;cases hq:isR L E u [125] with
  |true =>
   rw[if_neg (by simp[hq])]at hv;cases hv;simp only[go_sem,seval,hq];repeat' ((with_reducible first|refine wr ?_|refine A1 ?_ ?_|refine wb2 ?_ ?_<;>(intro hb;try simp only[hb])|fail)<;>try simp only[go_sem,seval,hq])
   refine AC.call (c_expect L E u _ _ t hHt (by omega) (by omega) _) ?_;rintro v H' c4 ⟨rfl,rfl⟩ hc4;simp only[go_sem,seval];repeat' ((with_reducible first|refine wr ?_|refine A1 ?_ ?_|refine wb2 ?_ ?_<;>(intro hb;try simp only[hb])|fail)<;>try simp only[go_sem,seval])
   exact⟨_,_,GL.refl _ _,o,hno,fun i hi=>⟨(ho i hi).1,by have:=(ho i hi).2;show i<c4;omega⟩,rfl,B7f fun i hi=>by have:=ho i hi;omega⟩
  |false =>
   rw[if_pos ⟨hok,hq⟩]at hv;simp only[go_sem,seval,hq];repeat' ((with_reducible first|refine wr ?_|refine cpc c_stmts31 ?_|refine A1 ?_ ?_|refine wb2 ?_ ?_<;>(intro hb;try simp only[hb])|fail)<;>try simp only[go_sem,seval,hq])
   refine AC.call (c_among L E u _ _ t hHt (by omega) B8 (by decide)) ?_;rintro v H' c4 ⟨rfl,rfl⟩ hc4;generalize C3 L E u B8=k at hv;have hlen:A1v (A8 o l.length)=some (I64 l.length):=by
    cases o with
    |none=>rw[hno rfl];rfl
    |some b=>rfl
   have hwl:IntKind.i64.wrap ((l.length:Int)+1)=(l.length:Int)+1:=w6z (by omega);by_cases hsy:k<0/\I8 L E u 1=false
   ·rw[if_pos hsy]at hv;cases hv;have hdk:decide (k<0)=true:=by simpa using hsy.1
    have h1:=hsy.2;simp only[go_sem,seval,hdk];repeat' ((with_reducible first|refine wr ?_|refine A1 ?_ ?_|refine wb2 ?_ ?_<;>(intro hb;try simp only[hb])|fail)<;>try simp only[go_sem,seval,hdk])
    refine AC.call (c_isKind L E u _ _ t hHt (by omega) 1) ?_;rintro v H' c5 ⟨rfl,rfl⟩ hc5;simp only[go_sem,seval,h1];repeat' ((with_reducible first|refine wr ?_|refine A1 ?_ ?_|refine wb2 ?_ ?_<;>(intro hb;try simp only[hb])|fail)<;>try simp only[go_sem,seval,h1])
    refine AC.call (c_syntax L E u _ _ t hHt (by omega)) ?_;rintro v H' c6 ⟨rfl,rfl⟩ hc6;simp only[go_sem,seval];repeat' ((with_reducible first|refine wr ?_|refine A1 ?_ ?_|refine wb2 ?_ ?_<;>(intro hb;try simp only[hb])|fail)<;>try simp only[go_sem,seval])
    exact⟨_,_,R6 (cc:=cc) (D7 hfr htc) (hfin _),none,by simp,(fun i hi=>by cases hi),rfl,rfl⟩
   rw[if_neg hsy]at hv;cases hs:U3 L E g d (C9 L E u ((l.length:Int)+1) 64 9) with
   |none=>rw[hs]at hv;cases hv
   |some q =>
   obtain⟨x,s1⟩:=q;rw[hs]at hv;dsimp only at hv;have hix:=(II.all g).2.2.1 _ _ _ hs (by rw[F0];exact hi);have hnok:=C0m hs;have hll:=hl2 hok;have hlk:okR s1=true->l.length+1<=64:=fun h=>by
    cases hz:okR (C9 L E u ((l.length:Int)+1) 64 9) with
    |false=>rw[hnok hz]at h;cases h
    |true=>have:=(F5 (by decide) hz).2.1;omega
   rcases (show ¬ k<0\/(k<0/\I8 L E u 1=true) by
    by_cases hk:k<0
    ·exact .inr ⟨hk,by cases h1:I8 L E u 1 with|true=>rfl|false=>exact absurd ⟨hk,h1⟩ hsy⟩
    ·exact .inl hk) with hk|⟨hk,h1⟩
   case' inl =>
    have hdk:decide (k<0)=false:=by simpa using hk
    simp only[go_sem,seval,hdk];repeat' ((with_reducible first|refine G0 (p:=IW _ _ (pz Tryz.prog 82 (.i (.i (.o (.i .h))))) _ _) ?_|refine wr ?_|refine A1 ?_ ?_|refine wb2 ?_ ?_<;>(intro hb;try simp only[hb])|fail)<;>try simp only[go_sem,seval,hdk])
    obtain⟨c5,hc5,e5⟩:∃ c5,c4<=c5/\c5=c4:=⟨c4,A0J _,rfl⟩;rw[<- e5];clear e5 hdk hk
   case' inr =>
    have hdk:decide (k<0)=true:=by simpa using hk
    simp only[go_sem,seval,hdk];repeat' ((with_reducible first|refine wr ?_|refine A1 ?_ ?_|refine wb2 ?_ ?_<;>(intro hb;try simp only[hb])|fail)<;>try simp only[go_sem,seval,hdk])
    refine AC.call (c_isKind L E u _ _ t hHt (by omega) 1) ?_;rintro v H' c5 ⟨rfl,rfl⟩ hc5;simp only[go_sem,seval,h1];repeat' ((with_reducible first|refine G0 (p:=IW _ _ (pz Tryz.prog 82 (.i (.i (.o (.i .h))))) _ _) ?_|refine wr ?_|refine A1 ?_ ?_|refine wb2 ?_ ?_<;>(intro hb;try simp only[hb])|fail)<;>try simp only[go_sem,seval,h1])
    clear hdk hk h1
   all_goals
    unfold V8;repeat' ((with_reducible first|refine wr ?_|refine A1 ?_ ?_|refine wb2 ?_ ?_<;>(intro hb;try simp only[hb])|fail)<;>try simp only[go_sem,seval,hlen,hwl])
    refine AC.call (c_limit L E u _ _ t hHt (by omega) _ _ _) ?_;rintro v H' c6 ⟨rfl,rfl⟩ hc6;simp only[go_sem,seval];repeat' ((with_reducible first|refine wr ?_|refine A1 ?_ ?_|refine wb2 ?_ ?_<;>(intro hb;try simp only[hb])|fail)<;>try simp only[go_sem,seval])
    refine AC.call (is g (by omega) d _ (x,s1) hd0 hd hs (by rw[F0];exact hi) _ _ t A0 (by omega)) ?_;rintro v H' c7 ⟨rfl,rfl⟩ hc7;dsimp only;have ne0:=L8 t c7 (c7+1) (by omega);simp only[go_sem,seval,ne0,A2,Pb.St.v_w];repeat' ((with_reducible first|refine wr ?_|refine A1 ?_ ?_|refine wb2 ?_ ?_<;>(intro hb;try simp only[hb])|fail)<;>try simp only[go_sem,seval,ne0])
    refine C6 (E0 (cs:=A3 (l.map Pb.St.v)) (fun e=>by rw[hno e];exact⟨rfl,rfl⟩) (fun i hi=>?_) (by rw[C0 (u:=7) (Q7 _)];simp) (by omega) (by omega) (by omega)) ?_
    ·have:=ho i hi;rw[hnO];exact hbo _ i hi
    simp only[go_sem,seval,ne0];repeat' ((with_reducible first|refine wr ?_|refine A1 ?_ ?_|refine wb2 ?_ ?_<;>(intro hb;try simp only[hb])|fail)<;>try simp only[go_sem,seval,ne0])
    refine⟨(g,some (c7+1),l++[x],s1),by simp only[A0A,A0G];rfl,?_,inv ⟨by omega,by simp only;omega,hix,(fun h=>by cases h),(fun i hi=>by cases hi;omega),by simp only[A0A,A0G];omega,(fun h=>by have:=hlk h;simp only[A0A,A0G];omega),hv⟩,by simp only;omega⟩;intro jj b hj;simp only[B9]at hj;by_cases e1:jj=c7+1
    ·subst e1;rw[A0]at hj ⊢;rw[<- hj,A0S,C1,B6p]
    ·rw[A6 e1]at hj ⊢;by_cases e2:jj=t
     ·subst e2;rw[A0]at hj;rw[C7 (fun i hi=>by have:=ho i hi;omega),hnO,A0];exact hj
     ·rw[A6 e2]at hj;have hjc:jj<cc:=Classical.byContradiction fun h=>by rw[hfr jj (by omega)]at hj;cases hj
      rw[C7 (fun i hi=>by have:=ho i hi;omega),hnO,A6 e2,B6 (fun i hi=>by have:=ho i hi;omega),A6 e2];exact hj
theorem c_blkO(L:List Tok)(E:Int)(hL:L.length<=1000000000)(f:Nat)(d:Int)(s:Rd)(r:List Pb.St × Rd)(hd0:0<=d)(hd:d<=100)(h:K3 L E f d s=some r)(hi:s.i<=L.length)(H:Hp)(cc t:Nat)(ht:H t=some (rdR L E s))(htc:t<cc):
  AC Tryz.prog 82 [.ptr t 0,I64 d] H cc (fun v H' c' => ∃ o,(o=none->r.1=[])/\(∀ i,o=some i->cc<=i/\i<c')/\v=A8 o r.1.length/\H'=B9 (H.upd t (rdR L E r.2)) o ⟨7,true,A3 (r.1.map Pb.St.v)⟩):=by
 cases f with
 |zero=>simp[K3]at h
 |succ f=>exact c_blockO L E hL f (fun g hg=>(c_stm L E hL g).1) d s r hd0 hd h hi H cc t ht htc
abbrev HO:=Hd × Option Nat
abbrev hoV(x:HO):DV:=.agg [I64 x.1.trig,.str x.1.name,A8 x.2 x.1.body.length,I64 x.1.pos]
abbrev B1o(h:Hd):Blk:=⟨7,true,A3 (h.body.map Pb.St.v)⟩
theorem A4u(l:List HO):∀ x∈l.map hoV,x.cells.length=4:=fun x hx=>by
 obtain⟨y, -,rfl⟩:=A1L.1 hx;rfl
structure OwH (H G:Hp) (lo c:Nat) (o:Option Nat) (l:List HO):Prop where
 base:∀ j,j<lo->G j=H j
 only:∀ j b,G j=some b->j<lo\/∃ x∈l,x.2=some j
 row:∀ x∈l,(x.2=none->x.1.body=[])/\∀ i,x.2=some i->lo<=i/\i<c/\o≠some i/\G i=some (B1o x.1)
 nd:(l.filterMap (·.2)).Nodup
theorem OwH.none{H G:Hp}{lo c:Nat}{o:Option Nat}{l:List HO}(h:OwH H G lo c o l)(hl:lo<=c){j:Nat}(hj:c<=j):G j=none:=by
 cases e:G j with
 |none=>rfl
 |some b =>
  rcases h.only j b e with h1|⟨x,hx,h2⟩
  ·omega
  ·have:=(h.row x hx).2 j h2;omega
theorem OwH.mono{H G:Hp}{lo c c':Nat}{o:Option Nat}{l:List HO}(h:OwH H G lo c o l)(hc:c<=c'):OwH H G lo c' o l :=
 ⟨h.base,h.only,fun x hx=>⟨(h.row x hx).1,fun i hi=>by have:=(h.row x hx).2 i hi;exact⟨this.1,by omega,this.2.2⟩⟩,h.nd⟩
theorem OwH.snoc{H G:Hp}{lo c c':Nat}{o o':Option Nat}{l:List HO}(h:OwH H G lo c o l)(hl:lo<=c)(hc:c<=c')(X:HO)(hb:X.2=Option.none->X.1.body=[])(hi:∀ i,X.2=some i->c<=i/\i<c')(ho:∀ i,o'=some i->c'<=i):
  OwH H (B9 G X.2 (B1o X.1)) lo c' o' (l++[X]):=by
 have hlt:∀ x∈l, ∀ i,x.2=some i->i<c:=fun x hx i e=>((h.row x hx).2 i e).2.1;refine⟨fun j hj=>?_,fun j b hj=>?_,fun x hx=>?_,?_⟩
 ·rw[B6 (fun i e=>by have:=hi i e;omega)];exact h.base j hj
 ·by_cases e:X.2=some j
  ·exact .inr ⟨X,by simp,e⟩
  ·rw[B6 (fun i e2 e3=>e (by rw[e2,e3]))]at hj;exact (h.only j b hj).imp id fun ⟨x,hx,e2⟩=>⟨x,A2R _ hx,e2⟩
 ·rcases A0W.1 hx with hx|hx
  ·refine⟨(h.row x hx).1,fun i e=>?_⟩;obtain⟨h1,h2, -,h4⟩:=(h.row x hx).2 i e;refine⟨h1,by omega,fun e2=>by have:=ho i e2;omega,?_⟩;rw[B6 (fun i' e2=>by have:=hi i' e2;omega)];exact h4
  ·obtain rfl:=A0O.1 hx;refine⟨hb,fun i e=>?_⟩;have:=hi i e;refine⟨by omega,this.2,fun e2=>by have:=ho i e2;omega,?_⟩;rw[e];exact A0
 ·rw[List.filterMap_append];refine A2J.2 ⟨h.nd,?_,fun a ha b hb'=>?_⟩
  ·obtain⟨x,i⟩:=X;cases i<;>simp
  ·obtain⟨x,hx,e⟩:=A1G.1 ha;obtain⟨y,hy,e2⟩:=A1G.1 hb';obtain rfl:=A0O.1 hy;have:=hlt x hx a e;have:=hi b e2;omega
theorem c_modeO(L:List Tok)(E:Int)(hL:L.length<=1000000000)(f:Nat)(s:Rd)(r:Md × Rd)(h:A1a L E f s=some r)(hi:s.i<=L.length)(hokr:okR r.2=true)(H:Hp)(cc t:Nat)(ht:H t=some (rdR L E s))(htc:t<cc):
  AC Tryz.prog 44 [.ptr t 0] H cc (fun v H' c' => ∃ (o:Option Nat) (l:List HO) (G:Hp),l.map (·.1)=r.1.hds/\(o=none->l=[])/\(∀ i,o=some i->cc<=i/\i<c')/\OwH H G cc c' o l /\
   v=.agg [.str r.1.name,I64 r.1.prio,A8 o l.length,I64 r.1.pos]/\H'=B9 (G.upd t (rdR L E r.2)) o ⟨4,true,A3 (l.map hoV)⟩):=by
 refine AC.bodyT B1 rfl (A0C rfl) fun hfr=>?_;unfold A1a at h;dsimp only at h;have i1:=H4 (E:=E) (x:=[109,111,100,101]) hi;generalize hs1:D6 L E s [109,111,100,101]=s1 at h i1;have i2:=J7 (E:=E) (x:=1) (by decide) i1;have i3:=J7 (E:=E) (x:=3) (by decide) i2;have i4:=H4 (E:=E) (x:=[123]) i3;repeat' ((with_reducible first|refine wr ?_|refine A1 ?_ ?_|refine wb2 ?_ ?_<;>(intro hb;try simp only[hb])|fail)<;>try simp only[go_sem,seval])
 refine AC.call (c_peek L E s _ _ t (by rw[hnO];exact ht) (by omega)) ?_;rintro v H' c1 ⟨rfl,rfl⟩ hc1;have ne0:=L8 t cc c1 (by omega);simp only[go_sem,seval,ne0];repeat' ((with_reducible first|refine wr ?_|refine A1 ?_ ?_|refine wb2 ?_ ?_<;>(intro hb;try simp only[hb])|fail)<;>try simp only[go_sem,seval,ne0,A0,A2])
 refine AC.call (c_expect L E s _ _ t (by repeat (first|exact ht|rw[hnO])) (by omega) (by omega) _) ?_;rintro v H' c2 ⟨rfl,rfl⟩ hc2;rw[hs1];simp only[go_sem,seval,ne0];repeat' ((with_reducible first|refine wr ?_|refine A1 ?_ ?_|refine wb2 ?_ ?_<;>(intro hb;try simp only[hb])|fail)<;>try simp only[go_sem,seval,ne0,A0,A2])
 refine AC.call (c_name L E s1 _ _ t (by repeat (first|exact A0|rw[hnO])) (by omega) (by omega)) ?_;rintro v H' c3 ⟨rfl,rfl⟩ hc3;generalize (B4 L E s1 1).1.text=n at h ⊢;generalize (B4 L E s1 1).2=s2 at h i2 i3 i4 ⊢;simp only[go_sem,seval,ne0,A0,A2];repeat' ((with_reducible first|refine wr ?_|refine A1 ?_ ?_|refine wb2 ?_ ?_<;>(intro hb;try simp only[hb])|fail)<;>try simp only[go_sem,seval,ne0,A0,A2])
 refine AC.call (c_take L E s2 _ _ t (by repeat (first|exact A0|rw[hnO])) (by omega) (by omega) 3) ?_;rintro v H' c4 ⟨rfl,rfl⟩ hc4;try dsimp only
 simp only[go_sem,seval,ne0,A0,A2];repeat' ((with_reducible first|refine wr ?_|refine A1 ?_ ?_|refine wb2 ?_ ?_<;>(intro hb;try simp only[hb])|fail)<;>try simp only[go_sem,seval,ne0,A0,A2])
 refine AC.call (c_expect L E (B4 L E s2 3).2 _ _ t (by repeat (first|exact A0|rw[hnO])) (by omega) (by omega) _) ?_;rintro v H' c5 ⟨rfl,rfl⟩ hc5;generalize (B4 L E s2 3).1.value=z at h ⊢;generalize D6 L E (B4 L E s2 3).2 [123]=s3 at h i4 ⊢;generalize (C2 L E s).pos=p at h ⊢;cases hm:U6 L E f [] s3 with
 |none=>rw[hm]at h;cases h
 |some q =>
  obtain⟨hl,s4⟩:=q;rw[hm]at h;dsimp only at h;cases h;dsimp only at hokr ⊢;simp only[go_sem,seval,ne0,A0,A2];repeat' ((with_reducible first|refine wr ?_|refine A1 ?_ ?_|refine wb2 ?_ ?_<;>(intro hb;try simp only[hb])|fail)<;>try simp only[go_sem,seval,ne0,A0,A2])
  refine D4 (fun _:Nat × Option Nat × List HO × Rd × Hp=>[(0,.ptr t 0),(2,.ptr cc 0),(3,.ptr c1 0)]) (fun q=>B9 (((q.2.2.2.2.upd cc ⟨0,true,[.str [],I64 0,.snil,I64 0]⟩).upd c1 ⟨0,true,[.str n,I64 z,A8 q.2.1 q.2.2.1.length,I64 p]⟩).upd t (rdR L E q.2.2.2.1)) q.2.1 ⟨4,true,A3 (q.2.2.1.map hoV)⟩)
   (fun q c=>c1+1<=c/\q.1<=f/\q.2.2.2.1.i<=L.length/\(q.2.1=none->q.2.2.1=[])/\(∀ i,q.2.1=some i->c1<i/\i<c)/\q.2.2.1.length<=32/\U6 L E q.1 (q.2.2.1.map (·.1)) q.2.2.2.1=some (hl,s4)/\OwH H q.2.2.2.2 (c1+1) c q.2.1 q.2.2.1) (fun q=>q.1) (f,none,[],s3,H)
   (by simp[C5,tm,Tm.upd]) (fun j b hj=>?_) ⟨by omega,A0J _,i4,fun _=>rfl,(fun i hi=>by cases hi),by simp,hm,⟨fun _ _=>rfl,fun j b hj=>.inl (Classical.byContradiction fun h=>by have hj:H j=some b:=hj;rw[hfr j (by omega)]at hj;cases hj),(fun x hx=>by cases hx),List.nodup_nil⟩⟩ ?_
  ·simp only[B9,A1s]at hj;by_cases e1:j=t
   ·subst e1;rw[A0]at hj ⊢;exact hj
   ·rw[A6 e1]at hj ⊢;by_cases e2:j=c1
    ·subst e2;rw[A0]at hj ⊢;exact hj
    ·rw[A6 e2]at hj ⊢;simp only[A6 e1,A6 e2];exact hj
  clear hm i1 i2 i3 i4;rintro⟨g,o,l,u,G⟩ c ⟨hc,hg,hi5,hno,ho,hl1,hv,hG⟩;dsimp only at hc hg hi5 hno ho hl1 hv hG ⊢;cases g with
  |zero=>simp[U6]at hv
  |succ g =>
  unfold U6 at hv;dsimp only at hv;rw[A0E]at hv;have hGn:∀ j,c<=j->G j=none:=fun j hj=>hG.none (by omega) hj;have hGo:∀ j b,G j=some b->¬ j=cc/\¬ j=c1/\j<c/\∀ i,o=some i->¬ j=i:=fun j b hj=>by
   rcases hG.only j b hj with h1|⟨x,hx,h2⟩
   ·rw[hG.base j h1]at hj;have hjc:j<cc:=Classical.byContradiction fun h=>by rw[hfr j (by omega)]at hj;cases hj
    exact⟨by omega,by omega,by omega,fun i hi=>by have:=ho i hi;omega⟩
   ·have:=(hG.row x hx).2 j h2;exact⟨by omega,by omega,this.2.1,fun i hi e=>this.2.2.1 (by rw[hi,e])⟩
  have hHt:B9 (((G.upd cc ⟨0,true,[.str [],I64 0,.snil,I64 0]⟩).upd c1 ⟨0,true,[.str n,I64 z,A8 o l.length,I64 p]⟩).upd t (rdR L E u)) o ⟨4,true,A3 (l.map hoV)⟩ t=some (rdR L E u):=by rw[B6 (fun i hi=>by have:=ho i hi;omega),A0]
  repeat' ((with_reducible first|refine wr ?_|refine A1 ?_ ?_|refine wb2 ?_ ?_<;>(intro hb;try simp only[hb])|fail)<;>try simp only[go_sem,seval])
  refine AC.call (c_rdok L E u _ _ t hHt (by omega)) ?_;rintro v H' c6 ⟨rfl,rfl⟩ hc6;have hbx:(B9 (((G.upd cc ⟨0,true,[.str [],I64 0,.snil,I64 0]⟩).upd c1 ⟨0,true,[.str n,I64 z,A8 o l.length,I64 p]⟩).upd t (rdR L E u)) o ⟨4,true,A3 (l.map hoV)⟩) c1=some ⟨0,true,[.str n,I64 z,A8 o l.length,I64 p]⟩:=by rw[B6 (fun i hi=>by have:=ho i hi;omega),hnO,A0]
  have hbo:∀ i:Nat,o=some i->(B9 (((G.upd cc ⟨0,true,[.str [],I64 0,.snil,I64 0]⟩).upd c1 ⟨0,true,[.str n,I64 z,A8 o l.length,I64 p]⟩).upd t (rdR L E u)) o ⟨4,true,A3 (l.map hoV)⟩) i=some ⟨4,true,A3 (l.map hoV)⟩:=fun i hi=>by subst hi;exact A0
  have hbj:∀ j:Nat,¬ j=t->¬ j=cc->¬ j=c1->(∀ i,o=some i->¬ j=i)->(B9 (((G.upd cc ⟨0,true,[.str [],I64 0,.snil,I64 0]⟩).upd c1 ⟨0,true,[.str n,I64 z,A8 o l.length,I64 p]⟩).upd t (rdR L E u)) o ⟨4,true,A3 (l.map hoV)⟩) j=G j:=fun j h1 h2 h3 h4=>by rw[B6 h4,A6 h1,A6 h3,A6 h2]
  have hb0:(B9 (((G.upd cc ⟨0,true,[.str [],I64 0,.snil,I64 0]⟩).upd c1 ⟨0,true,[.str n,I64 z,A8 o l.length,I64 p]⟩).upd t (rdR L E u)) o ⟨4,true,A3 (l.map hoV)⟩) cc=some ⟨0,true,[.str [],I64 0,.snil,I64 0]⟩:=by rw[B6 (fun i hi=>by have:=ho i hi;omega),hnO,hnO,A0]
  have hT:(A8 o l.length).one=true:=by cases o<;>rfl
  generalize hHH:B9 (((G.upd cc ⟨0,true,[.str [],I64 0,.snil,I64 0]⟩).upd c1 ⟨0,true,[.str n,I64 z,A8 o l.length,I64 p]⟩).upd t (rdR L E u)) o ⟨4,true,A3 (l.map hoV)⟩=HH at hHt hbx hbo hbj hb0 ⊢;have fin:∀ (u2:Rd) (x:Blk) (ds:List DV),GL ((HH.upd t (rdR L E u2)).upd cc x) ds (B9 (G.upd t (rdR L E u2)) o ⟨4,true,A3 (l.map hoV)⟩) ds:=fun u2 x ds =>
   GL.less' fun j b hj=>by
    by_cases e0:∃ i,o=some i/\j=i
    ·obtain⟨i,e1,rfl⟩:=e0;have:=ho j e1;rw[hnO,hnO,hbo j e1];subst e1;simpa[B9,A0] using hj
    rw[B6 (fun i hi e=>e0 ⟨i,hi,e⟩)]at hj;by_cases e1:j=t
    ·subst e1;rw[A0]at hj;rw[hnO,A0];exact hj
    rw[A6 e1]at hj;obtain⟨h1,h2,h3,h4⟩:=hGo j b hj;rw[A6 h1,A6 e1,hbj j e1 h1 h2 h4];exact hj
  cases hok:okR u with
  |false =>
   rw[if_neg (by simp[hok])]at hv;have e1:l.map (·.1)=hl:=congrArg Prod.fst (Option.some.inj hv);have e2:D6 L E u [125]=s4:=congrArg Prod.snd (Option.some.inj hv);rw[<- e2,show D6 L E u [125]=N8 L E u by unfold D6 isR;rw[hok];rfl,W9]at hokr;cases hokr
  |true =>
   simp only[go_sem,seval,hok];repeat' ((with_reducible first|refine wr ?_|refine A1 ?_ ?_|refine wb2 ?_ ?_<;>(intro hb;try simp only[hb])|fail)<;>try simp only[go_sem,seval,hok])
   refine AC.call (c_is L E u _ _ t hHt (by omega) _) ?_;rintro v H' c7 ⟨rfl,rfl⟩ hc7;cases hq:isR L E u [125] with
   |true =>
    rw[if_neg (by simp[hq])]at hv;have e1:l.map (·.1)=hl:=congrArg Prod.fst (Option.some.inj hv);have e2:D6 L E u [125]=s4:=congrArg Prod.snd (Option.some.inj hv);subst e1 e2;simp only[go_sem,seval,hq];repeat' ((with_reducible first|refine wr ?_|refine A1 ?_ ?_|refine wb2 ?_ ?_<;>(intro hb;try simp only[hb])|fail)<;>try simp only[go_sem,seval,hq])
    refine AC.call (c_expect L E u _ _ t hHt (by omega) (by omega) _) ?_;rintro v H' c8 ⟨rfl,rfl⟩ hc8;simp only[go_sem,seval,ne0,A0,hbx,hb0,hT];repeat' ((with_reducible first|refine wr ?_|refine A1 ?_ ?_|refine wb2 ?_ ?_<;>(intro hb;try simp only[hb])|fail)<;>try simp only[go_sem,seval,ne0,A0,hbx,hb0,hT])
    refine C6 (A3j (by rfl) (by decide) (by clear hHH;cases o<;>rfl)) ?_;simp only[go_sem,seval,ne0,A0];repeat' ((with_reducible first|refine wr ?_|refine A1 ?_ ?_|refine wb2 ?_ ?_<;>(intro hb;try simp only[hb])|fail)<;>try simp only[go_sem,seval,ne0,A0])
    rw[E6 (rv4 rfl A0)];exact⟨_,_,fin _ _ _,o,l,G,rfl,hno,(fun i hi=>by have:=ho i hi;exact⟨by omega,(show i<c8 by omega)⟩),⟨fun j hj=>hG.base j (by omega),fun j b hj=>(hG.only j b hj).imp (fun h1=>by rw[hG.base j h1]at hj;exact Classical.byContradiction fun h=>by rw[hfr j (by omega)]at hj;cases hj) id,fun x hx=>⟨(hG.row x hx).1,fun i hi=>by have:=(hG.row x hx).2 i hi;exact⟨by omega,(show i<c8 by omega),this.2.2⟩⟩,hG.nd⟩,rfl,rfl⟩
   |false =>
    rw[if_pos ⟨hok,hq⟩]at hv;simp only[go_sem,seval,hq];repeat' ((with_reducible first|refine wr ?_|refine A1 ?_ ?_|refine wb2 ?_ ?_<;>(intro hb;try simp only[hb])|fail)<;>try simp only[go_sem,seval,hq])
    refine AC.call (c_is L E u _ _ t hHt (by omega) _) ?_;rintro v H' c8 ⟨rfl,rfl⟩ hc8;cases hon:isR L E u [111,110] with
    |false =>
     rw[if_pos hon]at hv;have e1:l.map (·.1)=hl:=congrArg Prod.fst (Option.some.inj hv);have e2:N8 L E u=s4:=congrArg Prod.snd (Option.some.inj hv);rw[<- e2,W9]at hokr;cases hokr
    |true =>
     rw[if_neg (by simp[hon])]at hv;have hlen:A1v (A8 o l.length)=some (I64 l.length):=by
      cases o with
      |none=>rw[hno rfl];rfl
      |some b=>rfl
     have hwl:IntKind.i64.wrap ((l.length:Int)+1)=(l.length:Int)+1:=w6z (by omega);simp only[go_sem,seval,hon];repeat' ((with_reducible first|refine wr ?_|refine A1 ?_ ?_|refine wb2 ?_ ?_<;>(intro hb;try simp only[hb])|fail)<;>try simp only[go_sem,seval,hon,hbx,hlen,hwl])
     refine AC.call (c_limit L E u _ _ t hHt (by omega) _ _ _) ?_;rintro v H' c9 ⟨rfl,rfl⟩ hc9;have j1:(C9 L E u ((l.length:Int)+1) 32 9).i<=L.length:=by rw[F0];exact hi5
     generalize hlq:C9 L E u ((l.length:Int)+1) 32 9=u1 at hv j1 ⊢;have j2:=H4 (E:=E) (x:=[111,110]) j1;simp only[go_sem,seval];repeat' ((with_reducible first|refine wr ?_|refine A1 ?_ ?_|refine wb2 ?_ ?_<;>(intro hb;try simp only[hb])|fail)<;>try simp only[go_sem,seval])
     refine AC.call (c_peek L E u1 _ _ t A0 (by omega)) ?_;rintro v H' c10 ⟨rfl,rfl⟩ hc10;have ne0:=V7 t cc c1 c10 (by omega);simp only[go_sem,seval,ne0];repeat' ((with_reducible first|refine wr ?_|refine A1 ?_ ?_|refine wb2 ?_ ?_<;>(intro hb;try simp only[hb])|fail)<;>try simp only[go_sem,seval,ne0,A0,A2])
     refine AC.call (c_expect L E u1 _ _ t (by repeat (first|exact A0|rw[hnO])) (by omega) (by omega) _) ?_;rintro v H' c11 ⟨rfl,rfl⟩ hc11;generalize hu2:D6 L E u1 [111,110]=u2 at hv j2 ⊢;simp only[go_sem,seval,ne0];repeat' ((with_reducible first|refine wr ?_|refine cpc c_trigs31 ?_|refine A1 ?_ ?_|refine wb2 ?_ ?_<;>(intro hb;try simp only[hb])|fail)<;>try simp only[go_sem,seval,ne0,A0,A2])
     refine AC.call (c_among L E u2 _ _ t (by repeat (first|exact A0|rw[hnO])) (by omega) D5 (by decide)) ?_;rintro v H' c12 ⟨rfl,rfl⟩ hc12;have hkr : -1<=C3 L E u2 D5/\C3 L E u2 D5<6:=A1f L E u2 D5 0;have hnn:0<=C3 L E u2 D5->okR u2=true/\u2.i<L.length:=fun h=>⟨(F7 h).1,(F7 h).2.1⟩;generalize C3 L E u2 D5=k at hv hkr hnn;by_cases hk:k<0
     ·rw[if_pos hk]at hv;have e1:l.map (·.1)=hl:=congrArg Prod.fst (Option.some.inj hv);have e2:N8 L E u2=s4:=congrArg Prod.snd (Option.some.inj hv);rw[<- e2,W9]at hokr;cases hokr
     rw[if_neg hk]at hv;have hdk:decide (k<0)=false:=by simpa using hk
     obtain⟨hok2,hi2⟩:=hnn (by omega);have hw2:IntKind.i64.wrap ((u2.i:Int)+1)=((u2.i+1:Nat):Int):=by rw[w6z (by omega)];omega
     have hwk:IntKind.i64.wrap (1+k)=1+k:=w6z (by omega);have hn2:(B2 u2).i<=L.length:=hi2;have ht2:=J7 (E:=E) (x:=1) (by decide) hn2;have hl32:l.length+1<=32:=by
      have hok1:okR u1=true:=by
       cases hz:okR u1 with
       |true=>rfl
       |false =>
        have:D6 L E u1 [111,110]=N8 L E u1:=by unfold D6 isR;rw[hz];rfl
        rw[<- hu2,this,W9]at hok2;cases hok2
      have:=(F5 (L:=L) (E:=E) (s:=u) (n:=(l.length:Int)+1) (m:=32) (e:=9) (by decide) (by rw[hlq];exact hok1)).2.1;omega
     simp only[go_sem,seval,ne0,hdk];by_cases hk2:2<=k
     ·rw[if_pos hk2,if_pos hk2]at hv;have hd2:decide (k≥2)=true:=by simpa using hk2
      repeat' ((with_reducible first|refine wr ?_|refine A1 ?_ ?_|refine wb2 ?_ ?_<;>(intro hb;try simp only[hb])|fail)<;>try simp only[go_sem,seval,hdk,hd2,hw2,hwk,ne0,A0,A2])
      refine AC.call (c_name L E (B2 u2) _ _ t (by repeat (first|exact A0|rw[hnO])) (by omega) (by omega)) ?_;rintro v H' c14 ⟨rfl,rfl⟩ hc14;simp only[go_sem,seval,ne0,A0,A2];repeat' ((with_reducible first|refine wr ?_|refine A1 ?_ ?_|refine wb2 ?_ ?_<;>(intro hb;try simp only[hb])|fail)<;>try simp only[go_sem,seval,ne0,A0,A2])
      cases hb:K3 L E g 1 (B4 L E (B2 u2) 1).2 with
      |none=>rw[hb]at hv;cases hv
      |some qb =>
       obtain⟨bd,s6⟩:=qb;rw[hb]at hv;dsimp only at hv;have j6:=(II.all g).1 _ _ _ hb ht2;refine AC.call (c_blkO L E hL g 1 (B4 L E (B2 u2) 1).2 (bd,s6) (by decide) (by decide) hb ht2 _ _ t (by repeat (first|exact A0|rw[hnO])) (by omega)) ?_;rintro v H' c15 ⟨ob,hb1,hb2,rfl,rfl⟩ hc15;dsimp only at hb1 hb2 ⊢;generalize hY:B9 (Hp.upd _ t (rdR L E s6)) ob _=Y;have y10:Y c10=some ⟨0,true,[I64 (1+k),.str (B4 L E (B2 u2) 1).1.text,.snil,I64 (C2 L E u1).pos]⟩:=by
        rw[<- hY,B6 (fun i hi=>by have:=hb2 i hi;omega)]
        repeat (first|exact A0|rw[hnO])
       have yt:Y t=some (rdR L E s6):=by rw[<- hY,B6 (fun i hi=>by have:=hb2 i hi;omega),A0]
       have y1:Y c1=some ⟨0,true,[.str n,I64 z,A8 o l.length,I64 p]⟩:=by
        rw[<- hY,B6 (fun i hi=>by have:=hb2 i hi;omega)]
        repeat rw[hnO]
        exact hbx
       have y0:Y cc=some ⟨0,true,[.str [],I64 0,.snil,I64 0]⟩:=by
        rw[<- hY,B6 (fun i hi=>by have:=hb2 i hi;omega)]
        repeat rw[hnO]
        exact hb0
       have yo:∀ i,o=some i->Y i=some ⟨4,true,A3 (l.map hoV)⟩:=fun i hi=>by
        have:=ho i hi;rw[<- hY,B6 (fun i hi=>by have:=hb2 i hi;omega)]
        repeat rw[hnO]
        exact hbo i hi
       have yb:∀ i,ob=some i->Y i=some ⟨7,true,A3 (bd.map Pb.St.v)⟩:=fun i hi=>by rw[<- hY];subst hi;exact A0
       have yj:∀ j b,G j=some b->¬ j=t->Y j=some b:=fun j b hj h1=>by
        obtain⟨g1,g2,g3,g4⟩:=hGo j b hj;rw[<- hY,B6 (fun i hi=>by have:=hb2 i hi;omega)]
        repeat rw[hnO]
        rw[hbj j h1 g1 g2 g4];exact hj
       clear hY;obtain⟨V,hV⟩:∃ V,V=A8 ob bd.length:=⟨_,rfl⟩;rw[<- hV];have hVc:V=.snil\/∃ ib,V=.slc ib 0 bd.length:=by
        rw[hV];cases ob
        ·exact .inl rfl
        ·exact .inr ⟨_,rfl⟩
       rcases hVc with rfl|⟨ib,rfl⟩
       all_goals
        have ne0:=A9a t cc c1 c10 c15 (c15+1) (by omega);simp only[go_sem,seval,ne0,y10,y1];repeat' ((with_reducible first|refine wr ?_|refine A1 ?_ ?_|refine wb2 ?_ ?_<;>(intro hb;try simp only[hb])|fail)<;>try simp only[go_sem,seval,ne0,A0,A2,y10,y1])
        have hl4:(A3 (l.map hoV)).length=l.length * 4:=C0 (u:=4) (A4u _) |>.trans (by simp);refine C6 (E0 (cs:=A3 (l.map hoV)) (fun e=>by rw[hno e];exact⟨rfl,rfl⟩) (fun i hi=>?_) hl4 (by omega) (by omega) (by omega)) ?_
        ·have:=ho i hi
         repeat rw[hnO]
         exact yo i hi
        have hdx:∀ X:Hp,I5 X o c1=X c1:=fun X=>C7 (fun i hi=>by have:=ho i hi;omega);simp only[go_sem,seval,ne0,A0,A2,hdx,y1];repeat' ((with_reducible first|refine wr ?_|refine A1 ?_ ?_|refine wb2 ?_ ?_<;>(intro hb;try simp only[hb])|fail)<;>try simp only[go_sem,seval,ne0,A0,A2,hdx,y1])
        have hX:hoV (⟨1+k,(B4 L E (B2 u2) 1).1.text,bd,(C2 L E u1).pos⟩,ob)=.agg [I64 (1+k),.str (B4 L E (B2 u2) 1).1.text,A8 ob bd.length,I64 (C2 L E u1).pos]:=rfl;obtain⟨G2,hG2⟩:∃ G2,G2=B9 G ob ⟨7,true,A3 (bd.map Pb.St.v)⟩:=⟨_,rfl⟩;have hsn:OwH H G2 (c1+1) (c15+1+1) (some (c15+1)) (l++[(⟨1+k,(B4 L E (B2 u2) 1).1.text,bd,(C2 L E u1).pos⟩,ob)]):=by
         rw[hG2];exact (hG.snoc (by omega) (show c<=c15 by omega) (⟨1+k,(B4 L E (B2 u2) 1).1.text,bd,(C2 L E u1).pos⟩,ob) hb1 (fun i hi=>by have:=hb2 i hi;omega) (o':=some (c15+1)) (fun i hi=>by cases hi;omega)).mono (by omega)
        refine⟨(g,some (c15+1),l++[(⟨1+k,(B4 L E (B2 u2) 1).1.text,bd,(C2 L E u1).pos⟩,ob)],s6,G2),?_,inv ⟨by omega,by simp only;omega,j6,(fun h=>by cases h),(fun i hi=>by cases hi;omega),by simp only[A0A,A0G];omega,by simpa using hv,hsn⟩,by simp only;omega⟩;intro j b hj;simp only[B9,P3,A0A,A0G,A0S,C1]at hj;by_cases e1:j=c15+1
        ·subst e1;rw[A0]at hj;rw[hnO,A0, <- hj,A0U,List.map_nil,hX, <- hV];rfl
        rw[A6 e1]at hj;by_cases e2:j=t
        ·subst e2;rw[A0]at hj;rw[hnO,A6 e1,C7 (fun i hi=>by have:=ho i hi;omega),hnO,hnO,yt];exact hj
        rw[A6 e2]at hj;by_cases e3:j=c1
        ·subst e3;rw[A0]at hj ⊢;exact hj
        rw[A6 e3]at hj ⊢;by_cases e4:j=cc
        ·subst e4;rw[A0]at hj;rw[A6 e1,C7 (fun i hi=>by have:=ho i hi;omega),hnO,hnO,y0];exact hj
        rw[A6 e4]at hj;by_cases e5:ob=some j
        ·have:=hb2 j e5;rw[A6 e1,C7 (fun i hi=>by have:=ho i hi;omega),hnO,hnO,yb j e5];rw[hG2,e5]at hj;rw[<- hj];exact A0.symm
        ·rw[hG2,B6 (fun i hi e=>e5 (by rw[hi,e]))]at hj;obtain⟨g1,g2,g3,g4⟩:=hGo j b hj;rw[A6 e1,C7 g4,hnO,hnO];exact yj j b hj e2
     ·rw[if_neg hk2,if_neg hk2]at hv;have hd2:decide (k≥2)=false:=by simpa using hk2
      repeat' ((with_reducible first|refine wr ?_|refine A1 ?_ ?_|refine wb2 ?_ ?_<;>(intro hb;try simp only[hb])|fail)<;>try simp only[go_sem,seval,hdk,hd2,hw2,hwk,ne0,A0,A2])
      cases hb:K3 L E g 1 (B2 u2) with
      |none=>rw[hb]at hv;cases hv
      |some qb =>
       obtain⟨bd,s6⟩:=qb;rw[hb]at hv;dsimp only at hv;have j6:=(II.all g).1 _ _ _ hb hn2;refine AC.call (c_blkO L E hL g 1 (B2 u2) (bd,s6) (by decide) (by decide) hb hn2 _ _ t (by repeat (first|exact A0|rw[hnO])) (by omega)) ?_;rintro v H' c15 ⟨ob,hb1,hb2,rfl,rfl⟩ hc15;dsimp only at hb1 hb2 ⊢;generalize hY:B9 (Hp.upd _ t (rdR L E s6)) ob _=Y;have y10:Y c10=some ⟨0,true,[I64 (1+k),.str [],.snil,I64 (C2 L E u1).pos]⟩:=by
        rw[<- hY,B6 (fun i hi=>by have:=hb2 i hi;omega)]
        repeat (first|exact A0|rw[hnO])
       have yt:Y t=some (rdR L E s6):=by rw[<- hY,B6 (fun i hi=>by have:=hb2 i hi;omega),A0]
       have y1:Y c1=some ⟨0,true,[.str n,I64 z,A8 o l.length,I64 p]⟩:=by
        rw[<- hY,B6 (fun i hi=>by have:=hb2 i hi;omega)]
        repeat rw[hnO]
        exact hbx
       have y0:Y cc=some ⟨0,true,[.str [],I64 0,.snil,I64 0]⟩:=by
        rw[<- hY,B6 (fun i hi=>by have:=hb2 i hi;omega)]
        repeat rw[hnO]
        exact hb0
       have yo:∀ i,o=some i->Y i=some ⟨4,true,A3 (l.map hoV)⟩:=fun i hi=>by
        have:=ho i hi;rw[<- hY,B6 (fun i hi=>by have:=hb2 i hi;omega)]
        repeat rw[hnO]
        exact hbo i hi
       have yb:∀ i,ob=some i->Y i=some ⟨7,true,A3 (bd.map Pb.St.v)⟩:=fun i hi=>by rw[<- hY];subst hi;exact A0
       have yj:∀ j b,G j=some b->¬ j=t->Y j=some b:=fun j b hj h1=>by
        obtain⟨g1,g2,g3,g4⟩:=hGo j b hj;rw[<- hY,B6 (fun i hi=>by have:=hb2 i hi;omega)]
        repeat rw[hnO]
        rw[hbj j h1 g1 g2 g4];exact hj
       clear hY;obtain⟨V,hV⟩:∃ V,V=A8 ob bd.length:=⟨_,rfl⟩;rw[<- hV];have hVc:V=.snil\/∃ ib,V=.slc ib 0 bd.length:=by
        rw[hV];cases ob
        ·exact .inl rfl
        ·exact .inr ⟨_,rfl⟩
       rcases hVc with rfl|⟨ib,rfl⟩
       all_goals
        have ne0:=A9a t cc c1 c10 c15 (c15+1) (by omega);simp only[go_sem,seval,ne0,y10,y1];repeat' ((with_reducible first|refine wr ?_|refine A1 ?_ ?_|refine wb2 ?_ ?_<;>(intro hb;try simp only[hb])|fail)<;>try simp only[go_sem,seval,ne0,A0,A2,y10,y1])
        have hl4:(A3 (l.map hoV)).length=l.length * 4:=C0 (u:=4) (A4u _) |>.trans (by simp);refine C6 (E0 (cs:=A3 (l.map hoV)) (fun e=>by rw[hno e];exact⟨rfl,rfl⟩) (fun i hi=>?_) hl4 (by omega) (by omega) (by omega)) ?_
        ·have:=ho i hi
         repeat rw[hnO]
         exact yo i hi
        have hdx:∀ X:Hp,I5 X o c1=X c1:=fun X=>C7 (fun i hi=>by have:=ho i hi;omega);simp only[go_sem,seval,ne0,A0,A2,hdx,y1];repeat' ((with_reducible first|refine wr ?_|refine A1 ?_ ?_|refine wb2 ?_ ?_<;>(intro hb;try simp only[hb])|fail)<;>try simp only[go_sem,seval,ne0,A0,A2,hdx,y1])
        have hX:hoV (⟨1+k,[],bd,(C2 L E u1).pos⟩,ob)=.agg [I64 (1+k),.str [],A8 ob bd.length,I64 (C2 L E u1).pos]:=rfl;obtain⟨G2,hG2⟩:∃ G2,G2=B9 G ob ⟨7,true,A3 (bd.map Pb.St.v)⟩:=⟨_,rfl⟩;have hsn:OwH H G2 (c1+1) (c15+1+1) (some (c15+1)) (l++[(⟨1+k,[],bd,(C2 L E u1).pos⟩,ob)]):=by
         rw[hG2];exact (hG.snoc (by omega) (show c<=c15 by omega) (⟨1+k,[],bd,(C2 L E u1).pos⟩,ob) hb1 (fun i hi=>by have:=hb2 i hi;omega) (o':=some (c15+1)) (fun i hi=>by cases hi;omega)).mono (by omega)
        refine⟨(g,some (c15+1),l++[(⟨1+k,[],bd,(C2 L E u1).pos⟩,ob)],s6,G2),?_,inv ⟨by omega,by simp only;omega,j6,(fun h=>by cases h),(fun i hi=>by cases hi;omega),by simp only[A0A,A0G];omega,by simpa using hv,hsn⟩,by simp only;omega⟩;intro j b hj;simp only[B9,P3,A0A,A0G,A0S,C1]at hj;by_cases e1:j=c15+1
        ·subst e1;rw[A0]at hj;rw[hnO,A0, <- hj,A0U,List.map_nil,hX, <- hV];rfl
        rw[A6 e1]at hj;by_cases e2:j=t
        ·subst e2;rw[A0]at hj;rw[hnO,A6 e1,C7 (fun i hi=>by have:=ho i hi;omega),hnO,hnO,yt];exact hj
        rw[A6 e2]at hj;by_cases e3:j=c1
        ·subst e3;rw[A0]at hj ⊢;exact hj
        rw[A6 e3]at hj ⊢;by_cases e4:j=cc
        ·subst e4;rw[A0]at hj;rw[A6 e1,C7 (fun i hi=>by have:=ho i hi;omega),hnO,hnO,y0];exact hj
        rw[A6 e4]at hj;by_cases e5:ob=some j
        ·have:=hb2 j e5;rw[A6 e1,C7 (fun i hi=>by have:=ho i hi;omega),hnO,hnO,yb j e5];rw[hG2,e5]at hj;rw[<- hj];exact A0.symm
        ·rw[hG2,B6 (fun i hi e=>e5 (by rw[hi,e]))]at hj;obtain⟨g1,g2,g3,g4⟩:=hGo j b hj;rw[A6 e1,C7 g4,hnO,hnO];exact yj j b hj e2
structure MO where
 m:Md
 o:Option Nat
 l:List HO
abbrev moV(x:MO):DV:=.agg [.str x.m.name,I64 x.m.prio,A8 x.o x.l.length,I64 x.m.pos]
abbrev B3f(l:List HO):Blk:=⟨4,true,A3 (l.map hoV)⟩
theorem B7l(l:List MO):∀ x∈l.map moV,x.cells.length=4:=fun x hx=>by
 obtain⟨y, -,rfl⟩:=A1L.1 hx;rfl
def MO.ids(x:MO):List Nat:=x.o.toList++x.l.filterMap (·.2)
structure MOk (G:Hp) (lo c:Nat) (o:Option Nat) (x:MO):Prop where
 hds:x.l.map (·.1)=x.m.hds
 nil:x.o=none->x.l=[]
 own:∀ i,x.o=some i->lo<=i/\i<c/\o≠some i/\G i=some (B3f x.l)
 row:∀ y∈x.l,(y.2=none->y.1.body=[])/\∀ i,y.2=some i->lo<=i/\i<c/\o≠some i/\G i=some (B1o y.1)
structure OwM (H G:Hp) (lo c:Nat) (o:Option Nat) (Q:List MO):Prop where
 base:∀ j,j<lo->G j=H j
 only:∀ j b,G j=some b->j<lo\/∃ x∈Q,j∈x.ids
 row:∀ x∈Q,MOk G lo c o x
 nd:(Q.flatMap MO.ids).Nodup
theorem MOk.id{G:Hp}{lo c:Nat}{o:Option Nat}{x:MO}(h:MOk G lo c o x){i:Nat}(hi:i∈x.ids):lo<=i/\i<c/\o≠some i:=by
 rcases A0W.1 hi with hi|hi
 ·have:=h.own i (by simpa using hi);exact⟨this.1,this.2.1,this.2.2.1⟩
 ·obtain⟨y,hy,e⟩:=A1G.1 hi;have:=(h.row y hy).2 i e;exact⟨this.1,this.2.1,this.2.2.1⟩
theorem OwM.none{H G:Hp}{lo c:Nat}{o:Option Nat}{Q:List MO}(h:OwM H G lo c o Q)(hl:lo<=c){j:Nat}(hj:c<=j):G j=none:=by
 cases e:G j with
 |none=>rfl
 |some b =>
  rcases h.only j b e with h1|⟨x,hx,h2⟩
  ·omega
  ·have:=(h.row x hx).id h2;omega
theorem MOk.change{G G':Hp}{lo c c':Nat}{o o':Option Nat}{x:MO}(h:MOk G lo c o x)(hc:c<=c')(hg:∀ j,j<c->G' j=G j)(ho:∀ i,o'=some i->c<=i):MOk G' lo c' o' x :=
 ⟨h.hds,h.nil,fun i hi=>by
  obtain⟨h1,h2, -,h4⟩:=h.own i hi;exact⟨h1,by omega,fun e=>by have:=ho i e;omega,by rw[hg i h2];exact h4⟩,fun y hy=>⟨(h.row y hy).1,fun i hi=>by
  obtain⟨h1,h2, -,h4⟩:=(h.row y hy).2 i hi;exact⟨h1,by omega,fun e=>by have:=ho i e;omega,by rw[hg i h2];exact h4⟩⟩⟩
theorem OwM.mono{H G:Hp}{lo c c':Nat}{o:Option Nat}{Q:List MO}(h:OwM H G lo c o Q)(hc:c<=c'):OwM H G lo c' o Q :=
 ⟨h.base,h.only,fun x hx=>⟨(h.row x hx).hds,(h.row x hx).nil,fun i hi=>by have:=(h.row x hx).own i hi;exact⟨this.1,by omega,this.2.2⟩,fun y hy=>⟨((h.row x hx).row y hy).1,fun i hi=>by have:=((h.row x hx).row y hy).2 i hi;exact⟨this.1,by omega,this.2.2⟩⟩⟩,h.nd⟩
def U9(G G':Hp)(c1:Nat):Hp:=fun j=>if j<c1 then G j else G' j
theorem OwM.snoc{H G K G':Hp}{lo c c1 c2:Nat}{o o':Option Nat}{Q:List MO}(h:OwM H G lo c o Q)(hl:lo<=c)(hc:c<=c1)(hc2:c1<=c2)(X:MO)(hX:X.l.map (·.1)=X.m.hds)(hn:X.o=Option.none->X.l=[])
  (hi:∀ i,X.o=some i->c1<=i/\i<c2) (hw:OwH K G' c1 c2 X.o X.l) (ho:∀ i,o'=some i->c2<=i):OwM H (U9 G (B9 G' X.o (B3f X.l)) c1) lo c2 o' (Q++[X]):=by
 have hnew:MOk (U9 G (B9 G' X.o (B3f X.l)) c1) lo c2 o' X:=by
  refine⟨hX,hn,fun i e=>?_,fun y hy=>⟨(hw.row y hy).1,fun i e=>?_⟩⟩
  ·have:=hi i e;refine⟨by omega,this.2,fun e2=>by have:=ho i e2;omega,?_⟩;unfold U9;rw[if_neg (by omega),e];exact A0
  ·obtain⟨h1,h2,h3,h4⟩:=(hw.row y hy).2 i e;refine⟨by omega,h2,fun e2=>by have:=ho i e2;omega,?_⟩;unfold U9;rw[if_neg (by omega),B6 (fun i' e2 e3=>h3 (by rw[e2,e3]))];exact h4
 refine⟨fun j hj=>?_,fun j b hj=>?_,fun x hx=>?_,?_⟩
 ·unfold U9;rw[if_pos (by omega)];exact h.base j hj
 ·unfold U9 at hj;by_cases hlt:j<c1
  ·rw[if_pos hlt]at hj;exact (h.only j b hj).imp (fun h=>h) fun ⟨x,hx,e2⟩=>⟨x,A2R _ hx,e2⟩
  ·rw[if_neg hlt]at hj;refine .inr ⟨X,by simp,A0W.2 ?_⟩;by_cases e:X.o=some j
   ·left;simp[e]
   ·rw[B6 (fun i e2 e3=>e (by rw[e2,e3]))]at hj;rcases hw.only j b hj with h1|⟨y,hy,e2⟩
    ·omega
    ·exact .inr (A1G.2 ⟨y,hy,e2⟩)
 ·rcases A0W.1 hx with hx|hx
  ·exact (h.row x hx).change (by omega) (fun j hj=>by unfold U9;rw[if_pos (by omega)]) (fun i e=>by have:=ho i e;omega)
  ·obtain rfl:=A0O.1 hx;exact hnew
 ·rw[A1Z];refine A2J.2 ⟨h.nd,?_,fun a ha b hb=>?_⟩
  ·simp only[A1B,List.flatMap_nil,A1H,MO.ids];refine A2J.2 ⟨by cases X.o<;>simp,hw.nd,fun a ha b hb=>?_⟩;obtain⟨y,hy,e⟩:=A1G.1 hb;intro e2;exact ((hw.row y hy).2 b e).2.2.1 (by rw[show X.o=some a by simpa using ha,e2])
  ·obtain⟨x,hx,e⟩:=A2X.1 ha;obtain⟨y,hy,e2⟩:=A2X.1 hb;obtain rfl:=A0O.1 hy;have h1:=(h.row x hx).id e;have h2:c1<=b:=by
    rcases A0W.1 e2 with e2|e2
    ·exact (hi b (by simpa using e2)).1
    ·obtain⟨z,hz,e3⟩:=A1G.1 e2;exact ((hw.row z hz).2 b e3).1
   omega
theorem c_rulesM(L:List Tok)(E:Int)(hL:L.length<=1000000000)(hv:∀ x∈L,0<=x.value/\x.value<=9223372036854775807)(f:Nat)(s:Rd)(r:Ru × Rd)(h:A4h L E f s=some r)(hi:s.i<=L.length)(hokr:okR r.2=true)
  (H:Hp) (cc t:Nat) (ht:H t=some (rdR L E s)) (htc:t<cc):AC Tryz.prog 13 [.ptr t 0] H cc (fun v H' c' => ∃ (o:Option Nat) (Q:List MO) (G:Hp),Q.map (·.m)=r.1.modes/\(o=none->Q=[])/\(∀ i,o=some i->cc<=i/\i<c')/\OwM H G cc c' o Q /\
   v=.agg [E3 r.1.decls,A8 o Q.length]/\H'=B9 (G.upd t (rdR L E r.2)) o ⟨4,true,A3 (Q.map moV)⟩):=by
 refine AC.bodyT B1 rfl (A0C rfl) fun hfr=>?_;unfold A4h at h;cases hd:U5 L E f [] s with
 |none=>rw[hd]at h;cases h
 |some q =>
 obtain⟨dl,s1⟩:=q;rw[hd]at h;dsimp only at h;cases hm:P4 L E f [] s1 with
 |none=>rw[hm]at h;cases h
 |some q =>
 obtain⟨ml,s2⟩:=q;rw[hm]at h;cases h;dsimp only at hokr ⊢;have ne0:=L8 t cc (cc+1) (by omega);repeat' ((with_reducible first|refine wr ?_|refine cpc c_decls31 ?_|refine A1 ?_ ?_|refine wb2 ?_ ?_<;>(intro hb;try simp only[hb])|fail)<;>try simp only[go_sem,seval,ne0,A0,A2])
 refine AC.call (c_among L E s _ _ t (by repeat (first|exact ht|rw[hnO])) (by omega) D0 (by decide)) ?_;rintro v H' c1 ⟨rfl,rfl⟩ hc1;simp only[go_sem,seval,ne0];repeat' ((with_reducible first|refine wr ?_|refine A1 ?_ ?_|refine wb2 ?_ ?_<;>(intro hb;try simp only[hb])|fail)<;>try simp only[go_sem,seval,ne0])
 refine D4 (fun q:Nat × Option Nat × List Dc × Rd=>[(0,.ptr t 0),(2,.ptr cc 0),(3,.ptr (cc+1) 0),(4,I64 (C3 L E q.2.2.2 D0))]) (fun q=>B9 (((H.upd cc ⟨0,true,[.snil,.snil]⟩).upd t (rdR L E q.2.2.2)).upd (cc+1) ⟨0,true,[A8 q.2.1 q.2.2.1.length,.snil]⟩) q.2.1 ⟨4,true,A3 (q.2.2.1.map Dc.v)⟩)
  (fun q c=>cc+2<=c/\q.1<=f/\q.2.2.2.i<=L.length/\(q.2.1=none->q.2.2.1=[])/\(∀ i,q.2.1=some i->cc+1<i/\i<c)/\q.2.2.1.length<=128/\U5 L E q.1 q.2.2.1 q.2.2.2=some (dl,s1)) (fun q=>q.1) (f,none,[],s)
  (by simp[C5,tm,Tm.upd]) (fun j b hj=>?_) ⟨by omega,A0J _,hi,fun _=>rfl,(fun i hi=>by cases hi),by simp,hd⟩ ?_
 ·simp only[B9,A1s]at hj;by_cases e1:j=cc+1
  ·subst e1;rw[A0]at hj ⊢;exact hj
  ·rw[A6 e1]at hj ⊢;by_cases e2:j=t
   ·subst e2;rw[A0]at hj;rw[hnO,ht];exact hj
   ·rw[A6 e2]at hj;exact hj
 clear hd;rintro⟨g,o,l,u⟩ c ⟨hc,hg,hi5,hno,ho,hl1,hv0⟩;dsimp only at hc hg hi5 hno ho hl1 hv0 ⊢;cases g with
 |zero=>simp[U5]at hv0
 |succ g =>
 unfold U5 at hv0;dsimp only at hv0;have hkr : -1<=C3 L E u D0/\C3 L E u D0<8:=A1f L E u D0 0;have hw:IntKind.i64.wrap ((l.length:Int)+1)=(l.length:Int)+1:=w6z (by omega);have hlen:A1v (A8 o l.length)=some (I64 l.length):=by
  cases o with
  |none=>rw[hno rfl];rfl
  |some b=>rfl
 by_cases hk:C3 L E u D0<0
 ·rw[if_pos hk]at hv0;have hdk:decide (C3 L E u D0≥0)=false:=by simp;omega
  have e1:l=dl:=congrArg Prod.fst (Option.some.inj hv0);have e2:u=s1:=congrArg Prod.snd (Option.some.inj hv0);subst e1 e2;repeat' ((with_reducible first|refine wr ?_|refine A1 ?_ ?_|refine wb2 ?_ ?_<;>(intro hb;try simp only[hb])|fail)<;>try simp only[go_sem,seval,hdk])
  clear hdk hkr hk hv0;refine IW.keep [0,2,3] [.ptr t 0,.ptr cc 0,.ptr (cc+1) 0] (B7v (Hb:=(H.upd cc ⟨0,true,[.snil,.snil]⟩).upd t (rdR L E u)) (ci:=cc+1) (u:=4) (pre:=[]) (suf:=[.snil]) (xs:=l.map Dc.v) (by simp[DV.one]) (fun h=>by rw[hno h];rfl) (fun i hi=>by have:=ho i hi;exact⟨by omega,by rw[hnO,hnO];exact hfr i (by omega)⟩) (by simp) (A2z _)) ?_;refine D4 (fun q:Nat × Option Nat × List MO × Rd × Hp=>[(0,.ptr t 0),(2,.ptr cc 0),(3,.ptr (cc+1) 0)]) (fun q=>B9 (((q.2.2.2.2.upd cc ⟨0,true,[.snil,.snil]⟩).upd t (rdR L E q.2.2.2.1)).upd (cc+1) ⟨0,true,[E3 l,A8 q.2.1 q.2.2.1.length]⟩) q.2.1 ⟨4,true,A3 (q.2.2.1.map moV)⟩)
   (fun q c=>cc+2<=c/\q.1<=f/\q.2.2.2.1.i<=L.length/\(q.2.1=none->q.2.2.1=[])/\(∀ i,q.2.1=some i->cc+1<i/\i<c)/\q.2.2.1.length<=16/\P4 L E q.1 (q.2.2.1.map (·.m)) q.2.2.2.1=some (ml,s2)/\OwM H q.2.2.2.2 (cc+2) c q.2.1 q.2.2.1) (fun q=>q.1) (f,none,[],u,H)
   (by simp[C5,tm,Tm.upd]) (fun j b hj=>hj) ⟨by omega,A0J _,hi5,fun _=>rfl,(fun i hi=>by cases hi),by simp,hm,⟨fun _ _=>rfl,fun j b hj=>.inl (Classical.byContradiction fun h=>by have hj:H j=some b:=hj;rw[hfr j (by omega)]at hj;cases hj),(fun x hx=>by cases hx),List.nodup_nil⟩⟩ ?_
  clear hm hlen hw;clear hno ho hl1 hi5;rintro⟨g,o,m,u,G⟩ c ⟨hc,hg,hi5,hno,ho,hl1,hv,hG⟩;dsimp only at hc hg hi5 hno ho hl1 hv hG ⊢;cases g with
  |zero=>simp[P4]at hv
  |succ g =>
  unfold P4 at hv;dsimp only at hv;rw[A0E]at hv;have hGn:∀ j,c<=j->G j=none:=fun j hj=>hG.none (by omega) hj;have hGo:∀ j b,G j=some b->¬ j=cc/\¬ j=cc+1/\j<c/\∀ i,o=some i->¬ j=i:=fun j b hj=>by
   rcases hG.only j b hj with h1|⟨x,hx,h2⟩
   ·rw[hG.base j h1]at hj;have hjc:j<cc:=Classical.byContradiction fun h=>by rw[hfr j (by omega)]at hj;cases hj
    exact⟨by omega,by omega,by omega,fun i hi=>by have:=ho i hi;omega⟩
   ·have:=(hG.row x hx).id h2;exact⟨by omega,by omega,this.2.1,fun i hi e=>this.2.2 (by rw[hi,e])⟩
  have hw:IntKind.i64.wrap ((m.length:Int)+1)=(m.length:Int)+1:=w6z (by omega);have hlen:A1v (A8 o m.length)=some (I64 m.length):=by
   cases o with
   |none=>rw[hno rfl];rfl
   |some b=>rfl
  have hHt:B9 (((G.upd cc ⟨0,true,[.snil,.snil]⟩).upd t (rdR L E u)).upd (cc+1) ⟨0,true,[E3 l,A8 o m.length]⟩) o ⟨4,true,A3 (m.map moV)⟩ t=some (rdR L E u):=by rw[B6 (fun i hi=>by have:=ho i hi;omega),hnO,A0]
  have hbx:B9 (((G.upd cc ⟨0,true,[.snil,.snil]⟩).upd t (rdR L E u)).upd (cc+1) ⟨0,true,[E3 l,A8 o m.length]⟩) o ⟨4,true,A3 (m.map moV)⟩ (cc+1)=some ⟨0,true,[E3 l,A8 o m.length]⟩:=by rw[B6 (fun i hi=>by have:=ho i hi;omega),A0]
  have hbo:∀ i:Nat,o=some i->B9 (((G.upd cc ⟨0,true,[.snil,.snil]⟩).upd t (rdR L E u)).upd (cc+1) ⟨0,true,[E3 l,A8 o m.length]⟩) o ⟨4,true,A3 (m.map moV)⟩ i=some ⟨4,true,A3 (m.map moV)⟩:=fun i hi=>by subst hi;exact A0
  have hbj:∀ j:Nat,¬ j=t->¬ j=cc->¬ j=cc+1->(∀ i,o=some i->¬ j=i)->B9 (((G.upd cc ⟨0,true,[.snil,.snil]⟩).upd t (rdR L E u)).upd (cc+1) ⟨0,true,[E3 l,A8 o m.length]⟩) o ⟨4,true,A3 (m.map moV)⟩ j=G j:=fun j h1 h2 h3 h4=>by rw[B6 h4,A6 h3,A6 h1,A6 h2]
  have hb0:B9 (((G.upd cc ⟨0,true,[.snil,.snil]⟩).upd t (rdR L E u)).upd (cc+1) ⟨0,true,[E3 l,A8 o m.length]⟩) o ⟨4,true,A3 (m.map moV)⟩ cc=some ⟨0,true,[.snil,.snil]⟩:=by rw[B6 (fun i hi=>by have:=ho i hi;omega),hnO,hnO,A0]
  have hbn:∀ j:Nat,c<=j->B9 (((G.upd cc ⟨0,true,[.snil,.snil]⟩).upd t (rdR L E u)).upd (cc+1) ⟨0,true,[E3 l,A8 o m.length]⟩) o ⟨4,true,A3 (m.map moV)⟩ j=none:=fun j h1=>by rw[B6 (fun i hi=>by have:=ho i hi;omega),hnO,hnO,hnO];exact hGn j (by omega)
  have hT:(A8 o m.length).one=true:=by cases o<;>rfl
  generalize hHH:B9 (((G.upd cc ⟨0,true,[.snil,.snil]⟩).upd t (rdR L E u)).upd (cc+1) ⟨0,true,[E3 l,A8 o m.length]⟩) o ⟨4,true,A3 (m.map moV)⟩=HH at hHt hbx hbo hbj hb0 hbn ⊢;have fin0:∀ (x:Blk) (ds:List DV),GL (HH.upd cc x) ds (B9 (G.upd t (rdR L E u)) o ⟨4,true,A3 (m.map moV)⟩) ds:=fun x ds =>
   GL.less' fun j b hj=>by
    by_cases e0:∃ i,o=some i/\j=i
    ·obtain⟨i,e1,rfl⟩:=e0;have:=ho j e1;rw[hnO,hbo j e1];subst e1;simpa[B9,A0] using hj
    rw[B6 (fun i hi e=>e0 ⟨i,hi,e⟩)]at hj;by_cases e1:j=t
    ·subst e1;rw[A0]at hj;rw[hnO,hHt];exact hj
    rw[A6 e1]at hj;obtain⟨h1,h2,h3,h4⟩:=hGo j b hj;rw[A6 h1,hbj j e1 h1 h2 h4];exact hj
  repeat' ((with_reducible first|refine wr ?_|refine A1 ?_ ?_|refine wb2 ?_ ?_<;>(intro hb;try simp only[hb])|fail)<;>try simp only[go_sem,seval])
  refine AC.call (c_rdok L E u _ _ t hHt (by omega)) ?_;rintro v H' c2 ⟨rfl,rfl⟩ hc2;cases hok:okR u with
  |false =>
   rw[if_neg (by simp[hok])]at hv;have e1:m.map (·.m)=ml:=congrArg Prod.fst (Option.some.inj hv);have e2:u=s2:=congrArg Prod.snd (Option.some.inj hv);rw[<- e2,hok]at hokr;cases hokr
  |true =>
   by_cases hlt:u.i<L.length
   ·rw[if_pos ⟨hok,hlt⟩]at hv;have hdl:decide ((u.i:Int)<(L.length:Int))=true:=by simpa using hlt
    simp only[go_sem,seval,hok,hHt,hdl];repeat' ((with_reducible first|refine wr ?_|refine A1 ?_ ?_|refine wb2 ?_ ?_<;>(intro hb;try simp only[hb])|fail)<;>try simp only[go_sem,seval,hok,hHt,hdl])
    refine AC.call (c_is L E u _ _ t hHt (by omega) _) ?_;rintro v H' c3 ⟨rfl,rfl⟩ hc3;cases hmo:isR L E u [109,111,100,101] with
    |false =>
     rw[if_pos hmo]at hv;have e1:m.map (·.m)=ml:=congrArg Prod.fst (Option.some.inj hv);have e2:N8 L E u=s2:=congrArg Prod.snd (Option.some.inj hv);rw[<- e2,W9]at hokr;cases hokr
    |true =>
     rw[if_neg (by rw[hmo];decide)]at hv;simp only[go_sem,seval,hmo];repeat' ((with_reducible first|refine wr ?_|refine A1 ?_ ?_|refine wb2 ?_ ?_<;>(intro hb;try simp only[hb])|fail)<;>try simp only[go_sem,seval,hmo,hbx,hlen,hw])
     refine AC.call (c_limit L E u _ _ t hHt (by omega) _ _ _) ?_;rintro v H' c4 ⟨rfl,rfl⟩ hc4;have j1:(C9 L E u ((m.length:Int)+1) 16 9).i=u.i:=F0;have j2:=fun h=>F5 (L:=L) (E:=E) (s:=u) (n:=(m.length:Int)+1) (m:=16) (e:=9) (by decide) h;generalize C9 L E u ((m.length:Int)+1) 16 9=u1 at hv j1 j2 ⊢;simp only[go_sem,seval];repeat' ((with_reducible first|refine wr ?_|refine A1 ?_ ?_|refine wb2 ?_ ?_<;>(intro hb;try simp only[hb])|fail)<;>try simp only[go_sem,seval])
     refine AC.call (c_rdok L E u1 _ _ t A0 (by omega)) ?_;rintro v H' c5 ⟨rfl,rfl⟩ hc5;cases hok1:okR u1 with
     |false =>
      rw[if_neg (by rw[hok1];decide)]at hv;simp only[go_sem,seval,hok1];repeat' ((with_reducible first|refine wr ?_|refine A1 ?_ ?_|refine wb2 ?_ ?_<;>(intro hb;try simp only[hb])|fail)<;>try simp only[go_sem,seval,hok1])
      refine⟨(g,o,m,u1,G),?_,inv ⟨by omega,by simp only;omega,by rw[j1];exact hi5,hno,(fun i hi=>by have:=ho i hi;omega),hl1,hv,hG.mono (by omega)⟩,by simp only;omega⟩;intro j b hj;by_cases e2:j=t
      ·subst e2;rw[B6 (fun i hi=>by have:=ho i hi;omega),hnO,A0]at hj;rw[A0];exact hj
      ·rw[A6 e2, <- hHH];cases o with
       |none =>
        simp only[B9]at hj ⊢;by_cases e1:j=cc+1
        ·subst e1;rw[A0]at hj ⊢;exact hj
        ·rw[A6 e1,A6 e2]at hj ⊢;exact hj
       |some i =>
        simp only[B9]at hj ⊢;by_cases e0:j=i
        ·subst e0;rw[A0]at hj ⊢;exact hj
        rw[A6 e0]at hj ⊢;by_cases e1:j=cc+1
        ·subst e1;rw[A0]at hj ⊢;exact hj
        ·rw[A6 e1,A6 e2]at hj ⊢;exact hj
     |true =>
      rw[if_pos hok1]at hv;obtain⟨-,j3,rfl⟩:=j2 hok1;cases hmd:A1a L E g u1 with
      |none=>rw[hmd]at hv;cases hv
      |some qm =>
       obtain⟨md,u2⟩:=qm;rw[hmd]at hv;dsimp only at hv;have j6:=C1z hmd hi5;have ne0:=L8 t cc (cc+1) (by omega);simp only[go_sem,seval,hok1,ne0,A0,A2,hbx];repeat' ((with_reducible first|refine wr ?_|refine A1 ?_ ?_|refine wb2 ?_ ?_<;>(intro hb;try simp only[hb])|fail)<;>try simp only[go_sem,seval,hok1,ne0,A0,A2,hbx])
       have hokm:okR u2=true:=by
        cases hz:okR u2 with
        |true=>rfl
        |false =>
         cases g with
         |zero=>simp[P4]at hv
         |succ g =>
          rw[P4,if_neg (by simp[hz])]at hv;have e:=congrArg Prod.snd (Option.some.inj hv);dsimp only at e;rw[<- e,hz]at hokr;cases hokr
       refine AC.call (c_modeO L E hL g u1 (md,u2) hmd hi5 hokm _ _ t A0 (by omega)) ?_;rintro v H' c6 ⟨om,lm,G',hm1,hm2,hm3,hm4,rfl,rfl⟩ hc6;dsimp only at hm1 hm4 ⊢;generalize hY:B9 (G'.upd t (rdR L E u2)) om _=Y;have hYj:∀ j,j<c5+8->¬ j=t->Y j=H' j:=fun j hj h1=>by
        rw[<- hY,B6 (fun i hi=>by have:=hm3 i hi;omega),A6 h1,hm4.base j hj,A6 h1]
       have yt:Y t=some (rdR L E u2):=by rw[<- hY,B6 (fun i hi=>by have:=hm3 i hi;omega),A0]
       have hYn:∀ j,¬ j=t->Y j=B9 G' om (B3f lm) j:=fun j h1=>by
        rw[<- hY];cases om with
        |none=>exact A6 h1
        |some i =>
         by_cases e:j=i
         ·subst e;exact A0.trans A0.symm
         ·show ((G'.upd t _).upd i _) j=(G'.upd i _) j;rw[A6 e,A6 e,A6 h1]
       clear hY;have y1:Y (cc+1)=some ⟨0,true,[E3 l,A8 o m.length]⟩:=by rw[hYj _ (by omega) (by omega)];exact hbx
       obtain⟨V,hV⟩:∃ V,V=A8 om lm.length:=⟨_,rfl⟩;rw[<- hV];have hVc:V=.snil\/∃ ib,V=.slc ib 0 lm.length:=by
        rw[hV];cases om
        ·exact .inl rfl
        ·exact .inr ⟨_,rfl⟩
       rcases hVc with rfl|⟨ib,rfl⟩
       all_goals
        have ne0:=T1 t cc (cc+1) (c5+4) c6 (by omega);simp only[go_sem,seval,ne0,A0,A2,y1];repeat' ((with_reducible first|refine wr ?_|refine A1 ?_ ?_|refine wb2 ?_ ?_<;>(intro hb;try simp only[hb])|fail)<;>try simp only[go_sem,seval,ne0,A0,A2,y1])
        refine⟨⟨by rw[hYj _ (by omega) (by omega)];exact hbn _ (by omega),by rw[hYj _ (by omega) (by omega)];exact hbn _ (by omega)⟩,?_⟩;have hl4:(A3 (m.map moV)).length=m.length * 4:=C0 (u:=4) (B7l _) |>.trans (by simp);repeat' ((with_reducible first|refine wr ?_|refine A1 ?_ ?_|refine wb2 ?_ ?_<;>(intro hb;try simp only[hb])|fail)<;>try simp only[go_sem,seval,ne0,A0,A2,y1])
        rw[E0 (cs:=A3 (m.map moV)) (fun e=>by rw[hno e];exact⟨rfl,rfl⟩) (fun i hi=>by have:=ho i hi;rw[hnO,hYj _ (by omega) (by omega)];exact hbo i hi) hl4 (by omega) (by omega) (by omega)];have hdx:∀ X:Hp,I5 X o (cc+1)=X (cc+1):=fun X=>C7 (fun i hi=>by have:=ho i hi;omega);simp only[go_sem,seval,ne0,A0,A2,hdx,y1];repeat' ((with_reducible first|refine wr ?_|refine A1 ?_ ?_|refine wb2 ?_ ?_<;>(intro hb;try simp only[hb])|fail)<;>try simp only[go_sem,seval,ne0,A0,A2,hdx,y1])
        have hX:moV ⟨md,om,lm⟩=.agg [.str md.name,I64 md.prio,A8 om lm.length,I64 md.pos]:=rfl;obtain⟨G2,hG2⟩:∃ G2,G2=U9 G (B9 G' om (B3f lm)) (c5+8):=⟨_,rfl⟩;have hsn:OwM H G2 (cc+2) (c6+1) (some c6) (m++[⟨md,om,lm⟩]):=by
         rw[hG2];exact (hG.snoc (by omega) (show c<=c5+8 by omega) (by omega) ⟨md,om,lm⟩ hm1 hm2 hm3 hm4 (o':=some c6) (fun i hi=>by cases hi;omega)).mono (by omega)
        refine⟨(g,some c6,m++[⟨md,om,lm⟩],u2,G2),?_,inv ⟨by omega,by simp only;omega,j6,(fun h=>by cases h),(fun i hi=>by cases hi;omega),by simp only[A0A,A0G];omega,by simpa using hv,hsn⟩,by simp only;omega⟩;intro j b hj;simp only[B9,P3,A0A,A0G,A0S,C1]at hj;by_cases e1:j=cc+1
        ·subst e1;by_cases e3:cc+1=c6
         ·omega
         rw[A6 e3,A0]at hj;rw[A0];exact hj
        rw[A6 e1];by_cases e0:j=c6
        ·subst e0;rw[A0]at hj;rw[A0, <- hj,A0U,List.map_nil,hX, <- hV];rfl
        rw[A6 e0]at hj ⊢;rw[A6 e1]at hj;by_cases e2:j=t
        ·subst e2;rw[A0]at hj;rw[C7 (fun i hi=>by have:=ho i hi;omega),hnO,yt];exact hj
        rw[A6 e2]at hj;by_cases e4:j=cc
        ·subst e4;rw[A0]at hj;rw[C7 (fun i hi=>by have:=ho i hi;omega),hnO,hYj _ (by omega) e2,hb0];exact hj
        rw[A6 e4,hG2]at hj;unfold U9 at hj;by_cases e5:j<c5+8
        ·rw[if_pos e5]at hj;obtain⟨g1,g2,g3,g4⟩:=hGo j b hj;rw[C7 g4,hnO,hYj j e5 e2,hbj j e2 g1 g2 g4];exact hj
        ·rw[if_neg e5]at hj;rw[C7 (fun i hi=>by have:=ho i hi;omega),hnO,hYn j e2];exact hj
   ·rw[if_neg (by simp[hlt])]at hv;have hdl:decide ((u.i:Int)<(L.length:Int))=false:=by simpa using hlt
    have e1:m.map (·.m)=ml:=congrArg Prod.fst (Option.some.inj hv);have e2:u=s2:=congrArg Prod.snd (Option.some.inj hv);subst e1 e2;have ne0:=L8 t cc (cc+1) (by omega);simp only[go_sem,seval,hok,hHt,hdl,hbx,ne0,hT,hb0];repeat' ((with_reducible first|refine wr ?_|refine A1 ?_ ?_|refine wb2 ?_ ?_<;>(intro hb;try simp only[hb])|fail)<;>try simp only[go_sem,seval,hok,hHt,hdl,hbx,ne0,hT])
    rw[hb0];refine C6 (A3j (by rfl) (by decide) (by clear hHH;cases o<;>rfl)) ?_;simp only[go_sem,seval,ne0,A0];repeat' ((with_reducible first|refine wr ?_|refine A1 ?_ ?_|refine wb2 ?_ ?_<;>(intro hb;try simp only[hb])|fail)<;>try simp only[go_sem,seval,ne0,A0])
    rw[E6 (rv2 rfl A0)];exact⟨_,_,fin0 _ _,o,m,G,rfl,hno,(fun i hi=>by have:=ho i hi;exact⟨by omega,(show i<c2 by omega)⟩),⟨fun j hj=>hG.base j (by omega),fun j b hj=>(hG.only j b hj).imp (fun h1=>by rw[hG.base j h1]at hj;exact Classical.byContradiction fun h=>by rw[hfr j (by omega)]at hj;cases hj) id,
     fun x hx=>⟨(hG.row x hx).hds,(hG.row x hx).nil,fun i hi=>by have:=(hG.row x hx).own i hi;exact⟨by omega,(show i<c2 by omega),this.2.2⟩,fun y hy=>⟨((hG.row x hx).row y hy).1,fun i hi=>by have:=((hG.row x hx).row y hy).2 i hi;exact⟨by omega,(show i<c2 by omega),this.2.2⟩⟩⟩,hG.nd⟩,rfl,rfl⟩
 ·rw[if_neg hk]at hv0;have hdk:decide (C3 L E u D0≥0)=true:=by simp;omega
  have hHt:B9 (((H.upd cc ⟨0,true,[.snil,.snil]⟩).upd t (rdR L E u)).upd (cc+1) ⟨0,true,[A8 o l.length,.snil]⟩) o ⟨4,true,A3 (l.map Dc.v)⟩ t=some (rdR L E u):=by rw[B6 (fun i hi=>by have:=ho i hi;omega),hnO,A0]
  have hbx:B9 (((H.upd cc ⟨0,true,[.snil,.snil]⟩).upd t (rdR L E u)).upd (cc+1) ⟨0,true,[A8 o l.length,.snil]⟩) o ⟨4,true,A3 (l.map Dc.v)⟩ (cc+1)=some ⟨0,true,[A8 o l.length,.snil]⟩:=by rw[B6 (fun i hi=>by have:=ho i hi;omega),A0]
  have hbo:∀ i:Nat,o=some i->B9 (((H.upd cc ⟨0,true,[.snil,.snil]⟩).upd t (rdR L E u)).upd (cc+1) ⟨0,true,[A8 o l.length,.snil]⟩) o ⟨4,true,A3 (l.map Dc.v)⟩ i=some ⟨4,true,A3 (l.map Dc.v)⟩:=fun i hi=>by subst hi;exact A0
  have hbj:∀ j:Nat,j<cc->¬ j=t->B9 (((H.upd cc ⟨0,true,[.snil,.snil]⟩).upd t (rdR L E u)).upd (cc+1) ⟨0,true,[A8 o l.length,.snil]⟩) o ⟨4,true,A3 (l.map Dc.v)⟩ j=H j:=fun j h1 h2=>by rw[B6 (fun i hi=>by have:=ho i hi;omega),hnO,A6 h2,hnO]
  have hb0:B9 (((H.upd cc ⟨0,true,[.snil,.snil]⟩).upd t (rdR L E u)).upd (cc+1) ⟨0,true,[A8 o l.length,.snil]⟩) o ⟨4,true,A3 (l.map Dc.v)⟩ cc=some ⟨0,true,[.snil,.snil]⟩:=by rw[B6 (fun i hi=>by have:=ho i hi;omega),hnO,hnO,A0]
  have hbn:∀ j:Nat,c<=j->B9 (((H.upd cc ⟨0,true,[.snil,.snil]⟩).upd t (rdR L E u)).upd (cc+1) ⟨0,true,[A8 o l.length,.snil]⟩) o ⟨4,true,A3 (l.map Dc.v)⟩ j=none:=fun j h1=>by rw[B6 (fun i hi=>by have:=ho i hi;omega),hnO,hnO,hnO];exact hfr j (by omega)
  obtain⟨hok0,hi0, -⟩:=F7 (show 0<=C3 L E u D0 by omega);generalize hHH:B9 (((H.upd cc ⟨0,true,[.snil,.snil]⟩).upd t (rdR L E u)).upd (cc+1) ⟨0,true,[A8 o l.length,.snil]⟩) o ⟨4,true,A3 (l.map Dc.v)⟩=HH at hHt hbx hbo hbj hb0 hbn ⊢;generalize hkk:C3 L E u D0=k at hv0 hk hdk hkr ⊢;repeat' ((with_reducible first|refine wr ?_|refine A1 ?_ ?_|refine wb2 ?_ ?_<;>(intro hb;try simp only[hb])|fail)<;>try simp only[go_sem,seval,hdk,hbx,hlen,hw])
  refine AC.call (c_limit L E u _ _ t hHt (by omega) _ _ _) ?_;rintro v H' c2 ⟨rfl,rfl⟩ hc2;have j1:(C9 L E u ((l.length:Int)+1) 128 9).i=u.i:=F0;have j2:=fun h=>F5 (L:=L) (E:=E) (s:=u) (n:=(l.length:Int)+1) (m:=128) (e:=9) (by decide) h;generalize C9 L E u ((l.length:Int)+1) 128 9=u1 at hv0 j1 j2 ⊢;simp only[go_sem,seval];repeat' ((with_reducible first|refine wr ?_|refine A1 ?_ ?_|refine wb2 ?_ ?_<;>(intro hb;try simp only[hb])|fail)<;>try simp only[go_sem,seval])
  refine AC.call (c_rdok L E u1 _ _ t A0 (by omega)) ?_;rintro v H' c3 ⟨rfl,rfl⟩ hc3;cases hok:okR u1 with
  |false =>
   rw[if_neg (by rw[hok];decide)]at hv0;simp only[go_sem,seval,hok];repeat' ((with_reducible first|refine wr ?_|refine cpc c_decls31 ?_|refine A1 ?_ ?_|refine wb2 ?_ ?_<;>(intro hb;try simp only[hb])|fail)<;>try simp only[go_sem,seval,hok])
   refine AC.call (c_among L E u1 _ _ t A0 (by omega) D0 (by decide)) ?_;rintro v H' c4 ⟨rfl,rfl⟩ hc4;simp only[go_sem,seval];repeat' ((with_reducible first|refine wr ?_|refine A1 ?_ ?_|refine wb2 ?_ ?_<;>(intro hb;try simp only[hb])|fail)<;>try simp only[go_sem,seval])
   refine⟨(g,o,l,u1),by simp[C5,tm,Tm.upd],?_,inv ⟨by omega,by simp only;omega,by rw[j1];exact hi5,hno,(fun i hi=>by have:=ho i hi;omega),hl1,hv0⟩,by simp only;omega⟩;intro j b hj;by_cases e2:j=t
   ·subst e2;rw[B6 (fun i hi=>by have:=ho i hi;omega),hnO,A0]at hj;rw[A0];exact hj
   ·rw[A6 e2, <- hHH];cases o with
    |none =>
     simp only[B9]at hj ⊢;by_cases e1:j=cc+1
     ·subst e1;rw[A0]at hj ⊢;exact hj
     ·rw[A6 e1,A6 e2]at hj ⊢;exact hj
    |some i =>
     simp only[B9]at hj ⊢;by_cases e0:j=i
     ·subst e0;rw[A0]at hj ⊢;exact hj
     rw[A6 e0]at hj ⊢;by_cases e1:j=cc+1
     ·subst e1;rw[A0]at hj ⊢;exact hj
     ·rw[A6 e1,A6 e2]at hj ⊢;exact hj
  |true =>
   rw[if_pos hok]at hv0;obtain⟨-,j3,rfl⟩:=j2 hok;simp only[go_sem,seval,hok];have ne0:=L8 t cc (cc+1) (by omega);repeat' ((with_reducible first|refine wr ?_|refine A1 ?_ ?_|refine wb2 ?_ ?_<;>(intro hb;try simp only[hb])|fail)<;>try simp only[go_sem,seval,hok,ne0,A0,A2,hbx])
   refine AC.call (c_declaration L E u1 _ _ t A0 (by omega) hL hv k (by omega) (by omega) (by omega)) ?_;rintro v H' c4 ⟨rfl,rfl⟩ hc4;have ne0:=T1 t cc (cc+1) c4 (c4+1) (by omega);simp only[go_sem,seval,ne0,A0,A2,hbx];repeat' ((with_reducible first|refine wr ?_|refine A1 ?_ ?_|refine wb2 ?_ ?_<;>(intro hb;try simp only[hb])|fail)<;>try simp only[go_sem,seval,ne0,A0,A2,hbx])
   refine⟨⟨by rw[hnO];exact hbn _ (by omega),by rw[hnO];exact hbn _ (by omega)⟩,?_⟩;have hl4:(A3 (l.map Dc.v)).length=l.length * 4:=C0 (u:=4) (A2z _) |>.trans (by simp);repeat' ((with_reducible first|refine wr ?_|refine A1 ?_ ?_|refine wb2 ?_ ?_<;>(intro hb;try simp only[hb])|fail)<;>try simp only[go_sem,seval,ne0,A0,A2,hbx])
   rw[E0 (cs:=A3 (l.map Dc.v)) (fun e=>by rw[hno e];exact⟨rfl,rfl⟩) (fun i hi=>by have:=ho i hi;rw[hnO,hnO];exact hbo i hi) hl4 (by omega) (by omega) (by omega)];have hdx:∀ X:Hp,I5 X o (cc+1)=X (cc+1):=fun X=>C7 (fun i hi=>by have:=ho i hi;omega);have ne0:=T1 t cc (cc+1) (c3+5) c4 (by omega);simp only[go_sem,seval,ne0,A0,A2,hdx,hbx];repeat' ((with_reducible first|refine wr ?_|refine cpc c_decls31 ?_|refine A1 ?_ ?_|refine wb2 ?_ ?_<;>(intro hb;try simp only[hb])|fail)<;>try simp only[go_sem,seval,ne0,A0,A2,hdx,hbx])
   refine AC.call (c_among L E (Q2 L E k u1).2 _ _ t (by rw[hnO,hnO,C7 (fun i hi=>by have:=ho i hi;omega),hnO,A0]) (by omega) D0 (by decide)) ?_;rintro v H' c5 ⟨rfl,rfl⟩ hc5;simp only[go_sem,seval];repeat' ((with_reducible first|refine wr ?_|refine A1 ?_ ?_|refine wb2 ?_ ?_<;>(intro hb;try simp only[hb])|fail)<;>try simp only[go_sem,seval])
   refine⟨(g,some c4,l++[(Q2 L E k u1).1],(Q2 L E k u1).2),by simp[C5,tm,Tm.upd],?_,inv ⟨by omega,by simp only;omega,C3i (by omega),(fun h=>by cases h),(fun i hi=>by cases hi;omega),by simp only[A0A,A0G];omega,hv0⟩,by simp only;omega⟩;intro j b hj;simp only[B9,P3,A0A,A0G,A0S,C1]at hj;by_cases e1:j=cc+1
   ·subst e1;by_cases e3:cc+1=c4
    ·omega
    rw[A6 e3,A0]at hj;rw[A0];exact hj
   rw[A6 e1];by_cases e0:j=c4
   ·subst e0;rw[A0]at hj;rw[A0, <- hj];rfl
   rw[A6 e0]at hj ⊢;rw[A6 e1]at hj;by_cases e2:j=t
   ·subst e2;rw[A0]at hj;rw[C7 (fun i hi=>by have:=ho i hi;omega),hnO,A0];exact hj
   rw[A6 e2]at hj;by_cases e4:j=cc
   ·subst e4;rw[A0]at hj;rw[C7 (fun i hi=>by have:=ho i hi;omega)]
    repeat rw[hnO]
    rw[hb0];exact hj
   ·rw[A6 e4]at hj;have hjc:j<cc:=Classical.byContradiction fun h=>by rw[hfr j (by omega)]at hj;cases hj
    rw[C7 (fun i hi=>by have:=ho i hi;omega)]
    repeat rw[hnO]
    rw[hbj j hjc e2];exact hj
theorem c_letter(c:UInt8):PC Tryz.prog 84 [.int .u8 c.toNat] (.bool (ltB c)):=by
 refine PC.go B1 ?_;repeat' ((with_reducible first|refine wr ?_|refine A1 ?_ ?_|refine wb2 ?_ ?_<;>(intro hb;try simp only[hb])|fail)<;>try simp only[go_sem,seval])
 all_goals (refine B3 (congrArg DV.bool ?_);rw[A2Q];simp_all[ltB]<;>omega)
theorem c_digit(c:UInt8):PC Tryz.prog 124 [.int .u8 c.toNat] (.bool (dgB c)):=by
 refine PC.go B1 ?_;repeat' ((with_reducible first|refine wr ?_|refine A1 ?_ ?_|refine wb2 ?_ ?_<;>(intro hb;try simp only[hb])|fail)<;>try simp only[go_sem,seval])
 all_goals (refine B3 (congrArg DV.bool ?_);rw[A2Q];simp_all[dgB]<;>omega)
theorem c_letterR(c:UInt8):PC Tryz.prog 71 [.int .u8 c.toNat] (.bool (ltB c)):=by
 refine PC.go B1 ?_;repeat' ((with_reducible first|refine wr ?_|refine A1 ?_ ?_|refine wb2 ?_ ?_<;>(intro hb;try simp only[hb])|fail)<;>try simp only[go_sem,seval])
 all_goals (refine B3 (congrArg DV.bool ?_);rw[A2Q];simp_all[ltB]<;>omega)
theorem c_digitR(c:UInt8):PC Tryz.prog 73 [.int .u8 c.toNat] (.bool (dgB c)):=by
 refine PC.go B1 ?_;repeat' ((with_reducible first|refine wr ?_|refine A1 ?_ ?_|refine wb2 ?_ ?_<;>(intro hb;try simp only[hb])|fail)<;>try simp only[go_sem,seval])
 all_goals (refine B3 (congrArg DV.bool ?_);rw[A2Q];simp_all[dgB]<;>omega)
theorem c_part(c:UInt8):PC Tryz.prog 86 [.int .u8 c.toNat] (.bool (ptB c)):=by
 refine PC.go B1 ?_;repeat' ((with_reducible first|refine wr ?_|refine cpc (c_letter c) ?_|refine cpc (c_digit c) ?_|refine A1 ?_ ?_|refine wb2 ?_ ?_<;>(intro hb;try simp only[hb])|fail)<;>try simp only[go_sem,seval])
 all_goals (refine B3 (congrArg DV.bool ?_);rw[A2Q];simp_all[ptB]<;>omega)
theorem c_span{p:UInt8->Bool}{f:Nat}{a cs:List DV}(s:List UInt8)(hs:s.length<=9223372036854775807)(na:DV.nlL a=true)(ncs:DV.nlL cs=true)(hf:∀ x∈s,PC Tryz.prog f (a++[.int .u8 x.toNat]++cs) (.bool (p x))):
  PC Tryz.prog 85 [.str s,.func f a cs] (I64 (E2 p s)):=by
 refine PC.ofT B1 rfl (A0C rfl) (by simp[DV.nlL,DV.nl,na,ncs]) rfl ?_;repeat' ((with_reducible first|refine wr ?_|refine A1 ?_ ?_|refine wb2 ?_ ?_<;>(intro hb;try simp only[hb])|fail)<;>try simp only[go_sem,seval])
 refine D4 (fun k:Nat=>[(0,.str s),(1,.func f a cs),(5,I64 k)]) (fun _=>nil) (fun k _=>k<=s.length/\k<=E2 p s) (fun k=>s.length-k) 0 (by simp[C5,tm,Tm.upd]) (Sub.nil _) (by simp) ?_;rintro k c ⟨hk,he⟩;by_cases hlt:k<s.length
 ·have hd:=dtz hlt;have hg:=A0B hlt;have hw:=w64 (n:=(k:Int)+1);have hst:=A7c hg he;have hc:=hf s[k] (A0V hlt);repeat' ((with_reducible first|refine wr ?_|refine cpc hc ?_|refine A1 ?_ ?_|refine wb2 ?_ ?_<;>(intro hb;try simp only[hb])|fail)<;>try simp only[go_sem,seval,hd,hg,hw])
  ·exact⟨k+1,rfl,Sub.refl _,inv ⟨by omega,hst.1 hb⟩,by omega⟩
  ·refine B3 ?_;rw[hst.2 hb]
 ·have hd:=dfz hlt;repeat' ((with_reducible first|refine wr ?_|refine A1 ?_ ?_|refine wb2 ?_ ?_<;>(intro hb;try simp only[hb])|fail)<;>try simp only[go_sem,seval,hd])
  refine B3 ?_;rw[B2e (by omega) he]
theorem c_spanPt(s:List UInt8)(hs:s.length<=9223372036854775807):PC Tryz.prog 85 [.str s,.func 86 [] []] (I64 (E2 ptB s)) :=
 c_span s hs rfl rfl fun x _=>c_part x
end Go.Proofs.YtmmjlijdfhkdcaaGreatDoor
end
