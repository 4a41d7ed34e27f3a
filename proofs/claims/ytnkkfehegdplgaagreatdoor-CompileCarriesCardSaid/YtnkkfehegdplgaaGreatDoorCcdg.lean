/-
  HELPERS of the claim: part 7 of its texts.
-/
import Derived.Test.YtnkkfehegdplgaaGreatDoorCcdf
noncomputable section
set_option maxHeartbeats 8000000
set_option maxRecDepth 100000
set_option linter.unusedSimpArgs false
set_option linter.unusedVariables false
namespace Go.Proofs.YtnkkfehegdplgaaGreatDoor
open Go.Eng (IC IOper DReg IFn P0)
open Go.Sym Go.Pb
def NlR(a b:DV):Prop:=b=a\/(a=.snil/\b=.lst [])
theorem NlR.v{ρ:Ren}{v:Value}{a b:DV}(h:NlR a b)(k:VRel ρ a v):VRel ρ b v:=by
 rcases h with rfl|⟨rfl,rfl⟩
 ·exact k
 ·exact k.snil_lst
theorem F2n{ρ:Ren}{v:Value}{a b c d e f g d' e' f':DV}(hd:NlR d d')(he:NlR e e')(hf:NlR f f')(h:VRel ρ (.agg [a,b,c,d,e,f,g]) v):VRel ρ (.agg [a,b,c,d',e',f',g]) v:=by
 obtain⟨bb,rfl,k1,k2⟩:=h.agg_inv;refine .agg _ _ k1 λj x y hx hy=>?_
 match j with
 |0=>cases hx;exact k2 0 _ y rfl hy
 |1=>cases hx;exact k2 1 _ y rfl hy
 |2=>cases hx;exact k2 2 _ y rfl hy
 |3=>cases hx;exact hd.v (k2 3 _ y rfl hy)
 |4=>cases hx;exact he.v (k2 4 _ y rfl hy)
 |5=>cases hx;exact hf.v (k2 5 _ y rfl hy)
 |6=>cases hx;exact k2 6 _ y rfl hy
 |_+7=>cases hx
theorem D7r{K H':Hp}{cc:Nat}{a b c d e f g d' e' f':DV}(hd:NlR d d')(he:NlR e e')(hf:NlR f f')(hK:∀i,cc<=i->K i=none)(h:∀j,j<cc->H' j=K j):GL H' [.agg [a,b,c,d,e,f,g]] K [.agg [a,b,c,d',e',f',g]] :=
 (Z8 hK h).trans (GL.view fun ρ vs hA=>P8 (λv h=>F2n hd he hf h) vs hA)
theorem A5n{K H':Hp}{cc i:Nat}{a b c e f g e' f':DV}(l:List Ex)(he:NlR e e')(hf:NlR f f')(hK:∀i,cc<=i->K i=none)(hi0:cc<=i)(hb:H' i=some ⟨5,true,cellsL (l.map Ex.v)⟩)(h:∀j,j<cc->H' j=K j):GL H' [.agg [a,b,c,.slc i 0 l.length,e,f,g]] K [.agg [a,b,c,L9 l,e',f',g]] :=
 (GL.frzS (id:=i) hb rfl (λj=>by
  by_cases hj:j<cc
  ·exact .inr ⟨a8,(h j hj).symm⟩
  ·exact .inl (hK j (by omega))) (.cons _ _ _ _ (.agg _ _ (.cons _ _ _ _ (.same _) (.cons _ _ _ _ (.same _) (.cons _ _ _ _ (.same _) (.cons _ _ _ _ (U3 (u:=5) (by simp) (A9g l) ⟨[],by simp⟩) (.cons _ _ _ _ (.same _) (.cons _ _ _ _ (.same _) (.cons _ _ _ _ (.same _) .nil)))))))) .nil)).trans (GL.view fun ρ vs hA=>P8 (λv h=>F2n (.inl rfl) he hf h) vs hA)
theorem rv7{s:Sym.St}{x i u:Nat}{a b c d e f g:DV}{o:Bool}(h:s.T x=.ptr i 0)(hb:s.H i=some ⟨u,o,[a,b,c,d,e,f,g]⟩):A7m s [.cell x 7 true]=some (.agg [a,b,c,d,e,f,g]):=by
 simp only[A7m,A7o,h,ldv,hb];rfl
theorem c_statement(L:List Tok)(E:Int)(hL:L.length<=1000000000)(f:Nat)
  (ib:∀d s r,0<=d->d<=100->W8 L E f d s=some r->s.i<=L.length->RdC L E 117 [I64 d] s (G7 r.1,r.2))
  (io:∀d s r,0<=d->d<=99->A1h L E f d s=some r->s.i<=L.length->RdC L E 200 [I64 d] s (G7 r.1,r.2))
  (d:Int) (s0:Rd) (r:Pb.St × Rd) (hd0:0<=d) (hd:d<=100) (h:A1l L E (f+1) d s0=some r) (hi:s0.i<=L.length):RdC L E 166 [I64 d] s0 (r.1.v,r.2):=by
 intro H cc t ht htc;refine AC.go A3 λhfr=>?_;unfold A1l at h;dsimp only at h;refine wAp ?_;refine AC.call (c_limit L E s0 _ _ t (by rw[hnO];exact ht) (by omega) _ _ _) ?_;rintro v H' c1 ⟨rfl,rfl⟩ hc1;have his:(C6 L E s0 d 8 50).i<=L.length:=by rw[J4];exact hi
 generalize hsq:C6 L E s0 d 8 50=s at *;have ne0:=A1z t cc (by omega);refine wAq ?_;refine AC.call (c_rdok L E s _ _ t A0 (by omega)) ?_;rintro v H' c2 ⟨rfl,rfl⟩ hc2;cases hok:okR s with
 |false =>
  rw[if_pos hok]at h;cases h;refine wAz hok ne0 @A0 @A1 ?_;rw[G4 (rv7 rfl A0)];refine⟨_,_,D7r (cc:=cc) (.inr ⟨rfl,rfl⟩) (.inr ⟨rfl,rfl⟩) (.inr ⟨rfl,rfl⟩) (F4 hfr htc) (λj hj=>?_),rfl,rfl⟩;simp[Hp.upd,show ¬j=cc by omega]
 |true =>
  rw[if_neg (by simp[hok])]at h;have hd8:d<=8:=by rw[<- hsq]at hok;exact(J6 (by decide) hok).2.1
  refine wAu hok ?_;refine AC.call (c_peek L E s _ _ t A0 (by omega)) ?_;rintro v H' c3 ⟨rfl,rfl⟩ hc3;have ne0:=W9 t cc c3 (by omega);refine wA9 c_stmts31 (wJ ne0 (wJ @A0 @A1)) ?_;refine AC.call (c_among L E s _ _ t (by rw[hnO];exact A0) (by omega) B7 (by decide)) ?_;rintro v H' c4 ⟨rfl,rfl⟩ hc4;have hkr : -1<=B8 L E s B7/\B8 L E s B7<18:=A7z L E s B7 0;have hnn:0<=B8 L E s B7->s.i<L.length:=λh=>(K2 h).2.1;generalize B8 L E s B7=k at h hkr hnn;generalize (B1 L E s).pos=p at h ⊢;have hti:=Q8 (E:=E) (x:=1) (by decide) his;by_cases hk:k<0
  ·rw[if_pos hk]at h;have hdk:decide (k<0)=true:=by simpa using hk
   cases hz5:Z0 L E f (D9 L E (A8 L E s 1).2 [61]) with
   |none=>rw[hz5]at h;cases h
   |some qhz5 =>
    obtain⟨e,s1⟩:=qhz5;rw[hz5]at h;dsimp only at h;cases h;refine wAz hdk ne0 @A0 @A1 ?_;refine AC.call (c_name L E s _ _ t (by repeat (first|exact A0|rw[hnO]|rw[I7 (by omega)])) (by omega) (by have:=his;omega)) ?_;rintro v H' c6 ⟨rfl,rfl⟩ hc6;try dsimp only
    refine wAx ne0 @A0 @A1 ?_;refine AC.call (c_expect L E (A8 L E s 1).2 _ _ t (by repeat (first|exact A0|rw[hnO]|rw[I7 (by omega)])) (by omega) (by have:=hti;omega) _) ?_;rintro v H' c7 ⟨rfl,rfl⟩ hc7;try dsimp only
    refine wAx ne0 @A0 @A1 ?_;refine AC.call (c_expression L E hL f (D9 L E (A8 L E s 1).2 [61]) (e,s1) hz5 (O5 hti) _ _ t (by repeat (first|exact A0|rw[hnO]|rw[I7 (by omega)])) (by omega)) ?_;rintro v H' c8 ⟨rfl,rfl⟩ hc8;have ne0:=V8 t cc c3 c8 (by omega);try dsimp only
    simp only[go_sem,seval,Ex.v_w,ne0,A0,A1];refine wAw ne0 @A0 @A1 ?_;have h1i:=Y9 hz5 (O5 hti);dsimp only at h1i;refine AC.call (c_expect L E s1 _ _ t (by repeat (first|exact A0|rw[hnO]|rw[I7 (by omega)])) (by omega) (by have:=h1i;omega) _) ?_;rintro v H' c9 ⟨rfl,rfl⟩ hc9;try dsimp only
    refine wAx ne0 @A0 @A1 ?_;rw[G4 (rv7 rfl A0)];refine⟨_,_,A5n (cc:=cc) (i:=c8) [e] (.inr ⟨rfl,rfl⟩) (.inr ⟨rfl,rfl⟩) (F4 hfr htc) (by omega) ?_ (λj hj=>?_),(by first|rfl|(rw[Pb.St.v_w];done)|(rw[Pb.St.v_w];rfl)),rfl⟩
    ·rw[A9h];dsimp only
     repeat (first|exact A0|rw[hnO]|rw[I7 (by omega)])
    simp[Hp.upd,Hp.del,show ¬j=cc by omega,show ¬j=c3 by omega,show ¬j=c8 by omega];try(split<;>rfl)
  rw[if_neg hk]at h;have hdk:decide (k<0)=false:=by simpa using hk
  have hw2:IntKind.i64.wrap ((s.i:Int)+1)=((s.i+1:Nat):Int):=l8
  have hwk:IntKind.i64.wrap (2+k)=2+k:=w6z;have hwd:IntKind.i64.wrap (d+1)=d+1:=w6z;have hn:(A5 s).i<=L.length:=hnn (by omega);simp only[go_sem,seval,hdk,ne0,A0,A1];have u2:IntKind.i64.wrap 2=2:=w6z;have u3:IntKind.i64.wrap 3=3:=w6z;have u4:IntKind.i64.wrap 4=4:=w6z;have u8:IntKind.i64.wrap 8=8:=w6z;have u9:IntKind.i64.wrap 9=9:=w6z;have u10:IntKind.i64.wrap 10=10:=w6z;have u18:IntKind.i64.wrap 18=18:=w6z;have u19:IntKind.i64.wrap 19=19:=w6z;by_cases hb:k=0\/k=1
  ·rw[if_pos hb]at h;cases hz10:Z0 L E f (A5 s) with
   |none=>rw[hz10]at h;cases h
   |some qhz10 =>
    obtain⟨e,s2⟩:=qhz10;rw[hz10]at h;dsimp only at h;cases hz11:W8 L E f (d+1) s2 with
    |none=>rw[hz11]at h;cases h
    |some qhz11 =>
     obtain⟨tt,s3⟩:=qhz11;rw[hz11]at h;dsimp only at h;have h2i:=Y9 hz10 hn;dsimp only at h2i;have h3i:=(II.all f).1 _ _ _ hz11 h2i;dsimp only at h3i;have hw3:IntKind.i64.wrap ((s3.i:Int)+1)=((s3.i+1:Nat):Int):=l8
     rcases hb with rfl|rfl
     ·refine wAv hdk hw2 hwk u2 u3 u4 u8 u9 u10 u18 u19 ne0 @A0 @A1 ?_;refine AC.call (c_expression L E hL f (A5 s) (e,s2) hz10 (hn) _ _ t (by repeat (first|exact A0|rw[hnO]|rw[I7 (by omega)])) (by omega)) ?_;rintro v H' c12 ⟨rfl,rfl⟩ hc12;have ne0:=V8 t cc c3 c12 (by omega);try dsimp only
      simp only[go_sem,seval,Ex.v_w,ne0,A0,A1];refine wAw ne0 @A0 @A1 ?_;try simp only[hwd]
      refine AC.call (ib (d+1) s2 (tt,s3) (by omega) (by omega) hz11 h2i _ _ t (by repeat (first|exact A0|rw[hnO]|rw[I7 (by omega)])) (by omega)) ?_;rintro v H' c13 ⟨rfl,rfl⟩ hc13;try dsimp only
      refine wAx ne0 @A0 @A1 ?_;refine AC.call (c_is L E s3 _ _ t (by repeat (first|exact A0|rw[hnO]|rw[I7 (by omega)])) (by omega) _) ?_;rintro v H' c14 ⟨rfl,rfl⟩ hc14;cases hq:isR L E s3 [101,108,115,101] with
      |true =>
       rw[if_pos ⟨rfl,hq⟩]at h;cases hz15:A1h L E f d (A5 s3) with
       |none=>rw[hz15]at h;cases h
       |some qhz15 =>
        obtain⟨oo,s4⟩:=qhz15;rw[hz15]at h;dsimp only at h;cases h;refine wAu (wJ hq (wJ hw3 (wJ ne0 (wJ @A0 @A1)))) ?_;refine AC.call (io d (A5 s3) (oo,s4) hd0 (by omega) hz15 (A4w hq).2 _ _ t (by repeat (first|exact A0|rw[hnO]|rw[I7 (by omega)])) (by omega)) ?_;rintro v H' c16 ⟨rfl,rfl⟩ hc16;try dsimp only
        refine wAx ne0 @A0 @A1 ?_;rw[G4 (rv7 rfl A0)];refine⟨_,_,A5n (cc:=cc) (i:=c12) [e] (.inl rfl) (.inl rfl) (F4 hfr htc) (by omega) ?_ (λj hj=>?_),(by first|rfl|(rw[Pb.St.v_w];done)|(rw[Pb.St.v_w];rfl)),rfl⟩
        ·rw[A9h];dsimp only
         repeat (first|exact A0|rw[hnO]|rw[I7 (by omega)])
        simp[Hp.upd,Hp.del,show ¬j=cc by omega,show ¬j=c3 by omega,show ¬j=c12 by omega];try(split<;>rfl)
      |false =>
       rw[if_neg (by simp[hq])]at h;cases h;refine wAz hq ne0 @A0 @A1 ?_;rw[G4 (rv7 rfl A0)];refine⟨_,_,A5n (cc:=cc) (i:=c12) [e] (.inl rfl) (.inr ⟨rfl,rfl⟩) (F4 hfr htc) (by omega) ?_ (λj hj=>?_),(by first|rfl|(rw[Pb.St.v_w];done)|(rw[Pb.St.v_w];rfl)),rfl⟩
       ·rw[A9h];dsimp only
        repeat (first|exact A0|rw[hnO]|rw[I7 (by omega)])
       simp[Hp.upd,Hp.del,show ¬j=cc by omega,show ¬j=c3 by omega,show ¬j=c12 by omega];try(split<;>rfl)
     ·refine wAv hdk hw2 hwk u2 u3 u4 u8 u9 u10 u18 u19 ne0 @A0 @A1 ?_;refine AC.call (c_expression L E hL f (A5 s) (e,s2) hz10 (hn) _ _ t (by repeat (first|exact A0|rw[hnO]|rw[I7 (by omega)])) (by omega)) ?_;rintro v H' c17 ⟨rfl,rfl⟩ hc17;have ne0:=V8 t cc c3 c17 (by omega);try dsimp only
      simp only[go_sem,seval,Ex.v_w,ne0,A0,A1];refine wAw ne0 @A0 @A1 ?_;try simp only[hwd]
      refine AC.call (ib (d+1) s2 (tt,s3) (by omega) (by omega) hz11 h2i _ _ t (by repeat (first|exact A0|rw[hnO]|rw[I7 (by omega)])) (by omega)) ?_;rintro v H' c18 ⟨rfl,rfl⟩ hc18;try dsimp only
      refine wAx ne0 @A0 @A1 ?_;rw[if_neg (by simp)]at h;cases h;rw[G4 (rv7 rfl A0)];refine⟨_,_,A5n (cc:=cc) (i:=c17) [e] (.inl rfl) (.inr ⟨rfl,rfl⟩) (F4 hfr htc) (by omega) ?_ (λj hj=>?_),(by first|rfl|(rw[Pb.St.v_w];done)|(rw[Pb.St.v_w];rfl)),rfl⟩
      ·rw[A9h];dsimp only
       repeat (first|exact A0|rw[hnO]|rw[I7 (by omega)])
      simp[Hp.upd,Hp.del,show ¬j=cc by omega,show ¬j=c3 by omega,show ¬j=c17 by omega];try(split<;>rfl)
  rw[if_neg hb]at h;unfold N6 at h;dsimp only at h;by_cases k2:k=2
  ·subst k2;rw[if_pos (by decide)]at h;cases hz19:Z0 L E f (A5 s) with
   |none=>rw[hz19]at h;cases h
   |some qhz19 =>
    obtain⟨e,s1⟩:=qhz19;rw[hz19]at h;dsimp only at h;cases h;have h1i:=Y9 hz19 hn;dsimp only at h1i;refine wAv hdk hw2 hwk u2 u3 u4 u8 u9 u10 u18 u19 ne0 @A0 @A1 ?_;refine AC.call (c_expression L E hL f (A5 s) (e,s1) hz19 (hn) _ _ t (by repeat (first|exact A0|rw[hnO]|rw[I7 (by omega)])) (by omega)) ?_;rintro v H' c20 ⟨rfl,rfl⟩ hc20;have ne0:=V8 t cc c3 c20 (by omega);try dsimp only
    simp only[go_sem,seval,Ex.v_w,ne0,A0,A1];refine wAw ne0 @A0 @A1 ?_;refine AC.call (c_expect L E s1 _ _ t (by repeat (first|exact A0|rw[hnO]|rw[I7 (by omega)])) (by omega) (by have:=h1i;omega) _) ?_;rintro v H' c21 ⟨rfl,rfl⟩ hc21;try dsimp only
    refine wAx ne0 @A0 @A1 ?_;rw[G4 (rv7 rfl A0)];refine⟨_,_,A5n (cc:=cc) (i:=c20) [e] (.inr ⟨rfl,rfl⟩) (.inr ⟨rfl,rfl⟩) (F4 hfr htc) (by omega) ?_ (λj hj=>?_),(by first|rfl|(rw[Pb.St.v_w];done)|(rw[Pb.St.v_w];rfl)),rfl⟩
    ·rw[A9h];dsimp only
     repeat (first|exact A0|rw[hnO]|rw[I7 (by omega)])
    simp[Hp.upd,Hp.del,show ¬j=cc by omega,show ¬j=c3 by omega,show ¬j=c20 by omega];try(split<;>rfl)
  rw[iN]at h;by_cases k16:k=16
  ·subst k16;rw[if_pos (by decide)]at h;have h4i:=Q8 (E:=E) (x:=4) (by decide) hn;cases hz22:Z0 L E f (D9 L E (A8 L E (A5 s) 4).2 [44]) with
   |none=>rw[hz22]at h;cases h
   |some qhz22 =>
    obtain⟨e,s1⟩:=qhz22;rw[hz22]at h;dsimp only at h;cases h;have h1i:=Y9 hz22 (O5 h4i);dsimp only at h1i;refine wAv hdk hw2 hwk u2 u3 u4 u8 u9 u10 u18 u19 ne0 @A0 @A1 ?_;refine AC.call (c_take L E (A5 s) _ _ t (by repeat (first|exact A0|rw[hnO]|rw[I7 (by omega)])) (by omega) (by omega) 4) ?_;rintro v H' c23 ⟨rfl,rfl⟩ hc23;try dsimp only
    refine wAx ne0 @A0 @A1 ?_;refine AC.call (c_expect L E (A8 L E (A5 s) 4).2 _ _ t (by repeat (first|exact A0|rw[hnO]|rw[I7 (by omega)])) (by omega) (by have:=h4i;omega) _) ?_;rintro v H' c24 ⟨rfl,rfl⟩ hc24;try dsimp only
    refine wAx ne0 @A0 @A1 ?_;refine AC.call (c_expression L E hL f (D9 L E (A8 L E (A5 s) 4).2 [44]) (e,s1) hz22 (O5 h4i) _ _ t (by repeat (first|exact A0|rw[hnO]|rw[I7 (by omega)])) (by omega)) ?_;rintro v H' c25 ⟨rfl,rfl⟩ hc25;have ne0:=V8 t cc c3 c25 (by omega);try dsimp only
    simp only[go_sem,seval,Ex.v_w,ne0,A0,A1];refine wAw ne0 @A0 @A1 ?_;refine AC.call (c_expect L E s1 _ _ t (by repeat (first|exact A0|rw[hnO]|rw[I7 (by omega)])) (by omega) (by have:=h1i;omega) _) ?_;rintro v H' c26 ⟨rfl,rfl⟩ hc26;try dsimp only
    refine wAx ne0 @A0 @A1 ?_;rw[G4 (rv7 rfl A0)];refine⟨_,_,A5n (cc:=cc) (i:=c25) [e] (.inr ⟨rfl,rfl⟩) (.inr ⟨rfl,rfl⟩) (F4 hfr htc) (by omega) ?_ (λj hj=>?_),(by first|rfl|(rw[Pb.St.v_w];done)|(rw[Pb.St.v_w];rfl)),rfl⟩
    ·rw[A9h];dsimp only
     repeat (first|exact A0|rw[hnO]|rw[I7 (by omega)])
    simp[Hp.upd,Hp.del,show ¬j=cc by omega,show ¬j=c3 by omega,show ¬j=c25 by omega];try(split<;>rfl)
  rw[iN]at h;by_cases k17:k=17
  ·subst k17;rw[if_pos (by decide)]at h;cases h;refine wAv hdk hw2 hwk u2 u3 u4 u8 u9 u10 u18 u19 ne0 @A0 @A1 ?_;refine AC.call (c_expect L E (A5 s) _ _ t (by repeat (first|exact A0|rw[hnO]|rw[I7 (by omega)])) (by omega) (by have:=hn;omega) _) ?_;rintro v H' c27 ⟨rfl,rfl⟩ hc27;try dsimp only
   refine wAx ne0 @A0 @A1 ?_;rw[G4 (rv7 rfl A0)];refine⟨_,_,D7r (cc:=cc) (.inr ⟨rfl,rfl⟩) (.inr ⟨rfl,rfl⟩) (.inr ⟨rfl,rfl⟩) (F4 hfr htc) (λj hj=>?_),(by first|rfl|(rw[Pb.St.v_w];done)|(rw[Pb.St.v_w];rfl)),rfl⟩;simp[Hp.upd,Hp.del,show ¬j=cc by omega,show ¬j=c3 by omega];try(split<;>rfl)
  rw[iN]at h;have hti2:=Q8 (E:=E) (x:=1) (by decide) hn;by_cases k7:k=7
  ·subst k7;rw[iP]at h;cases hz28:Z0 L E f (A8 L E (A5 s) 1).2 with
   |none=>rw[hz28]at h;cases h
   |some qhz28 =>
    obtain⟨e,s1⟩:=qhz28;rw[hz28]at h;dsimp only at h;rw[if_pos (by decide)]at h;have h1i:=Y9 hz28 hti2;dsimp only at h1i;cases hz29:Z0 L E f (D9 L E s1 [44]) with
    |none=>rw[hz29]at h;cases h
    |some qhz29 =>
     obtain⟨e2,s2⟩:=qhz29;rw[hz29]at h;dsimp only at h;cases h;have h2i:=Y9 hz29 (O5 h1i);dsimp only at h2i;refine wAv hdk hw2 hwk u2 u3 u4 u8 u9 u10 u18 u19 ne0 @A0 @A1 ?_;refine AC.call (c_name L E (A5 s) _ _ t (by repeat (first|exact A0|rw[hnO]|rw[I7 (by omega)])) (by omega) (by have:=hn;omega)) ?_;rintro v H' c30 ⟨rfl,rfl⟩ hc30;try dsimp only
     refine wAx ne0 @A0 @A1 ?_;refine AC.call (c_expression L E hL f (A8 L E (A5 s) 1).2 (e,s1) hz28 (hti2) _ _ t (by repeat (first|exact A0|rw[hnO]|rw[I7 (by omega)])) (by omega)) ?_;rintro v H' c31 ⟨rfl,rfl⟩ hc31;have ne0:=V8 t cc c3 c31 (by omega);try dsimp only
     simp only[go_sem,seval,Ex.v_w,ne0,A0,A1];refine wAw ne0 @A0 @A1 ?_;refine AC.call (c_expect L E s1 _ _ t (by repeat (first|exact A0|rw[hnO]|rw[I7 (by omega)])) (by omega) (by have:=h1i;omega) _) ?_;rintro v H' c32 ⟨rfl,rfl⟩ hc32;try dsimp only
     refine wAx ne0 @A0 @A1 ?_;have hgx:=O5 (E:=E) (x:=[44]) h1i;refine AC.call (c_expression L E hL f (D9 L E s1 [44]) (e2,s2) hz29 (O5 h1i) _ _ t (by repeat (first|exact A0|rw[hnO]|rw[I7 (by omega)])) (by omega)) ?_;rintro v H' c33 ⟨rfl,rfl⟩ hc33;have ne0:=A1y t cc c3 c31 (c32+4) (by omega);try dsimp only
     simp only[go_sem,seval,Ex.v_w,ne0,A0,A1];refine wAw ne0 @A0 @A1 ?_;refine⟨?_,?_⟩
     ·and_intros
      all_goals((repeat rw[hnO]);exact hfr _ (by omega))
     have ne0:=A7s t cc c3 c31 (c32+4) c33 (by omega);try simp only[go_sem,seval,delO,I7,A6j,ne0,A0,A1]
     (repeat'((with_reducible first|apply wr|refine k_cu ?_ ?_|apply wb2<;>(intro hb;try simp only[hb]))<;>try simp only[go_sem,seval,delO,I7,A6j,ne0,A0,A1]));refine A5e (Z6 (by rfl) (by omega) (by omega)) ?_;try simp only[go_sem,seval,I7,A6j,ne0,A0,A1]
     refine wA0 @I7 @A6j ne0 @A0 @A1 ?_;refine AC.call (c_expect L E s2 _ _ t (by repeat (first|exact A0|rw[hnO]|rw[I7 (by omega)])) (by omega) (by have:=h2i;omega) _) ?_;rintro v H' c34 ⟨rfl,rfl⟩ hc34;try dsimp only
     refine wAx ne0 @A0 @A1 ?_;rw[G4 (rv7 rfl A0)];refine⟨_,_,A5n (cc:=cc) (i:=c33) [e,e2] (.inr ⟨rfl,rfl⟩) (.inr ⟨rfl,rfl⟩) (F4 hfr htc) (by omega) ?_ (λj hj=>?_),(by first|rfl|(rw[Pb.St.v_w];done)|(rw[Pb.St.v_w];rfl)),rfl⟩
     ·rw[D7z];dsimp only
      repeat (first|exact A0|rw[hnO]|rw[I7 (by omega)])
     simp[Hp.upd,Hp.del,show ¬j=cc by omega,show ¬j=c3 by omega,show ¬j=c31 by omega,show ¬j=c32+4 by omega,show ¬j=c33 by omega];try(split<;>rfl)
  by_cases k68:k=6\/k=8
  ·rw[iP]at h;cases hz35:Z0 L E f (A8 L E (A5 s) 1).2 with
   |none=>rw[hz35]at h;cases h
   |some qhz35 =>
    obtain⟨e,s1⟩:=qhz35;rw[hz35]at h;dsimp only at h;rw[iN]at h;cases h;have h1i:=Y9 hz35 hti2;dsimp only at h1i;rcases k68 with rfl|rfl
    all_goals
     refine wAv hdk hw2 hwk u2 u3 u4 u8 u9 u10 u18 u19 ne0 @A0 @A1 ?_;refine AC.call (c_name L E (A5 s) _ _ t (by repeat (first|exact A0|rw[hnO]|rw[I7 (by omega)])) (by omega) (by have:=hn;omega)) ?_;rintro v H' c36 ⟨rfl,rfl⟩ hc36;try dsimp only
     refine wAx ne0 @A0 @A1 ?_;refine AC.call (c_expression L E hL f (A8 L E (A5 s) 1).2 (e,s1) hz35 (hti2) _ _ t (by repeat (first|exact A0|rw[hnO]|rw[I7 (by omega)])) (by omega)) ?_;rintro v H' c37 ⟨rfl,rfl⟩ hc37;have ne0:=V8 t cc c3 c37 (by omega);try dsimp only
     simp only[go_sem,seval,Ex.v_w,ne0,A0,A1];refine wAw ne0 @A0 @A1 ?_;refine AC.call (c_expect L E s1 _ _ t (by repeat (first|exact A0|rw[hnO]|rw[I7 (by omega)])) (by omega) (by have:=h1i;omega) _) ?_;rintro v H' c38 ⟨rfl,rfl⟩ hc38;try dsimp only
     refine wAx ne0 @A0 @A1 ?_;rw[G4 (rv7 rfl A0)];refine⟨_,_,A5n (cc:=cc) (i:=c37) [e] (.inr ⟨rfl,rfl⟩) (.inr ⟨rfl,rfl⟩) (F4 hfr htc) (by omega) ?_ (λj hj=>?_),(by first|rfl|(rw[Pb.St.v_w];done)|(rw[Pb.St.v_w];rfl)),rfl⟩
     ·rw[A9h];dsimp only
      repeat (first|exact A0|rw[hnO]|rw[I7 (by omega)])
     simp[Hp.upd,Hp.del,show ¬j=cc by omega,show ¬j=c3 by omega,show ¬j=c37 by omega];try(split<;>rfl)
  rw[iN]at h;cases h;have e2:(2+k==2)=false:=b9
  have e3:(2+k==3)=false:=b9
  have e4:(2+k==4)=false:=b9
  have e18:(2+k==18)=false:=b9
  have e19:(2+k==19)=false:=b9
  have e8:(2+k==8)=false:=b9
  have e9:(2+k==9)=false:=b9
  have e10:(2+k==10)=false:=b9
  refine wAs (wJ hdk (wJ hw2 (wJ hwk (wJ u2 (wJ u3 (wJ u4 (wJ u8 (wJ u9 (wJ u10 (wJ u18 (wJ u19 (wJ e2 (wJ e3 (wJ e4 (wJ e18 (wJ e19 (wJ e8 (wJ e9 (wJ e10 (wJ ne0 (wJ @A0 @A1))))))))))))))))))))) ?_;refine AC.call (c_name L E (A5 s) _ _ t (by repeat (first|exact A0|rw[hnO]|rw[I7 (by omega)])) (by omega) (by have:=hn;omega)) ?_;rintro v H' c39 ⟨rfl,rfl⟩ hc39;try dsimp only
  refine wA2 e8 e9 e10 ne0 @A0 @A1 ?_;refine AC.call (c_expect L E (A8 L E (A5 s) 1).2 _ _ t (by repeat (first|exact A0|rw[hnO]|rw[I7 (by omega)])) (by omega) (by have:=hti2;omega) _) ?_;rintro v H' c40 ⟨rfl,rfl⟩ hc40;try dsimp only
  refine wAx ne0 @A0 @A1 ?_;rw[G4 (rv7 rfl A0)];refine⟨_,_,D7r (cc:=cc) (.inr ⟨rfl,rfl⟩) (.inr ⟨rfl,rfl⟩) (.inr ⟨rfl,rfl⟩) (F4 hfr htc) (λj hj=>?_),(by first|rfl|(rw[Pb.St.v_w];done)|(rw[Pb.St.v_w];rfl)),rfl⟩;simp[Hp.upd,Hp.del,show ¬j=cc by omega,show ¬j=c3 by omega];try(split<;>rfl)
end Go.Proofs.YtnkkfehegdplgaaGreatDoor
set_option maxHeartbeats 4000000
namespace Go.Proofs.YtnkkfehegdplgaaGreatDoor
open Go.Eng (IC IOper DReg IFn P0)
open Go.Sym Go.Pb
theorem c_stm(L:List Tok)(E:Int)(hL:L.length<=1000000000):∀f:Nat,
  (∀d s r,0<=d->d<=100->A1l L E f d s=some r->s.i<=L.length->RdC L E 166 [I64 d] s (r.1.v,r.2)) /\
  (∀d s r,0<=d->d<=100->W8 L E f d s=some r->s.i<=L.length->RdC L E 117 [I64 d] s (G7 r.1,r.2)) /\
  (∀d s r,0<=d->d<=99->A1h L E f d s=some r->s.i<=L.length->RdC L E 200 [I64 d] s (G7 r.1,r.2)):=by
 intro f
 induction f using Nat.strongRecOn with
 |_ f ih =>
  cases f with
  |zero=>exact⟨λd s r _ _ h=>by simp[A1l]at h,λd s r _ _ h=>by simp[W8]at h,λd s r _ _ h=>by simp[A1h]at h⟩
  |succ f =>
   have i0:=ih f (by omega);exact⟨λd s r h1 h2 h hi=>c_statement L E hL f i0.2.1 i0.2.2 d s r h1 h2 h hi,
    λd s r h1 h2 h hi=>c_block L E hL f (λg hg=>(ih g (by omega)).1) d s r h1 h2 h hi,
    λd s r h1 h2 h hi=>c_other L E hL f i0.1 i0.2.1 d s r h1 h2 h hi⟩
theorem c_declaration(L:List Tok)(E:Int)(s:Rd)(H:Hp)(cc t:Nat)(ht:H t=some (rdR L E s))(htc:t<cc)(hL:L.length<=1000000000)(hv:∀x∈L,0<=x.value/\x.value<=9223372036854775807)(k:Int)(hk0:0<=k)(hk:k<8)(hi:s.i<L.length):AC Tryz.prog 66 [.ptr t 0,I64 k] H cc (λv H' c'=>v=(Z3 L E k s).1.v/\H'=H.upd t (rdR L E (Z3 L E k s).2)):=by
 refine AC.go A3 λhfr=>?_;have hwk:IntKind.i64.wrap (1+k)=1+k:=w6z;have hw:IntKind.i64.wrap ((s.i:Int)+1)=((s.i+1:Nat):Int):=l8
 have hn:(A5 s).i<=L.length:=hi;have hti:=Q8 (E:=E) (x:=1) (by decide) hn;refine wAp ?_;refine AC.call (c_peek L E s _ _ t (by rw[hnO];exact ht) (by omega)) ?_;rintro v H' c1 ⟨rfl,rfl⟩ hc1;have ne0:=W9 t cc c1 (by omega);refine wA2 ht hw hwk ne0 @A0 @A1 ?_;refine AC.call (c_name L E (A5 s) _ _ t (by repeat (first|exact A0|rw[hnO])) (by omega) (by omega)) ?_;rintro v H' c2 ⟨rfl,rfl⟩ hc2;have hval:∀z,0<=(A8 L E z 3).1.value/\(A8 L E z 3).1.value<=9223372036854775807:=λz=>by
  unfold A8;split
  ·exact⟨A2U 0,(by decide:(0:Int)<=9223372036854775807)⟩
  ·show 0<=(B1 L E z).value/\(B1 L E z).value<=9223372036854775807;unfold B1;rw[A1L];cases hg:L[z.i]? with
   |none=>exact⟨A2U 0,(by decide:(0:Int)<=9223372036854775807)⟩
   |some x=>exact hv x (A0W hg)
 obtain⟨D,hD⟩:∃D,D=Z3 L E k s:=⟨_,rfl⟩;rw[<- hD];unfold Z3 at hD;dsimp only at hD;generalize (B1 L E s).pos=p at hD ⊢;generalize (A8 L E (A5 s) 1).1.text=n at hD ⊢;generalize (A8 L E (A5 s) 1).2=s2 at hD hti ⊢;by_cases h6:k+1<=6
 ·rw[if_pos h6]at hD;have hd6:decide (1+k<=6)=true:=by simp;omega
  have hw2:IntKind.i64.wrap ((s2.i:Int)+1)=((s2.i+1:Nat):Int):=l8
  by_cases h5:k=5
  ·subst h5;refine wAz hd6 ne0 @A0 @A1 ?_;refine AC.call (c_is L E s2 _ _ t (by repeat (first|exact A0|rw[hnO])) (by omega) _) ?_;rintro v H' c3 ⟨rfl,rfl⟩ hc3;cases hq:isR L E s2 [45] with
   |true =>
    rw[hq]at hD;have hn2:(A5 s2).i<=L.length:=(A4w hq).2;have hv2:=hval (A5 s2);have hneg:IntKind.i64.wrap (0-(A8 L E (A5 s2) 3).1.value) = -(A8 L E (A5 s2) 3).1.value:=l8
    simp only[go_sem,seval,hq,hw2,ne0,A0,A1];refine wAy hw2 ne0 @A0 @A1 ?_;have h4i:=Q8 (E:=E) (x:=3) (by decide) hn2;subst hD;refine AC.call (c_take L E (A5 s2) _ _ t (by repeat (first|exact A0|rw[hnO])) (by omega) (by omega) 3) ?_;rintro v H' c4 ⟨rfl,rfl⟩ hc4;try dsimp only
    refine wAz hneg ne0 @A0 @A1 ?_;refine AC.call (c_expect L E (A8 L E (A5 s2) 3).2 _ _ t (by repeat (first|exact A0|rw[hnO])) (by omega) (by omega) _) ?_;rintro v H' c9 ⟨rfl,rfl⟩ hc9;refine wAx ne0 @A0 @A1 ?_;rw[G4 (rv4 rfl A0)];refine⟨_,_,Z8 (cc:=cc) (F4 hfr htc) (λj hj=>?_),rfl,rfl⟩;simp[Hp.upd,show ¬j=cc by omega,show ¬j=c1 by omega];try(split<;>rfl)
   |false =>
    rw[hq]at hD;simp only[go_sem,seval,hq,ne0,A0,A1];refine wAw ne0 @A0 @A1 ?_;have h4i:=Q8 (E:=E) (x:=3) (by decide) hti;subst hD;refine AC.call (c_take L E s2 _ _ t (by repeat (first|exact A0|rw[hnO])) (by omega) (by omega) 3) ?_;rintro v H' c4 ⟨rfl,rfl⟩ hc4;try dsimp only
    refine wAx ne0 @A0 @A1 ?_;refine AC.call (c_expect L E (A8 L E s2 3).2 _ _ t (by repeat (first|exact A0|rw[hnO])) (by omega) (by omega) _) ?_;rintro v H' c9 ⟨rfl,rfl⟩ hc9;refine wAx ne0 @A0 @A1 ?_;rw[G4 (rv4 rfl A0)];refine⟨_,_,Z8 (cc:=cc) (F4 hfr htc) (λj hj=>?_),rfl,rfl⟩;simp[Hp.upd,show ¬j=cc by omega,show ¬j=c1 by omega];try(split<;>rfl)
  ·have hd5:(1+k==6)=false:=by simp;omega
   have hm:(k+1==6)=false:=b9
   rw[hm]at hD;refine wAu (wJ hd6 (wJ hd5 (wJ ne0 (wJ @A0 @A1)))) ?_;have h4i:=Q8 (E:=E) (x:=3) (by decide) hti;subst hD;refine AC.call (c_take L E s2 _ _ t (by repeat (first|exact A0|rw[hnO])) (by omega) (by omega) 3) ?_;rintro v H' c4 ⟨rfl,rfl⟩ hc4;try dsimp only
   refine wAx ne0 @A0 @A1 ?_;refine AC.call (c_expect L E (A8 L E s2 3).2 _ _ t (by repeat (first|exact A0|rw[hnO])) (by omega) (by omega) _) ?_;rintro v H' c9 ⟨rfl,rfl⟩ hc9;refine wAx ne0 @A0 @A1 ?_;rw[G4 (rv4 rfl A0)];refine⟨_,_,Z8 (cc:=cc) (F4 hfr htc) (λj hj=>?_),rfl,rfl⟩;simp[Hp.upd,show ¬j=cc by omega,show ¬j=c1 by omega];try(split<;>rfl)
 ·rw[if_neg h6]at hD;have hd6:decide (1+k<=6)=false:=by simp;omega
  subst hD;refine wAz hd6 ne0 @A0 @A1 ?_;refine AC.call (c_expect L E s2 _ _ t (by repeat (first|exact A0|rw[hnO])) (by omega) (by omega) _) ?_;rintro v H' c3 ⟨rfl,rfl⟩ hc3;refine wAx ne0 @A0 @A1 ?_;rw[G4 (rv4 rfl A0)];refine⟨_,_,Z8 (cc:=cc) (F4 hfr htc) (λj hj=>?_),rfl,rfl⟩;simp[Hp.upd,show ¬j=cc by omega,show ¬j=c1 by omega];try(split<;>rfl)
theorem F7m{ρ:Ren}{v:Value}{a b e:DV}(h:VRel ρ (.agg [a,b,.snil,e]) v):VRel ρ (.agg [a,b,.lst [],e]) v:=by
 obtain⟨bb,rfl,k1,k2⟩:=h.agg_inv;refine .agg _ _ k1 λj x y hx hy=>?_
 match j with
 |0=>cases hx;exact k2 0 _ y rfl hy
 |1=>cases hx;exact k2 1 _ y rfl hy
 |2=>cases hx;exact(k2 2 _ y rfl hy).snil_lst
 |3=>cases hx;exact k2 3 _ y rfl hy
 |_+4=>cases hx
theorem E5j{K H':Hp}{cc:Nat}{o:Option Nat}{a b e:DV}(l:List Hd)(hK:∀i,cc<=i->K i=none)(ho:∀i,o=some i->cc<=i)(hno:o=none->l=[])(hb:∀i,o=some i->H' i=some ⟨4,true,cellsL (l.map Hd.v)⟩)(h:∀j,j<cc->H' j=K j):
  GL H' [.agg [a,b,todoV o l.length,e]] K [.agg [a,b,W0 l,e]]:=by
 cases o with
 |none =>
  obtain rfl:=hno rfl;exact(Z8 hK h).trans (GL.view fun ρ vs hA=>P8 (λv h=>F7m h) vs hA)
 |some i =>
  have:=ho i rfl;exact GL.frzS (id:=i) (hb i rfl) rfl (λj=>by
   by_cases hj:j<cc
   ·exact .inr ⟨a8,(h j hj).symm⟩
   ·exact .inl (hK j (by omega))) (.cons _ _ _ _ (.agg _ _ (.cons _ _ _ _ (.same _) (.cons _ _ _ _ (.same _) (.cons _ _ _ _ (U3 (u:=4) (by simp) (A6i l) ⟨[],by simp⟩) (.cons _ _ _ _ (.same _) .nil))))) .nil)
theorem c_mode(L:List Tok)(E:Int)(hL:L.length<=1000000000)(f:Nat)(s:Rd)(r:Md × Rd)(h:A6u L E f s=some r)(hi:s.i<=L.length):RdC L E 69 [] s (r.1.v,r.2):=by
 intro H cc t ht htc;refine AC.go A3 λhfr=>?_;unfold A6u at h;dsimp only at h;have i1:=O5 (E:=E) (x:=[109,111,100,101]) hi;generalize hs1:D9 L E s [109,111,100,101]=s1 at h i1;have i2:=Q8 (E:=E) (x:=1) (by decide) i1;have i3:=Q8 (E:=E) (x:=3) (by decide) i2;have i4:=O5 (E:=E) (x:=[123]) i3;refine wAp ?_;refine AC.call (c_peek L E s _ _ t (by rw[hnO];exact ht) (by omega)) ?_;rintro v H' c1 ⟨rfl,rfl⟩ hc1;have ne0:=W9 t cc c1 (by omega);refine wAx ne0 @A0 @A1 ?_;refine AC.call (c_expect L E s _ _ t (by repeat (first|exact ht|rw[hnO])) (by omega) (by omega) _) ?_;rintro v H' c2 ⟨rfl,rfl⟩ hc2;rw[hs1];refine wAx ne0 @A0 @A1 ?_;refine AC.call (c_name L E s1 _ _ t (by repeat (first|exact A0|rw[hnO])) (by omega) (by omega)) ?_;rintro v H' c3 ⟨rfl,rfl⟩ hc3;generalize (A8 L E s1 1).1.text=n at h ⊢;generalize (A8 L E s1 1).2=s2 at h i2 i3 i4 ⊢;refine wAx ne0 @A0 @A1 ?_;refine AC.call (c_take L E s2 _ _ t (by repeat (first|exact A0|rw[hnO])) (by omega) (by omega) 3) ?_;rintro v H' c4 ⟨rfl,rfl⟩ hc4;try dsimp only
 refine wAx ne0 @A0 @A1 ?_;refine AC.call (c_expect L E (A8 L E s2 3).2 _ _ t (by repeat (first|exact A0|rw[hnO])) (by omega) (by omega) _) ?_;rintro v H' c5 ⟨rfl,rfl⟩ hc5;generalize (A8 L E s2 3).1.value=z at h ⊢;generalize D9 L E (A8 L E s2 3).2 [123]=s3 at h i4 ⊢;generalize (B1 L E s).pos=p at h ⊢;cases hm:A2a L E f [] s3 with
 |none=>rw[hm]at h;cases h
 |some q =>
  obtain⟨hl,s4⟩:=q;rw[hm]at h;dsimp only at h;cases h;refine wAx ne0 @A0 @A1 ?_;refine A9 (λ_:Nat × Option Nat × List Hd × Rd=>[(0,.ptr t 0),(2,.ptr cc 0),(3,.ptr c1 0)]) (λq=>optH (((H.upd cc ⟨0,true,[.str [],I64 0,.snil,I64 0]⟩).upd c1 ⟨0,true,[.str n,I64 z,todoV q.2.1 q.2.2.1.length,I64 p]⟩).upd t (rdR L E q.2.2.2)) q.2.1 ⟨4,true,cellsL (q.2.2.1.map Hd.v)⟩)
   (λq c=>c1+1<=c/\q.1<=f/\q.2.2.2.i<=L.length/\(q.2.1=none->q.2.2.1=[])/\(∀i,q.2.1=some i->c1<i/\i<c)/\q.2.2.1.length<=32/\A2a L E q.1 q.2.2.1 q.2.2.2=some (hl,s4)) (λq=>q.1) (f,none,[],s3)
   (by simp[B5,tm,Tm.upd]) (λj b hj=>?_) ⟨a8,A0E _,i4,λ_=>rfl,(λi hi=>by cases hi),by simp,hm⟩ ?_
  ·simp only[optH,B7w]at hj;by_cases e1:j=t
   ·subst e1;rw[A0]at hj ⊢;exact hj
   ·rw[h_ne e1]at hj ⊢;by_cases e2:j=c1
    ·subst e2;rw[A0]at hj ⊢;exact hj
    ·rw[h_ne e2]at hj ⊢;simp only[h_ne e1,h_ne e2];exact hj
  clear hm i1 i2 i3 i4;rintro⟨g,o,l,u⟩ c ⟨hc,hg,hi5,hno,ho,hl1,hv⟩;dsimp only at hc hg hi5 hno ho hl1 hv ⊢;cases g with
  |zero=>simp[A2a]at hv
  |succ g =>
  unfold A2a at hv;dsimp only at hv;have hHt:optH (((H.upd cc ⟨0,true,[.str [],I64 0,.snil,I64 0]⟩).upd c1 ⟨0,true,[.str n,I64 z,todoV o l.length,I64 p]⟩).upd t (rdR L E u)) o ⟨4,true,cellsL (l.map Hd.v)⟩ t=some (rdR L E u):=n8
  refine wAp ?_;refine AC.call (c_rdok L E u _ _ t hHt (by omega)) ?_;rintro v H' c6 ⟨rfl,rfl⟩ hc6;have hbx:(optH (((H.upd cc ⟨0,true,[.str [],I64 0,.snil,I64 0]⟩).upd c1 ⟨0,true,[.str n,I64 z,todoV o l.length,I64 p]⟩).upd t (rdR L E u)) o ⟨4,true,cellsL (l.map Hd.v)⟩) c1=some ⟨0,true,[.str n,I64 z,todoV o l.length,I64 p]⟩:=r7
  have hbo:∀i:Nat,o=some i->(optH (((H.upd cc ⟨0,true,[.str [],I64 0,.snil,I64 0]⟩).upd c1 ⟨0,true,[.str n,I64 z,todoV o l.length,I64 p]⟩).upd t (rdR L E u)) o ⟨4,true,cellsL (l.map Hd.v)⟩) i=some ⟨4,true,cellsL (l.map Hd.v)⟩:=λi hi=>u5
  have hbj:∀j:Nat,j<cc->¬j=t->(optH (((H.upd cc ⟨0,true,[.str [],I64 0,.snil,I64 0]⟩).upd c1 ⟨0,true,[.str n,I64 z,todoV o l.length,I64 p]⟩).upd t (rdR L E u)) o ⟨4,true,cellsL (l.map Hd.v)⟩) j=H j:=λj h1 h2=>by rw[B9 (λi hi=>by have:=ho i hi;omega),h_ne h2,hnO,hnO]
  have hb0:(optH (((H.upd cc ⟨0,true,[.str [],I64 0,.snil,I64 0]⟩).upd c1 ⟨0,true,[.str n,I64 z,todoV o l.length,I64 p]⟩).upd t (rdR L E u)) o ⟨4,true,cellsL (l.map Hd.v)⟩) cc=some ⟨0,true,[.str [],I64 0,.snil,I64 0]⟩:=o6
  have hT:(todoV o l.length).one=true:=by cases o<;>rfl
  generalize hHH:optH (((H.upd cc ⟨0,true,[.str [],I64 0,.snil,I64 0]⟩).upd c1 ⟨0,true,[.str n,I64 z,todoV o l.length,I64 p]⟩).upd t (rdR L E u)) o ⟨4,true,cellsL (l.map Hd.v)⟩=HH at hHt hbx hbo hbj hb0 ⊢;have fin:∀(u2:Rd) (e:DV) (x:Blk) (q1 q2:DV),GL ((HH.upd t (rdR L E u2)).upd cc x) [.agg [q1,q2,todoV o l.length,e]] (H.upd t (rdR L E u2)) [.agg [q1,q2,W0 l,e]]:=λu2 e x q1 q2 =>
   E5j (cc:=cc) l (F4 hfr htc) (λi hi=>by have:=ho i hi;omega) hno (λi hi=>by have:=ho i hi;rw[hnO,hnO];exact hbo i hi) (λj hj=>by
    rw[hnO];by_cases e1:j=t
    ·subst e1;rw[A0,A0]
    ·rw[h_ne e1,h_ne e1,hbj j hj e1])
  cases hok:okR u with
  |false =>
   rw[if_neg (by simp[hok])]at hv;have e1:l=hl:=congrArg Prod.fst (Option.some.inj hv);have e2:D9 L E u [125]=s4:=congrArg Prod.snd (Option.some.inj hv);subst e1 e2;refine wAu hok ?_;refine AC.call (c_expect L E u _ _ t hHt (by omega) (by omega) _) ?_;rintro v H' c7 ⟨rfl,rfl⟩ hc7;simp only[go_sem,seval,ne0,A0,hbx,hb0,hT];(repeat'((with_reducible first|apply wr|refine k_cu ?_ ?_|apply wb2<;>(intro hb;try simp only[hb]))<;>try simp only[go_sem,seval,ne0,A0,hbx,hb0,hT]));refine G6 (B2a (by rfl) (by decide) (by clear hHH;cases o<;>rfl)) ?_;refine wAu (wJ ne0 @A0) ?_;rw[G4 (rv4 rfl A0)];exact⟨_,_,fin _ _ _ _ _,rfl,rfl⟩
  |true =>
   refine wAu hok ?_;refine AC.call (c_is L E u _ _ t hHt (by omega) _) ?_;rintro v H' c7 ⟨rfl,rfl⟩ hc7;cases hq:isR L E u [125] with
   |true =>
    rw[if_neg (by simp[hq])]at hv;have e1:l=hl:=congrArg Prod.fst (Option.some.inj hv);have e2:D9 L E u [125]=s4:=congrArg Prod.snd (Option.some.inj hv);subst e1 e2;refine wAu hq ?_;refine AC.call (c_expect L E u _ _ t hHt (by omega) (by omega) _) ?_;rintro v H' c8 ⟨rfl,rfl⟩ hc8;simp only[go_sem,seval,ne0,A0,hbx,hb0,hT];(repeat'((with_reducible first|apply wr|refine k_cu ?_ ?_|apply wb2<;>(intro hb;try simp only[hb]))<;>try simp only[go_sem,seval,ne0,A0,hbx,hb0,hT]));refine G6 (B2a (by rfl) (by decide) (by clear hHH;cases o<;>rfl)) ?_;refine wAu (wJ ne0 @A0) ?_;rw[G4 (rv4 rfl A0)];exact⟨_,_,fin _ _ _ _ _,rfl,rfl⟩
   |false =>
    rw[if_pos ⟨hok,hq⟩]at hv;refine wAu hq ?_;refine AC.call (c_is L E u _ _ t hHt (by omega) _) ?_;rintro v H' c8 ⟨rfl,rfl⟩ hc8;cases hon:isR L E u [111,110] with
    |false =>
     rw[if_pos hon]at hv;have e1:l=hl:=congrArg Prod.fst (Option.some.inj hv);have e2:X6 L E u=s4:=congrArg Prod.snd (Option.some.inj hv);subst e1 e2;refine wAu hon ?_;refine AC.call (c_syntax L E u _ _ t hHt (by omega)) ?_;rintro v H' c9 ⟨rfl,rfl⟩ hc9;simp only[go_sem,seval,ne0,A0,hbx,hb0,hT];(repeat'((with_reducible first|apply wr|refine k_cu ?_ ?_|apply wb2<;>(intro hb;try simp only[hb]))<;>try simp only[go_sem,seval,ne0,A0,hbx,hb0,hT]));refine G6 (B2a (by rfl) (by decide) (by clear hHH;cases o<;>rfl)) ?_;refine wAu (wJ ne0 @A0) ?_;rw[G4 (rv4 rfl A0)];exact⟨_,_,fin _ _ _ _ _,rfl,rfl⟩
    |true =>
     rw[if_neg (by simp[hon])]at hv;have hlen:B1t (todoV o l.length)=some (I64 l.length):=by
      cases o with
      |none=>rw[hno rfl];rfl
      |some b=>rfl
     have hwl:IntKind.i64.wrap ((l.length:Int)+1)=(l.length:Int)+1:=w6z;refine wAz hon hbx hlen hwl ?_;refine AC.call (c_limit L E u _ _ t hHt (by omega) _ _ _) ?_;rintro v H' c9 ⟨rfl,rfl⟩ hc9;have j1:(C6 L E u ((l.length:Int)+1) 32 9).i<=L.length:=by rw[J4];exact hi5
     generalize hlq:C6 L E u ((l.length:Int)+1) 32 9=u1 at hv j1 ⊢;have j2:=O5 (E:=E) (x:=[111,110]) j1;refine wAq ?_;refine AC.call (c_peek L E u1 _ _ t A0 (by omega)) ?_;rintro v H' c10 ⟨rfl,rfl⟩ hc10;have ne0:=V8 t cc c1 c10 (by omega);refine wAx ne0 @A0 @A1 ?_;refine AC.call (c_expect L E u1 _ _ t (by repeat (first|exact A0|rw[hnO])) (by omega) (by omega) _) ?_;rintro v H' c11 ⟨rfl,rfl⟩ hc11;generalize hu2:D9 L E u1 [111,110]=u2 at hv j2 ⊢;refine wA9 c_trigs31 (wJ ne0 (wJ @A0 @A1)) ?_;refine AC.call (c_among L E u2 _ _ t (by repeat (first|exact A0|rw[hnO])) (by omega) F8 (by decide)) ?_;rintro v H' c12 ⟨rfl,rfl⟩ hc12;have hkr : -1<=B8 L E u2 F8/\B8 L E u2 F8<6:=A7z L E u2 F8 0;have hnn:0<=B8 L E u2 F8->okR u2=true/\u2.i<L.length:=λh=>⟨(K2 h).1,(K2 h).2.1⟩;generalize B8 L E u2 F8=k at hv hkr hnn;by_cases hk:k<0
     ·rw[if_pos hk]at hv;have e1:l=hl:=congrArg Prod.fst (Option.some.inj hv);have e2:X6 L E u2=s4:=congrArg Prod.snd (Option.some.inj hv);subst e1 e2;have hdk:decide (k<0)=true:=by simpa using hk
      simp only[go_sem,seval,ne0,hdk];refine wAs hdk ?_;refine AC.call (c_syntax L E u2 _ _ t (by repeat (first|exact A0|rw[hnO])) (by omega)) ?_;rintro v H' c13 ⟨rfl,rfl⟩ hc13;simp only[go_sem,seval,ne0,A0,hbx,hb0,hT];(repeat'((with_reducible first|apply wr|refine k_cu ?_ ?_|apply wb2<;>(intro hb;try simp only[hb]))<;>try simp only[go_sem,seval,ne0,A0,hbx,hb0,hT]));refine G6 (B2a (by rfl) (by decide) (by clear hHH;cases o<;>rfl)) ?_;refine wAu (wJ ne0 @A0) ?_;rw[G4 (rv4 rfl A0)];refine⟨_,_,E5j (cc:=cc) l (F4 hfr htc) (λi hi=>by have:=ho i hi;omega) hno (λi hi=>?_) (λj hj=>?_),rfl,rfl⟩
      ·have:=ho i hi;dsimp only
       repeat rw[hnO]
       exact hbo i hi
      ·by_cases e1:j=t
       ·subst e1;dsimp only;rw[hnO,A0,A0]
       ·dsimp only
        repeat rw[hnO]
        exact hbj j hj e1
     rw[if_neg hk]at hv;have hdk:decide (k<0)=false:=by simpa using hk
     obtain⟨hok2,hi2⟩:=hnn (by omega);have hw2:IntKind.i64.wrap ((u2.i:Int)+1)=((u2.i+1:Nat):Int):=l8
     have hwk:IntKind.i64.wrap (1+k)=1+k:=w6z;have hn2:(A5 u2).i<=L.length:=hi2;have ht2:=Q8 (E:=E) (x:=1) (by decide) hn2;have hl32:l.length+1<=32:=by
      have hok1:okR u1=true:=by
       cases hz:okR u1 with
       |true=>rfl
       |false =>
        have:D9 L E u1 [111,110]=X6 L E u1:=by unfold D9 isR;rw[hz];rfl
        rw[<- hu2,this,A4g]at hok2;cases hok2
      have:=(J6 (L:=L) (E:=E) (s:=u) (n:=(l.length:Int)+1) (m:=32) (e:=9) (by decide) (by rw[hlq];exact hok1)).2.1;omega
     simp only[go_sem,seval,ne0,hdk];by_cases hk2:2<=k
     ·rw[if_pos hk2,if_pos hk2]at hv;have hd2:decide (k≥2)=true:=by simpa using hk2
      refine wA3 hdk hd2 hw2 hwk ne0 @A0 @A1 ?_;refine AC.call (c_name L E (A5 u2) _ _ t (by repeat (first|exact A0|rw[hnO])) (by omega) (by omega)) ?_;rintro v H' c14 ⟨rfl,rfl⟩ hc14;refine wAx ne0 @A0 @A1 ?_;cases hb:W8 L E g 1 (A8 L E (A5 u2) 1).2 with
      |none=>rw[hb]at hv;cases hv
      |some qb =>
       obtain⟨bd,s6⟩:=qb;rw[hb]at hv;dsimp only at hv;have j6:=(II.all g).1 _ _ _ hb ht2;refine AC.call ((c_stm L E hL g).2.1 1 (A8 L E (A5 u2) 1).2 (bd,s6) (by decide) (by decide) hb ht2 _ _ t (by repeat (first|exact A0|rw[hnO])) (by omega)) ?_;rintro v H' c15 ⟨rfl,rfl⟩ hc15;try dsimp only
       have ne0:=A1y t cc c1 c10 c15 (by omega);refine wAz ne0 @A0 @A1 hbx ?_;have hl4:(cellsL (l.map Hd.v)).length=l.length*4:=C3 (u:=4) (A6i _) |>.trans (by simp);refine G6 (F9 (cs:=cellsL (l.map Hd.v)) (λe=>by rw[hno e];exact⟨rfl,rfl⟩) (λi hi=>?_) hl4 (by omega) (by omega) (by omega)) ?_
       ·have:=ho i hi
        repeat rw[hnO]
        exact hbo i hi
       have hdx:∀X:Hp,delO X o c1=X c1:=λX=>C5 (λi hi=>by have:=ho i hi;omega);have ne0:=A7s t cc c1 c10 c15 (c15+1) (by omega);refine wAu (wJ ne0 (wJ @A0 (wJ @A1 (wJ hdx hbx)))) ?_;refine⟨(g,some (c15+1),l++[⟨1+k,(A8 L E (A5 u2) 1).1.text,bd,(B1 L E u1).pos⟩],s6),?_,inv ⟨a8,g9,j6,(λh=>by cases h),(λi hi=>by cases hi;omega),u7,hv⟩,by simp only;omega⟩;intro j b hj;simp only[optH,A9y,A0A,A0I,A0S,C4]at hj;by_cases e1:j=c15+1
       ·subst e1;rw[A0]at hj;rw[hnO,A0, <- hj];rfl
       rw[h_ne e1]at hj;by_cases e2:j=t
       ·subst e2;rw[A0]at hj;rw[hnO,hnO,C5 (λi hi=>by have:=ho i hi;omega),hnO,hnO,A0];exact hj
       rw[h_ne e2]at hj;by_cases e3:j=c1
       ·subst e3;rw[A0]at hj ⊢;exact hj
       rw[h_ne e3]at hj ⊢;by_cases e4:j=cc
       ·subst e4;rw[A0]at hj;rw[hnO,C5 (λi hi=>by have:=ho i hi;omega)]
        repeat rw[hnO]
        rw[hb0];exact hj
       ·rw[h_ne e4]at hj;have hjc:j<cc:=Classical.byContradiction λh=>by rw[hfr j (by omega)]at hj;cases hj
        rw[hnO,C5 (λi hi=>by have:=ho i hi;omega)]
        repeat rw[hnO]
        rw[hbj j hjc e2];exact hj
     ·rw[if_neg hk2,if_neg hk2]at hv;have hd2:decide (k≥2)=false:=by simpa using hk2
      refine wA3 hdk hd2 hw2 hwk ne0 @A0 @A1 ?_;cases hb:W8 L E g 1 (A5 u2) with
      |none=>rw[hb]at hv;cases hv
      |some qb =>
       obtain⟨bd,s6⟩:=qb;rw[hb]at hv;dsimp only at hv;have j6:=(II.all g).1 _ _ _ hb hn2;refine AC.call ((c_stm L E hL g).2.1 1 (A5 u2) (bd,s6) (by decide) (by decide) hb hn2 _ _ t (by repeat (first|exact A0|rw[hnO])) (by omega)) ?_;rintro v H' c15 ⟨rfl,rfl⟩ hc15;try dsimp only
       have ne0:=A1y t cc c1 c10 c15 (by omega);refine wAz ne0 @A0 @A1 hbx ?_;have hl4:(cellsL (l.map Hd.v)).length=l.length*4:=C3 (u:=4) (A6i _) |>.trans (by simp);refine G6 (F9 (cs:=cellsL (l.map Hd.v)) (λe=>by rw[hno e];exact⟨rfl,rfl⟩) (λi hi=>?_) hl4 (by omega) (by omega) (by omega)) ?_
       ·have:=ho i hi
        repeat rw[hnO]
        exact hbo i hi
       have hdx:∀X:Hp,delO X o c1=X c1:=λX=>C5 (λi hi=>by have:=ho i hi;omega);have ne0:=A7s t cc c1 c10 c15 (c15+1) (by omega);refine wAu (wJ ne0 (wJ @A0 (wJ @A1 (wJ hdx hbx)))) ?_;refine⟨(g,some (c15+1),l++[⟨1+k,[],bd,(B1 L E u1).pos⟩],s6),?_,inv ⟨a8,g9,j6,(λh=>by cases h),(λi hi=>by cases hi;omega),u7,hv⟩,by simp only;omega⟩;intro j b hj;simp only[optH,A9y,A0A,A0I,A0S,C4]at hj;by_cases e1:j=c15+1
       ·subst e1;rw[A0]at hj;rw[hnO,A0, <- hj];rfl
       rw[h_ne e1]at hj;by_cases e2:j=t
       ·subst e2;rw[A0]at hj;rw[hnO,hnO,C5 (λi hi=>by have:=ho i hi;omega),hnO,hnO,A0];exact hj
       rw[h_ne e2]at hj;by_cases e3:j=c1
       ·subst e3;rw[A0]at hj ⊢;exact hj
       rw[h_ne e3]at hj ⊢;by_cases e4:j=cc
       ·subst e4;rw[A0]at hj;rw[hnO,C5 (λi hi=>by have:=ho i hi;omega)]
        repeat rw[hnO]
        rw[hb0];exact hj
       ·rw[h_ne e4]at hj;have hjc:j<cc:=Classical.byContradiction λh=>by rw[hfr j (by omega)]at hj;cases hj
        rw[hnO,C5 (λi hi=>by have:=ho i hi;omega)]
        repeat rw[hnO]
        rw[hbj j hjc e2];exact hj
theorem F7l{ρ:Ren}{v:Value}{a:DV}(h:VRel ρ (.agg [a,.snil]) v):VRel ρ (.agg [a,.lst []]) v:=by
 obtain⟨bb,rfl,k1,k2⟩:=h.agg_inv;refine .agg _ _ k1 λj x y hx hy=>?_
 match j with
 |0=>cases hx;exact k2 0 _ y rfl hy
 |1=>cases hx;exact(k2 1 _ y rfl hy).snil_lst
 |_+2=>cases hx
theorem E5i{K H':Hp}{cc:Nat}{o:Option Nat}{a:DV}(l:List Md)(hK:∀i,cc<=i->K i=none)(ho:∀i,o=some i->cc<=i)(hno:o=none->l=[])(hb:∀i,o=some i->H' i=some ⟨4,true,cellsL (l.map Md.v)⟩)(h:∀j,j<cc->H' j=K j):
  GL H' [.agg [a,todoV o l.length]] K [.agg [a,F6 l]]:=by
 cases o with
 |none =>
  obtain rfl:=hno rfl;exact(Z8 hK h).trans (GL.view fun ρ vs hA=>P8 (λv h=>F7l h) vs hA)
 |some i =>
  have:=ho i rfl;exact GL.frzS (id:=i) (hb i rfl) rfl (λj=>by
   by_cases hj:j<cc
   ·exact .inr ⟨a8,(h j hj).symm⟩
   ·exact .inl (hK j (by omega))) (.cons _ _ _ _ (.agg _ _ (.cons _ _ _ _ (.same _) (.cons _ _ _ _ (U3 (u:=4) (by simp) (B8m l) ⟨[],by simp⟩) .nil))) .nil)
theorem rv2{s:Sym.St}{x i u:Nat}{a b:DV}{o:Bool}(h:s.T x=.ptr i 0)(hb:s.H i=some ⟨u,o,[a,b]⟩):A7m s [.cell x 2 true]=some (.agg [a,b]):=by
 simp only[A7m,A7o,h,ldv,ldB,hb];rfl
theorem c_rules(L:List Tok)(E:Int)(hL:L.length<=1000000000)(hv:∀x∈L,0<=x.value/\x.value<=9223372036854775807)(f:Nat)(s:Rd)(r:Ru × Rd)(h:B1r L E f s=some r)(hi:s.i<=L.length):RdC L E 31 [] s (r.1.v,r.2):=by
 intro H cc t ht htc;refine AC.go A3 λhfr=>?_;unfold B1r at h;cases hd:A1d L E f [] s with
 |none=>rw[hd]at h;cases h
 |some q =>
 obtain⟨dl,s1⟩:=q;rw[hd]at h;dsimp only at h;cases hm:A0r L E f [] s1 with
 |none=>rw[hm]at h;cases h
 |some q =>
 obtain⟨ml,s2⟩:=q;rw[hm]at h;cases h;have ne0:=W9 t cc (cc+1) (by omega);refine wA8 c_decls31 (wJ ne0 (wJ @A0 @A1)) ?_;refine AC.call (c_among L E s _ _ t (by repeat (first|exact ht|rw[hnO])) (by omega) F0 (by decide)) ?_;rintro v H' c1 ⟨rfl,rfl⟩ hc1;refine wAu ne0 ?_;refine A9 (λq:Nat × Option Nat × List Dc × Rd=>[(0,.ptr t 0),(2,.ptr cc 0),(3,.ptr (cc+1) 0),(4,I64 (B8 L E q.2.2.2 F0))]) (λq=>optH (((H.upd cc ⟨0,true,[.snil,.snil]⟩).upd t (rdR L E q.2.2.2)).upd (cc+1) ⟨0,true,[todoV q.2.1 q.2.2.1.length,.snil]⟩) q.2.1 ⟨4,true,cellsL (q.2.2.1.map Dc.v)⟩)
  (λq c=>cc+2<=c/\q.1<=f/\q.2.2.2.i<=L.length/\(q.2.1=none->q.2.2.1=[])/\(∀i,q.2.1=some i->cc+1<i/\i<c)/\q.2.2.1.length<=128/\A1d L E q.1 q.2.2.1 q.2.2.2=some (dl,s1)) (λq=>q.1) (f,none,[],s)
  (by simp[B5,tm,Tm.upd]) (λj b hj=>?_) ⟨a8,A0E _,hi,λ_=>rfl,(λi hi=>by cases hi),by simp,hd⟩ ?_
 ·simp only[optH,B7w]at hj;by_cases e1:j=cc+1
  ·subst e1;rw[A0]at hj ⊢;exact hj
  ·rw[h_ne e1]at hj ⊢;by_cases e2:j=t
   ·subst e2;rw[A0]at hj;rw[hnO,ht];exact hj
   ·rw[h_ne e2]at hj;exact hj
 clear hd;rintro⟨g,o,l,u⟩ c ⟨hc,hg,hi5,hno,ho,hl1,hv0⟩;dsimp only at hc hg hi5 hno ho hl1 hv0 ⊢;cases g with
 |zero=>simp[A1d]at hv0
 |succ g =>
 unfold A1d at hv0;dsimp only at hv0;have hkr : -1<=B8 L E u F0/\B8 L E u F0<8:=A7z L E u F0 0;have hw:IntKind.i64.wrap ((l.length:Int)+1)=(l.length:Int)+1:=w6z;have hlen:B1t (todoV o l.length)=some (I64 l.length):=by
  cases o with
  |none=>rw[hno rfl];rfl
  |some b=>rfl
 by_cases hk:B8 L E u F0<0
 ·rw[if_pos hk]at hv0;have hdk:decide (B8 L E u F0≥0)=false:=by simp;omega
  have e1:l=dl:=congrArg Prod.fst (Option.some.inj hv0);have e2:u=s1:=congrArg Prod.snd (Option.some.inj hv0);subst e1 e2;refine wAs hdk ?_;clear hdk hkr hk hv0;refine IW.keep [0,2,3] [.ptr t 0,.ptr cc 0,.ptr (cc+1) 0] (g_fin (Hb:=(H.upd cc ⟨0,true,[.snil,.snil]⟩).upd t (rdR L E u)) (ci:=cc+1) (u:=4) (pre:=[]) (suf:=[.snil]) (xs:=l.map Dc.v) (by simp[DV.one]) (λh=>by rw[hno h];rfl) (λi hi=>by have:=ho i hi;exact⟨a8,by rw[hnO,hnO];exact hfr i (by omega)⟩) (by simp) (A9k _)) ?_;refine A9 (λq:Nat × Option Nat × List Md × Rd=>[(0,.ptr t 0),(2,.ptr cc 0),(3,.ptr (cc+1) 0)]) (λq=>optH (((H.upd cc ⟨0,true,[.snil,.snil]⟩).upd t (rdR L E q.2.2.2)).upd (cc+1) ⟨0,true,[D7 l,todoV q.2.1 q.2.2.1.length]⟩) q.2.1 ⟨4,true,cellsL (q.2.2.1.map Md.v)⟩)
   (λq c=>cc+2<=c/\q.1<=f/\q.2.2.2.i<=L.length/\(q.2.1=none->q.2.2.1=[])/\(∀i,q.2.1=some i->cc+1<i/\i<c)/\q.2.2.1.length<=16/\A0r L E q.1 q.2.2.1 q.2.2.2=some (ml,s2)) (λq=>q.1) (f,none,[],u)
   (by simp[B5,tm,Tm.upd]) (λj b hj=>hj) ⟨a8,A0E _,hi5,λ_=>rfl,(λi hi=>by cases hi),by simp,hm⟩ ?_
  clear hm hlen hw;clear hno ho hl1 hi5;rintro⟨g,o,m,u⟩ c ⟨hc,hg,hi5,hno,ho,hl1,hv⟩;dsimp only at hc hg hi5 hno ho hl1 hv ⊢;cases g with
  |zero=>simp[A0r]at hv
  |succ g =>
  unfold A0r at hv;dsimp only at hv;have hw:IntKind.i64.wrap ((m.length:Int)+1)=(m.length:Int)+1:=w6z;have hlen:B1t (todoV o m.length)=some (I64 m.length):=by
   cases o with
   |none=>rw[hno rfl];rfl
   |some b=>rfl
  have hHt:optH (((H.upd cc ⟨0,true,[.snil,.snil]⟩).upd t (rdR L E u)).upd (cc+1) ⟨0,true,[D7 l,todoV o m.length]⟩) o ⟨4,true,cellsL (m.map Md.v)⟩ t=some (rdR L E u):=r7
  have hbx:optH (((H.upd cc ⟨0,true,[.snil,.snil]⟩).upd t (rdR L E u)).upd (cc+1) ⟨0,true,[D7 l,todoV o m.length]⟩) o ⟨4,true,cellsL (m.map Md.v)⟩ (cc+1)=some ⟨0,true,[D7 l,todoV o m.length]⟩:=n8
  have hbo:∀i:Nat,o=some i->optH (((H.upd cc ⟨0,true,[.snil,.snil]⟩).upd t (rdR L E u)).upd (cc+1) ⟨0,true,[D7 l,todoV o m.length]⟩) o ⟨4,true,cellsL (m.map Md.v)⟩ i=some ⟨4,true,cellsL (m.map Md.v)⟩:=λi hi=>u5
  have hbj:∀j:Nat,j<cc->¬j=t->optH (((H.upd cc ⟨0,true,[.snil,.snil]⟩).upd t (rdR L E u)).upd (cc+1) ⟨0,true,[D7 l,todoV o m.length]⟩) o ⟨4,true,cellsL (m.map Md.v)⟩ j=H j:=λj h1 h2=>by rw[B9 (λi hi=>by have:=ho i hi;omega),hnO,h_ne h2,hnO]
  have hb0:optH (((H.upd cc ⟨0,true,[.snil,.snil]⟩).upd t (rdR L E u)).upd (cc+1) ⟨0,true,[D7 l,todoV o m.length]⟩) o ⟨4,true,cellsL (m.map Md.v)⟩ cc=some ⟨0,true,[.snil,.snil]⟩:=o6
  have hbn:∀j:Nat,c<=j->optH (((H.upd cc ⟨0,true,[.snil,.snil]⟩).upd t (rdR L E u)).upd (cc+1) ⟨0,true,[D7 l,todoV o m.length]⟩) o ⟨4,true,cellsL (m.map Md.v)⟩ j=none:=λj h1=>y9
  have hT:(todoV o m.length).one=true:=by cases o<;>rfl
  generalize hHH:optH (((H.upd cc ⟨0,true,[.snil,.snil]⟩).upd t (rdR L E u)).upd (cc+1) ⟨0,true,[D7 l,todoV o m.length]⟩) o ⟨4,true,cellsL (m.map Md.v)⟩=HH at hHt hbx hbo hbj hb0 hbn ⊢;have fin:∀(u2:Rd) (x:Blk),GL ((HH.upd t (rdR L E u2)).upd cc x) [.agg [D7 l,todoV o m.length]] (H.upd t (rdR L E u2)) [.agg [D7 l,F6 m]]:=λu2 x =>
   E5i (cc:=cc) m (F4 hfr htc) (λi hi=>by have:=ho i hi;omega) hno (λi hi=>by have:=ho i hi;rw[hnO,hnO];exact hbo i hi) (λj hj=>by
    rw[hnO];by_cases e1:j=t
    ·subst e1;rw[A0,A0]
    ·rw[h_ne e1,h_ne e1,hbj j hj e1])
  have fin0:∀(x:Blk),GL (HH.upd cc x) [.agg [D7 l,todoV o m.length]] (H.upd t (rdR L E u)) [.agg [D7 l,F6 m]]:=λx=>by
   have h1:=fin u x
   rwa [upd_same hHt]at h1
  refine wAp ?_;refine AC.call (c_rdok L E u _ _ t hHt (by omega)) ?_;rintro v H' c2 ⟨rfl,rfl⟩ hc2;cases hok:okR u with
  |false =>
   rw[if_neg (by simp[hok])]at hv;have e1:m=ml:=congrArg Prod.fst (Option.some.inj hv);have e2:u=s2:=congrArg Prod.snd (Option.some.inj hv);subst e1 e2;have ne0:=W9 t cc (cc+1) (by omega);simp only[go_sem,seval,hok,hbx,ne0,hT,hb0];(repeat'((with_reducible first|apply wr|refine k_cu ?_ ?_|apply wb2<;>(intro hb;try simp only[hb]))<;>try simp only[go_sem,seval,hok,hHt,hbx,ne0,hT]));rw[hb0];refine G6 (B2a (by rfl) (by decide) (by clear hHH;cases o<;>rfl)) ?_;refine wAu (wJ ne0 @A0) ?_;rw[G4 (rv2 rfl A0)];exact⟨_,_,fin0 _,rfl,rfl⟩
  |true =>
   by_cases hlt:u.i<L.length
   ·rw[if_pos ⟨hok,hlt⟩]at hv;have hdl:decide ((u.i:Int)<(L.length:Int))=true:=by simpa using hlt
    refine wAx hok hHt hdl ?_;refine AC.call (c_is L E u _ _ t hHt (by omega) _) ?_;rintro v H' c3 ⟨rfl,rfl⟩ hc3;cases hmo:isR L E u [109,111,100,101] with
    |false =>
     rw[if_pos hmo]at hv;have e1:m=ml:=congrArg Prod.fst (Option.some.inj hv);have e2:X6 L E u=s2:=congrArg Prod.snd (Option.some.inj hv);subst e1 e2;have ne0:=W9 t cc (cc+1) (by omega);refine wAu hmo ?_;refine AC.call (c_syntax L E u _ _ t hHt (by omega)) ?_;rintro v H' c4 ⟨rfl,rfl⟩ hc4;simp only[go_sem,seval,ne0,A0,hbx,hb0,hT];(repeat'((with_reducible first|apply wr|refine k_cu ?_ ?_|apply wb2<;>(intro hb;try simp only[hb]))<;>try simp only[go_sem,seval,ne0,A0,hbx,hb0,hT]));refine G6 (B2a (by rfl) (by decide) (by clear hHH;cases o<;>rfl)) ?_;refine wAu (wJ ne0 @A0) ?_;rw[G4 (rv2 rfl A0)];exact⟨_,_,fin _ _,rfl,rfl⟩
    |true =>
     rw[if_neg (by rw[hmo];decide)]at hv;refine wAz hmo hbx hlen hw ?_;refine AC.call (c_limit L E u _ _ t hHt (by omega) _ _ _) ?_;rintro v H' c4 ⟨rfl,rfl⟩ hc4;have j1:(C6 L E u ((m.length:Int)+1) 16 9).i=u.i:=J4;have j2:=λh=>J6 (L:=L) (E:=E) (s:=u) (n:=(m.length:Int)+1) (m:=16) (e:=9) (by decide) h;generalize C6 L E u ((m.length:Int)+1) 16 9=u1 at hv j1 j2 ⊢;refine wAq ?_;refine AC.call (c_rdok L E u1 _ _ t A0 (by omega)) ?_;rintro v H' c5 ⟨rfl,rfl⟩ hc5;cases hok1:okR u1 with
     |false =>
      rw[if_neg (by rw[hok1];decide)]at hv;refine wAu hok1 ?_;refine⟨(g,o,m,u1),?_,inv ⟨a8,g9,by rw[j1];exact hi5,hno,(λi hi=>by have:=ho i hi;omega),hl1,hv⟩,by simp only;omega⟩;intro j b hj;by_cases e2:j=t
      ·subst e2;rw[B9 (λi hi=>by have:=ho i hi;omega),hnO,A0]at hj;rw[A0];exact hj
      ·rw[h_ne e2, <- hHH];cases o with
       |none =>
        simp only[optH]at hj ⊢;by_cases e1:j=cc+1
        ·subst e1;rw[A0]at hj ⊢;exact hj
        ·rw[h_ne e1,h_ne e2]at hj ⊢;exact hj
       |some i =>
        simp only[optH]at hj ⊢;by_cases e0:j=i
        ·subst e0;rw[A0]at hj ⊢;exact hj
        rw[h_ne e0]at hj ⊢;by_cases e1:j=cc+1
        ·subst e1;rw[A0]at hj ⊢;exact hj
        ·rw[h_ne e1,h_ne e2]at hj ⊢;exact hj
     |true =>
      rw[if_pos hok1]at hv;obtain⟨-,j3,rfl⟩:=j2 hok1;cases hmd:A6u L E g u1 with
      |none=>rw[hmd]at hv;cases hv
      |some qm =>
       obtain⟨md,u2⟩:=qm;rw[hmd]at hv;dsimp only at hv;have j6:=E4z hmd hi5;have ne0:=W9 t cc (cc+1) (by omega);refine wAu (wJ hok1 (wJ ne0 (wJ @A0 (wJ @A1 hbx)))) ?_;refine AC.call (c_mode L E hL g u1 (md,u2) hmd hi5 _ _ t A0 (by omega)) ?_;rintro v H' c6 ⟨rfl,rfl⟩ hc6;dsimp only;have ne0:=A1y t cc (cc+1) c6 (c6+1) (by omega);refine wAz ne0 @A0 @A1 hbx ?_;refine⟨⟨zag,by rw[hnO];exact hbn _ (by omega)⟩,?_⟩;have hl4:(cellsL (m.map Md.v)).length=m.length*4:=C3 (u:=4) (B8m _) |>.trans (by simp);refine wAy ne0 @A0 @A1 hbx ?_;rw[F9 (cs:=cellsL (m.map Md.v)) (λe=>by rw[hno e];exact⟨rfl,rfl⟩) (λi hi=>by have:=ho i hi;rw[hnO,hnO];exact hbo i hi) hl4 (by omega) (by omega) (by omega)];have hdx:∀X:Hp,delO X o (cc+1)=X (cc+1):=λX=>C5 (λi hi=>by have:=ho i hi;omega);have ne0:=A1y t cc (cc+1) (c5+4) c6 (by omega);refine wAu (wJ ne0 (wJ @A0 (wJ @A1 (wJ hdx hbx)))) ?_;refine⟨(g,some c6,m++[md],u2),?_,inv ⟨a8,g9,j6,(λh=>by cases h),(λi hi=>by cases hi;omega),u7,hv⟩,by simp only;omega⟩;intro j b hj;simp only[optH,A9y,A0A,A0I,A0S,C4]at hj;by_cases e1:j=cc+1
       ·subst e1;by_cases e3:cc+1=c6
        ·omega
        rw[h_ne e3,A0]at hj;rw[A0];exact hj
       rw[h_ne e1];by_cases e0:j=c6
       ·subst e0;rw[A0]at hj;rw[A0, <- hj];rfl
       rw[h_ne e0]at hj ⊢;rw[h_ne e1]at hj;by_cases e2:j=t
       ·subst e2;rw[A0]at hj;rw[C5 (λi hi=>by have:=ho i hi;omega),hnO,A0];exact hj
       rw[h_ne e2]at hj;by_cases e4:j=cc
       ·subst e4;rw[A0]at hj;rw[C5 (λi hi=>by have:=ho i hi;omega)]
        repeat rw[hnO]
        rw[hb0];exact hj
       ·rw[h_ne e4]at hj;have hjc:j<cc:=Classical.byContradiction λh=>by rw[hfr j (by omega)]at hj;cases hj
        rw[C5 (λi hi=>by have:=ho i hi;omega)]
        repeat rw[hnO]
        rw[hbj j hjc e2];exact hj
   ·rw[if_neg (by simp[hlt])]at hv;have hdl:decide ((u.i:Int)<(L.length:Int))=false:=by simpa using hlt
    have e1:m=ml:=congrArg Prod.fst (Option.some.inj hv);have e2:u=s2:=congrArg Prod.snd (Option.some.inj hv);subst e1 e2;have ne0:=W9 t cc (cc+1) (by omega);simp only[go_sem,seval,hok,hHt,hdl,hbx,ne0,hT,hb0];(repeat'((with_reducible first|apply wr|refine k_cu ?_ ?_|apply wb2<;>(intro hb;try simp only[hb]))<;>try simp only[go_sem,seval,hok,hHt,hdl,hbx,ne0,hT]));rw[hb0];refine G6 (B2a (by rfl) (by decide) (by clear hHH;cases o<;>rfl)) ?_;refine wAu (wJ ne0 @A0) ?_;rw[G4 (rv2 rfl A0)];exact⟨_,_,fin0 _,rfl,rfl⟩
 ·rw[if_neg hk]at hv0;have hdk:decide (B8 L E u F0≥0)=true:=by simp;omega
  have hHt:optH (((H.upd cc ⟨0,true,[.snil,.snil]⟩).upd t (rdR L E u)).upd (cc+1) ⟨0,true,[todoV o l.length,.snil]⟩) o ⟨4,true,cellsL (l.map Dc.v)⟩ t=some (rdR L E u):=r7
  have hbx:optH (((H.upd cc ⟨0,true,[.snil,.snil]⟩).upd t (rdR L E u)).upd (cc+1) ⟨0,true,[todoV o l.length,.snil]⟩) o ⟨4,true,cellsL (l.map Dc.v)⟩ (cc+1)=some ⟨0,true,[todoV o l.length,.snil]⟩:=n8
  have hbo:∀i:Nat,o=some i->optH (((H.upd cc ⟨0,true,[.snil,.snil]⟩).upd t (rdR L E u)).upd (cc+1) ⟨0,true,[todoV o l.length,.snil]⟩) o ⟨4,true,cellsL (l.map Dc.v)⟩ i=some ⟨4,true,cellsL (l.map Dc.v)⟩:=λi hi=>u5
  have hbj:∀j:Nat,j<cc->¬j=t->optH (((H.upd cc ⟨0,true,[.snil,.snil]⟩).upd t (rdR L E u)).upd (cc+1) ⟨0,true,[todoV o l.length,.snil]⟩) o ⟨4,true,cellsL (l.map Dc.v)⟩ j=H j:=λj h1 h2=>by rw[B9 (λi hi=>by have:=ho i hi;omega),hnO,h_ne h2,hnO]
  have hb0:optH (((H.upd cc ⟨0,true,[.snil,.snil]⟩).upd t (rdR L E u)).upd (cc+1) ⟨0,true,[todoV o l.length,.snil]⟩) o ⟨4,true,cellsL (l.map Dc.v)⟩ cc=some ⟨0,true,[.snil,.snil]⟩:=o6
  have hbn:∀j:Nat,c<=j->optH (((H.upd cc ⟨0,true,[.snil,.snil]⟩).upd t (rdR L E u)).upd (cc+1) ⟨0,true,[todoV o l.length,.snil]⟩) o ⟨4,true,cellsL (l.map Dc.v)⟩ j=none:=λj h1=>y9
  obtain⟨hok0,hi0, -⟩:=K2 (show 0<=B8 L E u F0 by omega);generalize hHH:optH (((H.upd cc ⟨0,true,[.snil,.snil]⟩).upd t (rdR L E u)).upd (cc+1) ⟨0,true,[todoV o l.length,.snil]⟩) o ⟨4,true,cellsL (l.map Dc.v)⟩=HH at hHt hbx hbo hbj hb0 hbn ⊢;generalize hkk:B8 L E u F0=k at hv0 hk hdk hkr ⊢;refine wAy hdk hbx hlen hw ?_;refine AC.call (c_limit L E u _ _ t hHt (by omega) _ _ _) ?_;rintro v H' c2 ⟨rfl,rfl⟩ hc2;have j1:(C6 L E u ((l.length:Int)+1) 128 9).i=u.i:=J4;have j2:=λh=>J6 (L:=L) (E:=E) (s:=u) (n:=(l.length:Int)+1) (m:=128) (e:=9) (by decide) h;generalize C6 L E u ((l.length:Int)+1) 128 9=u1 at hv0 j1 j2 ⊢;refine wAq ?_;refine AC.call (c_rdok L E u1 _ _ t A0 (by omega)) ?_;rintro v H' c3 ⟨rfl,rfl⟩ hc3;cases hok:okR u1 with
  |false =>
   rw[if_neg (by rw[hok];decide)]at hv0;refine wA9 c_decls31 hok ?_;refine AC.call (c_among L E u1 _ _ t A0 (by omega) F0 (by decide)) ?_;rintro v H' c4 ⟨rfl,rfl⟩ hc4;refine wAq ?_;refine⟨(g,o,l,u1),i6,?_,inv ⟨a8,g9,by rw[j1];exact hi5,hno,(λi hi=>by have:=ho i hi;omega),hl1,hv0⟩,by simp only;omega⟩;intro j b hj;by_cases e2:j=t
   ·subst e2;rw[B9 (λi hi=>by have:=ho i hi;omega),hnO,A0]at hj;rw[A0];exact hj
   ·rw[h_ne e2, <- hHH];cases o with
    |none =>
     simp only[optH]at hj ⊢;by_cases e1:j=cc+1
     ·subst e1;rw[A0]at hj ⊢;exact hj
     ·rw[h_ne e1,h_ne e2]at hj ⊢;exact hj
    |some i =>
     simp only[optH]at hj ⊢;by_cases e0:j=i
     ·subst e0;rw[A0]at hj ⊢;exact hj
     rw[h_ne e0]at hj ⊢;by_cases e1:j=cc+1
     ·subst e1;rw[A0]at hj ⊢;exact hj
     ·rw[h_ne e1,h_ne e2]at hj ⊢;exact hj
  |true =>
   rw[if_pos hok]at hv0;obtain⟨-,j3,rfl⟩:=j2 hok;simp only[go_sem,seval,hok];have ne0:=W9 t cc (cc+1) (by omega);refine wA0 hok ne0 @A0 @A1 hbx ?_;refine AC.call (c_declaration L E u1 _ _ t A0 (by omega) hL hv k (by omega) (by omega) (by omega)) ?_;rintro v H' c4 ⟨rfl,rfl⟩ hc4;have ne0:=A1y t cc (cc+1) c4 (c4+1) (by omega);refine wAz ne0 @A0 @A1 hbx ?_;refine⟨⟨zag,by rw[hnO];exact hbn _ (by omega)⟩,?_⟩;have hl4:(cellsL (l.map Dc.v)).length=l.length*4:=C3 (u:=4) (A9k _) |>.trans (by simp);refine wAy ne0 @A0 @A1 hbx ?_;rw[F9 (cs:=cellsL (l.map Dc.v)) (λe=>by rw[hno e];exact⟨rfl,rfl⟩) (λi hi=>by have:=ho i hi;rw[hnO,hnO];exact hbo i hi) hl4 (by omega) (by omega) (by omega)];have hdx:∀X:Hp,delO X o (cc+1)=X (cc+1):=λX=>C5 (λi hi=>by have:=ho i hi;omega);have ne0:=A1y t cc (cc+1) (c3+5) c4 (by omega);refine wA9 c_decls31 (wJ ne0 (wJ @A0 (wJ @A1 (wJ hdx hbx)))) ?_;refine AC.call (c_among L E (Z3 L E k u1).2 _ _ t (by rw[hnO,hnO,C5 (λi hi=>by have:=ho i hi;omega),hnO,A0]) (by omega) F0 (by decide)) ?_;rintro v H' c5 ⟨rfl,rfl⟩ hc5;refine wAq ?_;refine⟨(g,some c4,l++[(Z3 L E k u1).1],(Z3 L E k u1).2),i6,?_,inv ⟨a8,g9,E5o (by omega),(λh=>by cases h),(λi hi=>by cases hi;omega),u7,hv0⟩,by simp only;omega⟩;intro j b hj;simp only[optH,A9y,A0A,A0I,A0S,C4]at hj;by_cases e1:j=cc+1
   ·subst e1;by_cases e3:cc+1=c4
    ·omega
    rw[h_ne e3,A0]at hj;rw[A0];exact hj
   rw[h_ne e1];by_cases e0:j=c4
   ·subst e0;rw[A0]at hj;rw[A0, <- hj];rfl
   rw[h_ne e0]at hj ⊢;rw[h_ne e1]at hj;by_cases e2:j=t
   ·subst e2;rw[A0]at hj;rw[C5 (λi hi=>by have:=ho i hi;omega),hnO,A0];exact hj
   rw[h_ne e2]at hj;by_cases e4:j=cc
   ·subst e4;rw[A0]at hj;rw[C5 (λi hi=>by have:=ho i hi;omega)]
    repeat rw[hnO]
    rw[hb0];exact hj
   ·rw[h_ne e4]at hj;have hjc:j<cc:=Classical.byContradiction λh=>by rw[hfr j (by omega)]at hj;cases hj
    rw[C5 (λi hi=>by have:=ho i hi;omega)]
    repeat rw[hnO]
    rw[hbj j hjc e2];exact hj
theorem c_letter(c:UInt8):PC Tryz.prog 169 [.int .u8 c.toNat] (.bool (ltB c)):=by
 refine PC.go A3 ?_;repeat'((with_reducible first|apply wr|refine k_cu ?_ ?_|apply wb2<;>(intro hb;try simp only[hb]))<;>try simp only[go_sem,seval])
 all_goals(refine A4 (congrArg DV.bool ?_);rw[A2G];simp_all[ltB]<;>omega)
theorem c_digit(c:UInt8):PC Tryz.prog 190 [.int .u8 c.toNat] (.bool (dgB c)):=by
 refine PC.go A3 ?_;repeat'((with_reducible first|apply wr|refine k_cu ?_ ?_|apply wb2<;>(intro hb;try simp only[hb]))<;>try simp only[go_sem,seval])
 all_goals(refine A4 (congrArg DV.bool ?_);rw[A2G];simp_all[dgB]<;>omega)
theorem c_letterR(c:UInt8):PC Tryz.prog 106 [.int .u8 c.toNat] (.bool (ltB c)):=by
 refine PC.go A3 ?_;repeat'((with_reducible first|apply wr|refine k_cu ?_ ?_|apply wb2<;>(intro hb;try simp only[hb]))<;>try simp only[go_sem,seval])
 all_goals(refine A4 (congrArg DV.bool ?_);rw[A2G];simp_all[ltB]<;>omega)
theorem c_digitR(c:UInt8):PC Tryz.prog 108 [.int .u8 c.toNat] (.bool (dgB c)):=by
 refine PC.go A3 ?_;repeat'((with_reducible first|apply wr|refine k_cu ?_ ?_|apply wb2<;>(intro hb;try simp only[hb]))<;>try simp only[go_sem,seval])
 all_goals(refine A4 (congrArg DV.bool ?_);rw[A2G];simp_all[dgB]<;>omega)
theorem c_part(c:UInt8):PC Tryz.prog 171 [.int .u8 c.toNat] (.bool (ptB c)):=by
 refine PC.go A3 ?_;repeat'((with_reducible first|apply wr|refine cpc (c_letter c) ?_|refine cpc (c_digit c) ?_|refine k_cu ?_ ?_|apply wb2<;>(intro hb;try simp only[hb]))<;>try simp only[go_sem,seval])
 all_goals(refine A4 (congrArg DV.bool ?_);rw[A2G];simp_all[ptB]<;>omega)
theorem c_span{p:UInt8->Bool}{f:Nat}{a cs:List DV}(s:List UInt8)(hs:s.length<=9223372036854775807)(na:DV.nlL a=true)(ncs:DV.nlL cs=true)(hf:∀x∈s,PC Tryz.prog f (a++[.int .u8 x.toNat]++cs) (.bool (p x))):
  PC Tryz.prog 170 [.str s,.func f a cs] (I64 (F3 p s)):=by
 refine PC.ofT A3 rfl (A0F rfl) (by simp[DV.nlL,DV.nl,na,ncs]) rfl ?_;refine wAp ?_;refine A9 (λk:Nat=>[(0,.str s),(1,.func f a cs),(5,I64 k)]) (λ_=>nil) (λk _=>k<=s.length/\k<=F3 p s) (λk=>s.length-k) 0 (by simp[B5,tm,Tm.upd]) (Sub.nil _) (by simp) ?_;rintro k c ⟨hk,he⟩;by_cases hlt:k<s.length
 ·have hd:=dtz hlt;have hg:=A0B hlt;have hw:=w64 (n:=(k:Int)+1);have hst:=B2o hg he;have hc:=hf s[k] (A0O hlt);repeat'((with_reducible first|apply wr|refine cpc hc ?_|refine k_cu ?_ ?_|apply wb2<;>(intro hb;try simp only[hb]))<;>try simp only[go_sem,seval,hd,hg,hw])
  ·exact⟨k+1,rfl,Sub.refl _,inv ⟨a8,hst.1 hb⟩,by omega⟩
  ·refine A4 ?_;rw[hst.2 hb]
 ·have hd:=dfz hlt;refine wAs hd ?_;refine A4 ?_;rw[C0e (by omega) he]
theorem c_spanPt(s:List UInt8)(hs:s.length<=9223372036854775807):PC Tryz.prog 170 [.str s,.func 171 [] []] (I64 (F3 ptB s)) :=
 c_span s hs rfl rfl λx _=>c_part x
end Go.Proofs.YtnkkfehegdplgaaGreatDoor
end
