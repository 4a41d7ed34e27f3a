/-
  HELPERS of the claim: part 12 of its texts.
-/
import Derived.Test.YtdclpmddofggcaaGreatDoorCbdk
import Derived.Test.YtdclpmddofggcaaGreatDoorProg
noncomputable section
set_option maxHeartbeats 8000000
set_option maxRecDepth 100000
set_option linter.unusedSimpArgs false
set_option linter.unusedVariables false
namespace Go.Proofs.YtdclpmddofggcaaGreatDoor
open Go.Eng (IC IOper DReg IFn L4)
open Go.Sym Go.Pb
theorem C4f{L:List Tok}{E:Int}{g:Nat}{l:List Hd}{s:Rd}{r:List Hd × Rd}(h:R8 L E g l s=some r)(ho:okR s=false):r.2=s:=by
 cases g with
 |zero=>simp[R8]at h
 |succ g =>
  unfold R8 at h;dsimp only at h;rw[ho,if_neg (by simp),A6q ho]at h;cases h;rfl
theorem D2c{L:List Tok}{E:Int}{s:Rd}{w:List UInt8}(h:isR L E s w=true):D9 L E s w=A6 s:=by unfold D9;rw[h,if_neg (by decide)]
theorem D0t{L:List Tok}{E:Int}{g:Nat}{l:List Hd}{u:Rd}{r:List Hd × Rd}(hok:okR u=true)(hnb:isR L E u [125]=false)(hon:isR L E u [111,110]=true)(hl:l.length+1<=32)(h:R8 L E (g+1) l u=some r):
  ∃q,hdM L E g u=some q/\(okR q.2=true->R8 L E g (l++[q.1]) q.2=some r)/\(okR q.2=false->r.2=q.2):=by
 unfold R8 at h;dsimp only at h;rw[if_pos ⟨hok,hnb⟩,if_neg (by simp[hon]),A1k (by omega),D2c hon]at h;unfold hdM;dsimp only;by_cases hk:B8 L E (A6 u) F1<0
 ·rw[if_pos hk]at h ⊢;cases h;exact⟨_,rfl,λk=>(by rw[Z0]at k;cases k),λ_=>rfl⟩
 ·rw[if_neg hk]at h ⊢;generalize (if 2<=B8 L E (A6 u) F1 then(A7 L E (A6 (A6 u)) 1).2 else A6 (A6 u))=s4 at h ⊢;cases hb:K5 L E g 1 s4 with
  |none=>rw[hb]at h;cases h
  |some qb =>
   obtain⟨bd,m5⟩:=qb;rw[hb]at h;dsimp only at h ⊢;exact⟨_,rfl,λ_=>h,λk=>C4f h k⟩
theorem c_pmode(L:List Tok)(E:Int)(hL:L.length<=1000000000)(hK:∀t∈L,K8 t)(f:Nat)(s:Rd)(r:Md × Rd)(h:A3h L E f s=some r)(hP:PI L s)(hmo:isP L E s 2 [[109,111,100,101]]=true):
  ∀(H:Hp) (cc t:Nat),H t=some (paB L E s)->t<cc->AC Tryz.prog 46 [.ptr t 0] H cc (λv H' c' => ∃x s',v=Md.v x/\H'=H.upd t (paB L E s')/\Eqv s' r.2/\(okR r.2=true->x=r.1)/\PI L s'):=by
 intro H cc t ht htc;obtain⟨hok0,hi0,hk2⟩:=U2 (by decide) hmo;have htk:A7 L E s 2=(A4 L E s,A6 s):=by
  have hkk:I9 L E s 2=true:=by unfold I9;rw[hok0,hk2];rfl
  unfold A7;rw[hkk,if_neg (by decide)]
 have hP1:=hP.nxt hi0;unfold A3h at h;dsimp only at h;have hmoR:isR L E s [109,111,100,101]=true:=by rw[X9 hK (by decide +kernel)];exact hmo
 rw[D2c hmoR]at h;have hri0:=hP.i;have hri1:=hP1.i;have b2:=(hP1.take (E:=E) (x:=1) (by decide)).1;generalize hs1:A6 s=s1 at h b2 hP1 hri1 htk;have b3:=(b2.take (E:=E) (x:=3) (by decide)).1;have b4:=(b3.want (E:=E) (k:=5) (w:=[123]) (by decide)).1;rw[A2c hK (by decide +kernel)]at b4;refine AC.bodyT A2 rfl (A0C rfl) λhfr=>?_;refine wAp ?_;refine AC.call (c_ptake L E s _ _ t (by rw[hnO];exact ht) (by omega) (by omega) 2) ?_;rintro v H' c1 ⟨rfl,rfl⟩ hc1;rw[htk];have ne0:=M7 t cc c1 (by omega);refine wAy ne0 @A0 @A1 ?_;refine AC.call (c_ptake L E s1 _ _ t (by repeat (first|exact A0|rw[hnO])) (by omega) (by omega) 1) ?_;rintro v H' c3 ⟨rfl,rfl⟩ hc3;refine wAy ne0 @A0 @A1 ?_;generalize (A7 L E s1 1).1.text=n at h ⊢;generalize (A7 L E s1 1).2=s2 at h b2 b3 b4 ⊢;have hri2:=b2.i;refine AC.call (c_ptake L E s2 _ _ t (by repeat (first|exact A0|rw[hnO])) (by omega) (by omega) 3) ?_;rintro v H' c4 ⟨rfl,rfl⟩ hc4;refine wAy ne0 @A0 @A1 ?_;have hri3:=b3.i;refine AC.call (c_want L E (A7 L E s2 3).2 _ _ t (by repeat (first|exact A0|rw[hnO])) (by omega) (by omega) 5 [123]) ?_;rintro v H' c5 ⟨rfl,rfl⟩ hc5;rw[A2c hK (by decide +kernel)];generalize (A7 L E s2 3).1.value=z at h ⊢;generalize D9 L E (A7 L E s2 3).2 [123]=s3 at h b4 ⊢;generalize (A4 L E s).pos=p at h ⊢;cases hm:R8 L E f [] s3 with
 |none=>rw[hm]at h;cases h
 |some q =>
  obtain⟨hl,s4⟩:=q;rw[hm]at h;dsimp only at h;cases h;refine wAy ne0 @A0 @A1 ?_;refine B6 (λ_:Nat × Option Nat × List Hd × Rd=>[(0,.ptr t 0),(2,.ptr cc 0),(3,.ptr c1 0)]) (λq=>optH (((H.upd cc ⟨0,true,[.str [],I64 0,.snil,I64 0]⟩).upd c1 ⟨0,true,[.str n,I64 z,todoV q.2.1 q.2.2.1.length,I64 p]⟩).upd t (paB L E q.2.2.2)) q.2.1 ⟨4,true,cellsL (q.2.2.1.map Hd.v)⟩)
   (λq c=>c1+1<=c/\q.1<=f/\(q.2.1=none->q.2.2.1=[])/\(∀i,q.2.1=some i->c1<i/\i<c)/\q.2.2.1.length<=32/\PI L q.2.2.2/\((okR q.2.2.2=true/\R8 L E q.1 q.2.2.1 q.2.2.2=some (hl,s4))\/(okR q.2.2.2=false/\Eqv q.2.2.2 s4))) (λq=>q.1) (f,none,[],s3)
   (by simp[B5,tm,Tm.upd]) (λj b hj=>?_) ⟨b8,A0D _,λ_=>rfl,(λi hi=>by cases hi),by simp,b4,by
    cases ho:okR s3 with
    |true=>exact .inl ⟨rfl,hm⟩
    |false=>exact .inr ⟨rfl,by have:=C4f hm ho;dsimp only at this;rw[this];exact .refl _⟩⟩ ?_
  ·simp only[optH,A7a]at hj;by_cases e1:j=t
   ·subst e1;rw[A0]at hj ⊢;exact hj
   ·rw[h_ne e1]at hj ⊢;by_cases e2:j=c1
    ·subst e2;rw[A0]at hj ⊢;exact hj
    ·rw[h_ne e2]at hj ⊢;simp only[h_ne e1,h_ne e2];exact hj
  clear hm b2 b3 b4;rintro⟨g,o,l,u⟩ c ⟨hc,hg,hno,ho,hl1,hPu,hv⟩;dsimp only at hc hg hno ho hl1 hPu hv ⊢;have hriu:=hPu.i;have hHt:optH (((H.upd cc ⟨0,true,[.str [],I64 0,.snil,I64 0]⟩).upd c1 ⟨0,true,[.str n,I64 z,todoV o l.length,I64 p]⟩).upd t (paB L E u)) o ⟨4,true,cellsL (l.map Hd.v)⟩ t=some (paB L E u):=j7
  have hbx:(optH (((H.upd cc ⟨0,true,[.str [],I64 0,.snil,I64 0]⟩).upd c1 ⟨0,true,[.str n,I64 z,todoV o l.length,I64 p]⟩).upd t (paB L E u)) o ⟨4,true,cellsL (l.map Hd.v)⟩) c1=some ⟨0,true,[.str n,I64 z,todoV o l.length,I64 p]⟩:=n9
  have hbo:∀i:Nat,o=some i->(optH (((H.upd cc ⟨0,true,[.str [],I64 0,.snil,I64 0]⟩).upd c1 ⟨0,true,[.str n,I64 z,todoV o l.length,I64 p]⟩).upd t (paB L E u)) o ⟨4,true,cellsL (l.map Hd.v)⟩) i=some ⟨4,true,cellsL (l.map Hd.v)⟩:=λi hi=>o9
  have hbj:∀j:Nat,j<cc->¬j=t->(optH (((H.upd cc ⟨0,true,[.str [],I64 0,.snil,I64 0]⟩).upd c1 ⟨0,true,[.str n,I64 z,todoV o l.length,I64 p]⟩).upd t (paB L E u)) o ⟨4,true,cellsL (l.map Hd.v)⟩) j=H j:=λj h1 h2=>by rw[A8 (λi hi=>by have:=ho i hi;omega),h_ne h2,hnO,hnO]
  have hb0:(optH (((H.upd cc ⟨0,true,[.str [],I64 0,.snil,I64 0]⟩).upd c1 ⟨0,true,[.str n,I64 z,todoV o l.length,I64 p]⟩).upd t (paB L E u)) o ⟨4,true,cellsL (l.map Hd.v)⟩) cc=some ⟨0,true,[.str [],I64 0,.snil,I64 0]⟩:=m0
  have hbn:∀j:Nat,c<=j->(optH (((H.upd cc ⟨0,true,[.str [],I64 0,.snil,I64 0]⟩).upd c1 ⟨0,true,[.str n,I64 z,todoV o l.length,I64 p]⟩).upd t (paB L E u)) o ⟨4,true,cellsL (l.map Hd.v)⟩) j=none:=λj h1=>s9
  have hT:(todoV o l.length).one=true:=z7
  have hlen:A3i (todoV o l.length)=some (I64 l.length):=by
   cases o with
   |none=>rw[hno rfl];rfl
   |some b=>rfl
  generalize hHH:optH (((H.upd cc ⟨0,true,[.str [],I64 0,.snil,I64 0]⟩).upd c1 ⟨0,true,[.str n,I64 z,todoV o l.length,I64 p]⟩).upd t (paB L E u)) o ⟨4,true,cellsL (l.map Hd.v)⟩=HH at hHt hbx hbo hbj hb0 hbn ⊢;have fin:∀(u2:Rd) (e:DV) (x:Blk) (q1 q2:DV),GL ((HH.upd t (paB L E u2)).upd cc x) [.agg [q1,q2,todoV o l.length,e]] (H.upd t (paB L E u2)) [.agg [q1,q2,O0 l,e]]:=λu2 e x q1 q2 =>
   D1x (cc:=cc) l (B7 hfr htc) (λi hi=>by have:=ho i hi;omega) hno (λi hi=>by have:=ho i hi;rw[hnO,hnO];exact hbo i hi) (λj hj=>by
    rw[hnO];by_cases e1:j=t
    ·subst e1;rw[A0,A0]
    ·rw[h_ne e1,h_ne e1,hbj j hj e1])
  refine wAp ?_;refine AC.call (c_pisO L E u HH _ t c (hbn c (A0D _)) hHt (by omega) 2 [[111,110]] (by simp)) ?_;rintro v H' c6 ⟨rfl,rfl⟩ hc6;have hend:isP L E u 2 [[111,110]]=false->Eqv (H8 L E u 5 [125]) s4/\(okR s4=true->l=hl):=λhon=>by
   rcases hv with ⟨hok,hv⟩|⟨hok,hv⟩
   ·cases g with
    |zero=>simp[R8]at hv
    |succ g =>
     unfold R8 at hv;dsimp only at hv;by_cases hb:isR L E u [125]=false
     ·rw[if_pos ⟨hok,hb⟩,if_pos (by rw[X9 hK (by decide +kernel)];exact hon)]at hv;cases hv;have hw:H8 L E u 5 [125]=R6 L E u:=by rw[H8, <- I4 hK (by decide +kernel),if_pos hb];rfl
      rw[hw];exact⟨.refl _,λ_=>rfl⟩
     ·rw[if_neg (λhh=>hb hh.2)]at hv;cases hv;rw[A2c hK (by decide +kernel)];exact⟨.refl _,λ_=>rfl⟩
   ·rw[B0a hok];exact⟨hv,λk=>by rw[<- hv.ok,hok]at k;cases k⟩
  cases hon:isP L E u 2 [[111,110]] with
  |false =>
   obtain⟨r1,r2⟩:=hend hon;have b7:=(hPu.want (E:=E) (k:=5) (w:=[125]) (by decide)).1;refine wAu hon ?_;refine AC.call (c_want L E u _ _ t hHt (by omega) (by omega) 5 [125]) ?_;rintro v H' c7 ⟨rfl,rfl⟩ hc7;refine wA3 ne0 @A0 hbx hb0 hT ?_;refine G7 (A3c (by rfl) (by decide) (by clear hHH;cases o<;>rfl)) ?_;refine wAu (wJ ne0 @A0) ?_;rw[C9 (rv4 rfl A0)];exact⟨_,_,fin _ _ _ _ _,⟨n,z,l,p⟩,_,rfl,rfl,r1,λk=>(by rw[r2 k]),b7⟩
  |true =>
   obtain⟨hok,hlt,hkd2⟩:=U2 (by decide) hon;have hv:R8 L E g l u=some (hl,s4):=by
    rcases hv with ⟨-,hv⟩|⟨hn, -⟩
    ·exact hv
    ·rw[hok]at hn;cases hn
   have hnb:isR L E u [125]=false:=by
    rw[I4 hK (by decide +kernel)];unfold isP;rw[hkd2];simp
   have honR:isR L E u [111,110]=true:=by rw[X9 hK (by decide +kernel)];exact hon
   cases g with
   |zero=>simp[R8]at hv
   |succ g =>
   by_cases h32:l.length=32
   ·have hd32:((l.length:Int)==32)=true:=by simp;omega
    have hs4:s4=pfl L E u 9:=by
     unfold R8 at hv;dsimp only at hv;have hl9:D3 L E u ((l.length:Int)+1) 32 9=pfl L E u 9:=u5
     have hnk:okR (pfl L E u 9)=false:=p7
     rw[if_pos ⟨hok,hnb⟩,if_neg (by simp[honR]),hl9,A6q hnk,B8,A2q hnk,if_pos (by decide),A9f hnk]at hv;cases hv;rfl
    have hnk:okR (pfl L E u 9)=false:=p7
    refine wA0 hon hbx hlen hd32 ?_;refine AC.call (c_pfail L E u _ _ t hHt (by omega) 9) ?_;rintro v H' c7 ⟨rfl,rfl⟩ hc7;have b7:=hPu.fl (E:=E) (e:=9);have hri7:=b7.i;refine wAq ?_;refine AC.call (c_want L E (pfl L E u 9) _ _ t A0 (by omega) (by omega) 5 [125]) ?_;rintro v H' c8 ⟨rfl,rfl⟩ hc8;rw[B0a hnk,A1];refine wA3 ne0 @A0 hbx hb0 hT ?_;refine G7 (A3c (by rfl) (by decide) (by clear hHH;cases o<;>rfl)) ?_;refine wAu (wJ ne0 @A0) ?_;rw[C9 (rv4 rfl A0)];refine⟨_,_,fin _ _ _ _ _,⟨n,z,l,p⟩,_,rfl,rfl,by rw[hs4];exact .refl _,λk=>?_,b7⟩;rw[hs4,hnk]at k;cases k
   have hd32:((l.length:Int)==32)=false:=a8
   obtain⟨q,hq1,hq2,hq3⟩:=D0t hok hnb honR (by omega) hv;refine wA0 hon hbx hlen hd32 ?_;refine AC.call (c_phand L E hL hK g u q hq1 hPu hon _ _ t hHt (by omega)) ?_;rintro v H' c7 ⟨x,s5,rfl,rfl,y1,y2,y3⟩ hc7;have ne0:=S7 t cc c1 (c6+4) c7 (by omega);refine wA0 ne0 @A0 @A1 hbx ?_;refine⟨⟨s7,by rw[hnO];exact hbn _ (by omega)⟩,?_⟩;have hl4:(cellsL (l.map Hd.v)).length=l.length*4:=C7 (u:=4) (A2m _) |>.trans (by simp);refine S8 (D4 (cs:=cellsL (l.map Hd.v)) (λe=>by rw[hno e];exact⟨rfl,rfl⟩) (λi hi=>?_) hl4 (by omega) (by omega) (by omega)) ?_
   ·have:=ho i hi
    repeat rw[hnO]
    exact hbo i hi
   have hdx:∀X:Hp,delO X o c1=X c1:=λX=>A9 (λi hi=>by have:=ho i hi;omega);refine wA3 ne0 @A0 @A1 hdx hbx ?_;refine⟨(g,some c7,l++[x],s5),?_,inv ⟨b8,g9,(λh=>by cases h),(λi hi=>by cases hi;omega),o8,y3,?_⟩,by simp only;omega⟩
   ·intro j b hj;simp only[optH,A2g,A0A,A0E,A0P,C8]at hj;by_cases e1:j=c7
    ·subst e1;rw[A0]at hj;rw[hnO,A0, <- hj];rfl
    rw[h_ne e1]at hj;by_cases e2:j=t
    ·subst e2;rw[A0]at hj;rw[hnO,hnO,A9 (λi hi=>by have:=ho i hi;omega),hnO,A0];exact hj
    rw[h_ne e2]at hj;by_cases e3:j=c1
    ·subst e3;rw[A0]at hj ⊢;exact hj
    rw[h_ne e3]at hj ⊢;by_cases e4:j=cc
    ·subst e4;rw[A0]at hj;rw[hnO,A9 (λi hi=>by have:=ho i hi;omega)]
     repeat rw[hnO]
     rw[hb0];exact hj
    ·rw[h_ne e4]at hj;have hjc:j<cc:=Classical.byContradiction λh=>by rw[hfr j (by omega)]at hj;cases hj
     rw[hnO,A9 (λi hi=>by have:=ho i hi;omega)]
     repeat rw[hnO]
     rw[hbj j hjc e2];exact hj
   ·dsimp only;cases k:okR q.2 with
    |true =>
     have e5:=y1.s k;rw[y2 k,e5];exact .inl ⟨k,hq2 k⟩
    |false =>
     have e5:=hq3 k;dsimp only at e5;rw[e5];exact .inr ⟨by rw[y1.ok,k],y1⟩
theorem A9k{L:List Tok}{E:Int}{g:Nat}{l:List Md}{s:Rd}{r:List Md × Rd}(h:R7 L E g l s=some r)(ho:okR s=false):r=(l,s):=by
 cases g with
 |zero=>simp[R7]at h
 |succ g =>
  unfold R7 at h;dsimp only at h;rw[ho,if_neg (by simp)]at h;cases h;rfl
theorem C3h{L:List Tok}{E:Int}{g:Nat}{l:List Dc}{s:Rd}{r:List Dc × Rd}(h:T5 L E g l s=some r)(ho:okR s=false):r=(l,s):=by
 cases g with
 |zero=>simp[T5]at h
 |succ g =>
  unfold T5 at h;dsimp only at h;rw[B8,A2q ho,if_pos (by decide)]at h;cases h;rfl
theorem C9y{L:List Tok}{E:Int}(hK:∀t∈L,K8 t){s:Rd}{w:List UInt8}(hw:G9 w=false)(h:PI L s):PI L (D9 L E s w):=by
 rw[<- A2c hK hw];exact(h.want (by decide)).1
theorem E0n{L:List Tok}{E:Int}(hK:∀t∈L,K8 t){s:Rd}{k:Int}(h:PI L s)(hi:s.i<L.length):PI L (R0 L E k s).2:=by
 unfold R0;dsimp only;have h1:=((h.nxt hi).take (E:=E) (x:=1) (by decide)).1;generalize (A7 L E (A6 s) 1).2=s2 at h1 ⊢;split
 ·have h2:PI L (if(k+1==6&&isR L E s2 [45])=true then A6 s2 else s2):=by
   split
   ·rename_i hh;simp only[A0F]at hh;exact h1.nxt (A0m hh.2).2
   ·exact h1
  exact C9y hK (by decide +kernel) ((h2.take (E:=E) (x:=3) (by decide)).1)
 ·exact C9y hK (by decide +kernel) h1
theorem c_prules(L:List Tok)(E:Int)(hL:L.length<=1000000000)(hv0:∀x∈L,0<=x.value/\x.value<=9223372036854775807)(hK:∀t∈L,K8 t)(f:Nat)(s:Rd)(r:Ru × Rd)(h:A7e L E f s=some r)(hP:PI L s):
  ∀(H:Hp) (cc t:Nat),H t=some (paB L E s)->t<cc->AC Tryz.prog 23 [.ptr t 0] H cc (λv H' c' => ∃x s',v=Ru.v x/\H'=H.upd t (paB L E s')/\Eqv s' r.2/\(okR r.2=true->x=r.1)/\PI L s'):=by
 intro H cc t ht htc;refine AC.bodyT A2 rfl (A0C rfl) λhfr=>?_;unfold A7e at h;cases hd:T5 L E f [] s with
 |none=>rw[hd]at h;cases h
 |some q =>
 obtain⟨dl,s1⟩:=q;rw[hd]at h;dsimp only at h;cases hm:R7 L E f [] s1 with
 |none=>rw[hm]at h;cases h
 |some q =>
 obtain⟨ml,s2⟩:=q;rw[hm]at h;cases h;have tail:∀(o:Option Nat) (l:List Dc) (u:Rd) (c:Nat),cc+2<=c->(o=none->l=[])->(∀i,o=some i->cc+1<i/\i<c)->PI L u->((okR u=true/\l=dl/\u=s1)\/(okR u=false/\Eqv u s1)) ->
   IW Tryz.prog 39 (pz Tryz.prog 23 (.o (.o (.o (.i .h))))) ⟨tm [(0,.ptr t 0),(2,.ptr cc 0),(3,.ptr (cc+1) 0)],optH (((H.upd cc ⟨0,true,[.snil,.snil]⟩).upd t (paB L E u)).upd (cc+1) ⟨0,true,[todoV o l.length,.snil]⟩) o ⟨4,true,cellsL (l.map Dc.v)⟩,c⟩ (rt [.cell 2 2 true] λv H' c' => ∃v2 H2,GL H' [v] H2 [v2]/\∃x s',v2=Ru.v x/\H2=H.upd t (paB L E s')/\Eqv s' s2/\(okR s2=true->x=⟨dl,ml⟩)/\PI L s'):=by
  intro o l u c hc hno ho hPu hv;refine IW.keep [0,2,3] [.ptr t 0,.ptr cc 0,.ptr (cc+1) 0] (g_fin (Hb:=(H.upd cc ⟨0,true,[.snil,.snil]⟩).upd t (paB L E u)) (ci:=cc+1) (u:=4) (pre:=[]) (suf:=[.snil]) (xs:=l.map Dc.v) (by simp[DV.one]) (λh=>by rw[hno h];rfl) (λi hi=>by have:=ho i hi;exact⟨b8,by rw[hnO,hnO];exact hfr i (by omega)⟩) (by simp) (A1c _)) ?_;refine wAp ?_;refine B6 (λq:Nat × Option Nat × List Md × Rd=>[(0,.ptr t 0),(2,.ptr cc 0),(3,.ptr (cc+1) 0)]) (λq=>optH (((H.upd cc ⟨0,true,[.snil,.snil]⟩).upd t (paB L E q.2.2.2)).upd (cc+1) ⟨0,true,[D0 l,todoV q.2.1 q.2.2.1.length]⟩) q.2.1 ⟨4,true,cellsL (q.2.2.1.map Md.v)⟩)
   (λq c=>cc+2<=c/\q.1<=f/\(q.2.1=none->q.2.2.1=[])/\(∀i,q.2.1=some i->cc+1<i/\i<c)/\q.2.2.1.length<=16/\PI L q.2.2.2/\((okR q.2.2.2=true/\l=dl/\R7 L E q.1 q.2.2.1 q.2.2.2=some (ml,s2))\/(okR q.2.2.2=false/\Eqv q.2.2.2 s2))) (λq=>q.1) (f,none,[],u)
   (by simp[B5,tm,Tm.upd]) (λj b hj=>hj) ⟨b8,A0D _,λ_=>rfl,(λi hi=>by cases hi),by simp,hPu,by
    rcases hv with ⟨g1,g2,g3⟩|⟨g1,g2⟩
    ·exact .inl ⟨g1,g2,by dsimp only;rw[g3];exact hm⟩
    ·have:=A9k hm (by rw[<- g2.ok];exact g1);cases this;exact .inr ⟨g1,g2⟩⟩ ?_
  clear hv hno ho hPu;rintro⟨g,o,m,u⟩ c ⟨hc,hg,hno,ho,hl1,hPu,hv⟩;dsimp only at hc hg hno ho hl1 hPu hv ⊢;have hriu:=hPu.i;have hlen:A3i (todoV o m.length)=some (I64 m.length):=by
   cases o with
   |none=>rw[hno rfl];rfl
   |some b=>rfl
  have hHt:optH (((H.upd cc ⟨0,true,[.snil,.snil]⟩).upd t (paB L E u)).upd (cc+1) ⟨0,true,[D0 l,todoV o m.length]⟩) o ⟨4,true,cellsL (m.map Md.v)⟩ t=some (paB L E u):=n9
  have hbx:optH (((H.upd cc ⟨0,true,[.snil,.snil]⟩).upd t (paB L E u)).upd (cc+1) ⟨0,true,[D0 l,todoV o m.length]⟩) o ⟨4,true,cellsL (m.map Md.v)⟩ (cc+1)=some ⟨0,true,[D0 l,todoV o m.length]⟩:=j7
  have hbo:∀i:Nat,o=some i->optH (((H.upd cc ⟨0,true,[.snil,.snil]⟩).upd t (paB L E u)).upd (cc+1) ⟨0,true,[D0 l,todoV o m.length]⟩) o ⟨4,true,cellsL (m.map Md.v)⟩ i=some ⟨4,true,cellsL (m.map Md.v)⟩:=λi hi=>o9
  have hbj:∀j:Nat,j<cc->¬j=t->optH (((H.upd cc ⟨0,true,[.snil,.snil]⟩).upd t (paB L E u)).upd (cc+1) ⟨0,true,[D0 l,todoV o m.length]⟩) o ⟨4,true,cellsL (m.map Md.v)⟩ j=H j:=λj h1 h2=>r7
  have hb0:optH (((H.upd cc ⟨0,true,[.snil,.snil]⟩).upd t (paB L E u)).upd (cc+1) ⟨0,true,[D0 l,todoV o m.length]⟩) o ⟨4,true,cellsL (m.map Md.v)⟩ cc=some ⟨0,true,[.snil,.snil]⟩:=m0
  have hbn:∀j:Nat,c<=j->optH (((H.upd cc ⟨0,true,[.snil,.snil]⟩).upd t (paB L E u)).upd (cc+1) ⟨0,true,[D0 l,todoV o m.length]⟩) o ⟨4,true,cellsL (m.map Md.v)⟩ j=none:=λj h1=>s9
  have hT:(todoV o m.length).one=true:=z7
  generalize hHH:optH (((H.upd cc ⟨0,true,[.snil,.snil]⟩).upd t (paB L E u)).upd (cc+1) ⟨0,true,[D0 l,todoV o m.length]⟩) o ⟨4,true,cellsL (m.map Md.v)⟩=HH at hHt hbx hbo hbj hb0 hbn ⊢;have fin:∀(u2:Rd) (x:Blk),GL ((HH.upd t (paB L E u2)).upd cc x) [.agg [D0 l,todoV o m.length]] (H.upd t (paB L E u2)) [.agg [D0 l,D8 m]]:=λu2 x =>
   D1v (cc:=cc) m (B7 hfr htc) (λi hi=>by have:=ho i hi;omega) hno (λi hi=>by have:=ho i hi;rw[hnO,hnO];exact hbo i hi) (λj hj=>by
    rw[hnO];by_cases e1:j=t
    ·subst e1;rw[A0,A0]
    ·rw[h_ne e1,h_ne e1,hbj j hj e1])
  have ne0:=M7 t cc (cc+1) (by omega);refine wAp ?_;refine AC.call (c_pisO L E u HH _ t c (hbn c (A0D _)) hHt (by omega) 2 [[109,111,100,101]] (by simp)) ?_;rintro v H' c2 ⟨rfl,rfl⟩ hc2;cases hmo:isP L E u 2 [[109,111,100,101]] with
  |false =>
   have hres:Eqv (if u.i<L.length then pfl L E u 4 else u) s2/\(okR s2=true->(⟨l,m⟩:Ru)=⟨dl,ml⟩):=by
    rcases hv with ⟨hok,g1,hv⟩|⟨hok,hv⟩
    ·cases g with
     |zero=>simp[R7]at hv
     |succ g =>
      unfold R7 at hv;dsimp only at hv;by_cases hlt:u.i<L.length
      ·rw[if_pos ⟨hok,hlt⟩,if_pos (by rw[X9 hK (by decide +kernel)];exact hmo)]at hv;cases hv;rw[if_pos hlt,g1];exact⟨.refl _,λ_=>rfl⟩
      ·rw[if_neg (λhh=>hlt hh.2)]at hv;cases hv;rw[if_neg hlt,g1];exact⟨.refl _,λ_=>rfl⟩
    ·rw[show(if u.i<L.length then pfl L E u 4 else u)=u by rw[A0z hok];split<;>rfl];exact⟨hv,λk=>by rw[<- hv.ok,hok]at k;cases k⟩
   have b3:PI L (if u.i<L.length then pfl L E u 4 else u):=by
    split
    ·exact hPu.fl
    ·exact hPu
   refine wAu hmo ?_;refine AC.call (c_pend L E u _ _ t hHt (by omega)) ?_;rintro v H' c3 ⟨rfl,rfl⟩ hc3;generalize (if u.i<L.length then pfl L E u 4 else u)=u3 at hres b3 ⊢;refine wA3 ne0 @A0 hbx hb0 hT ?_;refine G7 (A3c (by rfl) (by decide) (by clear hHH;cases o<;>rfl)) ?_;refine wAu (wJ ne0 @A0) ?_;rw[C9 (rv2 rfl A0)];exact⟨_,_,fin _ _,⟨l,m⟩,u3,rfl,rfl,hres.1,hres.2,b3⟩
  |true =>
   obtain⟨hok,hlt,hkd2⟩:=U2 (by decide) hmo;obtain⟨hdl,hv⟩:l=dl/\R7 L E g m u=some (ml,s2):=by
    rcases hv with ⟨-,g1,hv⟩|⟨hn, -⟩
    ·exact⟨g1,hv⟩
    ·rw[hok]at hn;cases hn
   have hmoR:isR L E u [109,111,100,101]=true:=by rw[X9 hK (by decide +kernel)];exact hmo
   cases g with
   |zero=>simp[R7]at hv
   |succ g =>
   unfold R7 at hv;dsimp only at hv;rw[if_pos ⟨hok,hlt⟩,if_neg (by simp[hmoR])]at hv;by_cases h16:m.length=16
   ·have hd16:((m.length:Int)==16)=true:=by simp;omega
    have hl9:D3 L E u ((m.length:Int)+1) 16 9=pfl L E u 9:=u5
    have hnk:okR (pfl L E u 9)=false:=p7
    rw[hl9,if_neg (by rw[hnk];decide)]at hv;have e1:m=ml:=(congrArg Prod.fst (A9k hv hnk)).symm;have e2:pfl L E u 9=s2:=(congrArg Prod.snd (A9k hv hnk)).symm;subst e1 e2;have b3:=hPu.fl (E:=E) (e:=9);refine wA0 hmo hbx hlen hd16 ?_;refine AC.call (c_pfail L E u _ _ t hHt (by omega) 9) ?_;rintro v H' c3 ⟨rfl,rfl⟩ hc3;refine wAq ?_;refine AC.call (c_pend L E (pfl L E u 9) _ _ t A0 (by omega)) ?_;rintro v H' c4 ⟨rfl,rfl⟩ hc4;rw[show(if(pfl L E u 9).i<L.length then pfl L E (pfl L E u 9) 4 else pfl L E u 9)=pfl L E u 9 by rw[A0z hnk];split<;>rfl,A1];refine wA3 ne0 @A0 hbx hb0 hT ?_;refine G7 (A3c (by rfl) (by decide) (by clear hHH;cases o<;>rfl)) ?_;refine wAu (wJ ne0 @A0) ?_;rw[C9 (rv2 rfl A0)];exact⟨_,_,fin _ _,⟨l,m⟩,_,rfl,rfl,.refl _,λk=>(by rw[hnk]at k;cases k),b3⟩
   have hd16:((m.length:Int)==16)=false:=a8
   rw[A1k (by omega),if_pos hok]at hv;cases hmd:A3h L E g u with
   |none=>rw[hmd]at hv;cases hv
   |some qm =>
   obtain⟨md,u2⟩:=qm;rw[hmd]at hv;dsimp only at hv;refine wA0 hmo hbx hlen hd16 ?_;refine AC.call (c_pmode L E hL hK g u (md,u2) hmd hPu hmo _ _ t hHt (by omega)) ?_;rintro v H' c3 ⟨x,s5,rfl,rfl,y1,y2,y3⟩ hc3;dsimp only at y1 y2;have ne0:=S7 t cc (cc+1) (c2+4) c3 (by omega);refine wA0 ne0 @A0 @A1 hbx ?_;refine⟨⟨s7,by rw[hnO];exact hbn _ (by omega)⟩,?_⟩;have hl4:(cellsL (m.map Md.v)).length=m.length*4:=C7 (u:=4) (A6h _) |>.trans (by simp);refine S8 (D4 (cs:=cellsL (m.map Md.v)) (λe=>by rw[hno e];exact⟨rfl,rfl⟩) (λi hi=>by have:=ho i hi;rw[hnO,hnO];exact hbo i hi) hl4 (by omega) (by omega) (by omega)) ?_;have hdx:∀X:Hp,delO X o (cc+1)=X (cc+1):=λX=>A9 (λi hi=>by have:=ho i hi;omega);refine wA3 ne0 @A0 @A1 hdx hbx ?_;refine⟨(g,some c3,m++[x],s5),?_,inv ⟨b8,g9,(λh=>by cases h),(λi hi=>by cases hi;omega),o8,y3,?_⟩,by simp only;omega⟩
   ·intro j b hj;simp only[optH,A2g,A0A,A0E,A0P,C8]at hj;by_cases e1:j=cc+1
    ·subst e1;by_cases e3:cc+1=c3
     ·omega
     rw[h_ne e3,A0]at hj;rw[A0];exact hj
    rw[h_ne e1];by_cases e0:j=c3
    ·subst e0;rw[A0]at hj;rw[A0, <- hj];rfl
    rw[h_ne e0]at hj ⊢;rw[h_ne e1]at hj;by_cases e2:j=t
    ·subst e2;rw[A0]at hj;rw[A9 (λi hi=>by have:=ho i hi;omega),hnO,A0];exact hj
    rw[h_ne e2]at hj;by_cases e4:j=cc
    ·subst e4;rw[A0]at hj;rw[A9 (λi hi=>by have:=ho i hi;omega)]
     repeat rw[hnO]
     rw[hb0];exact hj
    ·rw[h_ne e4]at hj;have hjc:j<cc:=Classical.byContradiction λh=>by rw[hfr j (by omega)]at hj;cases hj
     rw[A9 (λi hi=>by have:=ho i hi;omega)]
     repeat rw[hnO]
     rw[hbj j hjc e2];exact hj
   ·dsimp only;cases k:okR u2 with
    |true =>
     rw[y2 k,y1.s k];exact .inl ⟨k,hdl,hv⟩
    |false =>
     cases A9k hv k;exact .inr ⟨by rw[y1.ok,k],y1⟩
 have ne0:=M7 t cc (cc+1) (by omega);refine wAx ne0 @A0 @A1 ?_;refine B6 (λq:Nat × Option Nat × List Dc × Rd=>[(0,.ptr t 0),(2,.ptr cc 0),(3,.ptr (cc+1) 0)]) (λq=>optH (((H.upd cc ⟨0,true,[.snil,.snil]⟩).upd t (paB L E q.2.2.2)).upd (cc+1) ⟨0,true,[todoV q.2.1 q.2.2.1.length,.snil]⟩) q.2.1 ⟨4,true,cellsL (q.2.2.1.map Dc.v)⟩)
  (λq c=>cc+2<=c/\q.1<=f/\(q.2.1=none->q.2.2.1=[])/\(∀i,q.2.1=some i->cc+1<i/\i<c)/\q.2.2.1.length<=128/\PI L q.2.2.2/\T5 L E q.1 q.2.2.1 q.2.2.2=some (dl,s1)) (λq=>q.1) (f,none,[],s)
  (by simp[B5,tm,Tm.upd]) (λj b hj=>?_) ⟨b8,A0D _,λ_=>rfl,(λi hi=>by cases hi),by simp,hP,hd⟩ ?_
 ·simp only[optH,A7a]at hj;by_cases e1:j=cc+1
  ·subst e1;rw[A0]at hj ⊢;exact hj
  ·rw[h_ne e1]at hj ⊢;by_cases e2:j=t
   ·subst e2;rw[A0]at hj;rw[hnO,ht];exact hj
   ·rw[h_ne e2]at hj;exact hj
 clear hd;rintro⟨g,o,l,u⟩ c ⟨hc,hg,hno,ho,hl1,hPu,hv⟩;dsimp only at hc hg hno ho hl1 hPu hv ⊢;cases g with
 |zero=>simp[T5]at hv
 |succ g =>
 unfold T5 at hv;dsimp only at hv;have hriu:=hPu.i;have hlen:A3i (todoV o l.length)=some (I64 l.length):=by
  cases o with
  |none=>rw[hno rfl];rfl
  |some b=>rfl
 have hHt:optH (((H.upd cc ⟨0,true,[.snil,.snil]⟩).upd t (paB L E u)).upd (cc+1) ⟨0,true,[todoV o l.length,.snil]⟩) o ⟨4,true,cellsL (l.map Dc.v)⟩ t=some (paB L E u):=n9
 have hbx:optH (((H.upd cc ⟨0,true,[.snil,.snil]⟩).upd t (paB L E u)).upd (cc+1) ⟨0,true,[todoV o l.length,.snil]⟩) o ⟨4,true,cellsL (l.map Dc.v)⟩ (cc+1)=some ⟨0,true,[todoV o l.length,.snil]⟩:=j7
 have hbo:∀i:Nat,o=some i->optH (((H.upd cc ⟨0,true,[.snil,.snil]⟩).upd t (paB L E u)).upd (cc+1) ⟨0,true,[todoV o l.length,.snil]⟩) o ⟨4,true,cellsL (l.map Dc.v)⟩ i=some ⟨4,true,cellsL (l.map Dc.v)⟩:=λi hi=>o9
 have hbj:∀j:Nat,j<cc->¬j=t->optH (((H.upd cc ⟨0,true,[.snil,.snil]⟩).upd t (paB L E u)).upd (cc+1) ⟨0,true,[todoV o l.length,.snil]⟩) o ⟨4,true,cellsL (l.map Dc.v)⟩ j=H j:=λj h1 h2=>r7
 have hb0:optH (((H.upd cc ⟨0,true,[.snil,.snil]⟩).upd t (paB L E u)).upd (cc+1) ⟨0,true,[todoV o l.length,.snil]⟩) o ⟨4,true,cellsL (l.map Dc.v)⟩ cc=some ⟨0,true,[.snil,.snil]⟩:=m0
 have hbn:∀j:Nat,c<=j->optH (((H.upd cc ⟨0,true,[.snil,.snil]⟩).upd t (paB L E u)).upd (cc+1) ⟨0,true,[todoV o l.length,.snil]⟩) o ⟨4,true,cellsL (l.map Dc.v)⟩ j=none:=λj h1=>s9
 have hsub:∀z,Sub (optH (((H.upd cc ⟨0,true,[.snil,.snil]⟩).upd t (paB L E z)).upd (cc+1) ⟨0,true,[todoV o l.length,.snil]⟩) o ⟨4,true,cellsL (l.map Dc.v)⟩) ((optH (((H.upd cc ⟨0,true,[.snil,.snil]⟩).upd t (paB L E u)).upd (cc+1) ⟨0,true,[todoV o l.length,.snil]⟩) o ⟨4,true,cellsL (l.map Dc.v)⟩).upd t (paB L E z)):=λz j b hj=>by
  by_cases e2:j=t
  ·subst e2;rw[A8 (λi hi=>by have:=ho i hi;omega),hnO,A0]at hj;rw[A0];exact hj
  ·rw[h_ne e2];cases o with
   |none =>
    simp only[optH]at hj ⊢;by_cases e1:j=cc+1
    ·subst e1;rw[A0]at hj ⊢;exact hj
    ·rw[h_ne e1,h_ne e2]at hj ⊢;exact hj
   |some i =>
    simp only[optH]at hj ⊢;by_cases e0:j=i
    ·subst e0;rw[A0]at hj ⊢;exact hj
    rw[h_ne e0]at hj ⊢;by_cases e1:j=cc+1
    ·subst e1;rw[A0]at hj ⊢;exact hj
    ·rw[h_ne e1,h_ne e2]at hj ⊢;exact hj
 have htail:=tail o l;generalize hHH:optH (((H.upd cc ⟨0,true,[.snil,.snil]⟩).upd t (paB L E u)).upd (cc+1) ⟨0,true,[todoV o l.length,.snil]⟩) o ⟨4,true,cellsL (l.map Dc.v)⟩=HH at hHt hbx hbo hbj hb0 hbn hsub ⊢;have hpa:=A9s (A5c (E:=E) hK u (l:=D7) (by decide +kernel));refine wA9 c_pdecls ?_;refine AC.call (c_pis L E u _ _ t hHt (by omega) 2 D7 (by decide)) ?_;rintro v H' c2 ⟨rfl,rfl⟩ hc2;by_cases hk:B8 L E u D7<0
 ·have hpf:isP L E u 2 D7=false:=by rw[hpa];exact decide_eq_false (by omega)
  rw[if_pos hk]at hv;have e1:l=dl:=congrArg Prod.fst (Option.some.inj hv);have e2:u=s1:=congrArg Prod.snd (Option.some.inj hv);subst e1 e2;simp only[go_sem,seval,hpf];(repeat'((with_reducible first|refine J8 (p:=IW _ _ (pz Tryz.prog 23 (.o (.o (.o (.i .h))))) _ _) ?_|refine wr ?_|refine B0 ?_ ?_|apply wb2<;>(intro hb;try simp only[hb]))<;>try simp only[go_sem,seval,hpf]));rw[<- hHH];refine IW.stage (by simp[B5,tm,Tm.upd]) (htail u c2 (by omega) hno (λi hi=>by have:=ho i hi;omega) hPu ?_);cases ho:okR u with
  |true=>exact .inl ⟨rfl,rfl,rfl⟩
  |false=>exact .inr ⟨rfl,.refl _⟩
 have hpt:isP L E u 2 D7=true:=by rw[hpa];exact decide_eq_true (by omega)
 obtain⟨hok,hlt, -⟩:=U2 (by decide) hpt;rw[if_neg hk]at hv;by_cases h128:l.length=128
 ·have hd128:((l.length:Int)==128)=true:=by simp;omega
  have hl9:D3 L E u ((l.length:Int)+1) 128 9=pfl L E u 9:=u5
  have hnk:okR (pfl L E u 9)=false:=p7
  rw[hl9,if_neg (by rw[hnk];decide)]at hv;have e1:l=dl:=(congrArg Prod.fst (C3h hv hnk)).symm;have e2:pfl L E u 9=s1:=(congrArg Prod.snd (C3h hv hnk)).symm;subst e1 e2;refine wA0 hpt hbx hlen hd128 ?_;refine AC.call (c_pfail L E u _ _ t hHt (by omega) 9) ?_;rintro v H' c3 ⟨rfl,rfl⟩ hc3;simp only[go_sem,seval];(repeat'((with_reducible first|refine J8 (p:=IW _ _ (pz Tryz.prog 23 (.o (.o (.o (.i .h))))) _ _) ?_|refine wr ?_|refine B0 ?_ ?_|apply wb2<;>(intro hb;try simp only[hb]))<;>try simp only[go_sem,seval]));exact IW.weaken (B6s (by simp[B5,tm,Tm.upd])) (hsub _) (htail (pfl L E u 9) c3 (by omega) hno (λi hi=>by have:=ho i hi;omega) hPu.fl (.inr ⟨hnk,.refl _⟩))
 have hd128:((l.length:Int)==128)=false:=a8
 rw[A1k (by omega),if_pos hok]at hv;refine wA0 hpt hbx hlen hd128 ?_;refine AC.call (c_pdecl L E u _ _ t hHt (by omega) hL hv0 hK hpt) ?_;rintro v H' c3 ⟨rfl,rfl⟩ hc3;have y3:=E0n (E:=E) (k:=B8 L E u D7) hK hPu hlt;generalize R0 L E (B8 L E u D7) u=Q at hv y3 ⊢;obtain⟨dc,u2⟩:=Q;dsimp only at hv y3 ⊢;have ne0:=S7 t cc (cc+1) (c2+4) c3 (by omega);refine wA0 ne0 @A0 @A1 hbx ?_;refine⟨⟨s7,by rw[hnO];exact hbn _ (by omega)⟩,?_⟩;have hl4:(cellsL (l.map Dc.v)).length=l.length*4:=C7 (u:=4) (A1c _) |>.trans (by simp);refine S8 (D4 (cs:=cellsL (l.map Dc.v)) (λe=>by rw[hno e];exact⟨rfl,rfl⟩) (λi hi=>by have:=ho i hi;rw[hnO,hnO];exact hbo i hi) hl4 (by omega) (by omega) (by omega)) ?_;have hdx:∀X:Hp,delO X o (cc+1)=X (cc+1):=λX=>A9 (λi hi=>by have:=ho i hi;omega);refine wA3 ne0 @A0 @A1 hdx hbx ?_;refine⟨(g,some c3,l++[dc],u2),?_,inv ⟨b8,g9,(λh=>by cases h),(λi hi=>by cases hi;omega),o8,y3,hv⟩,by simp only;omega⟩;intro j b hj;simp only[optH,A2g,A0A,A0E,A0P,C8]at hj;by_cases e1:j=cc+1
 ·subst e1;by_cases e3:cc+1=c3
  ·omega
  rw[h_ne e3,A0]at hj;rw[A0];exact hj
 rw[h_ne e1];by_cases e0:j=c3
 ·subst e0;rw[A0]at hj;rw[A0, <- hj];rfl
 rw[h_ne e0]at hj ⊢;rw[h_ne e1]at hj;by_cases e2:j=t
 ·subst e2;rw[A0]at hj;rw[A9 (λi hi=>by have:=ho i hi;omega),hnO,A0];exact hj
 rw[h_ne e2]at hj;by_cases e4:j=cc
 ·subst e4;rw[A0]at hj;rw[A9 (λi hi=>by have:=ho i hi;omega)]
  repeat rw[hnO]
  rw[hb0];exact hj
 ·rw[h_ne e4]at hj;have hjc:j<cc:=Classical.byContradiction λh=>by rw[hfr j (by omega)]at hj;cases hj
  rw[A9 (λi hi=>by have:=ho i hi;omega)]
  repeat rw[hnO]
  rw[hbj j hjc e2];exact hj
theorem PI0{L:List Tok}:PI L rd0:=⟨A0N _,A2W 0,(by decide:(0:Int)<=32),A2W 0,(by decide:(0:Int)<=16)⟩
theorem c_PParse(s:List UInt8)(hs:s.length<=200000000):PC Tryz.prog 14 [.str s] (C0x (N6 s)):=by
 refine PC.ofT A2 rfl (A0C rfl) rfl (C3t _) ?_;have hsc:=c_Scan s (by omega);by_cases h0:(H4 s).2.2=0
 ·have hd:((H4 s).2.2 != 0)=false:=by simpa using h0
  refine wBc hsc hd ?_;obtain⟨f,hf⟩:=(A7f (H4 s).1 s.length).get;refine AC.call (c_prules (H4 s).1 s.length (by have:=B4z h0;omega) (B7f h0) (C5y h0) f rd0 _ hf PI0 _ _ 1 rfl (by decide)) ?_;rintro v H' c2 ⟨x,s',rfl,rfl,q1,q2,q3⟩ hc2;have hM:N6 s=if okR (X5 (H4 s).1 s.length).2=false then(Ru0,(X5 (H4 s).1 s.length).2.pos,(X5 (H4 s).1 s.length).2.e) else((X5 (H4 s).1 s.length).1,0,0):=by
   unfold N6;dsimp only;rw[if_neg (by simpa using h0)]
  rw[hM];generalize X5 (H4 s).1 s.length=w at q1 q2 ⊢;clear hM hf;have ne0:=M7 0 1 c2 (by omega);refine wAy ne0 @A0 @A1 ?_;refine AC.call (c_pok (H4 s).1 s.length s' _ _ 1 (by rw[hnO];exact A0) (by omega)) ?_;rintro v H' c3 ⟨rfl,rfl⟩ hc3;cases hok:okR w.2 with
  |true =>
   obtain rfl:=q2 hok;have hok':okR s'=true:=by rw[q1.ok,hok]
   rw[if_neg (by decide)];refine wA0 hok' ne0 @A0 @A1 ?_;rw[C9 (v:=C0x (w.1,0,0)) rfl];exact⟨_,GL.refl _ _⟩
  |false =>
   have hok':okR s'=false:=by rw[q1.ok,hok]
   rw[if_pos rfl, <- q1.p, <- q1.e];refine wA0 hok' ne0 @A0 @A1 ?_
   repeat refine⟨o5,?_⟩
   refine wAz hok' ne0 @A0 @A1 ?_;rw[C9 (v:=.tup [.agg [.snil,.snil],I64 s'.pos,I64 s'.e]) rfl];exact B5g
 ·have hd:((H4 s).2.2 != 0)=true:=by simpa using h0
  have hM:N6 s=(Ru0,(H4 s).2.1,(H4 s).2.2):=by
   unfold N6;dsimp only;rw[if_pos h0]
  rw[hM];refine wBc hsc hd ?_;rw[C9 (v:=.tup [.agg [.snil,.snil],I64 (H4 s).2.1,I64 (H4 s).2.2]) rfl];exact B5g
theorem c_PBuild(s:List UInt8)(hs:s.length<=200000000):PC Tryz.prog 7 [.str s] (A6s (A8c s)):=by
 refine PC.ofT A2 rfl (A0C rfl) rfl (A9y _) ?_;have hz:=B5h s;have hp:=c_PParse s hs;have hc:=c_PCompile (N6 s).1 (by omega);unfold A8c;generalize N6 s=q at hz hp hc ⊢;obtain⟨⟨D,M⟩,p,e⟩:=q;unfold A6s at hc;dsimp only[Ru.v,C0x]at hp hc ⊢;by_cases h0:e=0
 ·subst h0;rw[if_neg (λh=>h rfl)];generalize B2z ⟨D,M⟩=q at hc ⊢;obtain⟨⟨a1,a2,a3,a4,a5,a6,a7⟩,q2,q3⟩:=q;dsimp only[Prg.v,Prg.cs,A6s]at hc ⊢;refine wBg hp hc ?_;exact⟨_,GL.refl _ _⟩
 ·have hd:(e != 0)=true:=by simpa using h0
  rw[if_pos h0];refine wBc hp hd ?_;rw[C9 (v:=.tup [.agg cd0,I64 p,I64 e]) rfl];exact W6
theorem c_RBuild(s:List UInt8)(hs:s.length<=200000000):PC Tryz.prog 8 [.str s] (A6s (A8c s)):=by
 refine PC.ofT A2 rfl (A0C rfl) rfl (A9y _) ?_;have hz:=B5h s;have hp:=c_Parse s (by omega);have hc:=c_RCompile (N6 s).1 (by omega);unfold A8c;generalize N6 s=q at hz hp hc ⊢;obtain⟨⟨D,M⟩,p,e⟩:=q;unfold A6s at hc;dsimp only[Ru.v,C0x]at hp hc ⊢;by_cases h0:e=0
 ·subst h0;rw[if_neg (λh=>h rfl)];generalize B2z ⟨D,M⟩=q at hc ⊢;obtain⟨⟨a1,a2,a3,a4,a5,a6,a7⟩,q2,q3⟩:=q;dsimp only[Prg.v,Prg.cs,A6s]at hc ⊢;refine wBg hp hc ?_;exact⟨_,GL.refl _ _⟩
 ·have hd:(e != 0)=true:=by simpa using h0
  rw[if_pos h0];refine wBc hp hd ?_;rw[C9 (v:=.tup [.agg cd0,I64 p,I64 e]) rfl];exact W6
def E3b(f:Nat)(a:List DV):Option DV :=
 if f==86 then match a with
  |[.str s]=>if s==C7v then some (.lst (H5.map DV.str)) else none
  |_=>none
 else if f==144 then match a with
  |[.str s,.int .u8 z]=>if((UInt8.ofNat z.toNat).toNat:Int)==z then some (I64 (Lib.indexByte s (UInt8.ofNat z.toNat))) else none
  |_=>none
 else if f==143 then match a with
  |[.str s,.int .i64 x,.int .i64 y]=>if x==10&&y==64&&s != []&&Nat.ble s.length 100&&s.all dgB&&Nat.ble (S1 s) 9223372036854775807 then some (.tup [I64 (S1 s),.inil]) else none
  |_=>none
 else none
theorem D7a:E3h Tryz.prog E3b:=by
 intro f a r h;unfold E3b at h;split at h
 ·rename_i e;obtain rfl:=eq_of_beq e;split at h
  ·split at h
   ·rename_i e;obtain rfl:=eq_of_beq e;cases h;exact c_Fields
   ·cases h
  ·cases h
 ·split at h
  ·rename_i e;obtain rfl:=eq_of_beq e;split at h
   ·split at h
    ·rename_i s z e;cases h;have:=c_IndexByte s (UInt8.ofNat z.toNat)
     rwa [eq_of_beq e]at this
    ·cases h
   ·cases h
  ·split at h
   ·rename_i e;obtain rfl:=eq_of_beq e;split at h
    ·split at h
     ·rename_i s x y e;simp only[A0F,A1T,bne_iff_ne,ne_eq,A0V]at e;obtain⟨⟨⟨⟨⟨e1,e2⟩,e3⟩,e4⟩,e5⟩,e6⟩:=e;cases h;subst e1 e2;exact c_ParseOk s (A1B (A0C e4) (by decide)) e5 e3 (A0C e6)
     ·cases h
    ·cases h
   ·cases h
theorem c_sane34:PC Tryz.prog 10 [] (.bool true):=PC.run A2 E3b D7a 3000 60 _ _ _ rfl rfl (by kernel_rfl)
end Go.Proofs.YtdclpmddofggcaaGreatDoor
set_option maxHeartbeats 4000000
namespace Go.Proofs.YtdclpmddofggcaaGreatDoor
open Go.Eng (IC IOper DReg IFn L4)
open Go.Sym
abbrev x5:XT Tryz.prog 5:=mkF
instance t5:FT Tryz.prog 5 x5.d:=x5.ft
abbrev x11:XT Tryz.prog 11:=mkF
instance t11:FT Tryz.prog 11 x11.d:=x11.ft
abbrev x20:XT Tryz.prog 20:=mkF
instance t20:FT Tryz.prog 20 x20.d:=x20.ft
abbrev x85:XT Tryz.prog 85:=mkF
instance t85:FT Tryz.prog 85 x85.d:=x85.ft
abbrev x84:XT Tryz.prog 84:=mkF
instance t84:FT Tryz.prog 84 x84.d:=x84.ft
abbrev x38:XT Tryz.prog 38:=mkF
instance t38:FT Tryz.prog 38 x38.d:=x38.ft
abbrev x21:XT Tryz.prog 21:=mkF
instance t21:FT Tryz.prog 21 x21.d:=x21.ft
abbrev x13:XT Tryz.prog 13:=mkF
instance t13:FT Tryz.prog 13 x13.d:=x13.ft
abbrev x6:XT Tryz.prog 6:=mkF
instance t6:FT Tryz.prog 6 x6.d:=x6.ft
end Go.Proofs.YtdclpmddofggcaaGreatDoor
set_option maxHeartbeats 8000000
namespace Go.Proofs.YtdclpmddofggcaaGreatDoor
open Go.Eng (IC IOper DReg IFn L4)
open Go.Sym Go.Pb
abbrev mkB(L:List UInt8)(w i:Nat):Blk:=⟨0,true,[.lst (bytesC L),I64 i,I64 w]⟩
theorem C2e{L:List UInt8}{i:Nat}{b:UInt8}(h:L[i]? = some b):(bytesC L)[i]? = some (.int .u8 (b.toNat:Int)):=by
 simp[bytesC,h]
theorem A6n{H:Hp}{cc t c2:Nat}{b0 b1 b:Blk}{ds:List DV}(hfr:∀i,cc<=i->H i=none)(htc:t<cc)(hc:cc<=c2):GL (((H.upd t b0).upd c2 b1).upd t b) ds (H.upd t b) ds:=GL.less' λj q hj=>by
 by_cases e:j=t
 ·subst e;rw[A0]at hj ⊢;exact hj
 ·rw[h_ne e]at hj;have:j≠c2:=by rintro rfl;rw[hfr _ (by omega)]at hj;cases hj
  rw[h_ne e,h_ne this,h_ne e];exact hj
theorem D1w{H:Hp}{cc t c2:Nat}{b1 b:Blk}{ds:List DV}(hfr:∀i,cc<=i->H i=none)(htc:t<cc)(hc:cc<=c2):GL ((H.upd c2 b1).upd t b) ds (H.upd t b) ds:=GL.less' λj q hj=>by
 by_cases e:j=t
 ·subst e;rw[A0]at hj ⊢;exact hj
 ·rw[h_ne e]at hj ⊢;have:j≠c2:=by rintro rfl;rw[hfr _ (by omega)]at hj;cases hj
  rw[h_ne this];exact hj
theorem A6g{X:Hp}{k t:Nat}{B:Blk}(h:¬t=k):L2 [k] X ((I3 X [k]).upd t B)=X.upd t B:=by
 funext j
 simp only[L2];by_cases e:j=k
 ·subst e;rw[if_pos (by simp),h_ne (Ne.symm h)]
 ·rw[if_neg (by simpa using e)];by_cases e2:j=t
  ·subst e2;rw[A0,A0]
  ·rw[h_ne e2,h_ne e2];simp only[I3];rw[if_neg (by simpa using e)]
theorem B1q(k:Int)(h:0<=k/\k<1000)(H:Hp)(c:Nat):AC Tryz.prog 12 [I64 k] H c (λv H' c' => ∃d:List UInt8,d.length<=40/\v=.str d/\H'=H) :=
 ((c_Dec' k (by omega) (by omega)).at H c).mono λv H' c' ⟨h1,h2,h3⟩=>⟨_,A1B (B1v (by omega) (by omega)) (by decide),h1,h2⟩
def MZ(f:Nat)(xs:List DV)(L:List UInt8)(w n:Nat):Prop:=∀(H:Hp) (cc t i:Nat) (ht:H t=some (mkB L w i)) (hi:i<=300) (htc:t<cc),
  AC Tryz.prog f (.ptr t 0::xs) H cc (λv H' c' => ∃s j,s.length<=n/\j<=300/\v=.str s/\H'=H.upd t (mkB L w j))
section
variable (L:List UInt8) (hL:L.length<=300) (w:Nat) (hw:w<=100)
include hL in
theorem f_Next(n:Int)(H:Hp)(cc t i:Nat)(ht:H t=some (mkB L w i))(hi:i<=300)(htc:t<cc)(hn:0<n)(hn2:n<=1000):
  AC Tryz.prog 11 [.ptr t 0,I64 n] H cc (λv H' c' => ∃k j,k<n.toNat/\j<=300/\v=I64 (k:Nat)/\H'=H.upd t (mkB L w j)):=by
 obtain⟨n,rfl⟩:=Int.eq_ofNat_of_zero_le (Int.le_of_lt hn);refine AC.go A2 λhfr=>?_;have hlen:(bytesC L).length=L.length:=by simp[bytesC]
 by_cases hlt:i<L.length
 ·have hd:decide ((i:Int)≥L.length)=false:=by simp;omega
  have hg:=C2e (A0B hlt);generalize L[i]=b at hg;have hw:=w64 (n:=(i:Int)+1);have hw3:IntKind.i64.wrap ((i:Int)+1-1)=(i:Int):=i7
  have hb:=b.toNat_lt;have hw4:=w64 (n:=(b.toNat:Int));have hrm:binR .rem (.int .i64 (b.toNat:Int)) (I64 (n:Int))=some (I64 ((b.toNat%n:Nat):Int)):=by
   rw[B0p (by omega)];rfl
  refine wAs (wJ ht (wJ hd (wJ hg (wJ hw (wJ hw3 (wJ hw4 (wJ hrm (wJ hlen (wJ @A0 @A1))))))))) ?_;exact⟨_,_,GL.refl _ _,_,i+1,Nat.mod_lt _ (by omega),b8,rfl,rfl⟩
 ·have hd:decide ((i:Int)≥L.length)=true:=by simp;omega
  refine wA2 ht hd hlen @A0 @A1 ?_;exact⟨_,_,GL.refl _ _,0,i,b8,hi,rfl,(upd_same ht).symm⟩
include hL hw in
theorem f_name(p:List UInt8)(n:Int)(hp:p.length<=4)(hn:0<n)(hn2:n<=1000):MZ 20 [.str p,I64 n] L w 50:=by
 intro H cc t i ht hi htc;refine AC.go A2 λhfr=>?_;have hw1:=w64 (n:=(w:Int)-1);obtain⟨q,q0⟩:∃q,decide ((w:Int)>0)=q:=⟨_,rfl⟩;cases q
 ·repeat'((first|apply wr|(refine AC.call (f_Next L hL w _ _ _ t _ (by first|exact ht|exact A0|(rw[hnO];first|exact ht|exact A0)|(simp only[I3];rw[if_neg (by simp;omega)];(repeat rw[hnO]);first|exact A0|exact ht)) (by assumption) (by omega) (by omega) (by omega)) ?_;rintro _ _ _ ⟨k,_,hk,_,rfl,rfl⟩ _;(try simp only[Int.reduceToNat]at hk);((repeat'(rcases A1W.1 hk with hk|rfl)));all_goals try exact absurd hk (A2R _))|(refine AC.call (B1q _ (by omega) _ _) ?_;rintro _ _ _ ⟨s,_,rfl,rfl⟩ _)|(apply wb2<;>(intro hb;try simp only[hb]))|exact⟨_,_,j9,_,_,o6,w6,rfl,rfl⟩|(refine⟨i8,?_⟩))<;>try simp (disch:=(first|omega|(simp only[A0A,A0G,A0L];omega))) only[go_sem,seval,O5,h_ne,A0,A1,A6g,ht,hw1,q0])
 ·have h0:0<(w:Int):=by simpa using q0
  repeat'((first|apply wr|(refine AC.call (f_Next L hL w _ _ _ t _ (by first|exact ht|exact A0|(rw[hnO];first|exact ht|exact A0)|(simp only[I3];rw[if_neg (by simp;omega)];(repeat rw[hnO]);first|exact A0|exact ht)) (by assumption) (by omega) (by omega) (by omega)) ?_;rintro _ _ _ ⟨k,_,hk,_,rfl,rfl⟩ _;(try simp only[Int.reduceToNat]at hk);(repeat'(rcases A1W.1 hk with hk|rfl));all_goals try exact absurd hk (A2R _))|(refine AC.call (B1q _ (by omega) _ _) ?_;rintro _ _ _ ⟨s,_,rfl,rfl⟩ _)|(apply wb2<;>(intro hb;try simp only[hb]))|exact⟨_,_,j9,_,_,o6,w6,rfl,rfl⟩|(refine⟨i8,?_⟩))<;>try simp (disch:=(first|omega|(simp only[A0A,A0G,A0L];omega))) only[go_sem,seval,O5,h_ne,A0,A1,A6g,ht,hw1,q0])
include hL hw in
theorem f_Bool(E:Nat)(hE:100<=E/\E<=1000000)(D:Int)(hD : -10<=D/\D<=10)(h:D<=0\/(MZ 84 [I64 0] L w E/\MZ 84 [I64 (D-1)] L w E/\MZ 85 [I64 (D-1)] L w E)):MZ 84 [I64 D] L w (2*E+20):=by
 intro H cc t i ht hi htc;refine AC.go A2 λhfr=>?_;have hw1:=w64 (n:=D-1);rcases h with h|⟨h1,h2,h3⟩
 ·have qd:decide (D<=0)=true:=by simpa using h
  repeat'((first|apply wr|(refine AC.call (f_Next L hL w _ _ _ t _ (by first|exact ht|exact A0|(rw[hnO];first|exact ht|exact A0)|(simp only[I3];rw[if_neg (by simp;omega)];(repeat rw[hnO]);first|exact A0|exact ht)) (by assumption) (by omega) (by omega) (by omega)) ?_;rintro _ _ _ ⟨k,_,hk,_,rfl,rfl⟩ _;(try simp only[Int.reduceToNat]at hk);(repeat'(rcases A1W.1 hk with hk|rfl));all_goals try exact absurd hk (A2R _))|(refine AC.call (f_name L hL w hw _ _ (by decide) (by decide) (by decide) _ _ t _ (by first|exact ht|exact A0|(rw[hnO];first|exact ht|exact A0)|(simp only[I3];rw[if_neg (by simp;omega)];(repeat rw[hnO]);first|exact A0|exact ht)) (by assumption) (by omega)) ?_;rintro _ _ _ ⟨s,_,_,_,rfl,rfl⟩ _)|(apply wb2<;>(intro hb;try simp only[hb]))|exact⟨_,_,j9,_,_,o6,w6,rfl,rfl⟩|(refine⟨i8,?_⟩))<;>try simp (disch:=(first|omega|(simp only[A0A,A0G,A0L];omega))) only[go_sem,seval,O5,h_ne,A0,A1,A6g,ht,hw1,qd])
 ·obtain⟨q,qd⟩:∃q,decide (D<=0)=q:=⟨_,rfl⟩;cases q;all_goals
   repeat'((first|apply wr|(refine AC.call (f_Next L hL w _ _ _ t _ (by first|exact ht|exact A0|(rw[hnO];first|exact ht|exact A0)|(simp only[I3];rw[if_neg (by simp;omega)];(repeat rw[hnO]);first|exact A0|exact ht)) (by assumption) (by omega) (by omega) (by omega)) ?_;rintro _ _ _ ⟨k,_,hk,_,rfl,rfl⟩ _;(try simp only[Int.reduceToNat]at hk);(repeat'(rcases A1W.1 hk with hk|rfl));all_goals try exact absurd hk (A2R _))|(refine AC.call (f_name L hL w hw _ _ (by decide) (by decide) (by decide) _ _ t _ (by first|exact ht|exact A0|(rw[hnO];first|exact ht|exact A0)|(simp only[I3];rw[if_neg (by simp;omega)];(repeat rw[hnO]);first|exact A0|exact ht)) (by assumption) (by omega)) ?_;rintro _ _ _ ⟨s,_,_,_,rfl,rfl⟩ _)|(refine AC.call (h1 _ _ t _ (by first|exact ht|exact A0|(rw[hnO];first|exact ht|exact A0)|(simp only[I3];rw[if_neg (by simp;omega)];(repeat rw[hnO]);first|exact A0|exact ht)) (by assumption) (by omega)) ?_;rintro _ _ _ ⟨s,_,_,_,rfl,rfl⟩ _)|(refine AC.call (h2 _ _ t _ (by first|exact ht|exact A0|(rw[hnO];first|exact ht|exact A0)|(simp only[I3];rw[if_neg (by simp;omega)];(repeat rw[hnO]);first|exact A0|exact ht)) (by assumption) (by omega)) ?_;rintro _ _ _ ⟨s,_,_,_,rfl,rfl⟩ _)|(refine AC.call (h3 _ _ t _ (by first|exact ht|exact A0|(rw[hnO];first|exact ht|exact A0)|(simp only[I3];rw[if_neg (by simp;omega)];(repeat rw[hnO]);first|exact A0|exact ht)) (by assumption) (by omega)) ?_;rintro _ _ _ ⟨s,_,_,_,rfl,rfl⟩ _)|(apply wb2<;>(intro hb;try simp only[hb]))|exact⟨_,_,j9,_,_,o6,w6,rfl,rfl⟩|(refine⟨i8,?_⟩))<;>try simp (disch:=(first|omega|(simp only[A0A,A0G,A0L];omega))) only[go_sem,seval,O5,h_ne,A0,A1,A6g,ht,hw1,qd])
include hL hw in
theorem f_Int(E:Nat)(hE:100<=E/\E<=1000000)(D:Int)(hD : -10<=D/\D<=10)(hB:MZ 84 [I64 (D-1)] L w E)(h:D<=0\/(MZ 85 [I64 0] L w E/\MZ 85 [I64 (D-1)] L w E)):MZ 85 [I64 D] L w (2*E+20):=by
 intro H cc t i ht hi htc;refine AC.go A2 λhfr=>?_;have hw1:=w64 (n:=D-1);have hw4:=w64 (n:=4*(w:Int));obtain⟨q,q0⟩:∃q,decide ((w:Int)>0)=q:=⟨_,rfl⟩;have hq:q=false\/0<(w:Int):=by cases q;exact .inl rfl;exact .inr (by simpa using q0)
 rcases h with h|⟨h1,h2⟩
 ·have qd:decide (D<=0)=true:=by simpa using h
  rcases hq with rfl|h0
  all_goals
   try cases q
   all_goals
    repeat'((first|apply wr|(refine AC.call (f_Next L hL w _ _ _ t _ (by first|exact ht|exact A0|(rw[hnO];first|exact ht|exact A0)|(simp only[I3];rw[if_neg (by simp;omega)];(repeat rw[hnO]);first|exact A0|exact ht)) (by assumption) (by omega) (by omega) (by omega)) ?_;rintro _ _ _ ⟨k,_,hk,_,rfl,rfl⟩ _;(try simp only[Int.reduceToNat]at hk);(repeat'(rcases A1W.1 hk with hk|rfl));all_goals try exact absurd hk (A2R _))|(refine AC.call (f_name L hL w hw _ _ (by decide) (by decide) (by decide) _ _ t _ (by first|exact ht|exact A0|(rw[hnO];first|exact ht|exact A0)|(simp only[I3];rw[if_neg (by simp;omega)];(repeat rw[hnO]);first|exact A0|exact ht)) (by assumption) (by omega)) ?_;rintro _ _ _ ⟨s,_,_,_,rfl,rfl⟩ _)|(refine AC.call (hB _ _ t _ (by first|exact ht|exact A0|(rw[hnO];first|exact ht|exact A0)|(simp only[I3];rw[if_neg (by simp;omega)];(repeat rw[hnO]);first|exact A0|exact ht)) (by assumption) (by omega)) ?_;rintro _ _ _ ⟨s,_,_,_,rfl,rfl⟩ _)|(refine AC.call (B1q _ (by omega) _ _) ?_;rintro _ _ _ ⟨s,_,rfl,rfl⟩ _)|(apply wb2<;>(intro hb;try simp only[hb]))|exact⟨_,_,j9,_,_,o6,w6,rfl,rfl⟩|(refine⟨i8,?_⟩))<;>try simp (disch:=(first|omega|(simp only[A0A,A0G,A0L];omega))) only[go_sem,seval,O5,h_ne,A0,A1,A6g,ht,hw1,hw4,q0,qd])
 ·obtain⟨qq,qd⟩:∃q,decide (D<=0)=q:=⟨_,rfl⟩;rcases hq with rfl|h0
  all_goals
   try cases q
   all_goals
    cases qq;all_goals
     repeat'((first|apply wr|(refine AC.call (f_Next L hL w _ _ _ t _ (by first|exact ht|exact A0|(rw[hnO];first|exact ht|exact A0)|(simp only[I3];rw[if_neg (by simp;omega)];(repeat rw[hnO]);first|exact A0|exact ht)) (by assumption) (by omega) (by omega) (by omega)) ?_;rintro _ _ _ ⟨k,_,hk,_,rfl,rfl⟩ _;(try simp only[Int.reduceToNat]at hk);(repeat'(rcases A1W.1 hk with hk|rfl));all_goals try exact absurd hk (A2R _))|(refine AC.call (f_name L hL w hw _ _ (by decide) (by decide) (by decide) _ _ t _ (by first|exact ht|exact A0|(rw[hnO];first|exact ht|exact A0)|(simp only[I3];rw[if_neg (by simp;omega)];(repeat rw[hnO]);first|exact A0|exact ht)) (by assumption) (by omega)) ?_;rintro _ _ _ ⟨s,_,_,_,rfl,rfl⟩ _)|(refine AC.call (hB _ _ t _ (by first|exact ht|exact A0|(rw[hnO];first|exact ht|exact A0)|(simp only[I3];rw[if_neg (by simp;omega)];(repeat rw[hnO]);first|exact A0|exact ht)) (by assumption) (by omega)) ?_;rintro _ _ _ ⟨s,_,_,_,rfl,rfl⟩ _)|(refine AC.call (h1 _ _ t _ (by first|exact ht|exact A0|(rw[hnO];first|exact ht|exact A0)|(simp only[I3];rw[if_neg (by simp;omega)];(repeat rw[hnO]);first|exact A0|exact ht)) (by assumption) (by omega)) ?_;rintro _ _ _ ⟨s,_,_,_,rfl,rfl⟩ _)|(refine AC.call (h2 _ _ t _ (by first|exact ht|exact A0|(rw[hnO];first|exact ht|exact A0)|(simp only[I3];rw[if_neg (by simp;omega)];(repeat rw[hnO]);first|exact A0|exact ht)) (by assumption) (by omega)) ?_;rintro _ _ _ ⟨s,_,_,_,rfl,rfl⟩ _)|(refine AC.call (B1q _ (by omega) _ _) ?_;rintro _ _ _ ⟨s,_,rfl,rfl⟩ _)|(apply wb2<;>(intro hb;try simp only[hb]))|exact⟨_,_,j9,_,_,o6,w6,rfl,rfl⟩|(refine⟨i8,?_⟩))<;>try simp (disch:=(first|omega|(simp only[A0A,A0G,A0L];omega))) only[go_sem,seval,O5,h_ne,A0,A1,A6g,ht,hw1,hw4,q0,qd])
theorem MZ.mono{f:Nat}{xs:List DV}{n m:Nat}(h:MZ f xs L w n)(hm:n<=m):MZ f xs L w m:=λH cc t i ht hi htc=>(h H cc t i ht hi htc).mono λv H' c' ⟨s,j,a,b⟩=>⟨s,j,A1B a hm,b⟩
include hL hw in
theorem F0p:(MZ 85 [I64 0] L w 2000/\MZ 85 [I64 1] L w 2000/\MZ 85 [I64 2] L w 2000)/\MZ 84 [I64 0] L w 2000/\MZ 84 [I64 1] L w 2000:=by
 have bm:=f_Bool L hL w hw 100 (by omega) (-1) (by omega) (.inl (by omega));have i0:=f_Int L hL w hw 220 (by omega) 0 (by omega) bm (.inl (by omega));have b0:=(f_Bool L hL w hw 100 (by omega) 0 (by omega) (.inl (by omega))).mono L w (show 220<=460 by omega);have i1:=f_Int L hL w hw 460 (by omega) 1 (by omega) b0 (.inr ⟨i0,i0⟩);have b1:=f_Bool L hL w hw 460 (by omega) 1 (by omega) (.inr ⟨b0,b0,i0⟩);have i2:=f_Int L hL w hw 940 (by omega) 2 (by omega) b1 (.inr ⟨i0.mono L w (by omega),i1⟩);exact⟨⟨i0.mono L w (by omega),i1.mono L w (by omega),i2.mono L w (by omega)⟩,b0.mono L w (by omega),b1.mono L w (by omega)⟩
include hL hw in
theorem C1v(B:Nat)(hB:B<=1000000)(D:Int)(hD : -10<=D/\D<=10)(h:D<=0\/MZ 21 [I64 (D-1)] L w B):MZ 38 [I64 D] L w (2*B+5000):=by
 intro H cc t i ht hi htc;obtain⟨⟨i0,i1,i2⟩,b0,b1⟩:=F0p L hL w hw;refine AC.go A2 λhfr=>?_;have hw1:=w64 (n:=D-1);rcases h with h|h
 ·have qd:decide (D<=0)=true:=by simpa using h
  repeat'((first|apply wr|(refine AC.call (f_Next L hL w _ _ _ t _ (by first|exact ht|exact A0|(rw[hnO];first|exact ht|exact A0)|(simp only[I3];rw[if_neg (by simp;omega)];(repeat rw[hnO]);first|exact A0|exact ht)) (by assumption) (by omega) (by omega) (by omega)) ?_;rintro _ _ _ ⟨k,_,hk,_,rfl,rfl⟩ _;(try simp only[Int.reduceToNat]at hk);(repeat'(rcases A1W.1 hk with hk|rfl));all_goals try exact absurd hk (A2R _))|(refine AC.call (f_name L hL w hw _ _ (by decide) (by decide) (by decide) _ _ t _ (by first|exact ht|exact A0|(rw[hnO];first|exact ht|exact A0)|(simp only[I3];rw[if_neg (by simp;omega)];(repeat rw[hnO]);first|exact A0|exact ht)) (by assumption) (by omega)) ?_;rintro _ _ _ ⟨s,_,_,_,rfl,rfl⟩ _)|(refine AC.call (i0 _ _ t _ (by first|exact ht|exact A0|(rw[hnO];first|exact ht|exact A0)|(simp only[I3];rw[if_neg (by simp;omega)];(repeat rw[hnO]);first|exact A0|exact ht)) (by assumption) (by omega)) ?_;rintro _ _ _ ⟨s,_,_,_,rfl,rfl⟩ _)|(refine AC.call (i1 _ _ t _ (by first|exact ht|exact A0|(rw[hnO];first|exact ht|exact A0)|(simp only[I3];rw[if_neg (by simp;omega)];(repeat rw[hnO]);first|exact A0|exact ht)) (by assumption) (by omega)) ?_;rintro _ _ _ ⟨s,_,_,_,rfl,rfl⟩ _)|(refine AC.call (i2 _ _ t _ (by first|exact ht|exact A0|(rw[hnO];first|exact ht|exact A0)|(simp only[I3];rw[if_neg (by simp;omega)];(repeat rw[hnO]);first|exact A0|exact ht)) (by assumption) (by omega)) ?_;rintro _ _ _ ⟨s,_,_,_,rfl,rfl⟩ _)|(refine AC.call (b0 _ _ t _ (by first|exact ht|exact A0|(rw[hnO];first|exact ht|exact A0)|(simp only[I3];rw[if_neg (by simp;omega)];(repeat rw[hnO]);first|exact A0|exact ht)) (by assumption) (by omega)) ?_;rintro _ _ _ ⟨s,_,_,_,rfl,rfl⟩ _)|(refine AC.call (b1 _ _ t _ (by first|exact ht|exact A0|(rw[hnO];first|exact ht|exact A0)|(simp only[I3];rw[if_neg (by simp;omega)];(repeat rw[hnO]);first|exact A0|exact ht)) (by assumption) (by omega)) ?_;rintro _ _ _ ⟨s,_,_,_,rfl,rfl⟩ _)|(apply wb2<;>(intro hb;try simp only[hb]))|exact⟨_,_,j9,_,_,o6,w6,rfl,rfl⟩|(refine⟨i8,?_⟩))<;>try simp (disch:=(first|omega|(simp only[A0A,A0G,A0L];omega))) only[go_sem,seval,O5,h_ne,A0,A1,A6g,ht,hw1,qd])
 ·obtain⟨q,qd⟩:∃q,decide (D<=0)=q:=⟨_,rfl⟩;cases q;all_goals
   repeat'((first|apply wr|(refine AC.call (f_Next L hL w _ _ _ t _ (by first|exact ht|exact A0|(rw[hnO];first|exact ht|exact A0)|(simp only[I3];rw[if_neg (by simp;omega)];(repeat rw[hnO]);first|exact A0|exact ht)) (by assumption) (by omega) (by omega) (by omega)) ?_;rintro _ _ _ ⟨k,_,hk,_,rfl,rfl⟩ _;(try simp only[Int.reduceToNat]at hk);(repeat'(rcases A1W.1 hk with hk|rfl));all_goals try exact absurd hk (A2R _))|(refine AC.call (f_name L hL w hw _ _ (by decide) (by decide) (by decide) _ _ t _ (by first|exact ht|exact A0|(rw[hnO];first|exact ht|exact A0)|(simp only[I3];rw[if_neg (by simp;omega)];(repeat rw[hnO]);first|exact A0|exact ht)) (by assumption) (by omega)) ?_;rintro _ _ _ ⟨s,_,_,_,rfl,rfl⟩ _)|(refine AC.call (i0 _ _ t _ (by first|exact ht|exact A0|(rw[hnO];first|exact ht|exact A0)|(simp only[I3];rw[if_neg (by simp;omega)];(repeat rw[hnO]);first|exact A0|exact ht)) (by assumption) (by omega)) ?_;rintro _ _ _ ⟨s,_,_,_,rfl,rfl⟩ _)|(refine AC.call (i1 _ _ t _ (by first|exact ht|exact A0|(rw[hnO];first|exact ht|exact A0)|(simp only[I3];rw[if_neg (by simp;omega)];(repeat rw[hnO]);first|exact A0|exact ht)) (by assumption) (by omega)) ?_;rintro _ _ _ ⟨s,_,_,_,rfl,rfl⟩ _)|(refine AC.call (i2 _ _ t _ (by first|exact ht|exact A0|(rw[hnO];first|exact ht|exact A0)|(simp only[I3];rw[if_neg (by simp;omega)];(repeat rw[hnO]);first|exact A0|exact ht)) (by assumption) (by omega)) ?_;rintro _ _ _ ⟨s,_,_,_,rfl,rfl⟩ _)|(refine AC.call (b0 _ _ t _ (by first|exact ht|exact A0|(rw[hnO];first|exact ht|exact A0)|(simp only[I3];rw[if_neg (by simp;omega)];(repeat rw[hnO]);first|exact A0|exact ht)) (by assumption) (by omega)) ?_;rintro _ _ _ ⟨s,_,_,_,rfl,rfl⟩ _)|(refine AC.call (b1 _ _ t _ (by first|exact ht|exact A0|(rw[hnO];first|exact ht|exact A0)|(simp only[I3];rw[if_neg (by simp;omega)];(repeat rw[hnO]);first|exact A0|exact ht)) (by assumption) (by omega)) ?_;rintro _ _ _ ⟨s,_,_,_,rfl,rfl⟩ _)|(refine AC.call (h _ _ t _ (by first|exact ht|exact A0|(rw[hnO];first|exact ht|exact A0)|(simp only[I3];rw[if_neg (by simp;omega)];(repeat rw[hnO]);first|exact A0|exact ht)) (by assumption) (by omega)) ?_;rintro _ _ _ ⟨s,_,_,_,rfl,rfl⟩ _)|(apply wb2<;>(intro hb;try simp only[hb]))|exact⟨_,_,j9,_,_,o6,w6,rfl,rfl⟩|(refine⟨i8,?_⟩))<;>try simp (disch:=(first|omega|(simp only[A0A,A0G,A0L];omega))) only[go_sem,seval,O5,h_ne,A0,A1,A6g,ht,hw1,qd])
end
end Go.Proofs.YtdclpmddofggcaaGreatDoor
set_option maxHeartbeats 40000000
namespace Go.Proofs.YtdclpmddofggcaaGreatDoor
open Go.Eng (IC IOper DReg IFn L4)
open Go.Sym Go.Pb
section
variable (L:List UInt8) (hL:L.length<=300) (w:Nat) (hw:w<=100)
include hL in
theorem f_block(S:Nat)(hS2:S<=1000000)(D:Int)(hS:MZ 38 [I64 D] L w S):MZ 21 [I64 D] L w (3*S+10):=by
 intro H cc t i ht hi htc;refine AC.go A2 λhfr=>?_;obtain⟨Z,hZ⟩:∃Z,Z=S+1:=⟨_,rfl⟩;refine wAp ?_;refine AC.call (f_Next L hL w 4 _ _ t i ht hi (by omega) (by decide) (by decide)) ?_;rintro v' H' c2 ⟨k,j,hlt,hj,rfl,rfl⟩ hc2;have h3:=A3A Z (show k<=3 by omega);refine wAq ?_;refine B6 (λq:Nat × Nat × List UInt8=>[(0,.ptr t 0),(1,I64 D),(5,.str q.2.2),(6,I64 q.1)]) (λq=>H.upd t (mkB L w q.2.1))
  (λq c=>cc<=c/\q.1<=3/\q.2.1<=300/\q.2.2.length+q.1*Z<=3*Z+1) (λq=>q.1) (k,j,[123])
  (by simp[B5,tm,Tm.upd]) (Sub.refl _) ⟨hc2,by show k<=3;omega,hj,by show 1+k*Z<=_;omega⟩ ?_
 rintro⟨n,i2,ss⟩ c ⟨hc,hn,hi2,hl⟩;dsimp only at hc hn hi2 hl ⊢;cases n with
 |succ n =>
  have qn:decide (((n+1:Nat):Int)>0)=true:=decide_eq_true (by omega);have hw1:IntKind.i64.wrap (((n+1:Nat):Int)-1)=(n:Int):=i7
  rw[Nat.succ_mul]at hl;have a1:=O5 (s:=ss) (t:=[32]) (by simp;omega);generalize ((n+1:Nat):Int)=N1 at qn hw1 ⊢;refine wAs (wJ qn a1) ?_;refine AC.call (hS _ _ t i2 A0 hi2 (by omega)) ?_;rintro v' H' c3 ⟨r,i3,l,hi3,rfl,rfl⟩ hc3;have a2:=O5 (s:=ss++[32]) (t:=r) (by simp;omega);rw[A1];refine wAy a1 a2 hw1 ?_;exact⟨(n,i3,ss++[32]++r),b9,Sub.refl _,inv ⟨b8,b8,hi3,by simp only[A0A,A0E];omega⟩,by simp⟩
 |zero =>
  have a1:=O5 (s:=ss) (t:=[32,125]) (by simp;omega);refine wAs a1 ?_;exact⟨_,_,GL.refl _ _,_,i2,a8,hi2,rfl,rfl⟩
include hL hw in
theorem f_handler(k:Nat)(hk0:k<=1000)(B:Nat)(hB2:B<=1000000)(hB:MZ 21 [I64 2] L w B):MZ 13 [I64 k] L w (B+200):=by
 intro H cc t i ht hi htc;refine AC.go A2 λhfr=>?_;have hrm:binR .rem (I64 (k:Int)) (.int .i64 11)=some (I64 ((k%11:Nat):Int)):=by rw[B0p (by decide)];rfl
 have hk:=Nat.mod_lt k (show 0<11 by decide);generalize k%11=m at hrm hk;obtain⟨q,q0⟩:∃q,decide ((w:Int)>0)=q:=⟨_,rfl⟩;have hq:q=false\/0<(w:Int):=by cases q;exact .inl rfl;exact .inr (by simpa using q0)
 (repeat'(rcases A1W.1 hk with hk|rfl));all_goals try exact absurd hk (A2R _)
 all_goals
  rcases hq with rfl|h0
  all_goals
   try cases q
   all_goals
    repeat'((first|apply wr|(refine AC.call (f_Next L hL w _ _ _ t _ (by first|exact ht|exact A0|(rw[hnO];first|exact ht|exact A0)|(simp only[I3];rw[if_neg (by simp;omega)];(repeat rw[hnO]);first|exact A0|exact ht)) (by assumption) (by omega) (by omega) (by omega)) ?_;rintro _ _ _ ⟨k,_,hk,_,rfl,rfl⟩ _)|(refine AC.call (B1q _ (by omega) _ _) ?_;rintro _ _ _ ⟨s,_,rfl,rfl⟩ _)|(refine AC.call (hB _ _ t _ (by first|exact ht|exact A0|(rw[hnO];first|exact ht|exact A0)|(simp only[I3];rw[if_neg (by simp;omega)];(repeat rw[hnO]);first|exact A0|exact ht)) (by assumption) (by omega)) ?_;rintro _ _ _ ⟨s,_,_,_,rfl,rfl⟩ _)|(refine AC.call (f_name L hL w hw _ _ (by decide) (by decide) (by decide) _ _ t _ (by first|exact ht|exact A0|(rw[hnO];first|exact ht|exact A0)|(simp only[I3];rw[if_neg (by simp;omega)];(repeat rw[hnO]);first|exact A0|exact ht)) (by assumption) (by omega)) ?_;rintro _ _ _ ⟨s,_,_,_,rfl,rfl⟩ _)|(apply wb2<;>(intro hb;try simp only[hb]))|exact⟨_,_,by first|exact GL.refl _ _|exact A6n hfr htc (by omega)|exact D1w hfr htc (by omega),_,_,o6,w6,rfl,rfl⟩|(refine⟨i8,?_⟩))<;>try simp (disch:=(first|omega|(simp only[A0A,A0G,A0L];omega))) only[go_sem,seval,O5,h_ne,A0,A1,A6g,ht,hrm,q0])
end
section
variable (L:List UInt8) (hL:L.length<=300) (w:Nat) (hw:w<=100)
include hL in
theorem f_rules(Hn:Nat)(hH2:Hn<=1000000)(hH:∀k:Nat,k<=1000->MZ 13 [I64 k] L w Hn):MZ 6 [] L w 100000000:=by
 intro H cc t i ht hi htc;refine AC.go A2 λhfr=>?_;have kL:∀(G:Hp) (j c0:Nat) (s:List UInt8),j<=300->t<c0->s.length<=1000->(∀B ds,GL (G.upd t B) ds (H.upd t B) ds)->IW Tryz.prog 50 (pz Tryz.prog 6 (.i (.i .h))) ⟨tm [(0,.ptr t 0),(3,.str s)],G.upd t (mkB L w j),c0⟩ (rt [.tmp 2] λv H' c' => ∃v2 H2,GL H' [v] H2 [v2]/\∃s j,s.length<=100000000/\j<=300/\v2=.str s/\H2=H.upd t (mkB L w j)):=by
  intro G j c0 s hj hc0 hs hG;refine wAp ?_;refine B6 (λq:Nat × Nat × List UInt8=>[(0,.ptr t 0),(3,.str q.2.2),(4,I64 q.1)]) (λq=>G.upd t (mkB L w q.2.1)) (λq c=>t<c/\q.1<=3/\q.2.1<=300/\q.2.2.length<=1000+10000000*q.1) (λq=>3-q.1) (0,j,s) (by simp[B5,tm,Tm.upd]) (Sub.refl _) ⟨hc0,b8,hj,hs⟩ ?_;clear hj hc0 hs;rintro⟨i,j,s⟩ c ⟨hc,hi3,hj,hl⟩;dsimp only at hc hi3 hj hl ⊢;by_cases h3:i<3
  ·have qi:decide ((i:Int)<3)=true:=by simp;omega
   try simp (disch:=(first|omega|(simp only[A0A,A0G,A0L];omega))) only[go_sem,seval,O5,A0,A1,qi]
   (repeat'(apply wr<;>try simp (disch:=(first|omega|(simp only[A0A,A0G,A0L];omega))) only[go_sem,seval,O5,A0,A1,qi]));refine AC.call (B1q _ (by omega) _ _) ?_;rintro _ _ c1 ⟨d1,hd1,rfl,rfl⟩ hc1;try simp (disch:=(first|omega|(simp only[A0A,A0G,A0L];omega))) only[go_sem,seval,O5,A0,A1]
   (repeat'(apply wr<;>try simp (disch:=(first|omega|(simp only[A0A,A0G,A0L];omega))) only[go_sem,seval,O5,A0,A1]));refine AC.call (f_Next L hL w 4 _ _ t j A0 hj (by omega) (by decide) (by decide)) ?_;rintro _ _ c2 ⟨p,j2,hp,hj2,rfl,rfl⟩ hc2;try simp (disch:=(first|omega|(simp only[A0A,A0G,A0L];omega))) only[go_sem,seval,O5,A0,A1]
   (repeat'(apply wr<;>try simp (disch:=(first|omega|(simp only[A0A,A0G,A0L];omega))) only[go_sem,seval,O5,A0,A1]));refine AC.call (B1q _ (by omega) _ _) ?_;rintro _ _ c3 ⟨d2,hd2,rfl,rfl⟩ hc3;try simp (disch:=(first|omega|(simp only[A0A,A0G,A0L];omega))) only[go_sem,seval,O5,A0,A1]
   (repeat'(apply wr<;>try simp (disch:=(first|omega|(simp only[A0A,A0G,A0L];omega))) only[go_sem,seval,O5,A0,A1]));refine AC.call (f_Next L hL w 11 _ _ t j2 A0 hj2 (by omega) (by decide) (by decide)) ?_;rintro _ _ c4 ⟨k,j3,hk,hj3,rfl,rfl⟩ hc4;try simp (disch:=(first|omega|(simp only[A0A,A0G,A0L];omega))) only[go_sem,seval,O5,A0,A1]
   (repeat'(apply wr<;>try simp (disch:=(first|omega|(simp only[A0A,A0G,A0L];omega))) only[go_sem,seval,O5,A0,A1]));refine AC.call (f_Next L hL w 5 _ _ t j3 A0 hj3 (by omega) (by decide) (by decide)) ?_;rintro _ _ c5 ⟨n,j4,hn,hj4,rfl,rfl⟩ hc5;try simp (disch:=(first|omega|(simp only[A0A,A0G,A0L];omega))) only[go_sem,seval,O5,A0,A1]
   (repeat'(apply wr<;>try simp (disch:=(first|omega|(simp only[A0A,A0G,A0L];omega))) only[go_sem,seval,O5,A0,A1]));refine B6 (λq:Nat × Nat × Nat × List UInt8=>[(0,.ptr t 0),(3,.str q.2.2.2),(4,I64 i),(5,I64 q.2.2.1),(6,I64 q.1)]) (λq=>G.upd t (mkB L w q.2.1)) (λq c=>t<c/\q.1+q.2.2.1<=20/\q.2.1<=300/\q.2.2.2.length+2000000*q.1<=9000000+10000000*i) (λq=>q.1) (n,j4,k,_) ⟨rfl,rfl,rfl,rfl,rfl,trivial⟩ (Sub.refl _) ⟨b8,by show n+k<=20;omega,hj4,by simp only[A0A,A0G,A0L];omega⟩ ?_;rintro⟨n,j,k,y⟩ c ⟨hc,hn,hj,hl⟩;dsimp only at hc hn hj hl ⊢;cases n with
   |succ n =>
    have qn:decide (((n+1:Nat):Int)>0)=true:=decide_eq_true (by omega);have hw1:IntKind.i64.wrap (((n+1:Nat):Int)-1)=(n:Int):=i7
    have hw2:IntKind.i64.wrap ((k:Int)+1)=((k+1:Nat):Int):=i7
    generalize ((n+1:Nat):Int)=N1 at qn hw1 ⊢;try simp (disch:=(first|omega|(simp only[A0A,A0G,A0L];omega))) only[go_sem,seval,O5,A0,A1,qn]
    (repeat'(apply wr<;>try simp (disch:=(first|omega|(simp only[A0A,A0G,A0L];omega))) only[go_sem,seval,O5,A0,A1,qn]));refine AC.call (hH k (by omega) _ _ t j A0 hj (by omega)) ?_;rintro _ _ c6 ⟨r,j5,l,hj5,rfl,rfl⟩ hc6;try simp (disch:=(first|omega|(simp only[A0A,A0G,A0L];omega))) only[go_sem,seval,O5,A0,A1,hw1,hw2]
    (repeat'(apply wr<;>try simp (disch:=(first|omega|(simp only[A0A,A0G,A0L];omega))) only[go_sem,seval,O5,A0,A1,hw1,hw2]));exact⟨(n,j5,k+1,_),⟨rfl,rfl,rfl⟩,Sub.refl _,inv ⟨b8,by show n+(k+1)<=20;omega,hj5,by simp only[A0A,A0G,A0L];omega⟩,by simp⟩
   |zero =>
    have hw2:IntKind.i64.wrap ((i:Int)+1)=((i+1:Nat):Int):=i7
    try simp (disch:=(first|omega|(simp only[A0A,A0G,A0L];omega))) only[go_sem,seval,O5,A0,A1,hw2]
    (repeat'(apply wr<;>try simp (disch:=(first|omega|(simp only[A0A,A0G,A0L];omega))) only[go_sem,seval,O5,A0,A1,hw2]));exact⟨(i+1,j,_),⟨rfl,rfl⟩,Sub.refl _,inv ⟨b8,by show i+1<=3;omega,hj,by simp only[A0A,A0G,A0L];omega⟩,by simp only;omega⟩
  ·have qi:decide ((i:Int)<3)=false:=by simp;omega
   try simp (disch:=(first|omega|(simp only[A0A,A0G,A0L];omega))) only[go_sem,seval,O5,A0,A1,qi]
   (repeat'(apply wr<;>try simp (disch:=(first|omega|(simp only[A0A,A0G,A0L];omega))) only[go_sem,seval,O5,A0,A1,qi]));exact⟨_,_,hG _ _,s,j,b8,hj,rfl,rfl⟩
 have kH:∀(s:List UInt8) (c0:Nat),s.length<=600->cc<=c0->IW Tryz.prog 50 (pz Tryz.prog 6 (.i (.o .h))) ⟨tm [(0,.ptr t 0),(3,.str s)],H,c0⟩ (rt [.tmp 2] λv H' c' => ∃v2 H2,GL H' [v] H2 [v2]/\∃s j,s.length<=100000000/\j<=300/\v2=.str s/\H2=H.upd t (mkB L w j)):=by
  intro s c0 hs hc0;have a1:=O5 (s:=s) (t:=[118,97,114,32,118,48,32]) (by simp;omega);refine wAs a1 ?_;refine AC.call (f_Next L hL w 4 _ _ t i (by rw[hnO];exact ht) hi (by omega) (by decide) (by decide)) ?_;rintro _ _ c3 ⟨k,j,hk,hj,rfl,rfl⟩ hc3;generalize hWL:([.str [48],.str [53],.str [45,55],.str [50,49,52,55,52,56,51,54,52,55]]:List DV)=WL;obtain⟨og,hog,hld⟩:∃og:List UInt8,og.length<=10/\WL[k]? = some (.str og):=by
   subst hWL
   (try simp only[Int.reduceToNat]at hk);(repeat'(rcases A1W.1 hk with hk|rfl));all_goals first|exact absurd hk (A2R _)|exact⟨_,r9,rfl⟩
  have hk4:k<4:=hk;have hia:A0u 1 (.slc c0 0 4) (I64 (k:Int))=some (.ptr c0 k):=by simp[A0u];omega
  have a2:=O5 (s:=s++[118,97,114,32,118,48,32]) (t:=og) (by simp;omega);obtain⟨Y,hY,a3⟩:∃Y:List UInt8,Y.length<=1000/\binR .add (.str (s++[118,97,114,32,118,48,32]++og)) (.str [59,32,118,97,114,32,118,49,32,49,59,32,118,97,114,32,118,50,32,48,59,32,116,105,109,101,114,32,116,109,48,59,32,116,105,109,101,114,32,116,109,49,59,32,101,118,101,110,116,32,101,118,48,59,32,101,118,101,110,116,32,101,118,49,59,10])=some (.str Y):=⟨_,a8,O5 (by simp;omega)⟩;have ne0:=Q8 t c0 (by omega);simp only[go_sem,seval,A0,A1,ne0,hia,hWL,hld,a1,a2,a3];(repeat'((with_reducible first|refine J8 (p:=IW _ _ (pz Tryz.prog 6 (.i (.i .h))) _ _) ?_|refine wr ?_|refine B0 ?_ ?_|apply wb2<;>(intro hb;try simp only[hb]))<;>try simp only[go_sem,seval]));exact IW.stage (by simp[B5,tm,Tm.upd]) (kL _ j _ Y hj (by omega) hY λB ds=>D1w hfr htc (by omega))
 (repeat'((with_reducible first|refine J8 (p:=IW _ _ (pz Tryz.prog 6 (.i (.o .h))) _ _) ?_|refine wr ?_|refine B0 ?_ ?_|apply wb2<;>(intro hb;try simp only[hb]))<;>try simp only[go_sem,seval]));exact IW.stage (L:=[(0,.ptr t 0),(3,.str _)]) ⟨rfl,rfl,trivial⟩ (kH _ _ (by simp) (by omega))
end
theorem E6v(l:List UInt8)(hl:l.length<=9223372036854775807)(H:Hp)(cc:Nat):
  AC Tryz.prog 5 [.lst (bytesC l)] H cc (λv H' c' => ∃t L,L.length<=300/\cc<=t/\t<c'/\v=.ptr t 0/\H'=H.upd t (mkB L 0 0)):=by
 refine AC.go A2 λhfr=>?_;have hlen:(bytesC l).length=l.length:=by simp[bytesC]
 have hmin:(if(300:Int)<((l.length:Nat):Int) then(300:Int) else((l.length:Nat):Int))=((min l.length 300:Nat):Int):=by split<;>omega
 have hsl:A7c H 1 (.lst (bytesC l)) none (some (I64 ((min l.length 300:Nat):Int)))=some (.lst (bytesC (l.take (min l.length 300)))):=by
  have hb:boundOf (bytesC l).length (some (I64 ((min l.length 300:Nat):Int)))=some (min l.length 300):=by simp[boundOf]
  have hu:Sym.unit 1 (bytesC l)=true:=by simp only[Sym.unit,bytesC,List.all_map];exact A0V.2 λx _=>rfl
  simp only[A7c,hb,show boundOf 0 none=some 0 from rfl];rw[if_pos ⟨by rw[hlen];omega,A0N _,hu⟩,A3S,Nat.sub_zero];unfold bytesC;rw[<- List.map_take]
 refine wAx hlen hmin hsl ?_;exact⟨_,_,GL.refl _ _,cc,l.take (min l.length 300),zaj,A0D _,A1M _,rfl,rfl⟩
end Go.Proofs.YtdclpmddofggcaaGreatDoor
set_option maxHeartbeats 4000000
namespace Go.Proofs.YtdclpmddofggcaaGreatDoor
open Go.Eng (IC IOper DReg IFn L4)
open Go.Sym
abbrev x4:XT Tryz.prog 4:=mkF
instance t4:FT Tryz.prog 4 x4.d:=x4.ft
end Go.Proofs.YtdclpmddofggcaaGreatDoor
set_option maxHeartbeats 8000000
namespace Go.Proofs.YtdclpmddofggcaaGreatDoor
open Go.Eng (IC IOper DReg IFn L4)
open Go.Sym Go.Pb
theorem E7i(a b:List UInt8)(h:a.length+b.length<=1000000000):∃x,x=a++b/\x.length=a.length+b.length/\binR .add (.str a) (.str b)=some (.str x) :=
 ⟨_,rfl,by simp,O5 (by omega)⟩
theorem c_Spoil(s:List UInt8)(hs:s.length<=200000000)(a b c:Nat)(ha:a<256)(hb:b<256)(hc:c<256):∃t:List UInt8,t.length<=s.length+1/\PC Tryz.prog 4 [.str s,.agg [.int .u8 (a:Int),.int .u8 (b:Int),.int .u8 (c:Int)]] (.str t):=by
 by_cases h0:s.length=0
 ·refine⟨[],A0N _,?_⟩;obtain rfl:s=[]:=A2K.1 h0;refine PC.go A2 ?_;refine wAp ?_;exact A3 rfl
 have d0:((s.length:Int)==0)=false:=by simpa using h0
 have hkl:(a*256+b)%s.length<s.length:=Nat.mod_lt _ (by omega);have hw1:IntKind.i64.wrap (a:Int)=a:=w6z;have hw2:IntKind.i64.wrap (b:Int)=b:=w6z;have hw3:IntKind.i64.wrap ((a:Int)*256)=((a*256:Nat):Int):=i7
 have hw4:IntKind.i64.wrap (((a*256:Nat):Int)+b)=((a*256+b:Nat):Int):=i7
 have hr:binR .rem (I64 ((a*256+b:Nat):Int)) (I64 (s.length:Int))=some (I64 (((a*256+b)%s.length:Nat):Int)):=by
  rw[B0p (by omega)];rfl
 generalize (a*256+b)%s.length=k at hkl hr;have hw5:IntKind.i64.wrap ((k:Int)+1)=((k+1:Nat):Int):=i7
 have hc5:binR .rem (.int .u8 (c:Int)) (.int .u8 5)=some (.int .u8 ((c%5:Nat):Int)):=by rw[B0p (by decide)];rfl
 have hq:c%5<5:=Nat.mod_lt _ (by decide);have t1:slsR s none (some (I64 (k:Int)))=some (.str (s.take k)):=B0j (by omega);have t2:slsR s (some (I64 (k:Int))) none=some (.str (s.drop k)):=A3f (by omega);have t3:slsR s (some (I64 ((k+1:Nat):Int))) none=some (.str (s.drop (k+1))):=A3f (by omega);have hcat:∀a b:List UInt8,a.length+b.length<=1000000000->binR .add (.str a) (.str b)=some (.str (a++b)):=λa b h=>by
  obtain⟨x,rfl, -,h2⟩:=E7i a b h;exact h2
 have hl1:(s.take k).length<=s.length:=zaj
 have hl2:(s.drop k).length<=s.length:=by rw[A1P];omega
 have hl3:(s.drop (k+1)).length<=s.length:=by rw[A1P];omega
 generalize hqq:c%5=q at hc5 hq;obtain⟨x,rfl⟩:∃x:UInt8,x.toNat=c:=⟨UInt8.ofNat c,by simp;omega⟩;have hcv:∀H:Hp,A1y (H.upd 1 ⟨1,true,[.int .u8 (x.toNat:Int)]⟩) (.slc 1 0 1)=some (.str [x]):=λH=>A7y (l:=[x]) A0 rfl rfl;have c1:=hcat (s.take k) [x] (by simp;omega);have c2:=hcat (s.take k++[x]) (s.drop k) (by simp;omega);have c3:=hcat (s.take k) (s.drop (k+1)) (by omega);have c4:=hcat (s.take k++[x]) (s.drop (k+1)) (by simp;omega)
 match q,hq with
 |0,_ =>
  refine⟨s.take k++[x]++s.drop k,a8,?_⟩;refine PC.go A2 ?_;(repeat'((with_reducible first|apply wr|refine B0 ?_ ?_|apply wb2<;>(intro hb;try simp only[hb]))<;>try simp only[go_sem,seval,d0,hw1,hw2,hw3,hw4,hw5,hr,hc5,t1,t2,t3,hcv,c1,c2,c3,c4]));all_goals exact A3 rfl
 |1,_ =>
  refine⟨s.take k++s.drop (k+1),a8,?_⟩;refine PC.go A2 ?_;(repeat'((with_reducible first|apply wr|refine B0 ?_ ?_|apply wb2<;>(intro hb;try simp only[hb]))<;>try simp only[go_sem,seval,d0,hw1,hw2,hw3,hw4,hw5,hr,hc5,t1,t2,t3,hcv,c1,c2,c3,c4]));all_goals exact A3 rfl
 |2,_ =>
  refine⟨s.take k++[x]++s.drop (k+1),a8,?_⟩;refine PC.go A2 ?_;(repeat'((with_reducible first|apply wr|refine B0 ?_ ?_|apply wb2<;>(intro hb;try simp only[hb]))<;>try simp only[go_sem,seval,d0,hw1,hw2,hw3,hw4,hw5,hr,hc5,t1,t2,t3,hcv,c1,c2,c3,c4]));all_goals exact A3 rfl
 |3,_ =>
  refine⟨s.take k,a8,?_⟩;refine PC.go A2 ?_;(repeat'((with_reducible first|apply wr|refine B0 ?_ ?_|apply wb2<;>(intro hb;try simp only[hb]))<;>try simp only[go_sem,seval,d0,hw1,hw2,hw3,hw4,hw5,hr,hc5,t1,t2,t3,hcv,c1,c2,c3,c4]));all_goals exact A3 rfl
 |4,_ =>
  refine⟨s,b8,?_⟩;refine PC.go A2 ?_;(repeat'((with_reducible first|apply wr|refine B0 ?_ ?_|apply wb2<;>(intro hb;try simp only[hb]))<;>try simp only[go_sem,seval,d0,hw1,hw2,hw3,hw4,hw5,hr,hc5,t1,t2,t3,hcv,c1,c2,c3,c4]));all_goals exact A3 rfl
end Go.Proofs.YtdclpmddofggcaaGreatDoor
set_option maxHeartbeats 4000000
namespace Go.Proofs.YtdclpmddofggcaaGreatDoor
open Go.Eng (IC IOper DReg IFn L4)
open Go.Sym
abbrev x18:XT Tryz.prog 18:=mkF
instance t18:FT Tryz.prog 18 x18.d:=x18.ft
open Go.Sym Go.Pb
abbrev x9:XT Tryz.prog 9:=mkF (i:=⟨113,.seq (.reg [oX 2 0,oX 3 1,oV 4 (.bool false)]) (.seq (.seq (.reg [oF 8 2 0,oL 9 8,oH 10 9,oF 11 3 0,oL 12 11,oH 13 12,oB 14 10 13 .neq,oM 15 14,hF 16 2 1 15,hL 17 16 15,oR 18 (.len (.t 17)) 15,hF 19 3 1 15,hL 20 19 15,oR 21 (.len (.t 20)) 15,oR 22 (.bin .neq (.t 18) (.t 21)) 15,oO 23 15 22,oM 24 23,hF 25 2 2 24,hL 26 25 24,oR 27 (.len (.t 26)) 24,hF 28 3 2 24,hL 29 28 24,oR 30 (.len (.t 29)) 24,oR 31 (.bin .neq (.t 27) (.t 30)) 24,oO 32 24 31,oM 33 32,hF 34 2 5 33,hL 35 34 33,hF 36 3 5 33,hL 37 36 33,oR 38 (.bin .neq (.t 35) (.t 37)) 33,oO 39 33 38,oM 40 39,hF 41 2 6 40,hL 42 41 40,hF 43 3 6 40,hL 44 43 40,oR 45 (.bin .neq (.t 42) (.t 44)) 40,oO 46 40 45]) (.cond (.t 46) (.seq (.reg [oV 4 (.bool false)]) .ret) .skip)) (.seq (.seq (.reg [oI 5 0]) (.blk 0 (.loop (.seq (.seq (.reg [oM 47 5,oF 48 2 0,oL 49 48,oH 50 49,oB 51 47 50 .lss]) (.cond (.t 51) .skip (.exit 0))) (.seq (.blk 1 (.seq (.drw 11 (dQ [oF 54 2 0,oL 55 54,oM 56 5,oA 57 55 56 2,oD 58 57 2,oF 59 3 0,oL 60 59,oM 61 5,oA 62 60 61 2,oD 63 62 2,oP 64 (.eqa true [0,0] (.t 58) (.t 63))] 0)) (.cond (.t 64) (.seq (.reg [oV 4 (.bool false)]) .ret) .skip))) (.reg [oM 52 5,oK 53 52 .add 1,oM 5 53])))))) (.seq (.seq (.reg [oI 6 0]) (.blk 2 (.loop (.seq (.seq (.reg [oM 65 6,oF 66 2 1,oL 67 66,oH 68 67,oB 69 65 68 .lss]) (.cond (.t 69) .skip (.exit 2))) (.seq (.blk 3 (.seq (.drw 11 (dQ [oF 72 2 1,oL 73 72,oM 74 6,oA 75 73 74 1,oL 76 75,oF 77 3 1,oL 78 77,oM 79 6,oA 80 78 79 1,oL 81 80,oB 82 76 81 .neq] 0)) (.cond (.t 82) (.seq (.reg [oV 4 (.bool false)]) .ret) .skip))) (.reg [oM 70 6,oK 71 70 .add 1,oM 6 71])))))) (.seq (.seq (.reg [oI 7 0]) (.blk 4 (.loop (.seq (.seq (.reg [oM 83 7,oF 84 2 2,oL 85 84,oH 86 85,oB 87 83 86 .lss]) (.cond (.t 87) .skip (.exit 4))) (.seq (.blk 5 (.seq (.drw 11 (dQ [oF 90 2 2,oL 91 90,oM 92 7,oA 93 91 92 4,oD 94 93 4,oF 95 3 2,oL 96 95,oM 97 7,oA 98 96 97 4,oD 99 98 4,oP 100 (.eqa true [0,0,0,0] (.t 94) (.t 99))] 0)) (.cond (.t 100) (.seq (.reg [oV 4 (.bool false)]) .ret) .skip))) (.reg [oM 88 7,oK 89 88 .add 1,oM 7 89])))))) (.seq (.reg [oF 101 2 3,oL 102 101,oF 103 3 3,oL 104 103,oC 105 18 [.t 102,.t 104],oM 106 105,gF 107 2 4 106,gL 108 107 106,gF 109 3 4 106,gL 110 109 106,⟨some 111,.call 18 [.t 108,.t 110],some (106,true)⟩,oJ 112 106 111,oM 4 112]) .ret))))),[.tmp 4]⟩) (by unfold L4;kernel_rfl) (λh=>by conv=>lhs;cbv)
instance t9:FT Tryz.prog 9 x9.d:=x9.ft
theorem c_SameInts(a b:List Int)(n1:a.length<=9223372036854775807):PC Tryz.prog 18 [.lst (a.map I64),.lst (b.map I64)] (.bool (decide (a=b))):=by
 refine PC.go A2 ?_;by_cases hl:a.length=b.length
 case neg =>
  have hne:((a.length:Int) != (b.length:Int))=true:=a8
  refine wAr hne ?_;rw[decide_eq_false (λe=>hl (by rw[e]))];exact A3 rfl
 have hne:((a.length:Int) != (b.length:Int))=false:=a8
 refine wAr hne ?_;refine B6 (λk:Nat=>[(0,.lst (a.map I64)),(1,.lst (b.map I64)),(5,I64 k)]) (λ_=>nil) (λk cc=>k<=a.length/\a.take k=b.take k) (λk=>a.length-k) 0 (by simp[B5,tm,Tm.upd]) (Sub.nil _) (by simp) ?_;rintro k cc ⟨hk,he⟩;by_cases hlt:k<a.length
 ·have hd:=dtz hlt;have hlt2:k<b.length:=by omega
  have hg:=A0B hlt;have hg2:=A0B hlt2;have hw:=w64 (n:=(k:Int)+1);repeat'((with_reducible first|apply wr|refine B0 ?_ ?_|apply wb2<;>(intro hb;try simp only[hb]))<;>try simp only[go_sem,seval,A0I,hd,hg,hg2,hw])
  all_goals first
   |(refine⟨k+1,rfl,Sub.nil _,inv ⟨hlt,(A4k hg hg2 he).2 ?_⟩,by omega⟩;simpa using hb)
   |(rw[decide_eq_false (A9v hg hg2 ?_)];exact A3 rfl;simpa using hb)
 have hd:=dfz hlt;refine wAr hd ?_;rw[decide_eq_true (A9w hl (by omega) he)];exact A3 rfl
theorem c_SameR(a b:Prg)(n1:a.instrs.length<=9223372036854775807)(n2:a.strings.length<=9223372036854775807)(n3:a.entries.length<=9223372036854775807)(n4:a.prios.length<=9223372036854775807)(n5:a.vars.length<=9223372036854775807):
  PC Tryz.prog 9 [a.v,b.v] (.bool (decide (a=b))):=by
 refine PC.go A2 ?_;by_cases h:a.instrs.length=b.instrs.length/\a.strings.length=b.strings.length/\a.entries.length=b.entries.length/\a.timers=b.timers/\a.events=b.events
 case neg =>
  repeat'((with_reducible first|apply wr|refine B0 ?_ ?_|apply wb2<;>(intro hb;try simp only[hb]))<;>try simp only[go_sem,seval])
  all_goals first
   |(refine A3 ?_;congr 1;rw[B0r];simp_all;done)
   |(exfalso;simp only[bne_eq_false_iff_eq]at *;apply h;refine⟨?_,?_,?_,?_,?_⟩<;>first|assumption|omega)
 obtain⟨l1,l2,l3,l4,l5⟩:=h;have e1:((a.instrs.length:Int) != (b.instrs.length:Int))=false:=a8
 have e2:((a.strings.length:Int) != (b.strings.length:Int))=false:=a8
 have e3:((a.entries.length:Int) != (b.entries.length:Int))=false:=a8
 have e4:(a.timers != b.timers)=false:=by simp[l4]
 have e5:(a.events != b.events)=false:=by simp[l5]
 refine wA2 e1 e2 e3 e4 e5 ?_;refine B6 (λk:Nat=>[(2,.ptr 0 0),(3,.ptr 1 0),(5,I64 k)]) (λ_=>(nil.upd 0 ⟨0,true,a.cs⟩).upd 1 ⟨0,true,b.cs⟩) (λk cc=>2<=cc/\k<=a.instrs.length/\a.instrs.take k=b.instrs.take k) (λk=>a.instrs.length-k) 0 (by simp[B5,tm,Tm.upd]) (Sub.refl _) (by simp) ?_;rintro k cc ⟨h2,hk,he⟩;by_cases hlt:k<a.instrs.length
 ·have hd:=dtz hlt;have hlt2:k<b.instrs.length:=by omega
  have hg:=A0B hlt;have hg2:=A0B hlt2;have hw:=w64 (n:=(k:Int)+1);repeat'((with_reducible first|apply wr|refine B0 ?_ ?_|apply wb2<;>(intro hb;try simp only[hb]))<;>try simp only[go_sem,seval,hd,hg,hg2,hw,E6y])
  all_goals first
   |(refine⟨k+1,rfl,Sub.refl _,inv ⟨b8,hlt,(A4k hg hg2 he).2 ?_⟩,by omega⟩;simpa[D1f] using hb)
   |(refine A3 ?_;congr 1;rw[B0r,decide_eq_false (A9v hg hg2 ?_)];rfl;simpa[D1f] using hb)
 have hd:=dfz hlt;have g1:=A9w l1 (by omega) he;clear he hk;refine wAs hd ?_;clear hd hlt;refine B6 (λk:Nat=>[(2,.ptr 0 0),(3,.ptr 1 0),(6,I64 k)]) (λ_=>(nil.upd 0 ⟨0,true,a.cs⟩).upd 1 ⟨0,true,b.cs⟩) (λk cc=>2<=cc/\k<=a.strings.length/\a.strings.take k=b.strings.take k) (λk=>a.strings.length-k) 0 (by simp[B5,tm,Tm.upd]) (Sub.refl _) (by simp;omega) ?_;clear k cc h2;rintro k cc ⟨h2,hk,he⟩;by_cases hlt:k<a.strings.length
 ·have hd:=dtz hlt;have hlt2:k<b.strings.length:=by omega
  have hg:=A0B hlt;have hg2:=A0B hlt2;have hw:=w64 (n:=(k:Int)+1);repeat'((with_reducible first|apply wr|refine B0 ?_ ?_|apply wb2<;>(intro hb;try simp only[hb]))<;>try simp only[go_sem,seval,hd,hg,hg2,hw,E6y])
  all_goals first
   |(refine⟨k+1,rfl,Sub.refl _,inv ⟨b8,hlt,(A4k hg hg2 he).2 ?_⟩,by omega⟩;simpa using hb)
   |(refine A3 ?_;congr 1;rw[B0r,decide_eq_false (A9v hg hg2 (by simpa using hb))];simp)
 have hd:=dfz hlt;have g2:=A9w l2 (by omega) he;clear he hk;refine wAs hd ?_;clear hd hlt;refine B6 (λk:Nat=>[(2,.ptr 0 0),(3,.ptr 1 0),(7,I64 k)]) (λ_=>(nil.upd 0 ⟨0,true,a.cs⟩).upd 1 ⟨0,true,b.cs⟩) (λk cc=>2<=cc/\k<=a.entries.length/\a.entries.take k=b.entries.take k) (λk=>a.entries.length-k) 0 (by simp[B5,tm,Tm.upd]) (Sub.refl _) (by simp;omega) ?_;clear k cc h2;rintro k cc ⟨h2,hk,he⟩;by_cases hlt:k<a.entries.length
 ·have hd:=dtz hlt;have hlt2:k<b.entries.length:=by omega
  have hg:=A0B hlt;have hg2:=A0B hlt2;have hw:=w64 (n:=(k:Int)+1);repeat'((with_reducible first|apply wr|refine B0 ?_ ?_|apply wb2<;>(intro hb;try simp only[hb]))<;>try simp only[go_sem,seval,hd,hg,hg2,hw,E6x])
  all_goals first
   |(refine⟨k+1,rfl,Sub.refl _,inv ⟨b8,hlt,(A4k hg hg2 he).2 ?_⟩,by omega⟩;simpa[D2q] using hb)
   |(refine A3 ?_;congr 1;rw[B0r,decide_eq_false (A9v hg hg2 (by simpa[D2q] using hb))];simp)
 have hd:=dfz hlt;have g3:=A9w l3 (by omega) he;clear he hk;repeat'((with_reducible first|apply wr|refine cpc (c_SameInts _ _ n4) ?_|refine cpc (c_SameInts _ _ n5) ?_|refine B0 ?_ ?_|apply wb2<;>(intro hb;try simp only[hb]))<;>try simp only[go_sem,seval,hd])
 all_goals refine A3 ?_
 all_goals(congr 1;rw[B0r];simp_all)
end Go.Proofs.YtdclpmddofggcaaGreatDoor
set_option maxHeartbeats 8000000
namespace Go.Proofs.YtdclpmddofggcaaGreatDoor
open Go.Eng (IC IOper DReg IFn L4)
open Go.Sym Go.Pb
theorem c_both(s:List UInt8)(hs:s.length<=200000000):∃(a1 a2 a3 a4 a5:List DV) (a6 a7 p e:Int),
  PC Tryz.prog 7 [.str s] (.tup [.agg [.lst a1,.lst a2,.lst a3,.lst a4,.lst a5,I64 a6,I64 a7],I64 p,I64 e])/\PC Tryz.prog 8 [.str s] (.tup [.agg [.lst a1,.lst a2,.lst a3,.lst a4,.lst a5,I64 a6,I64 a7],I64 p,I64 e]) /\
  PC Tryz.prog 9 [.agg [.lst a1,.lst a2,.lst a3,.lst a4,.lst a5,I64 a6,I64 a7],.agg [.lst a1,.lst a2,.lst a3,.lst a4,.lst a5,I64 a6,I64 a7]] (.bool true):=by
 have h1:=c_PBuild s hs;have h2:=c_RBuild s hs;have hd:(A8c s).1.instrs.length<=4000/\(A8c s).1.strings.length<=200/\(A8c s).1.entries.length<=9223372036854775807/\(A8c s).1.prios.length<=16/\(A8c s).1.vars.length<=128:=by
  have hz:=B5h s;have p0:A8g.instrs.length<=4000/\A8g.strings.length<=200/\A8g.entries.length<=9223372036854775807/\A8g.prios.length<=16/\A8g.vars.length<=128:=r9
  unfold A8c;by_cases h0:(N6 s).2.2≠0
  ·rw[if_pos h0];exact p0
  rw[if_neg h0];unfold B2z;by_cases hv:M8 (N6 s).1=true
  rotate_left
  ·rw[if_neg hv];exact p0
  rw[if_pos hv];cases A4t (N6 s).1 with
  |some q=>exact p0
  |none =>
   by_cases h4:4000<(cmC (N6 s).1).instrs.length\/200<(cmC (N6 s).1).strings.length
   ·simp only[if_pos h4];exact p0
   simp only[if_neg h4];have hm:=C7y hv;have hk:=congrArg List.length (B9o (nmR (N6 s).1) (G5 (nmR (N6 s).1) 0 (N6 s).1.modes) 0 []);have hw:=B5a (nmR (N6 s).1) (N6 s).1.modes 0;have hl:=K2 (f:=λp:F4=>2*St.szs p.2.flatten+1) (l:=G5 (nmR (N6 s).1) 0 (N6 s).1.modes) λ_ _=>b8
   rw[A0I,A0I]at hk;have hS:((N6 s).1.decls.map Dc.sz).sum+((N6 s).1.modes.map Md.sz).sum<=900000:=hz;refine⟨b8,b8,?_,?_,?_⟩
   ·show(cgL (nmR (N6 s).1) 0 [] (G5 (nmR (N6 s).1) 0 (N6 s).1.modes)).2.1.length<=_;omega
   ·show((N6 s).1.modes.map (·.prio)).length<=_;rw[A0I];exact hm.2
   ·show(((N6 s).1.decls.filter λd=>d.kind==6).map (·.value)).length<=_;rw[A0I];exact A1B (A4B _ _) hm.1
 obtain⟨d1,d2,d3,d4,d5⟩:=hd;have h3:=c_SameR (A8c s).1 (A8c s).1 (by omega) (by omega) d3 (by omega) (by omega);rw[decide_eq_true rfl]at h3;generalize A8c s=q at h1 h2 h3;obtain⟨⟨a1,a2,a3,a4,a5,a6,a7⟩,p,e⟩:=q;exact⟨_,_,_,_,_,a6,a7,p,e,h1,h2,h3⟩
theorem c_CompileBuilds(raw:List UInt8)(hraw:raw.length<=9223372036854775807)(l:List UInt8)(hl:l.length<=9223372036854775807)(a0 a1 a2:Nat)(h0:a0<256)(h1:a1<256)(h2:a2<256):
  PC Tryz.prog 3 [.str raw,.lst (bytesC l),.agg [.int .u8 (a0:Int),.int .u8 (a1:Int),.int .u8 (a2:Int)]] (.bool true):=by
 have hsa:=c_sane34;refine PC.ofT A2 rfl (A0C rfl) (by simp[DV.nlL,DV.nl,show DV.nlL (bytesC l)=true from L5 (λ_=>rfl) l]) rfl ?_;have hmin:(if(300:Int)<((raw.length:Nat):Int) then(300:Int) else((raw.length:Nat):Int))=((min raw.length 300:Nat):Int):=by split<;>omega
 have hsl:slsR raw none (some (I64 ((min raw.length 300:Nat):Int)))=some (.str (raw.take (min raw.length 300))):=by
  rw[C9g (h:=min raw.length 300) (l:=0) (by simp[boundOf]) rfl (by omega) (by omega)];simp
 have hr1:(raw.take (min raw.length 300)).length<=100000:=zaj
 generalize raw.take (min raw.length 300)=r1 at hsl hr1;refine wAs (wJ hmin hsl) ?_;refine AC.call (E6v l hl _ _) ?_;rintro v' H' c3 ⟨t,L,hL,ht1,ht2,rfl,rfl⟩ hc3;have s0:=C1v L hL 0 (by omega) 0 (by omega) 0 (by omega) (.inl (by omega));have s1:=C1v L hL 0 (by omega) 15010 (by omega) 1 (by omega) (.inr (f_block L hL _ _ (by omega) 0 s0));have s2:=C1v L hL 0 (by omega) 105070 (by omega) 2 (by omega) (.inr (f_block L hL _ _ (by omega) 1 s1));have hH:=λk hk=>f_handler L hL 0 (by omega) k hk _ (by omega) (f_block L hL _ _ (by omega) 2 s2);have hR:=f_rules L hL _ _ (by omega) hH;clear s0 s1 s2 hH;have ne0:=Q8 0 t (by omega);simp only[go_sem,seval,ne0,A0,A1,hmin,hsl];refine⟨by and_intros<;>(rw[hnO];rfl),?_⟩;refine wAx ne0 @A0 @A1 ?_;refine AC.call (hR _ _ t 0 A0 (by omega) (by omega)) ?_;rintro v' H' c4 ⟨s,j,hsz,hj,rfl,rfl⟩ hc4;obtain⟨t2,ht2l,hsp⟩:=c_Spoil s (by omega) _ _ _ h0 h1 h2;simp only[go_sem,seval,ne0,A0,A1,hmin,hsl];refine⟨by and_intros<;>(rw[hnO];rfl),?_⟩;refine wBc hsp (wJ ne0 (wJ @A0 @A1)) ?_;simp only[go_sem,seval,ne0,A0,A1,hmin,hsl];refine⟨by and_intros<;>(rw[hnO];rfl),?_⟩;refine wAx ne0 @A0 @A1 ?_;generalize hK:((Sym.nil.upd 0 ⟨0,true,[.int .u8 (a0:Int),.int .u8 (a1:Int),.int .u8 (a2:Int)]⟩).upd t (mkB L 0 j)).upd 11 ⟨1,true,[.str r1,.str t2]⟩=K;have hb:K 11=some ⟨1,true,[.str r1,.str t2]⟩:=by rw[<- hK];exact A0
 have hKn:∀i,c4<=i->K i=none:=λi hi=>by rw[<- hK,hnO,hnO,hnO];rfl
 clear hK;refine B6 (λk:Nat=>[(25,.slc 11 0 2),(26,I64 2),(27,I64 k)]) (λ_=>K) (λk c=>k<=2/\c4<=c) (λk=>2-k) 0 (by simp[B5,tm,Tm.upd]) (Sub.refl _) ⟨b8,A0D _⟩ ?_;rintro k c ⟨hk,hcc⟩;have k1:=hKn c hcc;have k2:=hKn (c+1) (by omega);rcases(show k=0\/k=1\/k=2 by omega) with rfl|rfl|rfl
 ·obtain⟨x1,x2,x3,x4,x5,x6,x7,p,e,q1,q2,q3⟩:=c_both r1 (by omega);have b1:(p != p)=false:=by simp
  have b2:(e != e)=false:=by simp
  have ne0:=Q8 c (c+1) (by omega);refine wBl q1 q2 q3 (wJ hb (wJ b1 (wJ b2 (wJ ne0 (wJ @A0 @A1))))) ?_;exact⟨1,rfl,((Sub.refl _).upd _ k1).upd _ k2,inv ⟨b8,by omega⟩,by omega⟩
 ·obtain⟨x1,x2,x3,x4,x5,x6,x7,p,e,q1,q2,q3⟩:=c_both t2 (by omega);have b1:(p != p)=false:=by simp
  have b2:(e != e)=false:=by simp
  have ne0:=Q8 c (c+1) (by omega);refine wBl q1 q2 q3 (wJ hb (wJ b1 (wJ b2 (wJ ne0 (wJ @A0 @A1))))) ?_;exact⟨2,rfl,((Sub.refl _).upd _ k1).upd _ k2,inv ⟨b8,by omega⟩,by omega⟩
 ·refine wA9 hsa ?_;exact A3 rfl
end Go.Proofs.YtdclpmddofggcaaGreatDoor
end
