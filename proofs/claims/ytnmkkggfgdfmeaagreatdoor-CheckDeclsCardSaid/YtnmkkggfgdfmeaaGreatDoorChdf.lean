/-
  HELPERS of the claim: part 6 of its texts.
-/
import Derived.Test.YtnmkkggfgdfmeaaGreatDoorProg
import Derived.Test.YtnmkkggfgdfmeaaGreatDoorChde
noncomputable section
set_option maxHeartbeats 8000000
set_option maxRecDepth 100000
set_option linter.unusedSimpArgs false
set_option linter.unusedVariables false
namespace Go.Proofs.YtnmkkggfgdfmeaaGreatDoor
open Go.Eng (IC IOper DReg IFn B8)
open Go.Sym Go.Pb
theorem C8e {X H1:Hp} {o:Option Nat} {c n0:Nat} {b b3 b3':Blk} (hX:∀ j q,X j=some q->j<c) (ho:∀ i,o=some i->X i=none) (hH:∀ j,j<c->H1 j=C6 X o b j) (hn:c<=n0) (hb:b3=b3') :
  Sym.Sub (C6 X (some n0) b3) ((I6 H1 o).upd n0 b3'):=by
 subst hb;intro j q hj;simp only [C6] at hj;by_cases e:j=n0
 ·subst e;rw [A0] at hj ⊢;exact hj
 ·rw [A2 e] at hj ⊢;have h1:=hX j q hj;have h2:∀ i,o=some i->¬ j=i:=fun i hi e2=>by rw [e2,ho i hi] at hj;cases hj
  rw [E9 h2,hH j h1,D0 h2];exact hj
theorem A9a {H:Hp} {i:Nat} (h:H i=none):I6 H (some i)=H:=by
 funext j;rw [S9];split
 ·rename_i e;rw [e,h]
 ·rfl
theorem B3u {X:Hp} {o:Option Nat} {xs:List DV} {u n:Nat} (hno:o=none->xs=[]) (hl:xs.length=n) (hu:∀ x∈xs,x.cells.length=u) :
  ∃ H2,GL (C6 X o ⟨u,true,A3 xs⟩) [B9 o n] H2 [.lst xs]:=by
 cases o with
 | none=>rw [hno rfl];exact B1p
 | some i=>exact M6 (id:=i) A0 rfl hl hu ⟨[],by simp⟩
def wT2 (x y:List UInt8):List Tok:=[A5 x,A5 y]
theorem E1k {x y:List UInt8} {id cc:Nat} {H:Hp} (hb:H id=some ⟨1,true,[.str x,.str y]⟩) (hx:x.length<=1000000000) (hy:y.length<=1000000000) :
  AC Tryz.prog 132 [.slc id 0 2] H cc (fun v H' c'=>v=D9 (wT2 x y)/\H'=I6 H (some id)/\c'=cc):=wd2 hb hx hy
theorem B2k {X:Hp} {i j:Nat} (h:¬ j=i):(X.del i) j=X j:=by rw [show X.del i=I6 X (some i) from rfl,S9,if_neg h]
theorem A4b (l:List Tok):unit 4 (l.map Tok.v)=true:=by unfold unit;rw [A0U];intro d hd;simp [E2 l d hd]
theorem P7 (l:List Tok):(A3 (l.map Tok.v)).length=l.length * 4:=(B3 (u:=4) (E2 _)).trans (by simp)
theorem c_declT (d:Dc) (hn:d.name.length<=1000000000):PC Tryz.prog 130 [d.v] (D9 (dcT d)):=by
 refine PC.ofT A9 rfl (A0B rfl) rfl (L0 _) ?_;obtain ⟨R,hR⟩:∃ R,R=D9 (dcT d):=⟨_,rfl⟩;rw [<- hR];obtain ⟨k,n,v,p⟩:=d;unfold dcT at hR;dsimp only at hR hn ⊢;have hna:=c_named n hn;have hnu:=c_number31 v;have hnn:=c_number31 (-v);by_cases hbk:k<1\/8<k
 ·rw [if_pos hbk] at hR;by_cases h2:k<1
  ·have d2:decide (k<1)=true:=by simpa using h2
   repeat' ((with_reducible apply wr)<;>try simp only [go_sem,seval,d2])
   rw [hR];exact M6 (id:=1) A0 rfl rfl (E2 [R7]) ⟨[],rfl⟩
  ·have d2:decide (k<1)=false:=by simp;omega
   have d3:decide (k>8)=true:=by simp;omega
   repeat' ((with_reducible apply wr)<;>try simp only [go_sem,seval,d2,d3])
   rw [hR];exact M6 (id:=1) A0 rfl rfl (E2 [R7]) ⟨[],rfl⟩
 rw [if_neg hbk] at hR;have e2:decide (k<1)=false:=by simp;omega
 have e3:decide (k>8)=false:=by simp;omega
 try dsimp only at hR
 obtain ⟨j,hj⟩:∃ j:Nat,k=1+(j:Int):=⟨(k-1).toNat,by omega⟩;have hjw:IntKind.i64.wrap (k-1)=(j:Int):=by rw [w64 (by omega) (by omega)];omega
 have hjn:(k-1).toNat=j:=by omega
 rw [hjn] at hR;have hj8:j<8:=by omega
 have hgj:D2[j]? = some (D2.getD j []):=by
  rw [A0X,A0C (show j<D2.length from hj8)];rfl
 have hsl:(D2.getD j []).length<=1000000000:=by
  have:∀ i:Nat,i<8->(D2.getD i []).length<=1000000000:=by decide
  exact this j hj8
 generalize D2.getD j []=S at hR hgj hsl;by_cases h6:6<k
 ·have d6:decide (k>6)=true:=by simpa using h6
  rw [if_pos h6] at hR;repeat' ((first|(with_reducible first|refine wr ?_|refine cpc c_decls31 ?_|refine cpc hna ?_)|(refine AC.call (wd1 rfl (by first|assumption|decide)) ?_<;>rintro _ _ _ ⟨rfl,rfl,rfl⟩ -)|(refine AC.call (jn2 rfl ?_ ?_) ?_<;>first|(constructor<;>(try simp only [A0A,lw,A4,B0,A8])<;>omega)|rintro _ _ _ ⟨rfl,rfl,rfl⟩ -)|(refine AC.call (jn3 rfl ?_ ?_ ?_) ?_<;>first|(constructor<;>(try simp only [A0A,lw,A4,B0,A8])<;>omega)|rintro _ _ _ ⟨rfl,rfl,rfl⟩ -)|fail)<;>try simp only [go_sem,seval,e2,e3,hjw,hgj,d6])
  exact ⟨_,by rw [hR];exact GL.refl _ _⟩
 rw [if_neg h6] at hR;have d6:decide (k>6)=false:=by simp;omega
 by_cases hm:v<0 /\ -2147483647<=v/\k=6
 ·obtain ⟨m1,m2,hk6⟩:=hm;have x3:(k == 6)=true:=by simpa using hk6
  have x1:decide (v<0)=true:=by simpa using m1
  have x2:decide (v ≥ -2147483647)=true:=by simpa using m2
  have hng:IntKind.i64.wrap (0-v) = -v:=by rw [w64 (by omega) (by omega)];omega
  rw [if_pos ⟨m1,m2,hk6⟩] at hR;repeat' ((first|(with_reducible first|refine wr ?_|refine cpc c_decls31 ?_|refine cpc hna ?_|refine cpc hnn ?_)|(refine AC.call (wd1 rfl (by first|assumption|decide)) ?_<;>rintro _ _ _ ⟨rfl,rfl,rfl⟩ -)|(refine AC.call (jn2 rfl ?_ ?_) ?_<;>first|(constructor<;>(try simp only [A0A,lw,A4,B0,A8])<;>omega)|rintro _ _ _ ⟨rfl,rfl,rfl⟩ -)|(refine AC.call (jn3 rfl ?_ ?_ ?_) ?_<;>first|(constructor<;>(try simp only [A0A,lw,A4,B0,A8])<;>omega)|rintro _ _ _ ⟨rfl,rfl,rfl⟩ -)|fail)<;>try simp only [go_sem,seval,e2,e3,hjw,hgj,d6,x1,x2,x3,hng])
  exact ⟨_,by rw [hR];exact GL.refl _ _⟩
 rw [if_neg hm] at hR;by_cases m1:v<0
 ·have x1:decide (v<0)=true:=by simpa using m1
  by_cases m2 : -2147483647<=v
  ·have x2:decide (v ≥ -2147483647)=true:=by simpa using m2
   have x3:(k == 6)=false:=by simp;omega
   repeat' ((first|(with_reducible first|refine wr ?_|refine cpc c_decls31 ?_|refine cpc hna ?_|refine cpc hnu ?_)|(refine AC.call (wd1 rfl (by first|assumption|decide)) ?_<;>rintro _ _ _ ⟨rfl,rfl,rfl⟩ -)|(refine AC.call (jn2 rfl ?_ ?_) ?_<;>first|(constructor<;>(try simp only [A0A,lw,A4,B0,A8])<;>omega)|rintro _ _ _ ⟨rfl,rfl,rfl⟩ -)|(refine AC.call (jn3 rfl ?_ ?_ ?_) ?_<;>first|(constructor<;>(try simp only [A0A,lw,A4,B0,A8])<;>omega)|rintro _ _ _ ⟨rfl,rfl,rfl⟩ -)|fail)<;>try simp only [go_sem,seval,e2,e3,hjw,hgj,d6,x1,x2,x3])
   exact ⟨_,by rw [hR];exact GL.refl _ _⟩
  ·have x2:decide (v ≥ -2147483647)=false:=by simp;omega
   repeat' ((first|(with_reducible first|refine wr ?_|refine cpc c_decls31 ?_|refine cpc hna ?_|refine cpc hnu ?_)|(refine AC.call (wd1 rfl (by first|assumption|decide)) ?_<;>rintro _ _ _ ⟨rfl,rfl,rfl⟩ -)|(refine AC.call (jn2 rfl ?_ ?_) ?_<;>first|(constructor<;>(try simp only [A0A,lw,A4,B0,A8])<;>omega)|rintro _ _ _ ⟨rfl,rfl,rfl⟩ -)|(refine AC.call (jn3 rfl ?_ ?_ ?_) ?_<;>first|(constructor<;>(try simp only [A0A,lw,A4,B0,A8])<;>omega)|rintro _ _ _ ⟨rfl,rfl,rfl⟩ -)|fail)<;>try simp only [go_sem,seval,e2,e3,hjw,hgj,d6,x1,x2])
   exact ⟨_,by rw [hR];exact GL.refl _ _⟩
 ·have x1:decide (v<0)=false:=by simp;omega
  repeat' ((first|(with_reducible first|refine wr ?_|refine cpc c_decls31 ?_|refine cpc hna ?_|refine cpc hnu ?_)|(refine AC.call (wd1 rfl (by first|assumption|decide)) ?_<;>rintro _ _ _ ⟨rfl,rfl,rfl⟩ -)|(refine AC.call (jn2 rfl ?_ ?_) ?_<;>first|(constructor<;>(try simp only [A0A,lw,A4,B0,A8])<;>omega)|rintro _ _ _ ⟨rfl,rfl,rfl⟩ -)|(refine AC.call (jn3 rfl ?_ ?_ ?_) ?_<;>first|(constructor<;>(try simp only [A0A,lw,A4,B0,A8])<;>omega)|rintro _ _ _ ⟨rfl,rfl,rfl⟩ -)|fail)<;>try simp only [go_sem,seval,e2,e3,hjw,hgj,d6,x1])
  exact ⟨_,by rw [hR];exact GL.refl _ _⟩
theorem c_rulesT (r:Ru) (hB:r.sz<4000000) (hT:(r.decls.flatMap dcT++r.modes.flatMap mdT).length<=100000000):PC Tryz.prog 98 [r.v] (D9 (ruT r)):=by
 refine PC.ofT A9 rfl (A0B rfl) (by simp [DV.nlL,DV.nl,H4,G9]) (L0 _) ?_;obtain ⟨R,hR⟩:∃ R,R=D9 (ruT r):=⟨_,rfl⟩;rw [<- hR];obtain ⟨D,M⟩:=r;dsimp only at hT;unfold ruT at hR;dsimp only [Ru.v] at hR ⊢;have hDs:(D.map Dc.sz).sum+(M.map Md.sz).sum<4000000:=hB;have hDl:D.length<=(D.map Dc.sz).sum:=H5 fun x _=>by show 1<=1+_;omega
 have hMl:M.length<=(M.map Md.sz).sum:=H5 fun x _=>by show 1<=1+_+_;omega
 repeat' ((with_reducible apply wr)<;>try simp only [go_sem,seval])
 obtain ⟨F,hF⟩:∃ F:Nat->List Tok, ∀ k,F k=(D.take k).flatMap dcT:=⟨_,fun _=>rfl⟩;have hF0:F 0=[]:=by rw [hF];rfl
 have hFl:∀ k,(F k).length<=100000000:=fun k=>by
  have h1:D.flatMap dcT=F k++(D.drop k).flatMap dcT:=by rw [hF, <- A3G,A2H]
  rw [h1] at hT;simp only [A0A] at hT;omega
 refine C2 (fun q:Nat × Option Nat=>[(1,.ptr 0 0),(3,B9 q.2 (F q.1).length),(4,I64 q.1)]) (fun q=>C6 (Sym.nil.upd 0 ⟨0,true,[C8 D,D5 M]⟩) q.2 ⟨4,true,A3 ((F q.1).map Tok.v)⟩)
  (fun q c=>1<=c/\q.1<=D.length/\(q.2=none->F q.1=[])/\(∀ i,q.2=some i->1<=i/\i<c)) (fun q=>D.length-q.1) (0,none)
  (by simp [C3,tm,Tm.upd,B9]) (Sub.refl _) ⟨by omega,A0R _,fun _=>hF0,(fun i hi=>by cases hi)⟩ ?_
 rintro ⟨k,o⟩ c ⟨hc,hk,hno,ho⟩;dsimp only at hc hk hno ho ⊢;have hbx:C6 (Sym.nil.upd 0 ⟨0,true,[C8 D,D5 M]⟩) o ⟨4,true,A3 ((F k).map Tok.v)⟩ 0=some ⟨0,true,[C8 D,D5 M]⟩:=by rw [D0 (fun i hi=>by have:=ho i hi;omega),A0]
 by_cases hlt:k<D.length
 ·have hd:decide ((k:Int)<(D.length:Int))=true:=by simpa using hlt
  have hg:=A0C hlt;have hsz:=J2 (f:=Dc.sz) (A0O hlt);have hdt:=c_declT D[k] (by have h5:D[k].name.length<Dc.sz D[k]:=(by unfold Dc.sz;omega);omega);have hdl:=B9l D[k];have hw:=w64 (n:=(k:Int)+1) (by omega) (by omega);have e0:F (k+1)=F k++dcT D[k]:=by rw [hF,hF,A1B,hg,A3G];simp
  have hFk:=hFl k;generalize D[k]=x at hg hdt hdl e0;have hun:unit 4 ((dcT x).map Tok.v)=true:=by unfold unit;rw [A0U];intro d hd;simp [E2 (dcT x) d hd]
  have hln:(A3 ((F k).map Tok.v)).length=(F k).length * 4:=(B3 (u:=4) (E2 _)).trans (by simp);repeat' ((with_reducible first|apply wr|refine cpc hdt ?_|fail)<;>try simp only [go_sem,seval,hd,hg,hw,hbx,N9 hun])
  refine F6 (F1 (cs:=A3 ((F k).map Tok.v)) (fun e=>by rw [hno e];exact ⟨rfl,rfl⟩) (fun i hi=>A1r hi) hln (by omega) (by omega) (by omega)) ?_;simp only [go_sem,seval,hw];repeat' ((with_reducible apply wr)<;>try simp only [go_sem,seval,hw])
  refine ⟨(k+1,some c),by simp [C3,tm,Tm.upd,B9,e0],?_,inv ⟨by omega,by omega,(fun h=>by cases h),(fun i hi=>by cases hi;omega)⟩,by simp only;omega⟩;dsimp only;refine C8e (n0:=c) (c:=c) (fun j q hq=>?_) (fun i hi=>?_) (fun j hj=>rfl) (A0H _) (by rw [e0,A0P,B6])
  ·by_cases e:j=0
   ·omega
   ·rw [A2 e] at hq;cases hq
  ·have:=ho i hi;rw [A2 (by omega)];rfl
 ·have hd:decide ((k:Int)<(D.length:Int))=false:=by simpa using hlt
  repeat' ((with_reducible apply wr)<;>try simp only [go_sem,seval,hd,hbx])
  have hFD:F k=D.flatMap dcT:=by rw [hF,A0J (by omega)]
  have hc0:=hc;obtain ⟨G,hG⟩:∃ G:Nat->List Tok, ∀ k,G k=D.flatMap dcT++(M.take k).flatMap mdT:=⟨_,fun _=>rfl⟩;have hG0:G 0=F k:=by rw [hG,hFD];simp
  have hGl:∀ k,(G k).length<=100000000:=fun k=>by
   have h1:M.flatMap mdT=(M.take k).flatMap mdT++(M.drop k).flatMap mdT:=by rw [<- A3G,A2H]
   rw [h1] at hT;rw [hG];simp only [A0A] at hT ⊢;omega
  refine C2 (fun q:Nat × Option Nat=>[(1,.ptr 0 0),(3,B9 q.2 (G q.1).length),(5,I64 q.1)]) (fun q=>C6 (Sym.nil.upd 0 ⟨0,true,[C8 D,D5 M]⟩) q.2 ⟨4,true,A3 ((G q.1).map Tok.v)⟩)
   (fun q c=>1<=c/\q.1<=M.length/\(q.2=none->G q.1=[])/\(∀ i,q.2=some i->1<=i/\i<c)/\((M.take q.1).any fun m=>m.hds.any U1)=false) (fun q=>M.length-q.1) (0,o)
   (by simp [C3,tm,Tm.upd,hG0]) (by dsimp only;rw [hG0];exact Sub.refl _) ⟨hc,A0R _,(by dsimp only;rw [hG0];exact hno),ho,rfl⟩ ?_
  clear hbx hno ho hG0 hFD hFl hF0 hF hc hc0 hlt hd hk;rintro ⟨k,o⟩ c ⟨hc,hk,hno,ho,hbad⟩;dsimp only at hc hk hno ho hbad ⊢;have hbx:C6 (Sym.nil.upd 0 ⟨0,true,[C8 D,D5 M]⟩) o ⟨4,true,A3 ((G k).map Tok.v)⟩ 0=some ⟨0,true,[C8 D,D5 M]⟩:=by rw [D0 (fun i hi=>by have:=ho i hi;omega),A0]
  by_cases hlt:k<M.length
  ·have hd:decide ((k:Int)<(M.length:Int))=true:=by simpa using hlt
   have hg:=A0C hlt;have hsz:=J2 (f:=Md.sz) (A0O hlt);have hw:=w64 (n:=(k:Int)+1) (by omega) (by omega);have e0:G (k+1)=G k++mdT M[k]:=by rw [hG,hG,A1B,hg,A3G];simp
   have b0:((M.take (k+1)).any fun m=>m.hds.any U1)=(M[k].hds.any U1):=by rw [A1B,hg,List.any_append,hbad];simp
   have b1:(M[k].hds.any U1)=true->R=D9 [R7]:=fun h=>by rw [hR,if_pos (A4D.2 ⟨_,A0O hlt,h⟩)]
   have hGk:=hGl k;have hGk1:=hGl (k+1);generalize M[k]=m at hg hsz e0 b0 b1;have hln:(A3 ((G k).map Tok.v)).length=(G k).length * 4:=(B3 (u:=4) (E2 _)).trans (by simp);have hnl:m.name.length<=1000000000:=by
    have h5:m.name.length<Md.sz m:=by unfold Md.sz;omega
    omega
   have hna:=c_named m.name hnl;have hnu:=c_number31 m.prio;have hbo:∀ i:Nat,o=some i->C6 (Sym.nil.upd 0 ⟨0,true,[C8 D,D5 M]⟩) o ⟨4,true,A3 ((G k).map Tok.v)⟩ i=some ⟨4,true,A3 ((G k).map Tok.v)⟩:=fun i hi=>by subst hi;exact A0
   have hbn:∀ j:Nat,c<=j->C6 (Sym.nil.upd 0 ⟨0,true,[C8 D,D5 M]⟩) o ⟨4,true,A3 ((G k).map Tok.v)⟩ j=none:=fun j hj=>by rw [D0 (fun i hi=>by have:=ho i hi;omega),A2 (by omega)];rfl
   generalize hHH:C6 (Sym.nil.upd 0 ⟨0,true,[C8 D,D5 M]⟩) o ⟨4,true,A3 ((G k).map Tok.v)⟩=HH at hbx hbo hbn ⊢;have ne0:=A1s 0 c (c+1+1) (c+1+9) (c+1+11) (by omega);have hd1:I6 HH (some (c+1+1))=HH:=A9a (hbn _ (by omega));have hd2:I6 HH (some (c+1+9))=HH:=A9a (hbn _ (by omega));have hd3:I6 HH (some (c+1+11))=HH:=A9a (hbn _ (by omega));repeat' ((with_reducible first|apply wr|refine cpc hna ?_|refine cpc hnu ?_|fail)<;>try simp only [go_sem,seval,hd,hg,hw,hbx,ne0,A0,A1])
   refine AC.call (wd1 (x:=[109,111,100,101]) (by simp [M1,Hp.upd]) (by decide)) ?_;rintro v H' c2 ⟨rfl,rfl,rfl⟩ -;simp only [go_sem,seval,ne0,A0,A1,hd1,hd2,hd3];repeat' ((with_reducible first|apply wr|refine cpc hna ?_|refine cpc hnu ?_|fail)<;>try simp only [go_sem,seval,ne0,A0,A1,hd1,hd2,hd3])
   refine ⟨by and_intros<;>(repeat rw [A2 (by omega)])<;>exact hbn _ (by omega),?_⟩;repeat' ((with_reducible first|apply wr|refine cpc hna ?_|refine cpc hnu ?_|fail)<;>try simp only [go_sem,seval,ne0,A0,A1,hd1,hd2,hd3])
   refine ⟨by and_intros<;>(repeat rw [A2 (by omega)])<;>exact hbn _ (by omega),?_⟩;repeat' ((with_reducible first|apply wr|refine cpc hna ?_|refine cpc hnu ?_|fail)<;>try simp only [go_sem,seval,ne0,A0,A1,hd1,hd2,hd3])
   refine ⟨by and_intros<;>(repeat rw [A2 (by omega)])<;>exact hbn _ (by omega),?_⟩;repeat' ((with_reducible first|apply wr|refine cpc hna ?_|refine cpc hnu ?_|fail)<;>try simp only [go_sem,seval,ne0,A0,A1,hd1,hd2,hd3])
   refine AC.call (wd1 (x:=[123]) (by simp [M1,Hp.upd]) (by decide)) ?_;rintro v H' c2 ⟨rfl,rfl,rfl⟩ -;simp only [go_sem,seval,ne0,A0,A1,hd1,hd2,hd3];refine ⟨by and_intros<;>(repeat rw [A2 (by omega)])<;>exact hbn _ (by omega),?_⟩;repeat' ((with_reducible first|apply wr|refine cpc hna ?_|refine cpc hnu ?_|fail)<;>try simp only [go_sem,seval,ne0,A0,A1,hd1,hd2,hd3])
   refine AC.call (jn4 A0 (by constructor<;>(try simp only [A0A,lw,A4,B0,A8])<;>omega) (by constructor<;>(try simp only [A0A,lw,A4,B0,A8])<;>omega) (by constructor<;>(try simp only [A0A,lw,A4,B0,A8])<;>omega) (by constructor<;>(try simp only [A0A,lw,A4,B0,A8])<;>omega)) ?_;rintro v H' c2 ⟨rfl,rfl,rfl⟩ -;have hun4:unit 4 ((wT [109,111,100,101]++D4 m.name++T7 m.prio++wT [123]).map Tok.v)=true:=by unfold unit;rw [A0U];intro d hd;simp [E2 _ d hd]
   have hl4:(wT [109,111,100,101]++D4 m.name++T7 m.prio++wT [123]).length=4:=by simp only [A0A,lw,A4,B0]
   have hsrc:X9 (HH.upd c ⟨0,true,[.str m.name,I64 m.prio,S2 m.hds,I64 m.pos]⟩) 4 (D9 (wT [109,111,100,101]++D4 m.name++T7 m.prio++wT [123]))=some (4,A3 ((wT [109,111,100,101]++D4 m.name++T7 m.prio++wT [123]).map Tok.v)):=by
    rw [N9 hun4,A0D,hl4]
   obtain ⟨Q,hQ⟩:∃ Q,Q=wT [109,111,100,101]++D4 m.name++T7 m.prio++wT [123]:=⟨_,rfl⟩;rw [<- hQ] at hsrc ⊢;simp only [go_sem,seval,ne0,A0,A1,hd1,hd2,hd3,hsrc];repeat' ((with_reducible first|apply wr|refine cpc hna ?_|refine cpc hnu ?_|fail)<;>try simp only [go_sem,seval,ne0,A0,A1,hd1,hd2,hd3,hsrc])
   refine ⟨by rw [A2 (by omega)];exact hbn _ (by omega),?_⟩;rw [F1 (cs:=A3 ((G k).map Tok.v)) (fun e=>by rw [hno e];exact ⟨rfl,rfl⟩) (fun i hi=>by have:=ho i hi;rw [A2 (by omega)];exact hbo i hi) hln (by omega) (by omega) (by omega)];simp only [go_sem,seval,ne0];repeat' ((with_reducible apply wr)<;>try simp only [go_sem,seval,ne0])
   have hQl:Q.length=4:=by rw [hQ];exact hl4
   obtain ⟨K,hK⟩:∃ K:Nat->List Tok, ∀ j,K j=G k++Q++(m.hds.take j).flatMap hdT:=⟨_,fun _=>rfl⟩;have hK0:K 0=G k++Q:=by rw [hK];simp
   have hKl:∀ j,(K j).length<=100000000:=fun j=>by
    have h1:m.hds.flatMap hdT=(m.hds.take j).flatMap hdT++(m.hds.drop j).flatMap hdT:=by rw [<- A3G,A2H]
    have h2:mdT m=Q++m.hds.flatMap hdT++wT [125]:=by rw [hQ];rfl
    rw [e0,h2,h1] at hGk1;rw [hK];simp only [A0A] at hGk1 ⊢;omega
   have hKe:K m.hds.length++wT [125]=G (k+1):=by
    have h2:mdT m=Q++m.hds.flatMap hdT++wT [125]:=by rw [hQ];rfl
    rw [hK,e0,h2,A3Q];simp only [A0S]
   have hhl:m.hds.length<=4000000:=by
    have h5:m.hds.length<=(m.hds.map Hd.sz).sum:=H5 fun x _=>by show 1<=1+_+_;omega
    have h6:(m.hds.map Hd.sz).sum<Md.sz m:=by unfold Md.sz;omega
    omega
   refine C2 (fun q:Nat × Nat=>[(1,.ptr 0 0),(3,.slc q.2 0 (K q.1).length),(5,I64 k),(6,.ptr c 0),(7,I64 q.1)]) (fun q=>((Sym.nil.upd 0 ⟨0,true,[C8 D,D5 M]⟩).upd c ⟨0,true,[.str m.name,I64 m.prio,S2 m.hds,I64 m.pos]⟩).upd q.2 ⟨4,true,A3 ((K q.1).map Tok.v)⟩)
    (fun q n=>c<q.2/\q.2<n/\q.1<=m.hds.length/\((m.hds.take q.1).any U1)=false) (fun q=>m.hds.length-q.1) (0,c+1+15)
    (by simp [C3,tm,Tm.upd,hK0,hQl]) ?_ ⟨by simp only;omega,by simp only;omega,A0R _,rfl⟩ ?_
   ·dsimp only;rw [hK0,A0P,B6];intro j b hj;by_cases e1:j=c+1+15
    ·subst e1;rw [A0] at hj ⊢;exact hj
    rw [A2 e1] at hj ⊢;rw [E9 (fun i hi=>by
     have h1:=ho i hi;intro e;subst e;rw [A2 (by omega),A2 (by omega)] at hj;cases hj)]
    by_cases e2:j=c
    ·subst e2;rw [A0] at hj ⊢;exact hj
    rw [A2 e2] at hj ⊢;by_cases e3:j=0
    ·subst e3;rw [A0] at hj;rw [hbx];exact hj
    ·rw [A2 e3] at hj;cases hj
   clear hbo hbn hd1 hd2 hd3 hsrc hl4 hun4 hHH hbx hno ho;rintro ⟨j,i⟩ n ⟨hi1,hi2,hj,hbj⟩;dsimp only at hi1 hi2 hj hbj ⊢;by_cases hjl:j<m.hds.length
   ·have hdj:decide ((j:Int)<(m.hds.length:Int))=true:=by simpa using hjl
    have hgj:=A0C hjl;have hwj:=w64 (n:=(j:Int)+1) (by omega) (by omega);have k0:K (j+1)=K j++hdT m.hds[j]:=by rw [hK,hK,A1B,hgj,A3G];simp
    have c0:((m.hds.take (j+1)).any U1)=U1 m.hds[j]:=by rw [A1B,hgj,List.any_append,hbj];simp
    have c1:U1 m.hds[j]=true->R=D9 [R7]:=fun h=>b1 (A4D.2 ⟨_,A0O hjl,h⟩);have hszj:=J2 (f:=Hd.sz) (A0O hjl);have h6:(m.hds.map Hd.sz).sum<Md.sz m:=by unfold Md.sz;omega
    have hKj:=hKl j;have hKj1:=hKl (j+1);generalize m.hds[j]=h at hgj k0 c0 c1 hszj;have ne0:=V1 0 c i n (by omega);have hb9:U1 h=true->∃ H2,GL (((((Sym.nil.upd 0 ⟨0,true,[C8 D,D5 M]⟩).upd c ⟨0,true,[.str m.name,I64 m.prio,S2 m.hds,I64 m.pos]⟩).upd i ⟨4,true,A3 ((K j).map Tok.v)⟩).upd n ⟨0,true,[I64 h.trig,.str h.name,F3 h.body,I64 h.pos]⟩).upd (n+1) ⟨4,true,[I64 0,.str [],I64 0,I64 0]⟩) [.slc (n+1) 0 1] H2 [R]:=fun hb=>by
     rw [c1 hb];exact M6 A0 rfl rfl (E2 [R7]) ⟨[],rfl⟩
    by_cases t1:h.trig<1
    ·have x1:decide (h.trig<1)=true:=by simpa using t1
     repeat' ((with_reducible apply wr)<;>try simp only [go_sem,seval,hdj,hgj,hwj,x1,ne0,A0,A1])
     exact hb9 (by unfold U1;rw [x1];rfl)
    have x1:decide (h.trig<1)=false:=by simpa using t1
    by_cases t2:6<h.trig
    ·have x2:decide (h.trig>6)=true:=by simpa using t2
     have x2':decide (6<h.trig)=true:=by simpa using t2
     repeat' ((with_reducible apply wr)<;>try simp only [go_sem,seval,hdj,hgj,hwj,x1,x2,ne0,A0,A1])
     exact hb9 (by unfold U1;rw [x2',Bool.or_true])
    have x2:decide (h.trig>6)=false:=by simpa using t2
    have x2':decide (6<h.trig)=false:=by simpa using t2
    have c2:U1 h=false:=by unfold U1;rw [x1,x2'];rfl
    clear hb9 c1;obtain ⟨y,hy⟩:∃ y:Nat,h.trig=1+(y:Int):=⟨(h.trig-1).toNat,by omega⟩;have hyw:IntKind.i64.wrap (h.trig-1)=(y:Int):=by rw [w64 (by omega) (by omega)];omega
    have hyn:(h.trig-1).toNat=y:=by omega
    have hy6:y<6:=by omega
    have hgy:E1[y]? = some (E1.getD y []):=by
     rw [A0X,A0C (show y<E1.length from hy6)];rfl
    have hsl:(E1.getD y []).length<=1000000000:=by
     have:∀ i:Nat,i<6->(E1.getD i []).length<=1000000000:=by decide
     exact this y hy6
    have hTT:hdT h=wT2 [111,110] (E1.getD y [])++(if 2<h.trig then D4 h.name else [])++blT h.body:=by unfold hdT;rw [hyn];rfl
    generalize E1.getD y []=S at hgy hsl hTT;have hnh:=c_named h.name (by have h5:h.name.length<Hd.sz h:=(by unfold Hd.sz;omega);omega);have hbb:=c_blkT h.body (by have h5:Pb.St.szs h.body<Hd.sz h:=(by unfold Hd.sz;omega);omega);obtain ⟨bl1, -⟩:=A7q h.body;rw [k0,hTT] at hKj1;simp only [A0A] at hKj1;have hbn:∀ j':Nat,n<=j'->(((Sym.nil.upd 0 ⟨0,true,[C8 D,D5 M]⟩).upd c ⟨0,true,[.str m.name,I64 m.prio,S2 m.hds,I64 m.pos]⟩).upd i ⟨4,true,A3 ((K j).map Tok.v)⟩) j'=none:=fun j' h'=>by rw [A2 (by omega),A2 (by omega),A2 (by omega)];rfl
    have ne0:=A1s 0 c i n (n+1+7) (by omega);repeat' ((with_reducible first|apply wr|refine cpc c_trigs31 ?_|fail)<;>try simp only [go_sem,seval,hdj,hgj,hwj,x1,x2,hyw,hgy,ne0,A0,A1])
    refine ⟨by and_intros<;>(repeat rw [A2 (by omega)])<;>rfl,?_⟩;refine AC.call (E1k A0 (by decide) hsl) ?_;rintro v H' c3 ⟨rfl,rfl,rfl⟩ -;have hw2:(wT2 [111,110] S).length=2:=rfl;have hun:=A4b (wT2 [111,110] S);have hunB:=A4b (blT h.body);have hunN:=A4b (D4 h.name);have hnl1:=A4 h.name;have hlnK:=P7 (K j);simp only [go_sem,seval,ne0,A0,A1,N9 hun];repeat' ((with_reducible apply wr)<;>try simp only [go_sem,seval,ne0,A0,A1,N9 hun])
    refine ⟨by and_intros<;>(repeat rw [A2 (by omega)])<;>rfl,?_⟩;rw [Z1 hlnK (by omega) (by omega)];have ne0:=A1s 0 c i n (n+1+11) (by omega);simp only [go_sem,seval,ne0,A0,A1];by_cases t3:2<h.trig
    ·have x3:decide (h.trig>2)=true:=by simpa using t3
     rw [if_pos t3] at hTT hKj1;try simp only [A0A] at hKj1
     repeat' ((with_reducible first|apply wr|refine cpc hnh ?_|fail)<;>try simp only [go_sem,seval,ne0,A0,A1,x3,N9 hunN])
     refine F6 (Z1 (by rw [A0A,P7,P7];omega) (by omega) (by omega)) ?_;have ne0:=A9n 0 c i n (n+1+11) (n+1+11+1) (by omega);simp only [go_sem,seval,ne0,A0,A1];repeat' ((with_reducible first|apply wr|refine cpc hbb ?_|fail)<;>try simp only [go_sem,seval,ne0,A0,A1,N9 hunB])
     refine F6 (Z1 (by rw [A0A,A0A,P7,P7,P7];omega) (by omega) (by omega)) ?_;simp only [go_sem,seval,ne0,A0,A1,hwj];repeat' ((with_reducible apply wr)<;>try simp only [go_sem,seval,ne0,A0,A1,hwj])
     refine ⟨(j+1,n+1+11+1+1),by simp [C3,tm,Tm.upd,k0,hTT,hwj,A2Y],?_,inv ⟨by simp only;omega,by simp only;omega,by simp only;omega,by rw [c0];exact c2⟩,by simp only;omega⟩;dsimp only;intro j' b' hj';by_cases e1:j'=n+1+11+1+1
     ·subst e1;rw [A0] at hj' ⊢;rw [<- hj',k0,hTT];simp only [A0P,B6,A0S,List.map_nil,List.nil_append];try rfl
     rw [A2 e1] at hj' ⊢;by_cases e2:j'=c
     ·subst e2;rw [A0] at hj'
      repeat (first|rw [A0]|rw [A2 (by omega)]|rw [B2k (by omega)])
      exact hj'
     rw [A2 e2] at hj';by_cases e3:j'=0
     ·subst e3;rw [A0] at hj'
      repeat (first|rw [A0]|rw [A2 (by omega)]|rw [B2k (by omega)])
      exact hj'
     ·rw [A2 e3] at hj';cases hj'
    ·have x3:decide (h.trig>2)=false:=by simpa using t3
     rw [if_neg t3] at hTT hKj1;try simp only [A0F] at hKj1
     repeat' ((with_reducible first|apply wr|refine cpc hbb ?_|fail)<;>try simp only [go_sem,seval,ne0,A0,A1,x3,N9 hunB])
     refine F6 (Z1 (by rw [A0A,P7,P7];omega) (by omega) (by omega)) ?_;have ne0:=A9n 0 c i n (n+1+11) (n+1+11+1) (by omega);simp only [go_sem,seval,ne0,A0,A1,hwj];repeat' ((with_reducible apply wr)<;>try simp only [go_sem,seval,ne0,A0,A1,hwj])
     refine ⟨(j+1,n+1+11+1),by simp [C3,tm,Tm.upd,k0,hTT,hwj,A2Y],?_,inv ⟨by simp only;omega,by simp only;omega,by simp only;omega,by rw [c0];exact c2⟩,by simp only;omega⟩;dsimp only;intro j' b' hj';by_cases e1:j'=n+1+11+1
     ·subst e1;rw [A0] at hj' ⊢;rw [<- hj',k0,hTT];simp only [A0P,B6,A0S,List.map_nil,List.nil_append];try rfl
     rw [A2 e1] at hj' ⊢;by_cases e2:j'=c
     ·subst e2;rw [A0] at hj'
      repeat (first|rw [A0]|rw [A2 (by omega)]|rw [B2k (by omega)])
      exact hj'
     rw [A2 e2] at hj';by_cases e3:j'=0
     ·subst e3;rw [A0] at hj'
      repeat (first|rw [A0]|rw [A2 (by omega)]|rw [B2k (by omega)])
      exact hj'
     ·rw [A2 e3] at hj';cases hj'
   ·have hdj:decide ((j:Int)<(m.hds.length:Int))=false:=by simpa using hjl
    have ne0:=V1 0 c i n (by omega);have hjE:j=m.hds.length:=by omega
    subst hjE;rw [A3Q] at hbj;have hlw:=lw [125];have hun:=A4b (wT [125]);have hln2:=P7 (K m.hds.length);have hKm:=hKl m.hds.length;repeat' ((with_reducible apply wr)<;>try simp only [go_sem,seval,hdj,ne0,A0,A1])
    refine AC.call (wd1 A0 (by decide)) ?_;rintro v H' c3 ⟨rfl,rfl,rfl⟩ -;simp only [go_sem,seval,ne0,A0,A1,N9 hun];repeat' ((with_reducible apply wr)<;>try simp only [go_sem,seval,ne0,A0,A1,N9 hun])
    refine F6 (Z1 hln2 (by omega) (by omega)) ?_;simp only [go_sem,seval,hw,ne0];repeat' ((with_reducible apply wr)<;>try simp only [go_sem,seval,hw,ne0])
    refine ⟨(k+1,some (n+1)),by simp [C3,tm,Tm.upd,B9, <- hKe,hlw],?_,inv ⟨by omega,by simp only;omega,(fun h=>by cases h),(fun i hi=>by cases hi;omega),by rw [b0];exact hbj⟩,by simp only;omega⟩;dsimp only [C6];rw [<- hKe,A0P,B6];intro j b hj;by_cases e1:j=n+1
    ·subst e1;rw [A0] at hj ⊢;exact hj
    rw [A2 e1] at hj ⊢;by_cases e2:j=0
    ·subst e2;rw [A0] at hj;rw [show ∀ X:Hp,X.del i=I6 X (some i) from fun _=>rfl,S9,if_neg (by omega),A2 (by omega),A2 (by omega),A0];exact hj
    ·rw [A2 e2] at hj;cases hj
  ·have hd:decide ((k:Int)<(M.length:Int))=false:=by simpa using hlt
   rw [A0J (by omega)] at hbad;rw [if_neg (by rw [hbad];decide)] at hR;repeat' ((with_reducible apply wr)<;>try simp only [go_sem,seval,hd,hbx])
   rw [hR,hG,A0J (by omega)];rw [hG,A0J (by omega)] at hno;exact B3u (fun e=>by rw [hno e];rfl) (by simp) (E2 _)
theorem B4n (p:Bool):∀ (l l':List Ex) (k:Nat),l.length=l'.length->(M9 p (l.take k) (l'.take k)=true)->∀ x x',l[k]? = some x->l'[k]? = some x'->M9 p (l.take (k+1)) (l'.take (k+1))=A9r p x x'/\(A9r p x x'=false->M9 p l l'=false)
 | [],_,k,_,_,x,x',h,_=>by simp at h
 | _ :: _,[],k,h,_,_,_,_,_=>by simp at h
 | a :: l,a' :: l',0,_,_,x,x',h,h'=>by
  cases h;cases h';refine ⟨?_,fun e=>?_⟩
  ·simp [M9]
  ·rw [M9,e];rfl
 | a :: l,a' :: l',k+1,hl,he,x,x',h,h'=>by
  rw [A0V,A0V,M9,A0G] at he;have ih:=B4n p l l' k (by simpa using hl) he.2 x x' (by simpa using h) (by simpa using h');refine ⟨?_,fun e=>?_⟩
  ·rw [A0V,A0V,M9,he.1,A1N];exact ih.1
  ·rw [M9,ih.2 e,A3Y]
theorem B0o (p:Bool):∀ (l l':List Ex),¬ l.length=l'.length->M9 p l l'=false
 | [],[],h=>absurd rfl h
 | [],_ :: _,_=>rfl
 | _ :: _,[],_=>rfl
 | a :: l,a' :: l',h=>by rw [M9,B0o p l l' (by simpa using h),A3Y]
theorem c_sameEs (p:Bool) (l l':List Ex) (hl:l.length<=100000000000) (h:∀ x∈l, ∀ y,PC Tryz.prog 101 [x.v,y.v,.bool p] (.bool (A9r p x y))):PC Tryz.prog 138 [I3 l,I3 l',.bool p] (.bool (M9 p l l')):=by
 refine PC.ofT A9 rfl (A0B rfl) (by simp [DV.nlL,DV.nl,Y1]) rfl ?_;by_cases hlen:l.length=l'.length
 ·have hd0:((l.length:Int) != (l'.length:Int))=false:=by simp [hlen]
  repeat' ((with_reducible apply wr)<;>try simp only [go_sem,seval,hd0,A0D])
  refine C2 (fun k:Nat=>[(0,I3 l),(1,I3 l'),(2,.bool p),(7,I64 k)]) (fun _=>Sym.nil) (fun k c=>k<=l.length/\M9 p (l.take k) (l'.take k)=true) (fun k=>l.length-k) 0 (by simp [C3,tm,Tm.upd]) (Sub.nil _) ⟨A0R _,rfl⟩ ?_;rintro k c ⟨hk,he⟩;by_cases hlt:k<l.length
  ·have hd:decide ((k:Int)<(l.length:Int))=true:=by simpa using hlt
   have hg:=A0C hlt;have hg':=A0C (l:=l') (i:=k) (by omega);have hw:=w64 (n:=(k:Int)+1) (by omega) (by omega);have hc:=h _ (A0O hlt) (l'[k]'(by omega));obtain ⟨s1,s2⟩:=B4n p l l' k hlen he _ _ hg hg';generalize l[k]=x at hg hc s1 s2;generalize l'[k]'(by omega)=x' at hg' hc s1 s2;rw [Ex.v_w,Ex.v_w] at hc;cases hx:A9r p x x' with
   | true =>
    repeat' ((with_reducible first|apply wr|refine cpc hc ?_|fail)<;>try simp only [go_sem,seval,hd,hg,hg',hw,hx,Ex.v_w,A0D])
    exact ⟨k+1,by simp [C3,tm,Tm.upd],Sub.nil _,inv ⟨by omega,by rw [s1];exact hx⟩,by omega⟩
   | false =>
    repeat' ((with_reducible first|apply wr|refine cpc hc ?_|fail)<;>try simp only [go_sem,seval,hd,hg,hg',hw,hx,Ex.v_w,A0D])
    exact ⟨_,by rw [s2 hx];exact GL.refl _ _⟩
  ·have hd:decide ((k:Int)<(l.length:Int))=false:=by simpa using hlt
   rw [A0J (by omega),A0J (by omega)] at he;repeat' ((with_reducible apply wr)<;>try simp only [go_sem,seval,hd,A0D])
   exact ⟨_,by rw [he];exact GL.refl _ _⟩
 ·have hd0:((l.length:Int) != (l'.length:Int))=true:=by simp;omega
  repeat' ((with_reducible apply wr)<;>try simp only [go_sem,seval,hd0,A0D])
  exact ⟨_,by rw [B0o p l l' hlen];exact GL.refl _ _⟩
theorem c_sameE (p:Bool):∀ (m:Nat) (a b:Ex),a.sz<m->a.sz<=100000000000->PC Tryz.prog 101 [a.v,b.v,.bool p] (.bool (A9r p a b)):=by
 intro m
 induction m with
 | zero=>intro a b h;omega
 | succ m ih =>
 intro a b hm hB;have hs:=c_sameEs p a.args b.args (by have:=a.sz_args;omega) (fun x hx y=>ih x y (by have:=Ex.sz_arg hx;omega) (by have:=Ex.sz_arg hx;omega));have e0:A9r p a b=(a.kind == b.kind && (a.value == b.value && (a.name == b.name && ((p || a.pos == b.pos) && M9 p a.args b.args)))):=by
  cases a with|mk k v n l q=>cases b with|mk k' v' n' l' q'=>rw [A9r];rfl
 refine PC.ofT A9 rfl (A0B rfl) (by simp [DV.nlL,DV.nl,Ex.nl]) rfl ?_;rw [Ex.v_w,Ex.v_w,e0];cases h1:a.kind == b.kind with
 | false =>
  repeat' ((with_reducible apply wr)<;>try simp only [go_sem,seval,h1])
  exact ⟨_,GL.refl _ _⟩
 | true =>
  cases h2:a.value == b.value with
  | false =>
   repeat' ((with_reducible apply wr)<;>try simp only [go_sem,seval,h1,h2])
   exact ⟨_,GL.refl _ _⟩
  | true =>
   cases h3:a.name == b.name with
   | false =>
    repeat' ((with_reducible apply wr)<;>try simp only [go_sem,seval,h1,h2,h3])
    exact ⟨_,GL.refl _ _⟩
   | true =>
    cases hp:p with
    | true =>
     subst hp;repeat' ((with_reducible first|apply wr|refine cpc hs ?_|fail)<;>try simp only [go_sem,seval,h1,h2,h3])
     exact ⟨_,GL.refl _ _⟩
    | false =>
     subst hp;cases h4:a.pos == b.pos with
     | false =>
      repeat' ((with_reducible first|apply wr|refine cpc hs ?_|fail)<;>try simp only [go_sem,seval,h1,h2,h3,h4])
      exact ⟨_,GL.refl _ _⟩
     | true =>
      repeat' ((with_reducible first|apply wr|refine cpc hs ?_|fail)<;>try simp only [go_sem,seval,h1,h2,h3,h4])
      exact ⟨_,GL.refl _ _⟩
theorem B3g:∀ (l l':List Pb.St) (k:Nat),l.length=l'.length->(K9 (l.take k) (l'.take k)=true)->∀ x x',l[k]? = some x->l'[k]? = some x'->K9 (l.take (k+1)) (l'.take (k+1))=B5t x x'/\(B5t x x'=false->K9 l l'=false)
 | [],_,k,_,_,x,x',h,_=>by simp at h
 | _ :: _,[],k,h,_,_,_,_,_=>by simp at h
 | a :: l,a' :: l',0,_,_,x,x',h,h'=>by
  cases h;cases h';refine ⟨?_,fun e=>?_⟩
  ·simp [K9]
  ·rw [K9,e];rfl
 | a :: l,a' :: l',k+1,hl,he,x,x',h,h'=>by
  rw [A0V,A0V,K9,A0G] at he;have ih:=B3g l l' k (by simpa using hl) he.2 x x' (by simpa using h) (by simpa using h');refine ⟨?_,fun e=>?_⟩
  ·rw [A0V,A0V,K9,he.1,A1N];exact ih.1
  ·rw [K9,ih.2 e,A3Y]
theorem A9v:∀ (l l':List Pb.St),¬ l.length=l'.length->K9 l l'=false
 | [],[],h=>absurd rfl h
 | [],_ :: _,_=>rfl
 | _ :: _,[],_=>rfl
 | a :: l,a' :: l',h=>by rw [K9,A9v l l' (by simpa using h),A3Y]
theorem D3l (a b:Pb.St):B5t a b=(a.kind == b.kind && (a.name == b.name && (a.text == b.text && (a.pos == b.pos && (M9 false a.args b.args && (K9 a.thn b.thn && K9 a.els b.els)))))):=by
 cases a with|mk k n t a x y q=>cases b with|mk k' n' t' a' x' y' q'=>rw [B5t];rfl
theorem c_sameS:∀ (m:Nat) (l l':List Pb.St),Pb.St.szs l<m->Pb.St.szs l<=100000000000->PC Tryz.prog 136 [F3 l,F3 l'] (.bool (K9 l l')):=by
 intro m
 induction m with
 | zero=>intro a b h;omega
 | succ m ih =>
 intro l l' hm hB;have hl:=Pb.St.szs_len l;refine PC.ofT A9 rfl (A0B rfl) (by simp [DV.nlL,DV.nl,Q2]) rfl ?_;by_cases hlen:l.length=l'.length
 ·have hd0:((l.length:Int) != (l'.length:Int))=false:=by simp [hlen]
  repeat' ((with_reducible apply wr)<;>try simp only [go_sem,seval,hd0,A0D])
  refine C2 (fun k:Nat=>[(0,F3 l),(1,F3 l'),(5,I64 k)]) (fun _=>Sym.nil) (fun k c=>k<=l.length/\K9 (l.take k) (l'.take k)=true) (fun k=>l.length-k) 0 (by simp [C3,tm,Tm.upd]) (Sub.nil _) ⟨A0R _,rfl⟩ ?_;rintro k c ⟨hk,he⟩;by_cases hlt:k<l.length
  ·have hd:decide ((k:Int)<(l.length:Int))=true:=by simpa using hlt
   have hg:=A0C hlt;have hg':=A0C (l:=l') (i:=k) (by omega);have hw:=w64 (n:=(k:Int)+1) (by omega) (by omega);obtain ⟨s1,s2⟩:=B3g l l' k hlen he _ _ hg hg';have hsx:=Pb.St.szs_mem (A0O hlt);generalize l[k]=x at hg hsx s1 s2;generalize l'[k]'(by omega)=x' at hg' s1 s2;have ht:=x.sz_thn;have hy:=x.sz_els;have hargs:∀ y∈x.args,y.sz<x.sz:=fun y hy=>Pb.St.sz_arg hy;have hal:=x.sz_args;have ca:=c_sameEs false x.args x'.args (by omega) (fun y hy z=>c_sameE false (y.sz+1) y z (by omega) (by have:=hargs y hy;omega));have ct:=ih x.thn x'.thn (by omega) (by omega);have cy:=ih x.els x'.els (by omega) (by omega);rw [D3l] at s1 s2;have ne0:=M8 (c+8) (c+9) (by omega);have hn8:∀ i:Nat,Sym.nil (c+i)=none:=fun _=>rfl;repeat' ((with_reducible apply wr)<;>try simp only [go_sem,seval,hd,hg,hg',Pb.St.v_w,A0D,ne0,A0,A1])
   refine ⟨by and_intros<;>(repeat rw [A2 (by omega)])<;>rfl,?_⟩;repeat' ((with_reducible first|refine G8 (p:=IW _ _ (pz Tryz.prog 136 (.o (.i (.o (.i .h))))) _ _) ?_|refine wr ?_|fail)<;>try simp only [go_sem,seval,ne0,A0,A1])
   unfold A2z;clear hd hg hg';cases h1:x.kind == x'.kind with
   | false =>
    have n1:(x.kind != x'.kind)=true:=by rw [bne,h1];rfl
    repeat' ((with_reducible first|apply wr|refine cpc ca ?_|refine cpc ct ?_|refine cpc cy ?_|fail)<;>try simp only [go_sem,seval,hw,ne0,A0,A1,n1])
    exact ⟨_,by rw [s2 (by rw [h1];rfl)];exact GL.refl _ _⟩
   | true =>
    have n1:(x.kind != x'.kind)=false:=by rw [bne,h1];rfl
    cases h2:x.name == x'.name with
    | false =>
     repeat' ((with_reducible first|apply wr|refine cpc ca ?_|refine cpc ct ?_|refine cpc cy ?_|fail)<;>try simp only [go_sem,seval,hw,ne0,A0,A1,n1,h2])
     exact ⟨_,by rw [s2 (by rw [h1,h2];rfl)];exact GL.refl _ _⟩
    | true =>
     cases h3:x.text == x'.text with
     | false =>
      repeat' ((with_reducible first|apply wr|refine cpc ca ?_|refine cpc ct ?_|refine cpc cy ?_|fail)<;>try simp only [go_sem,seval,hw,ne0,A0,A1,n1,h2,h3])
      exact ⟨_,by rw [s2 (by rw [h1,h2,h3];rfl)];exact GL.refl _ _⟩
     | true =>
      cases h4:x.pos == x'.pos with
      | false =>
       have n4:(x.pos != x'.pos)=true:=by rw [bne,h4];rfl
       repeat' ((with_reducible first|apply wr|refine cpc ca ?_|refine cpc ct ?_|refine cpc cy ?_|fail)<;>try simp only [go_sem,seval,hw,ne0,A0,A1,n1,h2,h3,n4])
       exact ⟨_,by rw [s2 (by rw [h1,h2,h3,h4];rfl)];exact GL.refl _ _⟩
      | true =>
       have n4:(x.pos != x'.pos)=false:=by rw [bne,h4];rfl
       cases h5:M9 false x.args x'.args with
       | false =>
        repeat' ((with_reducible first|apply wr|refine cpc ca ?_|refine cpc ct ?_|refine cpc cy ?_|fail)<;>try simp only [go_sem,seval,hw,ne0,A0,A1,n1,h2,h3,n4,h5])
        exact ⟨_,by rw [s2 (by rw [h1,h2,h3,h4,h5];rfl)];exact GL.refl _ _⟩
       | true =>
        cases h6:K9 x.thn x'.thn with
        | false =>
         repeat' ((with_reducible first|apply wr|refine cpc ca ?_|refine cpc ct ?_|refine cpc cy ?_|fail)<;>try simp only [go_sem,seval,hw,ne0,A0,A1,n1,h2,h3,n4,h5,h6])
         exact ⟨_,by rw [s2 (by rw [h1,h2,h3,h4,h5,h6];rfl)];exact GL.refl _ _⟩
        | true =>
         cases h7:K9 x.els x'.els with
         | false =>
          repeat' ((with_reducible first|apply wr|refine cpc ca ?_|refine cpc ct ?_|refine cpc cy ?_|fail)<;>try simp only [go_sem,seval,hw,ne0,A0,A1,n1,h2,h3,n4,h5,h6,h7])
          exact ⟨_,by rw [s2 (by rw [h1,h2,h3,h4,h5,h6,h7];rfl)];exact GL.refl _ _⟩
         | true =>
          repeat' ((with_reducible first|apply wr|refine cpc ca ?_|refine cpc ct ?_|refine cpc cy ?_|fail)<;>try simp only [go_sem,seval,hw,ne0,A0,A1,n1,h2,h3,n4,h5,h6,h7])
          exact ⟨k+1,by simp [C3,tm,Tm.upd],Sub.nil _,inv ⟨by omega,by rw [s1,h1,h2,h3,h4,h5,h6,h7];rfl⟩,by omega⟩
  ·have hd:decide ((k:Int)<(l.length:Int))=false:=by simpa using hlt
   rw [A0J (by omega),A0J (by omega)] at he;repeat' ((with_reducible apply wr)<;>try simp only [go_sem,seval,hd,A0D])
   exact ⟨_,by rw [he];exact GL.refl _ _⟩
 ·have hd0:((l.length:Int) != (l'.length:Int))=true:=by simp;omega
  repeat' ((with_reducible apply wr)<;>try simp only [go_sem,seval,hd0,A0D])
  exact ⟨_,by rw [A9v l l' hlen];exact GL.refl _ _⟩
def B5x (a b:Ru):Bool:=@decide (a=b) (Classical.propDecidable _)
theorem D3r {a b:Ru} (h:a=b):B5x a b=true:=by unfold B5x;exact @decide_eq_true _ (_) h
theorem D3s {a b:Ru} (h:¬ a=b):B5x a b=false:=by unfold B5x;exact @decide_eq_false _ (_) h
theorem B1g {α : Type} {l l':List α} {k:Nat} {x x' : α} (h:l.take k=l'.take k) (hx:l[k]? = some x) (hx':l'[k]? = some x') (e:x=x'):l.take (k+1)=l'.take (k+1):=by
 rw [A1B,A1B,h,hx,hx',e]
theorem N6 {α : Type} {l l':List α} {k:Nat} {x x' : α} (hx:l[k]? = some x) (hx':l'[k]? = some x') (e:¬ x=x'):¬ l=l':=by
 rintro rfl;rw [hx] at hx';exact e (Option.some.inj hx')
theorem B7s {H H':Hp} {c:Nat} (h1:∀ j b,H j=some b->j<c) (h2:∀ j,j<c->H' j=H j):Sym.Sub H H':=fun j b hj=>by rw [h2 j (h1 j b hj)];exact hj
theorem c_Same31 (a b:Ru) (hB:a.sz<=100000000000):PC Tryz.prog 99 [a.v,b.v] (.bool (B5x a b)):=by
 refine PC.ofT A9 rfl (A0B rfl) (by simp [DV.nlL,DV.nl,H4,G9]) rfl ?_;obtain ⟨R,hR⟩:∃ R,R=B5x a b:=⟨_,rfl⟩;rw [<- hR];obtain ⟨D,M⟩:=a;obtain ⟨D',M'⟩:=b;have hF:(¬ D=D'\/¬ M=M')->R=false:=fun h=>by
  rw [hR];exact D3s fun e=>by cases e;exact h.elim (· rfl) (· rfl)
 have hT:D=D'->M=M'->R=true:=fun h1 h2=>by rw [hR];exact D3r (by rw [h1,h2])
 clear hR;have hDs:(D.map Dc.sz).sum+(M.map Md.sz).sum<=100000000000:=hB;have hDl:D.length<=(D.map Dc.sz).sum:=H5 fun x _=>by show 1<=1+_;omega
 have hMl:M.length<=(M.map Md.sz).sum:=H5 fun x _=>by show 1<=1+_+_;omega
 dsimp only [Ru.v];by_cases l1:D.length=D'.length
 case neg =>
  have f1:((D.length:Int) != (D'.length:Int))=true:=by simp;omega
  repeat' ((with_reducible apply wr)<;>try simp only [go_sem,seval,f1,A0D])
  exact ⟨_,by rw [hF (.inl fun e=>l1 (by rw [e]))];exact GL.refl _ _⟩
 have f1:((D.length:Int) != (D'.length:Int))=false:=by simp [l1]
 by_cases l2:M.length=M'.length
 case neg =>
  have f2:((M.length:Int) != (M'.length:Int))=true:=by simp;omega
  repeat' ((with_reducible apply wr)<;>try simp only [go_sem,seval,f1,f2,A0D])
  exact ⟨_,by rw [hF (.inr fun e=>l2 (by rw [e]))];exact GL.refl _ _⟩
 have f2:((M.length:Int) != (M'.length:Int))=false:=by simp [l2]
 repeat' ((with_reducible apply wr)<;>try simp only [go_sem,seval,f1,f2,A0D])
 refine C2 (fun k:Nat=>[(2,.ptr 0 0),(3,.ptr 1 0),(5,I64 k)]) (fun _=>(Sym.nil.upd 0 ⟨0,true,[C8 D,D5 M]⟩).upd 1 ⟨0,true,[C8 D',D5 M']⟩) (fun k c=>2<=c/\k<=D.length/\D.take k=D'.take k) (fun k=>D.length-k) 0 (by simp [C3,tm,Tm.upd]) (Sub.refl _) ⟨by omega,A0R _,rfl⟩ ?_;rintro k c ⟨hc,hk,he⟩;by_cases hlt:k<D.length
 ·have hd:decide ((k:Int)<(D.length:Int))=true:=by simpa using hlt
  have hg:=A0C hlt;have hg':=A0C (l:=D') (i:=k) (by omega);have hw:=w64 (n:=(k:Int)+1) (by omega) (by omega);generalize D[k]=x at hg;generalize D'[k]'(by omega)=x' at hg';have hq:(x.kind == x'.kind && (x.name == x'.name && (x.value == x'.value && x.pos == x'.pos)))=true↔x=x':=by
   cases x;cases x';simp only [A0G,A1K,Dc.mk.injEq]
  by_cases hx:x=x'
  ·have hqt:(true != (x.kind == x'.kind && (x.name == x'.name && (x.value == x'.value && x.pos == x'.pos))))=false:=by rw [hq.2 hx];rfl
   repeat' ((with_reducible apply wr)<;>try simp only [go_sem,seval,hd,hg,hg',hw,D2e,hqt,A0D])
   exact ⟨k+1,by simp [C3,tm,Tm.upd],Sub.refl _,inv ⟨by omega,by omega,B1g he hg hg' hx⟩,by omega⟩
  ·have hqf:(true != (x.kind == x'.kind && (x.name == x'.name && (x.value == x'.value && x.pos == x'.pos))))=true:=by
    rw [show (x.kind == x'.kind && (x.name == x'.name && (x.value == x'.value && x.pos == x'.pos)))=false from by
     cases hz:(x.kind == x'.kind && (x.name == x'.name && (x.value == x'.value && x.pos == x'.pos))) with
     | false=>rfl
     | true=>exact absurd (hq.1 hz) hx]
    rfl
   repeat' ((with_reducible apply wr)<;>try simp only [go_sem,seval,hd,hg,hg',hw,D2e,hqf,A0D])
   exact ⟨_,by rw [hF (.inl (N6 hg hg' hx))];exact GL.refl _ _⟩
 ·have hd:decide ((k:Int)<(D.length:Int))=false:=by simpa using hlt
  rw [A0J (by omega),A0J (by omega)] at he;repeat' ((with_reducible apply wr)<;>try simp only [go_sem,seval,hd,A0D])
  have hDD:=he;clear hd hlt he hk;refine C2 (fun k:Nat=>[(2,.ptr 0 0),(3,.ptr 1 0),(6,I64 k)]) (fun _=>(Sym.nil.upd 0 ⟨0,true,[C8 D,D5 M]⟩).upd 1 ⟨0,true,[C8 D',D5 M']⟩) (fun k c=>2<=c/\k<=M.length/\M.take k=M'.take k) (fun k=>M.length-k) 0 (by simp [C3,tm,Tm.upd]) (Sub.refl _) ⟨hc,A0R _,rfl⟩ ?_;clear hc k c;rintro k c ⟨hc,hk,he⟩;by_cases hlt:k<M.length
  ·have hd:decide ((k:Int)<(M.length:Int))=true:=by simpa using hlt
   have hg:=A0C hlt;have hg':=A0C (l:=M') (i:=k) (by omega);have hw:=w64 (n:=(k:Int)+1) (by omega) (by omega);have hsx:=J2 (f:=Md.sz) (A0O hlt);generalize M[k]=x at hg hsx;generalize M'[k]'(by omega)=x' at hg';have hxs:(x.hds.map Hd.sz).sum<Md.sz x:=by unfold Md.sz;omega
   have hxl:x.hds.length<=(x.hds.map Hd.sz).sum:=H5 fun x _=>by show 1<=1+_+_;omega
   have ne0:=V1 0 1 (c+10) (c+11) (by omega);repeat' ((with_reducible apply wr)<;>try simp only [go_sem,seval,hd,hg,hg',ne0,A0,A1,A0D])
   refine ⟨by and_intros<;>(repeat rw [A2 (by omega)])<;>rfl,?_⟩;repeat' ((with_reducible first|refine G8 (p:=IW _ _ (pz Tryz.prog 99 (.i (.i (.i (.i (.o .h)))))) _ _) ?_|refine wr ?_|fail)<;>try simp only [go_sem,seval,ne0,A0,A1])
   unfold A2z;clear hd;by_cases h1:x.name=x'.name
   case neg =>
    have nh1:(x.name == x'.name)=false:=by simpa using h1
    repeat' ((with_reducible apply wr)<;>try simp only [go_sem,seval,ne0,A0,A1,A0D,nh1])
    exact ⟨_,by rw [hF (.inr (N6 hg hg' fun e=>h1 (by rw [e])))];exact GL.refl _ _⟩
   case pos =>
    have nh1:(x.name == x'.name)=true:=by simpa using h1
    by_cases h2:x.prio=x'.prio
    case neg =>
     have nh2:(x.prio != x'.prio)=true:=by simpa using h2
     repeat' ((with_reducible apply wr)<;>try simp only [go_sem,seval,ne0,A0,A1,A0D,nh1,nh2])
     exact ⟨_,by rw [hF (.inr (N6 hg hg' fun e=>h2 (by rw [e])))];exact GL.refl _ _⟩
    case pos =>
     have nh2:(x.prio != x'.prio)=false:=by simpa using h2
     by_cases h3:x.pos=x'.pos
     case neg =>
      have nh3:(x.pos != x'.pos)=true:=by simpa using h3
      repeat' ((with_reducible apply wr)<;>try simp only [go_sem,seval,ne0,A0,A1,A0D,nh1,nh2,nh3])
      exact ⟨_,by rw [hF (.inr (N6 hg hg' fun e=>h3 (by rw [e])))];exact GL.refl _ _⟩
     case pos =>
      have nh3:(x.pos != x'.pos)=false:=by simpa using h3
      by_cases h4:x.hds.length=x'.hds.length
      case neg =>
       have nh4:((x.hds.length:Int) != (x'.hds.length:Int))=true:=by simp;omega
       repeat' ((with_reducible apply wr)<;>try simp only [go_sem,seval,ne0,A0,A1,A0D,nh1,nh2,nh3,nh4])
       exact ⟨_,by rw [hF (.inr (N6 hg hg' fun e=>h4 (by rw [e])))];exact GL.refl _ _⟩
      case pos =>
       have nh4:((x.hds.length:Int) != (x'.hds.length:Int))=false:=by simp [h4]
       repeat' ((with_reducible apply wr)<;>try simp only [go_sem,seval,ne0,A0,A1,A0D,nh1,nh2,nh3,nh4])
       refine C2 (fun j:Nat=>[(2,.ptr 0 0),(3,.ptr 1 0),(6,I64 k),(7,.ptr (c+10) 0),(8,.ptr (c+11) 0),(9,I64 j)]) (fun _=>(((Sym.nil.upd 0 ⟨0,true,[C8 D,D5 M]⟩).upd 1 ⟨0,true,[C8 D',D5 M']⟩).upd (c+10) ⟨0,true,[.str x.name,I64 x.prio,S2 x.hds,I64 x.pos]⟩).upd (c+11) ⟨0,true,[.str x'.name,I64 x'.prio,S2 x'.hds,I64 x'.pos]⟩) (fun j n=>c+12<=n/\j<=x.hds.length/\x.hds.take j=x'.hds.take j) (fun j=>x.hds.length-j) 0 (by simp [C3,tm,Tm.upd]) ?_ ⟨by omega,A0R _,rfl⟩ ?_
       ·intro j b hj;by_cases e1:j=c+11
        ·subst e1;rw [A0] at hj ⊢;exact hj
        rw [A2 e1] at hj ⊢;by_cases e2:j=c+10
        ·subst e2;rw [A0] at hj ⊢;exact hj
        rw [A2 e2] at hj ⊢
        repeat rw [A2 (by omega)]
        exact hj
       rintro j n ⟨hn,hj,hej⟩;by_cases hjl:j<x.hds.length
       ·have hdj:decide ((j:Int)<(x.hds.length:Int))=true:=by simpa using hjl
        have gj:=A0C hjl;have gj':=A0C (l:=x'.hds) (i:=j) (by omega);have hwj:=w64 (n:=(j:Int)+1) (by omega) (by omega);have hsj:=J2 (f:=Hd.sz) (A0O hjl);generalize x.hds[j]=y at gj hsj;generalize x'.hds[j]'(by omega)=y' at gj';have hbs:Pb.St.szs y.body<Hd.sz y:=by unfold Hd.sz;omega
        have cs:=c_sameS (Pb.St.szs y.body+1) y.body y'.body (by omega) (by omega);have ne0:=A9n 0 1 (c+10) (c+11) (n+10) (n+11) (by omega);repeat' ((with_reducible apply wr)<;>try simp only [go_sem,seval,hdj,gj,gj',ne0,A0,A1,A0D])
        refine ⟨by and_intros<;>(repeat rw [A2 (by omega)])<;>rfl,?_⟩;repeat' ((with_reducible first|refine G8 (p:=IW _ _ (pz Tryz.prog 99 (.i (.o (.i (.o (.o (.o .h))))))) _ _) ?_|refine wr ?_|fail)<;>try simp only [go_sem,seval,ne0,A0,A1])
        unfold A2z;clear hdj;by_cases q1:y.trig=y'.trig
        case neg =>
         have nq1:(y.trig != y'.trig)=true:=by simpa using q1
         repeat' ((with_reducible first|apply wr|refine cpc cs ?_|fail)<;>try simp only [go_sem,seval,hwj,ne0,A0,A1,nq1])
         exact ⟨_,by rw [hF (.inr (N6 hg hg' fun e=>N6 gj gj' (fun e2=>by exact q1 (by rw [e2])) (by rw [e])))];exact GL.refl _ _⟩
        case pos =>
         have nq1:(y.trig != y'.trig)=false:=by simpa using q1
         by_cases q2:y.name=y'.name
         case neg =>
          have nq2:(y.name == y'.name)=false:=by simpa using q2
          repeat' ((with_reducible first|apply wr|refine cpc cs ?_|fail)<;>try simp only [go_sem,seval,hwj,ne0,A0,A1,nq1,nq2])
          exact ⟨_,by rw [hF (.inr (N6 hg hg' fun e=>N6 gj gj' (fun e2=>by exact q2 (by rw [e2])) (by rw [e])))];exact GL.refl _ _⟩
         case pos =>
          have nq2:(y.name == y'.name)=true:=by simpa using q2
          by_cases q3:y.pos=y'.pos
          case neg =>
           have nq3:(y.pos != y'.pos)=true:=by simpa using q3
           repeat' ((with_reducible first|apply wr|refine cpc cs ?_|fail)<;>try simp only [go_sem,seval,hwj,ne0,A0,A1,nq1,nq2,nq3])
           exact ⟨_,by rw [hF (.inr (N6 hg hg' fun e=>N6 gj gj' (fun e2=>by exact q3 (by rw [e2])) (by rw [e])))];exact GL.refl _ _⟩
          case pos =>
           have nq3:(y.pos != y'.pos)=false:=by simpa using q3
           cases q4:K9 y.body y'.body with
           | false =>
            repeat' ((with_reducible first|apply wr|refine cpc cs ?_|fail)<;>try simp only [go_sem,seval,hwj,ne0,A0,A1,nq1,nq2,nq3,q4])
            exact ⟨_,by rw [hF (.inr (N6 hg hg' fun e=>N6 gj gj' (fun e2=>by rw [e2,(Z5 _ _).2 rfl] at q4;cases q4) (by rw [e])))];exact GL.refl _ _⟩
           | true =>
            repeat' ((with_reducible first|apply wr|refine cpc cs ?_|fail)<;>try simp only [go_sem,seval,hwj,ne0,A0,A1,nq1,nq2,nq3,q4])
            exact ⟨j+1,by simp [C3,tm,Tm.upd],(B7s (c:=n) (fun j0 b0 h0=>by by_cases a1:j0=c+11;omega;rw [A2 a1] at h0;by_cases a2:j0=c+10;omega;rw [A2 a2] at h0;by_cases a3:j0=1;omega;rw [A2 a3] at h0;by_cases a4:j0=0;omega;rw [A2 a4] at h0;cases h0) (fun j0 h0=>by repeat rw [A2 (by omega)])),inv ⟨by omega,by omega,B1g hej gj gj' (by cases y;cases y';simp only [Hd.mk.injEq] at *;exact ⟨q1,q2,(Z5 _ _).1 q4,q3⟩)⟩,by omega⟩
       ·have hdj:decide ((j:Int)<(x.hds.length:Int))=false:=by simpa using hjl
        rw [A0J (by omega),A0J (by omega)] at hej;have ne0:=V1 0 1 (c+10) (c+11) (by omega);repeat' ((with_reducible apply wr)<;>try simp only [go_sem,seval,hdj,hw,ne0,A0,A1,A0D])
        exact ⟨k+1,by simp [C3,tm,Tm.upd],(B7s (c:=c) (fun j0 b0 h0=>by by_cases a3:j0=1;omega;rw [A2 a3] at h0;by_cases a4:j0=0;omega;rw [A2 a4] at h0;cases h0) (fun j0 h0=>by repeat rw [A2 (by omega)])),inv ⟨by omega,by omega,B1g he hg hg' (by cases x;cases x';simp only [Md.mk.injEq] at *;exact ⟨h1,h2,hej,h3⟩)⟩,by omega⟩
  ·have hd:decide ((k:Int)<(M.length:Int))=false:=by simpa using hlt
   rw [A0J (by omega),A0J (by omega)] at he;repeat' ((with_reducible apply wr)<;>try simp only [go_sem,seval,hd,A0D])
   exact ⟨_,by rw [hT hDD he];exact GL.refl _ _⟩
theorem c_plainE:∀ (m:Nat) (l:List Ex),Ex.szs l<m->Ex.szs l<=100000000000->PC Tryz.prog 90 [I3 l] (I3 (l.map Ex.plain)):=by
 intro m
 induction m with
 | zero=>intro l h;omega
 | succ m ih =>
 intro l hm hB;have hl:=Ex.szs_len l;refine PC.ofT A9 rfl (A0B rfl) (by simp [DV.nlL,DV.nl,Y1]) (Y1 _) ?_;repeat' ((with_reducible apply wr)<;>try simp only [go_sem,seval])
 obtain ⟨F,hF⟩:∃ F:Nat->List Ex, ∀ k,F k=(l.take k).map Ex.plain:=⟨_,fun _=>rfl⟩;have hF0:F 0=[]:=by rw [hF];rfl
 have hFl:∀ k,(F k).length<=l.length:=fun k=>by rw [hF,A0D,A1A];omega
 refine C2 (fun q:Nat × Option Nat=>[(0,I3 l),(3,B9 q.2 (F q.1).length),(4,I64 q.1)]) (fun q=>C6 Sym.nil q.2 ⟨5,true,A3 ((F q.1).map Ex.v)⟩)
  (fun q c=>q.1<=l.length/\(q.2=none->F q.1=[])/\(∀ i,q.2=some i->i<c)) (fun q=>l.length-q.1) (0,none)
  (by simp [C3,tm,Tm.upd,B9]) (Sub.nil _) ⟨A0R _,fun _=>hF0,(fun i hi=>by cases hi)⟩ ?_
 rintro ⟨k,o⟩ c ⟨hk,hno,ho⟩;dsimp only at hk hno ho ⊢;by_cases hlt:k<l.length
 ·have hd:decide ((k:Int)<(l.length:Int))=true:=by simpa using hlt
  have hg:=A0C hlt;have hsx:=Ex.szs_mem (A0O hlt);have hw:=w64 (n:=(k:Int)+1) (by omega) (by omega);have e0:F (k+1)=F k++[l[k].plain]:=by rw [hF,hF,A1B,hg,A0P];rfl
  have hFk:=hFl k;generalize l[k]=x at hg hsx e0;have hax:Ex.szs x.args<x.sz:=by cases x with|mk k v n a p=>rw [Ex.sz];show Ex.szs a<_;omega
  have hc:=ih x.args (by omega) (by omega);have hln:(A3 ((F k).map Ex.v)).length=(F k).length * 5:=(B3 (u:=5) (A4u _)).trans (by simp);have ne0:=S0 c (c+1) (c+2) (by omega);repeat' ((with_reducible first|apply wr|refine cpc hc ?_|fail)<;>try simp only [go_sem,seval,hd,hg,hw,Ex.v_w,ne0,A0,A1])
  refine F6 (F1 (cs:=A3 ((F k).map Ex.v)) (fun e=>by rw [hno e];exact ⟨rfl,rfl⟩) (fun i hi=>by have:=ho i hi;rw [A2 (by omega),A2 (by omega)];exact A1r hi) hln (by omega) (by omega) (by omega)) ?_;simp only [go_sem,seval,hw];repeat' ((with_reducible apply wr)<;>try simp only [go_sem,seval,hw])
  refine ⟨(k+1,some (c+1+1)),by simp [C3,tm,Tm.upd,B9,e0],?_,inv ⟨by omega,(fun h=>by cases h),(fun i hi=>by cases hi;omega)⟩,by simp only;omega⟩;dsimp only [C6];rw [e0,A0P,B6];refine A0l ?_;cases x with|mk kk v n a p=>simp only [Ex.plain,Ex.plains_map,Ex.kind,Ex.value,Ex.name,Ex.args,Ex.pos,A4v]
 ·have hd:decide ((k:Int)<(l.length:Int))=false:=by simpa using hlt
  repeat' ((with_reducible apply wr)<;>try simp only [go_sem,seval,hd])
  rw [hF,A0J (by omega)];exact A4j (fun e=>by have:=hno e;rw [hF,A0J (by omega)] at this;rw [this];rfl) (by simp) (A4u _)
theorem c_plainS:∀ (m:Nat) (l:List Pb.St),Pb.St.szs l<m->Pb.St.szs l<=100000000000->PC Tryz.prog 49 [F3 l] (F3 (l.map Pb.St.plain)):=by
 intro m
 induction m with
 | zero=>intro l h;omega
 | succ m ih =>
 intro l hm hB;have hl:=Pb.St.szs_len l;refine PC.ofT A9 rfl (A0B rfl) (by simp [DV.nlL,DV.nl,Q2]) (Q2 _) ?_;repeat' ((with_reducible apply wr)<;>try simp only [go_sem,seval])
 obtain ⟨F,hF⟩:∃ F:Nat->List Pb.St, ∀ k,F k=(l.take k).map Pb.St.plain:=⟨_,fun _=>rfl⟩;have hF0:F 0=[]:=by rw [hF];rfl
 have hFl:∀ k,(F k).length<=l.length:=fun k=>by rw [hF,A0D,A1A];omega
 refine C2 (fun q:Nat × Option Nat=>[(0,F3 l),(3,B9 q.2 (F q.1).length),(4,I64 q.1)]) (fun q=>C6 Sym.nil q.2 ⟨7,true,A3 ((F q.1).map Pb.St.v)⟩)
  (fun q c=>q.1<=l.length/\(q.2=none->F q.1=[])/\(∀ i,q.2=some i->i<c)) (fun q=>l.length-q.1) (0,none)
  (by simp [C3,tm,Tm.upd,B9]) (Sub.nil _) ⟨A0R _,fun _=>hF0,(fun i hi=>by cases hi)⟩ ?_
 rintro ⟨k,o⟩ c ⟨hk,hno,ho⟩;dsimp only at hk hno ho ⊢;by_cases hlt:k<l.length
 ·have hd:decide ((k:Int)<(l.length:Int))=true:=by simpa using hlt
  have hg:=A0C hlt;have hsx:=Pb.St.szs_mem (A0O hlt);have hw:=w64 (n:=(k:Int)+1) (by omega) (by omega);have e0:F (k+1)=F k++[l[k].plain]:=by rw [hF,hF,A1B,hg,A0P];rfl
  have hFk:=hFl k;generalize l[k]=x at hg hsx e0;have hax:Ex.szs x.args<x.sz:=by cases x with|mk k n t a x y p=>rw [Pb.St.sz];show Ex.szs a<_;omega
  have htx:=x.sz_thn;have hyx:=x.sz_els;have hc:=c_plainE (Ex.szs x.args+1) x.args (by omega) (by omega);have hct:=ih x.thn (by omega) (by omega);have hcy:=ih x.els (by omega) (by omega);have hln:(A3 ((F k).map Pb.St.v)).length=(F k).length * 7:=(B3 (u:=7) (A7b _)).trans (by simp);have hbn:∀ j:Nat,c<=j->C6 Sym.nil o ⟨7,true,A3 ((F k).map Pb.St.v)⟩ j=none:=fun j hj=>by rw [D0 (fun i hi=>by have:=ho i hi;omega)];rfl
  have ne0:=S0 c (c+1) (c+2) (by omega);repeat' ((with_reducible first|apply wr|refine cpc hc ?_|refine cpc hct ?_|refine cpc hcy ?_|fail)<;>try simp only [go_sem,seval,hd,hg,hw,Pb.St.v_w,ne0,A0,A1])
  refine ⟨by and_intros<;>(repeat rw [A2 (by omega)])<;>exact hbn _ (by omega),?_⟩;repeat' ((with_reducible first|apply wr|refine cpc hc ?_|refine cpc hct ?_|refine cpc hcy ?_|fail)<;>try simp only [go_sem,seval,Pb.St.v_w,ne0,A0,A1])
  refine ⟨by and_intros<;>(repeat rw [A2 (by omega)])<;>exact hbn _ (by omega),?_⟩;repeat' ((with_reducible first|apply wr|refine cpc hc ?_|refine cpc hct ?_|refine cpc hcy ?_|fail)<;>try simp only [go_sem,seval,Pb.St.v_w,ne0,A0,A1])
  refine ⟨by and_intros<;>(repeat rw [A2 (by omega)])<;>exact hbn _ (by omega),?_⟩;repeat' ((with_reducible first|apply wr|refine cpc hc ?_|refine cpc hct ?_|refine cpc hcy ?_|fail)<;>try simp only [go_sem,seval,Pb.St.v_w,ne0,A0,A1])
  refine F6 (F1 (cs:=A3 ((F k).map Pb.St.v)) (fun e=>by rw [hno e];exact ⟨rfl,rfl⟩) (fun i hi=>by have:=ho i hi;rw [A2 (by omega),A2 (by omega)];exact A1r hi) hln (by omega) (by omega) (by omega)) ?_;simp only [go_sem,seval,hw];repeat' ((with_reducible apply wr)<;>try simp only [go_sem,seval,hw])
  refine ⟨(k+1,some (c+1+17+1)),by simp [C3,tm,Tm.upd,B9,e0],?_,inv ⟨by omega,(fun h=>by cases h),(fun i hi=>by cases hi;omega)⟩,by simp only;omega⟩;dsimp only [C6];rw [e0,A0P,B6];refine A0l ?_;cases x with|mk kk n t a x y p=>simp only [Pb.St.plain,Ex.plains_map,Pb.St.plains_map,Pb.St.kind,Pb.St.name,Pb.St.text,Pb.St.args,Pb.St.thn,Pb.St.els,Pb.St.pos,C2w]
 ·have hd:decide ((k:Int)<(l.length:Int))=false:=by simpa using hlt
  repeat' ((with_reducible apply wr)<;>try simp only [go_sem,seval,hd])
  rw [hF,A0J (by omega)];exact A4j (fun e=>by have:=hno e;rw [hF,A0J (by omega)] at this;rw [this];rfl) (by simp) (A7b _)
theorem c_Plain31 (r:Ru) (hB:r.sz<=100000000000):PC Tryz.prog 19 [r.v] r.plain.v:=by
 refine PC.ofT A9 rfl (A0B rfl) (by simp [DV.nlL,DV.nl,H4,G9]) (Ru.nl _) ?_;obtain ⟨D,M⟩:=r;have hDs:(D.map Dc.sz).sum+(M.map Md.sz).sum<=100000000000:=hB;have hDl:D.length<=(D.map Dc.sz).sum:=H5 fun x _=>by show 1<=1+_;omega
 have hMl:M.length<=(M.map Md.sz).sum:=H5 fun x _=>by show 1<=1+_+_;omega
 dsimp only [Ru.v,Ru.plain];repeat' ((with_reducible apply wr)<;>try simp only [go_sem,seval])
 obtain ⟨F,hF⟩:∃ F:Nat->List Dc, ∀ k,F k=(D.take k).map Dc.plain:=⟨_,fun _=>rfl⟩;have hF0:F 0=[]:=by rw [hF];rfl
 have hFl:∀ k,(F k).length<=D.length:=fun k=>by rw [hF,A0D,A1A];omega
 refine C2 (fun q:Nat × Option Nat=>[(1,.ptr 0 0),(2,.ptr 1 0),(3,.ptr 2 0),(4,I64 q.1)]) (fun q=>C6 (((Sym.nil.upd 0 ⟨0,true,[C8 D,D5 M]⟩).upd 1 ⟨0,true,[.snil,.snil]⟩).upd 2 ⟨0,true,[B9 q.2 (F q.1).length,.snil]⟩) q.2 ⟨4,true,A3 ((F q.1).map Dc.v)⟩)
  (fun q c=>3<=c/\q.1<=D.length/\(q.2=none->F q.1=[])/\(∀ i,q.2=some i->3<=i/\i<c)) (fun q=>D.length-q.1) (0,none)
  (by simp [C3,tm,Tm.upd]) (Sub.refl _) ⟨by omega,A0R _,fun _=>hF0,(fun i hi=>by cases hi)⟩ ?_
 rintro ⟨k,o⟩ c ⟨hc,hk,hno,ho⟩;dsimp only at hc hk hno ho ⊢;have hbr:C6 (((Sym.nil.upd 0 ⟨0,true,[C8 D,D5 M]⟩).upd 1 ⟨0,true,[.snil,.snil]⟩).upd 2 ⟨0,true,[B9 o (F k).length,.snil]⟩) o ⟨4,true,A3 ((F k).map Dc.v)⟩ 0=some ⟨0,true,[C8 D,D5 M]⟩:=by rw [D0 (fun i hi=>by have:=ho i hi;omega),A2 (by omega),A2 (by omega),A0]
 by_cases hlt:k<D.length
 ·have hd:decide ((k:Int)<(D.length:Int))=true:=by simpa using hlt
  have hg:=A0C hlt;have hw:=w64 (n:=(k:Int)+1) (by omega) (by omega);have e0:F (k+1)=F k++[D[k].plain]:=by rw [hF,hF,A1B,hg,A0P];rfl
  have hFk:=hFl k;generalize D[k]=x at hg e0;have hln:(A3 ((F k).map Dc.v)).length=(F k).length * 4:=(B3 (u:=4) (K8 _)).trans (by simp);have hbx:C6 (((Sym.nil.upd 0 ⟨0,true,[C8 D,D5 M]⟩).upd 1 ⟨0,true,[.snil,.snil]⟩).upd 2 ⟨0,true,[B9 o (F k).length,.snil]⟩) o ⟨4,true,A3 ((F k).map Dc.v)⟩ 2=some ⟨0,true,[B9 o (F k).length,.snil]⟩:=by rw [D0 (fun i hi=>by have:=ho i hi;omega),A0]
  have hb1:C6 (((Sym.nil.upd 0 ⟨0,true,[C8 D,D5 M]⟩).upd 1 ⟨0,true,[.snil,.snil]⟩).upd 2 ⟨0,true,[B9 o (F k).length,.snil]⟩) o ⟨4,true,A3 ((F k).map Dc.v)⟩ 1=some ⟨0,true,[.snil,.snil]⟩:=by rw [D0 (fun i hi=>by have:=ho i hi;omega),A2 (by omega),A0]
  have hbo:∀ i:Nat,o=some i->C6 (((Sym.nil.upd 0 ⟨0,true,[C8 D,D5 M]⟩).upd 1 ⟨0,true,[.snil,.snil]⟩).upd 2 ⟨0,true,[B9 o (F k).length,.snil]⟩) o ⟨4,true,A3 ((F k).map Dc.v)⟩ i=some ⟨4,true,A3 ((F k).map Dc.v)⟩:=fun i hi=>by subst hi;exact A0
  have hdx:∀ X:Hp,I6 X o 2=X 2:=fun X=>E9 (fun i hi=>by have:=ho i hi;omega);generalize hHH:C6 (((Sym.nil.upd 0 ⟨0,true,[C8 D,D5 M]⟩).upd 1 ⟨0,true,[.snil,.snil]⟩).upd 2 ⟨0,true,[B9 o (F k).length,.snil]⟩) o ⟨4,true,A3 ((F k).map Dc.v)⟩=HH at hbr hbx hbo hb1 ⊢;have ne0:=A9n 0 1 2 c (c+1) (c+1+1) (by omega);repeat' ((with_reducible apply wr)<;>try simp only [go_sem,seval,hd,hg,hw,hbr,hbx,ne0,A0,A1])
  refine F6 (F1 (cs:=A3 ((F k).map Dc.v)) (fun e=>by rw [hno e];exact ⟨rfl,rfl⟩) (fun i hi=>by have:=ho i hi;rw [A2 (by omega),A2 (by omega)];exact hbo i hi) hln (by omega) (by omega) (by omega)) ?_;simp only [go_sem,seval,hw,ne0,A0,A1,hdx,hbx];repeat' ((with_reducible apply wr)<;>try simp only [go_sem,seval,hw,ne0,A0,A1,hdx,hbx])
  refine ⟨(k+1,some (c+1+1)),by simp [C3,tm,Tm.upd],?_,inv ⟨by omega,by omega,(fun h=>by cases h),(fun i hi=>by cases hi;omega)⟩,by simp only;omega⟩;dsimp only [C6,B9];rw [e0,A0P,B6,A0A,A0I];intro j b hj;by_cases e1:j=c+1+1
  ·subst e1;rw [A0] at hj;rw [A2 (by omega),A0, <- hj];rfl
  rw [A2 e1] at hj;by_cases e2:j=2
  ·subst e2;rw [A0] at hj ⊢;exact hj
  rw [A2 e2] at hj ⊢;rw [A2 e1];by_cases e3:j=1
  ·subst e3;rw [A0] at hj;rw [E9 (fun i hi=>by have:=ho i hi;omega),A2 (by omega),A2 (by omega),hb1];exact hj
  rw [A2 e3] at hj;by_cases e4:j=0
  ·subst e4;rw [A0] at hj;rw [E9 (fun i hi=>by have:=ho i hi;omega),A2 (by omega),A2 (by omega),hbr];exact hj
  ·rw [A2 e4] at hj;cases hj
 ·have hd:decide ((k:Int)<(D.length:Int))=false:=by simpa using hlt
  repeat' ((with_reducible apply wr)<;>try simp only [go_sem,seval,hd,hbr])
  refine IW.keep [1,2,3,6] [.ptr 0 0,.ptr 1 0,.ptr 2 0,I64 0] (C5r (Hb:=((Sym.nil.upd 0 ⟨0,true,[C8 D,D5 M]⟩).upd 1 ⟨0,true,[.snil,.snil]⟩)) (ci:=2) (u:=4) (pre:=[]) (suf:=[.snil]) (xs:=(F k).map Dc.v) (by simp [DV.one]) (fun h=>by rw [hno h];rfl) (fun i hi=>by have:=ho i hi;exact ⟨by omega,by rw [A2 (by omega),A2 (by omega)];rfl⟩) (by simp) (K8 _)) ?_;have hFD:F k=D.map Dc.plain:=by rw [hF,A0J (by omega)]
  rw [hFD];clear hno ho hbr hFD hlt hd hFl hF0 hF hk;obtain ⟨G,hG⟩:∃ G:Nat->List Md, ∀ k,G k=(M.take k).map Md.plain:=⟨_,fun _=>rfl⟩;have hG0:G 0=[]:=by rw [hG];rfl
  have hGl:∀ k,(G k).length<=M.length:=fun k=>by rw [hG,A0D,A1A];omega
  refine C2 (fun q:Nat × Option Nat=>[(1,.ptr 0 0),(2,.ptr 1 0),(3,.ptr 2 0),(6,I64 q.1)]) (fun q=>C6 (((Sym.nil.upd 0 ⟨0,true,[C8 D,D5 M]⟩).upd 1 ⟨0,true,[.snil,.snil]⟩).upd 2 ⟨0,true,[C8 (D.map Dc.plain),B9 q.2 (G q.1).length]⟩) q.2 ⟨4,true,A3 ((G q.1).map Md.v)⟩)
   (fun q c=>3<=c/\q.1<=M.length/\(q.2=none->G q.1=[])/\(∀ i,q.2=some i->3<=i/\i<c)) (fun q=>M.length-q.1) (0,none)
   (by simp [C3,tm,Tm.upd]) (by rw [hG0];exact Sub.refl _) ⟨hc,A0R _,fun _=>hG0,(fun i hi=>by cases hi)⟩ ?_
  clear hc k c o;rintro ⟨k,o⟩ c ⟨hc,hk,hno,ho⟩;dsimp only at hc hk hno ho ⊢;have hGk:=hGl k;have hbr:C6 (((Sym.nil.upd 0 ⟨0,true,[C8 D,D5 M]⟩).upd 1 ⟨0,true,[.snil,.snil]⟩).upd 2 ⟨0,true,[C8 (D.map Dc.plain),B9 o (G k).length]⟩) o ⟨4,true,A3 ((G k).map Md.v)⟩ 0=some ⟨0,true,[C8 D,D5 M]⟩:=by rw [D0 (fun i hi=>by have:=ho i hi;omega),A2 (by omega),A2 (by omega),A0]
  have hbx:C6 (((Sym.nil.upd 0 ⟨0,true,[C8 D,D5 M]⟩).upd 1 ⟨0,true,[.snil,.snil]⟩).upd 2 ⟨0,true,[C8 (D.map Dc.plain),B9 o (G k).length]⟩) o ⟨4,true,A3 ((G k).map Md.v)⟩ 2=some ⟨0,true,[C8 (D.map Dc.plain),B9 o (G k).length]⟩:=by rw [D0 (fun i hi=>by have:=ho i hi;omega),A0]
  have hb1:C6 (((Sym.nil.upd 0 ⟨0,true,[C8 D,D5 M]⟩).upd 1 ⟨0,true,[.snil,.snil]⟩).upd 2 ⟨0,true,[C8 (D.map Dc.plain),B9 o (G k).length]⟩) o ⟨4,true,A3 ((G k).map Md.v)⟩ 1=some ⟨0,true,[.snil,.snil]⟩:=by rw [D0 (fun i hi=>by have:=ho i hi;omega),A2 (by omega),A0]
  have hbo:∀ i:Nat,o=some i->C6 (((Sym.nil.upd 0 ⟨0,true,[C8 D,D5 M]⟩).upd 1 ⟨0,true,[.snil,.snil]⟩).upd 2 ⟨0,true,[C8 (D.map Dc.plain),B9 o (G k).length]⟩) o ⟨4,true,A3 ((G k).map Md.v)⟩ i=some ⟨4,true,A3 ((G k).map Md.v)⟩:=fun i hi=>by subst hi;exact A0
  have hbn:∀ j:Nat,c<=j->C6 (((Sym.nil.upd 0 ⟨0,true,[C8 D,D5 M]⟩).upd 1 ⟨0,true,[.snil,.snil]⟩).upd 2 ⟨0,true,[C8 (D.map Dc.plain),B9 o (G k).length]⟩) o ⟨4,true,A3 ((G k).map Md.v)⟩ j=none:=fun j hj=>by rw [D0 (fun i hi=>by have:=ho i hi;omega),A2 (by omega),A2 (by omega),A2 (by omega)];rfl
  have hT:(B9 o (G k).length).one=true:=by cases o<;>rfl
  have hdx:∀ X:Hp,I6 X o 2=X 2:=fun X=>E9 (fun i hi=>by have:=ho i hi;omega);by_cases hlt:k<M.length
  ·have hd:decide ((k:Int)<(M.length:Int))=true:=by simpa using hlt
   have hg:=A0C hlt;have hw:=w64 (n:=(k:Int)+1) (by omega) (by omega);have e0:G (k+1)=G k++[M[k].plain]:=by rw [hG,hG,A1B,hg,A0P];rfl
   have hsx:=J2 (f:=Md.sz) (A0O hlt);generalize M[k]=x at hg hsx e0;have hxs:(x.hds.map Hd.sz).sum<Md.sz x:=by unfold Md.sz;omega
   have hxl:x.hds.length<=(x.hds.map Hd.sz).sum:=H5 fun x _=>by show 1<=1+_+_;omega
   have hln:(A3 ((G k).map Md.v)).length=(G k).length * 4:=(B3 (u:=4) (V3 _)).trans (by simp);generalize hHH:C6 (((Sym.nil.upd 0 ⟨0,true,[C8 D,D5 M]⟩).upd 1 ⟨0,true,[.snil,.snil]⟩).upd 2 ⟨0,true,[C8 (D.map Dc.plain),B9 o (G k).length]⟩) o ⟨4,true,A3 ((G k).map Md.v)⟩=HH at hbr hbx hbo hb1 hbn ⊢;have ne0:=V1 0 1 2 (c+13) (by omega);repeat' ((with_reducible apply wr)<;>try simp only [go_sem,seval,hd,hg,hw,hbr,hbx,ne0,A0,A1])
   obtain ⟨K,hK⟩:∃ K:Nat->List Hd, ∀ j,K j=(x.hds.take j).map Hd.plain:=⟨_,fun _=>rfl⟩;have hK0:K 0=[]:=by rw [hK];rfl
   have hKl:∀ j,(K j).length<=x.hds.length:=fun j=>by rw [hK,A0D,A1A];omega
   refine C2 (fun q:Nat × Option Nat=>[(1,.ptr 0 0),(2,.ptr 1 0),(3,.ptr 2 0),(6,I64 k),(7,.ptr (c+13) 0),(8,I64 q.1)]) (fun q=>C6 (HH.upd (c+13) ⟨0,true,[.str x.name,I64 x.prio,B9 q.2 (K q.1).length,I64 0]⟩) q.2 ⟨4,true,A3 ((K q.1).map Hd.v)⟩)
    (fun q n=>c+15<=n/\q.1<=x.hds.length/\(q.2=none->K q.1=[])/\(∀ i,q.2=some i->c+15<=i/\i<n)) (fun q=>x.hds.length-q.1) (0,none)
    (by simp [C3,tm,Tm.upd]) (by rw [hK0];exact Sub.refl _) ⟨A0H _,A0R _,fun _=>hK0,(fun i hi=>by cases hi)⟩ ?_
   rintro ⟨j,o2⟩ n ⟨hn,hj,hno2,ho2⟩;dsimp only at hn hj hno2 ho2 ⊢;have hKj:=hKl j;have h2r:C6 (HH.upd (c+13) ⟨0,true,[.str x.name,I64 x.prio,B9 o2 (K j).length,I64 0]⟩) o2 ⟨4,true,A3 ((K j).map Hd.v)⟩ 0=some ⟨0,true,[C8 D,D5 M]⟩:=by rw [D0 (fun i hi=>by have:=ho2 i hi;omega),A2 (by omega),hbr]
   have h2b:C6 (HH.upd (c+13) ⟨0,true,[.str x.name,I64 x.prio,B9 o2 (K j).length,I64 0]⟩) o2 ⟨4,true,A3 ((K j).map Hd.v)⟩ (c+13)=some ⟨0,true,[.str x.name,I64 x.prio,B9 o2 (K j).length,I64 0]⟩:=by rw [D0 (fun i hi=>by have:=ho2 i hi;omega),A0]
   have h2o:∀ i:Nat,o2=some i->C6 (HH.upd (c+13) ⟨0,true,[.str x.name,I64 x.prio,B9 o2 (K j).length,I64 0]⟩) o2 ⟨4,true,A3 ((K j).map Hd.v)⟩ i=some ⟨4,true,A3 ((K j).map Hd.v)⟩:=fun i hi=>by subst hi;exact A0
   have h2n:∀ i:Nat,n<=i->C6 (HH.upd (c+13) ⟨0,true,[.str x.name,I64 x.prio,B9 o2 (K j).length,I64 0]⟩) o2 ⟨4,true,A3 ((K j).map Hd.v)⟩ i=none:=fun i hi=>by rw [D0 (fun i hi=>by have:=ho2 i hi;omega),A2 (by omega)];exact hbn _ (by omega)
   have h2j:∀ i:Nat,i<c+13->C6 (HH.upd (c+13) ⟨0,true,[.str x.name,I64 x.prio,B9 o2 (K j).length,I64 0]⟩) o2 ⟨4,true,A3 ((K j).map Hd.v)⟩ i=HH i:=fun i hi=>by rw [D0 (fun i hi=>by have:=ho2 i hi;omega),A2 (by omega)]
   have hT2:(B9 o2 (K j).length).one=true:=by cases o2<;>rfl
   have hdx2:∀ X:Hp,I6 X o2 (c+13)=X (c+13):=fun X=>E9 (fun i hi=>by have:=ho2 i hi;omega);by_cases hjl:j<x.hds.length
   ·have hdj:decide ((j:Int)<(x.hds.length:Int))=true:=by simpa using hjl
    have hgj:=A0C hjl;have hwj:=w64 (n:=(j:Int)+1) (by omega) (by omega);have k0:K (j+1)=K j++[x.hds[j].plain]:=by rw [hK,hK,A1B,hgj,A0P];rfl
    have hsj:=J2 (f:=Hd.sz) (A0O hjl);generalize x.hds[j]=y at hgj hsj k0;have hbs:Pb.St.szs y.body<Hd.sz y:=by unfold Hd.sz;omega
    have cb:=c_plainS (Pb.St.szs y.body+1) y.body (by omega) (by omega);have hlj:(A3 ((K j).map Hd.v)).length=(K j).length * 4:=(B3 (u:=4) (A2o _)).trans (by simp);generalize hH2:C6 (HH.upd (c+13) ⟨0,true,[.str x.name,I64 x.prio,B9 o2 (K j).length,I64 0]⟩) o2 ⟨4,true,A3 ((K j).map Hd.v)⟩=H2 at h2r h2b h2o h2n h2j ⊢;have ne0:=A1s 0 1 2 (c+13) n (by omega);repeat' ((with_reducible first|apply wr|refine cpc cb ?_|fail)<;>try simp only [go_sem,seval,hdj,hg,hgj,hwj,h2r,h2b,ne0,A0,A1])
    refine ⟨by and_intros<;>(repeat rw [A2 (by omega)])<;>exact h2n _ (by omega),?_⟩;rw [F1 (cs:=A3 ((K j).map Hd.v)) (fun e=>by rw [hno2 e];exact ⟨rfl,rfl⟩) (fun i hi=>by have:=ho2 i hi;rw [A2 (by omega),A2 (by omega)];exact h2o i hi) hlj (by omega) (by omega) (by omega)];have ne0:=E2c 0 1 2 (c+13) n (n+1+10) (n+1+14) (by omega);simp only [go_sem,seval,ne0,A0,A1,hdx2,h2b,hwj];repeat' ((with_reducible apply wr)<;>try simp only [go_sem,seval,ne0,A0,A1,hdx2,h2b,hwj])
    refine ⟨(j+1,some (n+1+14)),by simp,?_,inv ⟨by omega,by omega,(fun h=>by cases h),(fun i hi=>by cases hi;omega)⟩,by simp only;omega⟩;dsimp only [C6,B9];rw [k0,A0P,B6,A0A,A0I];intro i b hi;by_cases e1:i=n+1+14
    ·subst e1;rw [A0] at hi;rw [A2 (by omega),A0, <- hi];simp only [Hd.plain,Pb.St.plains_map];rfl
    rw [A2 e1] at hi;by_cases e2:i=c+13
    ·subst e2;rw [A0] at hi ⊢;exact hi
    rw [A2 e2] at hi ⊢;rw [A2 e1];have hic:i<c:=Classical.byContradiction fun h=>by rw [hbn i (by omega)] at hi;cases hi
    rw [E9 (fun i' hi'=>by have:=ho2 i' hi';omega),A2 (by omega),A2 (by omega),h2j i (by omega)];exact hi
   ·have hdj:decide ((j:Int)<(x.hds.length:Int))=false:=by simpa using hjl
    have ne0:=A1s 0 1 2 (c+13) n (by omega);repeat' ((with_reducible first|refine G8 (p:=IW _ _ (pz Tryz.prog 19 (.o (.o (.o (.i (.i .h)))))) _ _) ?_|refine wr ?_|fail)<;>try simp only [go_sem,seval,hdj,hg,h2r,h2b,ne0,A0,A1])
    unfold A2z;have hKM:K j=x.hds.map Hd.plain:=by rw [hK,A0J (by omega)]
    refine IW.keep [1,2,3,6,7] [.ptr 0 0,.ptr 1 0,.ptr 2 0,I64 k,.ptr (c+13) 0] (C5r (Hb:=HH) (ci:=c+13) (u:=4) (pre:=[.str x.name,I64 x.prio]) (suf:=[I64 0]) (xs:=(K j).map Hd.v) (by simp [DV.one]) (fun h=>by rw [hno2 h];rfl) (fun i hi=>by have:=ho2 i hi;exact ⟨by omega,hbn _ (by omega)⟩) (by simp) (A2o _)) ?_;rw [hKM];dsimp only [List.cons_append,List.nil_append];show IW Tryz.prog _ _ ⟨tm [(1,.ptr 0 0),(2,.ptr 1 0),(3,.ptr 2 0),(6,I64 k),(7,.ptr (c+13) 0)],_,_⟩ _;have ne0:=A9n 0 1 2 (c+13) n (n+1) (by omega);repeat' ((with_reducible apply wr)<;>try simp only [go_sem,seval,hbx,hbr,ne0,A0,A1])
    refine F6 (F1 (cs:=A3 ((G k).map Md.v)) (fun e=>by rw [hno e];exact ⟨rfl,rfl⟩) (fun i hi=>by have:=ho i hi;rw [A2 (by omega),A2 (by omega)];exact hbo i hi) hln (by omega) (by omega) (by omega)) ?_;simp only [go_sem,seval,hw,ne0,A0,A1,hdx,hbx];repeat' ((with_reducible apply wr)<;>try simp only [go_sem,seval,hw,ne0,A0,A1,hdx,hbx])
    refine ⟨(k+1,some (n+1)),by simp [C3,tm,Tm.upd],?_,inv ⟨by omega,by omega,(fun h=>by cases h),(fun i hi=>by cases hi;omega)⟩,by simp only;omega⟩;dsimp only [C6,B9];rw [e0,A0P,B6,A0A,A0I];intro i b hi;by_cases e1:i=n+1
    ·subst e1;rw [A0] at hi;rw [A2 (by omega),A0, <- hi];rfl
    rw [A2 e1] at hi;by_cases e2:i=2
    ·subst e2;rw [A0] at hi ⊢;exact hi
    rw [A2 e2] at hi ⊢;rw [A2 e1];by_cases e3:i=1
    ·subst e3;rw [A0] at hi;rw [E9 (fun i hi=>by have:=ho i hi;omega),A2 (by omega),A2 (by omega),hb1];exact hi
    rw [A2 e3] at hi;by_cases e4:i=0
    ·subst e4;rw [A0] at hi;rw [E9 (fun i hi=>by have:=ho i hi;omega),A2 (by omega),A2 (by omega),hbr];exact hi
    ·rw [A2 e4] at hi;cases hi
  ·have hd:decide ((k:Int)<(M.length:Int))=false:=by simpa using hlt
   generalize hHH:C6 (((Sym.nil.upd 0 ⟨0,true,[C8 D,D5 M]⟩).upd 1 ⟨0,true,[.snil,.snil]⟩).upd 2 ⟨0,true,[C8 (D.map Dc.plain),B9 o (G k).length]⟩) o ⟨4,true,A3 ((G k).map Md.v)⟩=HH at hbr hbx hbo hb1 hbn ⊢;have ne0:=S0 0 1 2 (by omega);repeat' ((with_reducible apply wr)<;>try simp only [go_sem,seval,hd,hbr,hbx,hb1,ne0,A0,A1,hT])
   refine F6 (A5z (by rfl) (by decide) (by cases o<;>rfl)) ?_;simp only [go_sem,seval,ne0,A0];repeat' ((with_reducible apply wr)<;>try simp only [go_sem,seval,ne0,A0])
   rw [E7 (rv2 rfl rfl)];have hGM:M.map Md.plain=G k:=by rw [hG,A0J (by omega)]
   rw [hGM];exact ⟨Sym.nil,D1z (cc:=0) (G k) (fun _ _=>rfl) (fun _ _=>A0R _) hno (fun i hi=>by have:=ho i hi;show (HH.upd 1 _) i=_;rw [A2 (by omega)];exact hbo i hi) (fun j hj=>by omega)⟩
end Go.Proofs.YtnmkkggfgdfmeaaGreatDoor
set_option linter.unusedSectionVars false
namespace Go.Pb
variable [Go.Sym.Tab]
open Go.Sym
def B9t (t:Tok):Prop:=H6 t/\0<=t.value/\t.value<=2147483647
abbrev D6 (l:List Tok):Prop:=∀ t∈l,B9t t
theorem A1x:B9t R7:=⟨⟨fun h=>by simp [R7] at h,fun h=>by simp [R7] at h,fun h=>by simp [R7] at h⟩,by simp [R7],by simp [R7]⟩
theorem S4 (s:List UInt8):B9t (A5 s):=by
 refine ⟨⟨fun h=>?_,fun h=>?_,fun h=>?_⟩,by simp [A5],by simp [A5]⟩;all_goals simp only [A5] at h ⊢
 all_goals (by_cases h1:G6 s=true)
 all_goals (by_cases h2:D8 s=true)
 all_goals (simp_all)
theorem A0b (s:List UInt8):D6 (D4 s):=by
 intro t ht;unfold D4 at ht;split at ht
 ·rw [A1F] at ht;subst ht;exact A1x
 ·rename_i h;rw [A1F] at ht;subst ht;exact ⟨⟨fun _=>by simpa using h,fun h=>by simp at h,fun h=>by simp at h⟩,by simp,by simp⟩
theorem B9f (n:Int):D6 (T7 n):=by
 intro t ht;unfold T7 at ht;split at ht
 ·rw [A1F] at ht;subst ht;exact A1x
 ·rename_i h;rw [A1F] at ht;subst ht;refine ⟨⟨fun h=>by simp at h,fun _=>?_,fun h=>by simp at h⟩,?_,?_⟩<;>simp only<;>omega
theorem D9n (s:List UInt8):D6 (A1a s):=by
 intro t ht;unfold A1a at ht;split at ht
 ·rw [A1F] at ht;subst ht;exact A1x
 ·rename_i h;rw [A1F] at ht;subst ht;refine ⟨⟨fun h=>by simp at h,fun h=>by simp at h,fun _=>?_⟩,by simp,by simp⟩;simp only [U0,A0G,A0L];refine ⟨?_,by omega⟩;cases hz:s.all txB with
  | true=>rfl
  | false=>exact absurd (.inl hz) h
theorem D6.app {a b:List Tok} (ha:D6 a) (hb:D6 b):D6 (a++b):=fun t ht=>(A1R.1 ht).elim (ha t) (hb t)
theorem D6.one {t:Tok} (h:B9t t):D6 [t]:=fun x hx=>by rw [A1F] at hx;subst hx;exact h
theorem D6.nil:D6 []:=fun x hx=>by cases hx
theorem D6.flat {α : Type} {f : α -> List Tok} {l:List α} (h:∀ x∈l,D6 (f x)):D6 (l.flatMap f):=fun t ht=>by
 obtain ⟨x,hx,h2⟩:=List.mem_flatMap.1 ht;exact h x hx t h2
theorem C5o {q:Int × List Tok} (n:Int) (h:D6 q.2):D6 (E3 q n):=by
 unfold E3;split
 ·exact ((D6.one (S4 _)).app h).app (D6.one (S4 _))
 ·exact h
theorem D9o {k v:Int} {n:List UInt8} {as1:List (Int × List Tok)} (h:∀ q∈as1,D6 q.2):D6 (K3 k v n as1):=by
 unfold K3;dsimp only;by_cases h1:k=1
 ·rw [if_pos h1];exact B9f _
 rw [if_neg h1];by_cases h2:k=2
 ·rw [if_pos h2];exact A0b _
 rw [if_neg h2];by_cases h3:k=3
 ·rw [if_pos h3];exact D6.one (S4 _)
 rw [if_neg h3];by_cases h4:k=4
 ·rw [if_pos h4];exact D6.one (S4 _)
 rw [if_neg h4];by_cases h8:k=8
 ·rw [if_pos h8];exact D6.one (S4 _)
 rw [if_neg h8];by_cases h9:k=9
 ·rw [if_pos h9];exact D6.one (S4 _)
 rw [if_neg h9];by_cases h5:k=5
 ·rw [if_pos h5];exact (D6.one (S4 _)).app (A0b _)
 rw [if_neg h5];by_cases h6:k=6
 ·rw [if_pos h6];exact (D6.one (S4 _)).app (A0b _)
 rw [if_neg h6];by_cases h7:k=7
 ·rw [if_pos h7];exact (D6.one (S4 _)).app (A0b _)
 rw [if_neg h7]
 match as1,h with
 | [],_=>exact D6.one A1x
 | [q],h =>
  dsimp only;split
  ·exact (D6.one (S4 _)).app (C5o _ (h q A0N))
  ·exact D6.one A1x
 | [q,r],h =>
  dsimp only;split
  ·exact ((C5o _ (h q A0N)).app (D6.one (S4 _))).app (C5o _ (h r (A0M _ A0N)))
  ·exact D6.one A1x
 | _ :: _ :: _ :: _,_=>exact D6.one A1x
theorem D1y:∀ e:Ex,D6 (exT e)
 | .mk k v n a p=>by
  have ih:∀ x∈a,D6 (exT x):=fun x hx=>D1y x;rw [exT,A4w];exact D9o fun q hq=>by
   obtain ⟨x,hx,rfl⟩:=A1L.1 hq;exact ih x hx
theorem A8r (l:List Ex) (i:Nat):D6 (agT l i):=by
 unfold agT;cases h:l[i]? with
 | none=>exact D6.one A1x
 | some e=>exact D1y e
mutual
theorem C5m:∀ s:St,D6 (stT s)
 | .mk k n t a x y p=>by
  have hx:=A7l x;have hy:∀ l,l=y->D6 (O8 l):=fun l h=>by subst h;exact A7l l
  have hq:∀ q,y=[q]->D6 (stT q):=fun q h=>by subst h;exact C5m q
  have w:∀ s,D6 [A5 s]:=fun s=>D6.one (S4 s);unfold stT;split
  ·exact (((A0b _).app (w _)).app (A8r _ _)).app (w _)
  split
  ·exact D6.one A1x
  dsimp only;split
  ·have ho:D6 ([A5 (C0.getD (k-2).toNat [])]++agT a 0++([A5 [123]]++O8 x++[A5 [125]])):=((w _).app (A8r _ _)).app (((w _).app hx).app (w _))
   match y,hy,hq with
   | [],_,_=>exact ho
   | [q],_,hq =>
    dsimp only;split
    ·exact (ho.app (w _)).app (hq q rfl)
    ·exact (ho.app (w _)).app (((w _).app (hq q rfl)).app (w _))
   | q :: q2 :: r,hy,_=>exact (ho.app (w _)).app (((w _).app (hy _ rfl)).app (w _))
  split
  ·exact ((w _).app (A8r _ _)).app (w _)
  split
  ·exact ((((w _).app (D9n _)).app (w _)).app (A8r _ _)).app (w _)
  split
  ·exact (((w _).app (A0b _)).app (A8r _ _)).app (w _)
  split
  ·exact (((((w _).app (A0b _)).app (A8r _ _)).app (w _)).app (A8r _ _)).app (w _)
  split
  ·exact (w _).app (w _)
  ·exact ((w _).app (A0b _)).app (w _)
theorem A7l:∀ l:List St,D6 (O8 l)
 | []=>by rw [O8];exact D6.nil
 | s :: l=>by rw [O8];exact (C5m s).app (A7l l)
end
theorem D6c (l:List St):D6 (blT l):=((D6.one (S4 _)).app (A7l l)).app (D6.one (S4 _))
theorem D6b (d:Dc):D6 (dcT d):=by
 have w:∀ s,D6 [A5 s]:=fun s=>D6.one (S4 s);unfold dcT;split
 ·exact D6.one A1x
 ·dsimp only;refine D6.app ?_ (w _);split
  ·exact (w _).app (A0b _)
  split
  ·exact (((w _).app (A0b _)).app (w _)).app (B9f _)
  ·exact ((w _).app (A0b _)).app (B9f _)
theorem D6a (h:Hd):D6 (hdT h):=by
 unfold hdT;refine D6.app (D6.app ?_ ?_) (D6c _)
 ·exact (D6.one (S4 _)).app (D6.one (S4 _))
 ·split
  ·exact A0b _
  ·exact D6.nil
theorem D5z (m:Md):D6 (mdT m):=by
 have w:∀ s,D6 [A5 s]:=fun s=>D6.one (S4 s);unfold mdT;exact (((((w _).app (A0b _)).app (B9f _)).app (w _)).app (D6.flat fun x _=>D6a x)).app (w _)
theorem C5n (r:Ru):D6 (ruT r):=by
 unfold ruT;split
 ·exact D6.one A1x
 ·exact (D6.flat fun x _=>D6b x).app (D6.flat fun x _=>D5z x)
section
variable {L:List Tok} {E:Int}
theorem B8o {s:List UInt8} (h:D8 s=true):s.length<=12:=by
 unfold D8 at h;simp only [A0G,A0L] at h;exact h.1.1.1.2
theorem A2h (hG:∀ t∈L,H6 t) {s:Rd}:(B2 L E s 1).1.text.length<=12:=by
 cases h:I0 L E s 1 with
 | false=>unfold B2;rw [if_pos h];exact A0R _
 | true =>
  unfold B2;rw [if_neg (by rw [h];decide)];exact B8o ((hG _ (J4 (by decide) (H7 h).2).1).1 (H7 h).2)
theorem C7y (hG:∀ t∈L,H6 t) {s:Rd}:(B2 L E s 4).1.text.length<=32:=by
 cases h:I0 L E s 4 with
 | false=>unfold B2;rw [if_pos h];exact A0R _
 | true =>
  unfold B2;rw [if_neg (by rw [h];decide)];have:=(hG _ (J4 (by decide) (H7 h).2).1).2.2 (H7 h).2;unfold U0 at this;simp only [A0G,A0L] at this;exact this.2
theorem C8r (hG:∀ t∈L,H6 t) {s:Rd}:(I4 L E s).1.sz+13 * s.i<=13 * (I4 L E s).2.i+1:=by
 have hge:=B8h (L:=L) (E:=E) (s:=s);have h2:(C4 L E { s with ops:=s.ops+1 } (s.ops+1) 32 9).i=s.i:=F7;unfold I4 at hge ⊢;dsimp only at hge ⊢;split
 ·rename_i hc;rw [if_pos hc] at hge;show 1+0+0+_<=_;have:s.i<=(O2 L E s).i:=hge;show 1+0+0+13 * s.i<=13 * (O2 L E s).i+1;omega
 ·rename_i hc;rw [if_neg hc] at hge;split
  ·show 1+0+0+13 * s.i<=13 * (C4 L E { s with ops:=s.ops+1 } (s.ops+1) 32 9).i+1;omega
  ·have h3:(A7 (C4 L E { s with ops:=s.ops+1 } (s.ops+1) 32 9)).i=s.i+1:=by show (C4 L E { s with ops:=s.ops+1 } (s.ops+1) 32 9).i+1=_;rw [h2]
   generalize A7 (C4 L E { s with ops:=s.ops+1 } (s.ops+1) 32 9)=s3 at h3;have h4:=I8 (L:=L) (E:=E) (s:=s3) (x:=1);have h5:=A2h (L:=L) (E:=E) hG (s:=s3);split
   ·split
    ·show 1+(B2 L E s3 1).1.text.length+0+13 * s.i<=13 * (B2 L E s3 1).2.i+1;omega
    ·show 1+0+0+13 * s.i<=13 * s3.i+1;omega
   ·rename_i hk;split
    ·show 1+0+0+13 * s.i<=13 * s3.i+1;omega
    ·rename_i hk3;have h1k:I0 L E s 1=true:=by
      cases hz:I0 L E s 1 with
      | true=>rfl
      | false =>
       refine absurd ⟨by omega,?_,hz⟩ hc;cases hy:I0 L E s 3 with
       | false=>rfl
       | true=>exact absurd (H7 hy).2 hk3
     have:=B8o ((hG _ (J4 (by decide) (H7 h1k).2).1).1 (H7 h1k).2);show 1+(B5 L E s).text.length+0+13 * s.i<=13 * s3.i+1;omega
theorem EZ.all (hG:∀ t∈L,H6 t):∀ f:Nat,(∀ n s r,I7 L E f n s=some r->r.1.sz+13 * s.i<=13 * r.2.i+1)/\(∀ n e s r,O5 L E f n e s=some r->r.1.sz+13 * s.i<=13 * r.2.i+e.sz)/\(∀ s r,S6 L E f s=some r->r.1.sz+13 * s.i<=13 * r.2.i+1)
 | 0=>⟨fun n s r h=>by simp [I7] at h,fun n e s r h=>by simp [O5] at h,fun s r h=>by simp [S6] at h⟩
 | f+1=>by
  obtain ⟨i1,i2,i3⟩:=EZ.all hG f;refine ⟨fun n s r h=>?_,fun n e s r h=>?_,fun s r h=>?_⟩
  ·unfold I7 at h;split at h
   ·exact i3 _ _ h
   ·split at h
    ·cases h
    ·rename_i hb;have h1:=i1 _ _ _ hb;have h2:=i2 _ _ _ _ h;dsimp only at h1;omega
  ·unfold O5 at h;dsimp only at h;split at h
   ·cases h;dsimp only;omega
   ·split at h
    ·cases h
    ·rename_i x s1 hb;have h1:=i1 _ _ _ hb;have h1:x.sz+13 * (s.i+1)<=13 * s1.i+1:=h1;have h3:(Ex.mk (12+C1 L E s C5) 0 [] [e,x] (B5 L E s).pos).sz=1+e.sz+x.sz:=by rw [Ex.sz,Ex.szs,Ex.szs,Ex.szs];simp;omega
     split at h
     ·cases h;rw [h3];show 1+e.sz+x.sz+13 * s.i<=13 * s1.i+e.sz;omega
     ·have h2:=i2 _ _ _ _ h;rw [h3] at h2;omega
  ·unfold S6 at h;dsimp only at h;split at h
   ·cases h;exact C8r hG
   ·split at h
    ·cases h;show 1+0+0+13 * s.i<=13 * (C4 L E s (s.par+1) 16 50).i+1;rw [F7];omega
    ·rename_i hl;have hl:okR (C4 L E s (s.par+1) 16 50)=true:=by simpa using hl
     obtain ⟨-, -,h3⟩:=G3 (by decide) hl;rw [h3] at h;split at h
     ·split at h
      ·cases h
      ·rename_i e s3 hb;cases h;have h1:=i1 _ _ _ hb;have h1:e.sz+13 * (s.i+1)<=13 * s3.i+1:=h1;have h2:=E6 (L:=L) (E:=E) (s:=s3) (x:=[41]);show e.sz+13 * s.i<=13 * (D1 L E s3 [41]).i+1;omega
     ·split at h
      ·cases h
      ·rename_i e s3 hb;cases h;have h1:=i3 _ _ hb;have h1:e.sz+13 * (s.i+1)<=13 * s3.i+1:=h1;have h4:(Ex.mk (10+C1 L E s K5) 0 [] [e] (B5 L E s).pos).sz=1+e.sz:=by rw [Ex.sz,Ex.szs,Ex.szs];simp
       rw [h4];show 1+e.sz+13 * s.i<=13 * s3.i+1;omega
theorem A2r (hG:∀ t∈L,H6 t) {f:Nat} {s:Rd} {r:Ex × Rd} (h:Q7 L E f s=some r):r.1.sz+13 * s.i<=13 * r.2.i+1:=(EZ.all hG f).1 1 { s with ops:=0,par:=0 } r h
theorem A3a (k p:Int) (n t:List UInt8) (a:List Ex) (x y:List St):(St.mk k n t a x y p).sz=1+n.length+t.length+Ex.szs a+St.szs x+St.szs y:=by rw [St.sz]
theorem C8a (hG:∀ t∈L,H6 t) {f:Nat} {k p:Int} {s:Rd} {r:St × Rd} (h:I9 L E f k p s=some r):r.1.sz+100 * s.i<=100 * r.2.i+40:=by
 have t1:=A2h (L:=L) (E:=E) hG (s:=s);have t4:=C7y (L:=L) (E:=E) hG (s:=s);have g1:=I8 (L:=L) (E:=E) (s:=s) (x:=1);have g4:=I8 (L:=L) (E:=E) (s:=s) (x:=4);unfold I9 at h;dsimp only at h;split at h
 ·split at h
  ·cases h
  ·rename_i e s1 he;cases h;have h1:=A2r hG he;have h2:=E6 (L:=L) (E:=E) (s:=s1) (x:=[59]);rw [A3a,Ex.szs,Ex.szs,St.szs];simp only [A0F] at h1 ⊢;omega
 split at h
 ·split at h
  ·cases h
  ·rename_i e s1 he;cases h;have h1:=A2r hG he;have h2:=E6 (L:=L) (E:=E) (s:=s1) (x:=[59]);have h3:=E6 (L:=L) (E:=E) (s:=(B2 L E s 4).2) (x:=[44]);rw [A3a,Ex.szs,Ex.szs,St.szs];simp only [A0F] at h1 ⊢;omega
 split at h
 ·cases h;have h2:=E6 (L:=L) (E:=E) (s:=s) (x:=[59]);rw [A3a,Ex.szs,St.szs];simp only [A0F];omega
 split at h
 ·split at h
  ·cases h
  ·rename_i e s1 he;have h1:=A2r hG he;split at h
   ·split at h
    ·cases h
    ·rename_i e2 s2 he2;cases h;have h4:=A2r hG he2;have h2:=E6 (L:=L) (E:=E) (s:=s2) (x:=[59]);have h3:=E6 (L:=L) (E:=E) (s:=s1) (x:=[44]);rw [A3a,Ex.szs,Ex.szs,Ex.szs,St.szs];simp only [A0F] at h1 h4 ⊢;omega
   ·cases h;have h2:=E6 (L:=L) (E:=E) (s:=s1) (x:=[59]);rw [A3a,Ex.szs,Ex.szs,St.szs];simp only [A0F] at h1 ⊢;omega
 ·cases h;have h2:=E6 (L:=L) (E:=E) (s:=(B2 L E s 1).2) (x:=[59]);rw [A3a,Ex.szs,St.szs];simp only [A0F];omega
theorem B7q:∀ (l:List St) (x:St),St.szs (l++[x])=St.szs l+x.sz
 | [],x=>by simp [St.szs]
 | a :: l,x=>by rw [List.cons_append,St.szs,St.szs,B7q l x];omega
theorem SZ.all (hG:∀ t∈L,H6 t):∀ f:Nat,(∀ d s r,M0 L E f d s=some r->St.szs r.1+100 * s.i<=100 * r.2.i+40) /\
  (∀ d l s r,P4 L E f d l s=some r->St.szs r.1+100 * s.i<=100 * r.2.i+St.szs l+40/\(okR s=false->St.szs r.1<=St.szs l)) /\
  (∀ d s r,R8 L E f d s=some r->r.1.sz+100 * s.i<=100 * r.2.i+40/\(r.1.sz+100 * s.i<=100 * r.2.i\/okR r.2=false/\r.1.sz<=40)/\s.i<=r.2.i) /\
  (∀ d s r,Q1 L E f d s=some r->St.szs r.1+100 * s.i<=100 * r.2.i+40)
 | 0=>⟨fun d s r h=>by simp [M0] at h,fun d l s r h=>by simp [P4] at h,fun d s r h=>by simp [R8] at h,fun d s r h=>by simp [Q1] at h⟩
 | f+1=>by
  obtain ⟨i1,i2,i3,i4⟩:=SZ.all hG f;refine ⟨fun d s r h=>?_,fun d l s r h=>?_,fun d s r h=>?_,fun d s r h=>?_⟩
  ·unfold M0 at h;have h1:=(i2 _ _ _ _ h).1;have h2:=E6 (L:=L) (E:=E) (s:=s) (x:=[123]);rw [St.szs] at h1;omega
  ·unfold P4 at h;split at h
   ·rename_i hc;refine ⟨?_,fun h0=>by rw [h0] at hc;cases hc.1⟩;split at h
    ·cases h;show St.szs []+100 * s.i<=100 * (O2 L E s).i+St.szs l+40;rw [T6,St.szs];omega
    ·split at h
     ·cases h
     ·rename_i x s1 he;obtain ⟨h1,h2⟩:=i2 _ _ _ _ h;obtain ⟨h3,h4,h5⟩:=i3 _ _ _ he;rw [F7] at h3 h4 h5;rw [B7q] at h1 h2;dsimp only at h3 h4 h5;rcases h4 with h4|⟨h4,h6⟩
      ·omega
      ·have h7:=h2 h4;have h8:s1.i<=r.2.i:=by
        obtain ⟨N,hN⟩:=(ST.all (L:=L) (E:=E) _).2 d (l++[x]) s1 (A0H _);obtain ⟨⟨M,hM⟩,hg⟩:=hN;have h9:okR s1=false:=h4;have hfr:V7 L E d (l++[x]) s1 (l++[x],D1 L E s1 [125]):=V7.stop (by rw [h9];simp);cases f with
        | zero=>simp [P4] at h
        | succ f =>
         rw [P4,if_neg (by rw [h9];simp)] at h;cases h;exact E6
       omega
   ·rename_i hc;cases h;have h2:=E6 (L:=L) (E:=E) (s:=s) (x:=[125]);exact ⟨by dsimp only;omega,fun _=>A0H _⟩
  ·have hst:=(ST.all (L:=L) (E:=E) (L.length-s.i)).1 d s (A0H _);unfold R8 at h;dsimp only at h;split at h
   ·rename_i hl;cases h;have e1:St0.sz=1:=by unfold St0;rw [A3a,Ex.szs,St.szs];rfl
    refine ⟨?_,.inr ⟨hl,by show St0.sz<=40;omega⟩,?_⟩
    ·show St0.sz+100 * s.i<=100 * (C4 L E s d 8 50).i+40;rw [F7];omega
    ·show s.i<=(C4 L E s d 8 50).i;rw [F7];exact A0H _
   rename_i hl;have hl:okR (C4 L E s d 8 50)=true:=by simpa using hl
   obtain ⟨hs,hd,hle⟩:=G3 (by decide) hl;rw [hle] at h;split at h
   ·split at h
    ·cases h
    ·rename_i e s1 he;cases h;have h1:=A2r hG he;have h2:=E6 (L:=L) (E:=E) (s:=s1) (x:=[59]);have h3:=E6 (L:=L) (E:=E) (s:=(B2 L E s 1).2) (x:=[61]);have h4:=I8 (L:=L) (E:=E) (s:=s) (x:=1);have h5:=A2h (L:=L) (E:=E) hG (s:=s);have hsz:(St.mk 1 (B2 L E s 1).1.text [] [e] [] [] (B5 L E s).pos).sz=1+(B2 L E s 1).1.text.length+e.sz:=by
      rw [A3a,Ex.szs,Ex.szs,St.szs];simp
     rw [hsz];dsimp only at h1 ⊢;refine ⟨by omega,?_,by omega⟩;by_cases ht:I0 L E s 1=true
     ·have h6:(B2 L E s 1).2.i=s.i+1:=by unfold B2;rw [if_neg (by rw [ht];decide)];rfl
      exact .inl (by omega)
     ·have ht:I0 L E s 1=false:=by simpa using ht
      have h6:(B2 L E s 1).2=O2 L E s:=by unfold B2;rw [if_pos ht]
      by_cases hp:1<=(D1 L E s1 [59]).i-s.i
      ·exact .inl (by omega)
      ·refine .inr ⟨?_,by omega⟩;cases hz:okR (D1 L E s1 [59]) with
       | false=>rfl
       | true =>
        have h7:=(A8w hz).2;have h8:(D1 L E s1 [59]).i=s1.i+1:=by rw [h7];rfl
        omega
   ·rename_i hk;obtain ⟨-,hi, -,hk18⟩:=G5 (show 0<=C1 L E s C0 by omega);have hn:(A7 s).i=s.i+1:=rfl;split at h
    ·split at h
     ·cases h
     ·rename_i e s2 he;split at h
      ·cases h
      ·rename_i t s3 ht;have h1:=A2r hG he;have h2:=i1 _ _ _ ht;rw [hn] at h1;dsimp only at h1 h2;split at h
       ·split at h
        ·cases h
        ·rename_i o s4 ho;cases h;have h3:=i4 _ _ _ ho;have h3:St.szs o+100 * (s3.i+1)<=100 * s4.i+40:=h3;have hsz:(St.mk 2 [] [] [e] t o (B5 L E s).pos).sz=1+e.sz+St.szs t+St.szs o:=by
          rw [A3a,Ex.szs,Ex.szs];simp
         rw [hsz];dsimp only;exact ⟨by omega,.inl (by omega),by omega⟩
       ·cases h;have hsz:(St.mk (2+C1 L E s C0) [] [] [e] t [] (B5 L E s).pos).sz=1+e.sz+St.szs t:=by
         rw [A3a,Ex.szs,Ex.szs,St.szs];simp
        rw [hsz];dsimp only;exact ⟨by omega,.inl (by omega),by omega⟩
    ·have h1:=C8a hG h;rw [hn] at h1;exact ⟨by omega,.inl (by omega),by omega⟩
  ·unfold Q1 at h;split at h
   ·split at h
    ·cases h
    ·rename_i x s1 he;cases h;have h1:=(i3 _ _ _ he).1;rw [St.szs,St.szs];dsimp only at h1 ⊢;omega
   ·exact i1 _ _ _ h
end
end Go.Pb
namespace Go.Pb
variable [Go.Sym.Tab]
open Go.Sym
section
variable {L:List Tok} {E:Int}
theorem D6q (hG:∀ t∈L,H6 t) {k:Int} {s:Rd}:(R0 L E k s).1.sz<=13:=by
 have h:=A2h (L:=L) (E:=E) hG (s:=A7 s);unfold R0 Dc.sz;dsimp only;split
 ·dsimp only;omega
 ·dsimp only;omega
theorem B1i {α : Type} (f : α -> Nat) (l:List α) (x : α):((l++[x]).map f).sum=(l.map f).sum+f x:=by simp
theorem C4s (hG:∀ t∈L,H6 t):∀ (f:Nat) (l:List Hd) (s:Rd) (r:List Hd × Rd),T8 L E f l s=some r->(r.1.map Hd.sz).sum+100 * s.i<=100 * r.2.i+(l.map Hd.sz).sum
 | 0,l,s,r,h=>by simp [T8] at h
 | f+1,l,s,r,h=>by
  unfold T8 at h;dsimp only at h;split at h
  ·split at h
   ·cases h;show (l.map Hd.sz).sum+100 * s.i<=100 * (O2 L E s).i+_;rw [T6];omega
   ·have h1:(C4 L E s ((l.length:Int)+1) 32 9).i=s.i:=F7;generalize C4 L E s ((l.length:Int)+1) 32 9=s1 at h h1;split at h
    ·cases h;have h2:=E6 (L:=L) (E:=E) (s:=s1) (x:=[111,110]);show (l.map Hd.sz).sum+100 * s.i<=100 * (O2 L E (D1 L E s1 [111,110])).i+_;rw [T6];omega
    ·rename_i hk;obtain ⟨hok,hi, -⟩:=G5 (show 0<=C1 L E (D1 L E s1 [111,110]) E1 by omega);have h3:(D1 L E s1 [111,110]).i=s1.i+1:=by rw [(A8w hok).2];rfl
     generalize D1 L E s1 [111,110]=s2 at h hk h3;have h4:=I8 (L:=L) (E:=E) (s:=A7 s2) (x:=1);have h5:=A2h (L:=L) (E:=E) hG (s:=A7 s2);have h6:(A7 s2).i=s2.i+1:=rfl;split at h
     ·cases h
     ·rename_i b s5 hb;have h7:=(SZ.all hG f).1 _ _ _ hb;have h8:=C4s hG f _ _ _ h;rw [B1i] at h8;have h9:s2.i+1<=(if 2<=C1 L E s2 E1 then (B2 L E (A7 s2) 1).2 else A7 s2).i:=by
       split
       ·omega
       ·omega
      have h10:(if 2<=C1 L E s2 E1 then (B2 L E (A7 s2) 1).1.text else []).length<=12:=by
       split
       ·exact h5
       ·exact A0R _
      have h11:Hd.sz ⟨1+C1 L E s2 E1,if 2<=C1 L E s2 E1 then (B2 L E (A7 s2) 1).1.text else [],b,(B5 L E s1).pos⟩<=13+St.szs b:=by
       unfold Hd.sz;dsimp only;omega
      dsimp only at h7 h8;omega
  ·cases h;have h2:=E6 (L:=L) (E:=E) (s:=s) (x:=[125]);dsimp only;omega
theorem D5d (hG:∀ t∈L,H6 t) {f:Nat} {s:Rd} {r:Md × Rd} (h:A2x L E f s=some r) (hm:isR L E s [109,111,100,101]=true):r.1.sz+100 * s.i<=100 * r.2.i:=by
 unfold A2x at h;dsimp only at h;split at h
 ·cases h
 ·rename_i l s3 hml;cases h;have h1:=C4s hG _ _ _ _ hml;have h2:(D1 L E s [109,111,100,101]).i=s.i+1:=by unfold D1;rw [if_neg (by rw [hm];decide)];rfl
  generalize D1 L E s [109,111,100,101]=s1 at h1 h2 ⊢;have h3:=A2h (L:=L) (E:=E) hG (s:=s1);have h4:=I8 (L:=L) (E:=E) (s:=s1) (x:=1);have h5:=I8 (L:=L) (E:=E) (s:=(B2 L E s1 1).2) (x:=3);have h6:=E6 (L:=L) (E:=E) (s:=(B2 L E (B2 L E s1 1).2 3).2) (x:=[123]);unfold Md.sz;dsimp only at h1 ⊢;simp only [List.map_nil,List.sum_nil] at h1;omega
theorem B5z (hG:∀ t∈L,H6 t):∀ (f:Nat) (l:List Dc) (s:Rd) (r:List Dc × Rd),R9 L E f l s=some r->(r.1.map Dc.sz).sum+100 * s.i<=100 * r.2.i+(l.map Dc.sz).sum
 | 0,l,s,r,h=>by simp [R9] at h
 | f+1,l,s,r,h=>by
  unfold R9 at h;dsimp only at h;split at h
  ·cases h;dsimp only;omega
  ·have h1:(C4 L E s ((l.length:Int)+1) 128 9).i=s.i:=F7;split at h
   ·have h2:=B5z hG f _ _ _ h;rw [B1i] at h2;have h3:=D6q (L:=L) (E:=E) hG (k:=C1 L E s D2) (s:=C4 L E s ((l.length:Int)+1) 128 9);have h4:=C6v (L:=L) (E:=E) (k:=C1 L E s D2) (s:=C4 L E s ((l.length:Int)+1) 128 9);omega
   ·have h2:=B5z hG f _ _ _ h;omega
theorem B5y (hG:∀ t∈L,H6 t):∀ (f:Nat) (l:List Md) (s:Rd) (r:List Md × Rd),Q0 L E f l s=some r->(r.1.map Md.sz).sum+100 * s.i<=100 * r.2.i+(l.map Md.sz).sum
 | 0,l,s,r,h=>by simp [Q0] at h
 | f+1,l,s,r,h=>by
  unfold Q0 at h;dsimp only at h;split at h
  ·split at h
   ·cases h;show (l.map Md.sz).sum+100 * s.i<=100 * (O2 L E s).i+_;rw [T6];omega
   ·rename_i hm;have hm:isR L E s [109,111,100,101]=true:=by simpa using hm
    split at h
    ·rename_i hl;have e0:=(G3 (by decide) hl).2.2;rw [e0] at h;split at h
     ·cases h
     ·rename_i m s2 hmd;have h1:=D5d hG hmd hm;have h2:=B5y hG f _ _ _ h;rw [B1i] at h2;dsimp only at h1;omega
    ·have h1:(C4 L E s ((l.length:Int)+1) 16 9).i=s.i:=F7;have h2:=B5y hG f _ _ _ h;omega
  ·cases h;dsimp only;omega
theorem D3p (hG:∀ t∈L,H6 t) {f:Nat} {s:Rd} {r:Ru × Rd} (h:A4e L E f s=some r) (hi:s.i<=L.length):r.1.sz<=100 * L.length:=by
 unfold A4e at h;split at h
 ·cases h
 ·rename_i d s1 hd;split at h
  ·cases h
  ·rename_i m s2 hm;cases h;have h1:=B5z hG _ _ _ _ hd;have h2:=B5y hG _ _ _ _ hm;have h3:=C3l _ _ _ _ hm (C3n _ _ _ _ hd hi);unfold Ru.sz;simp only [List.map_nil,List.sum_nil] at h1 h2 h3 ⊢;omega
end
theorem B8b {L:List Tok} {E:Int} (hG:∀ t∈L,H6 t):(X7 L E).1.sz<=100 * L.length:=by
 obtain ⟨f,hf⟩:=(A3j L E).get;exact D3p hG hf (A0R _)
theorem C8w (s:List UInt8):(O0 s).1.sz<=2000000:=by
 unfold O0;dsimp only;split
 ·show 0+0<=_;omega
 ·rename_i h;have h:(F4 s).2.2=0:=by simpa using h
  have h1:=B7z h;split
  ·show 0+0<=_;omega
  ·have:=B8b (E:=s.length) (B5w h);dsimp only;omega
mutual
theorem Ex.plain_sz:∀ e:Ex,e.plain.sz=e.sz
 | .mk k v n a p=>by rw [Ex.plain,Ex.sz,Ex.sz,Ex.plains_sz a]
theorem Ex.plains_sz:∀ l:List Ex,Ex.szs (Ex.plains l)=Ex.szs l
 | []=>rfl
 | e :: l=>by rw [Ex.plains,Ex.szs,Ex.szs,Ex.plain_sz e,Ex.plains_sz l]
end
mutual
theorem St.plain_sz:∀ e:St,e.plain.sz=e.sz
 | .mk k n t a x y p=>by rw [St.plain,St.sz,St.sz,Ex.plains_sz a,St.plains_sz x,St.plains_sz y]
theorem St.plains_sz:∀ l:List St,St.szs (St.plains l)=St.szs l
 | []=>rfl
 | e :: l=>by rw [St.plains,St.szs,St.szs,St.plain_sz e,St.plains_sz l]
end
theorem Md.plain_sz (m:Md):m.plain.sz=m.sz:=by
 unfold Md.sz Md.plain;dsimp only;rw [A2X]
 congr 2
 refine A3R fun h _=>?_;show Hd.sz h.plain=Hd.sz h;unfold Hd.sz Hd.plain;dsimp only;rw [St.plains_sz]
theorem Ru.plain_sz (r:Ru):r.plain.sz=r.sz:=by
 unfold Ru.sz Ru.plain;dsimp only;rw [A2X,A2X]
 congr 2
 exact A3R fun m _=>Md.plain_sz m
def B9x (r:Ru):Bool:=okR (X7 (ruT r) 0).2 && @decide ((X7 (ruT r) 0).1.plain=r.plain) (Classical.propDecidable _)
end Go.Pb
namespace Go.Proofs.YtnmkkggfgdfmeaaGreatDoor
open Go.Eng (IC IOper DReg IFn B8)
open Go.Sym Go.Pb
theorem c_ValidR31 (r:Ru) (hB:r.sz<4000000):PC Tryz.prog 59 [r.v] (.bool (B9x r)):=by
 refine PC.ofT A9 rfl (A0B rfl) (by simp [DV.nlL,DV.nl,H4,G9]) rfl ?_;have hg:=C5n r;have hGT:∀ t∈ruT r,H6 t:=fun t ht=>(hg t ht).1;have hval:∀ t∈ruT r,0<=t.value/\t.value<=9223372036854775807:=fun t ht=>by have:=(hg t ht).2;omega
 obtain ⟨l1,l2⟩:=C8m r;have hsz:=B8b (E:=0) hGT;have ht:=c_rulesT r hB (by omega);have hp:=c_Plain31 r (by omega);obtain ⟨f,hf⟩:=(A3j (ruT r) 0).get;have hr:=c_rules (ruT r) 0 (by omega) hval f rd0 _ hf (A0R _);have hv:B9x r=(okR (X7 (ruT r) 0).2 && B5x (X7 (ruT r) 0).1.plain r.plain):=rfl;rw [hv];have hpo:=c_Plain31 (X7 (ruT r) 0).1 (by omega);have hps:(X7 (ruT r) 0).1.plain.sz<=100000000000:=by rw [Ru.plain_sz];omega
 have hsm:=c_Same31 (X7 (ruT r) 0).1.plain r.plain hps;generalize X7 (ruT r) 0=w at hr hpo hsm hsz ⊢;generalize hL:ruT r=L at ht hr;repeat' ((with_reducible first|apply wr|refine cpc ht ?_|fail)<;>try simp only [go_sem,seval])
 refine AC.call (hr _ _ 1 rfl (by decide)) ?_;rintro v H' c2 ⟨rfl,rfl⟩ hc2;dsimp only at hc2 ⊢;have ne0:=S0 0 1 c2 (by omega);simp only [go_sem,seval,ne0,A0,A1];repeat' ((with_reducible apply wr)<;>try simp only [go_sem,seval,ne0,A0,A1])
 refine AC.call (c_rdok L 0 w.2 _ _ 1 (by rw [A2 (by omega)];exact A0) (by omega)) ?_;rintro v H' c3 ⟨rfl,rfl⟩ hc3;cases hok:okR w.2 with
 | false =>
  simp only [go_sem,seval,hok,ne0,A0,A1];repeat' ((with_reducible apply wr)<;>try simp only [go_sem,seval,hok,ne0,A0,A1])
  refine ⟨by repeat rw [A2 (by omega)]<;>rfl,?_⟩;repeat' ((with_reducible apply wr)<;>try simp only [go_sem,seval,hok,ne0,A0,A1])
  exact ⟨_,GL.refl _ _⟩
 | true =>
  simp only [go_sem,seval,hok,ne0,A0,A1];repeat' ((with_reducible first|apply wr|refine cpc hpo ?_|refine cpc hp ?_|refine cpc hsm ?_|fail)<;>try simp only [go_sem,seval,hok,ne0,A0,A1])
  refine ⟨by and_intros<;>(repeat rw [A2 (by omega)])<;>rfl,?_⟩;repeat' ((with_reducible first|apply wr|refine cpc hpo ?_|refine cpc hp ?_|refine cpc hsm ?_|fail)<;>try simp only [go_sem,seval,hok,ne0,A0,A1])
  exact ⟨_,GL.refl _ _⟩
end Go.Proofs.YtnmkkggfgdfmeaaGreatDoor
set_option maxHeartbeats 4000000
namespace Go.Proofs.YtnmkkggfgdfmeaaGreatDoor
open Go.Eng (IC IOper DReg IFn B8)
open Go.Sym
abbrev x95:XT Tryz.prog 95:=mkF (by unfold B8;conv=>lhs;reduce;simp only [seval,u8n]) (fun h=>by conv=>lhs;cbv)
instance t95:FT Tryz.prog 95 x95.d:=x95.ft
abbrev x56:XT Tryz.prog 56:=mkF (by unfold B8;conv=>lhs;reduce;simp only [seval,u8n]) (fun h=>by conv=>lhs;cbv)
instance t56:FT Tryz.prog 56 x56.d:=x56.ft
abbrev x128:XT Tryz.prog 128:=mkF (by unfold B8;conv=>lhs;reduce;simp only [seval,u8n]) (fun h=>by conv=>lhs;cbv)
instance t128:FT Tryz.prog 128 x128.d:=x128.ft
abbrev x127:XT Tryz.prog 127:=mkF (by unfold B8;conv=>lhs;reduce;simp only [seval,u8n]) (fun h=>by conv=>lhs;cbv)
instance t127:FT Tryz.prog 127 x127.d:=x127.ft
abbrev x129:XT Tryz.prog 129:=mkF (by unfold B8;conv=>lhs;reduce;simp only [seval,u8n]) (fun h=>by conv=>lhs;cbv)
instance t129:FT Tryz.prog 129 x129.d:=x129.ft
abbrev x159:XT Tryz.prog 159:=mkF (by unfold B8;conv=>lhs;reduce;simp only [seval,u8n]) (fun h=>by conv=>lhs;cbv)
instance t159:FT Tryz.prog 159 x159.d:=x159.ft
abbrev x162:XT Tryz.prog 162:=mkF (by unfold B8;conv=>lhs;reduce;simp only [seval,u8n]) (fun h=>by conv=>lhs;cbv)
instance t162:FT Tryz.prog 162 x162.d:=x162.ft
abbrev x123:XT Tryz.prog 123:=mkF (by unfold B8;conv=>lhs;reduce;simp only [seval,u8n]) (fun h=>by conv=>lhs;cbv)
instance t123:FT Tryz.prog 123 x123.d:=x123.ft
abbrev x149:XT Tryz.prog 149:=mkF (by unfold B8;conv=>lhs;reduce;simp only [seval,u8n]) (fun h=>by conv=>lhs;cbv)
instance t149:FT Tryz.prog 149 x149.d:=x149.ft
abbrev x150:XT Tryz.prog 150:=mkF (by unfold B8;conv=>lhs;reduce;simp only [seval,u8n]) (fun h=>by conv=>lhs;cbv)
instance t150:FT Tryz.prog 150 x150.d:=x150.ft
abbrev x161:XT Tryz.prog 161:=mkF (by unfold B8;conv=>lhs;reduce;simp only [seval,u8n]) (fun h=>by conv=>lhs;cbv)
instance t161:FT Tryz.prog 161 x161.d:=x161.ft
abbrev x81:XT Tryz.prog 81:=mkF (by unfold B8;conv=>lhs;reduce;simp only [seval,u8n]) (fun h=>by conv=>lhs;cbv)
instance t81:FT Tryz.prog 81 x81.d:=x81.ft
abbrev x84:XT Tryz.prog 84:=mkF (by unfold B8;conv=>lhs;reduce;simp only [seval,u8n]) (fun h=>by conv=>lhs;cbv)
instance t84:FT Tryz.prog 84 x84.d:=x84.ft
abbrev x40:XT Tryz.prog 40:=mkF (by unfold B8;conv=>lhs;reduce;simp only [seval,u8n]) (fun h=>by conv=>lhs;cbv)
instance t40:FT Tryz.prog 40 x40.d:=x40.ft
abbrev x80:XT Tryz.prog 80:=mkF (by unfold B8;conv=>lhs;reduce;simp only [seval,u8n]) (fun h=>by conv=>lhs;cbv)
instance t80:FT Tryz.prog 80 x80.d:=x80.ft
abbrev x83:XT Tryz.prog 83:=mkF (by unfold B8;conv=>lhs;reduce;simp only [seval,u8n]) (fun h=>by conv=>lhs;cbv)
instance t83:FT Tryz.prog 83 x83.d:=x83.ft
abbrev x45:XT Tryz.prog 45:=mkF (by unfold B8;conv=>lhs;reduce;simp only [seval,u8n]) (fun h=>by conv=>lhs;cbv)
instance t45:FT Tryz.prog 45 x45.d:=x45.ft
abbrev x88:XT Tryz.prog 88:=mkF (by unfold B8;conv=>lhs;reduce;simp only [seval,u8n]) (fun h=>by conv=>lhs;cbv)
instance t88:FT Tryz.prog 88 x88.d:=x88.ft
abbrev x79:XT Tryz.prog 79:=mkF (by unfold B8;conv=>lhs;reduce;simp only [seval,u8n]) (fun h=>by conv=>lhs;cbv)
instance t79:FT Tryz.prog 79 x79.d:=x79.ft
abbrev x120:XT Tryz.prog 120:=mkF (by unfold B8;conv=>lhs;reduce;simp only [seval,u8n]) (fun h=>by conv=>lhs;cbv)
instance t120:FT Tryz.prog 120 x120.d:=x120.ft
abbrev x82:XT Tryz.prog 82:=mkF (by unfold B8;conv=>lhs;reduce;simp only [seval,u8n]) (fun h=>by conv=>lhs;cbv)
instance t82:FT Tryz.prog 82 x82.d:=x82.ft
abbrev x122:XT Tryz.prog 122:=mkF (by unfold B8;conv=>lhs;reduce;simp only [seval,u8n]) (fun h=>by conv=>lhs;cbv)
instance t122:FT Tryz.prog 122 x122.d:=x122.ft
abbrev x148:XT Tryz.prog 148:=mkF (by unfold B8;conv=>lhs;reduce;simp only [seval,u8n]) (fun h=>by conv=>lhs;cbv)
instance t148:FT Tryz.prog 148 x148.d:=x148.ft
abbrev x158:XT Tryz.prog 158:=mkF (by unfold B8;conv=>lhs;reduce;simp only [seval,u8n]) (fun h=>by conv=>lhs;cbv)
instance t158:FT Tryz.prog 158 x158.d:=x158.ft
abbrev x160:XT Tryz.prog 160:=mkF (by unfold B8;conv=>lhs;reduce;simp only [seval,u8n]) (fun h=>by conv=>lhs;cbv)
instance t160:FT Tryz.prog 160 x160.d:=x160.ft
abbrev x166:XT Tryz.prog 166:=mkF (by unfold B8;conv=>lhs;reduce;simp only [seval,u8n]) (fun h=>by conv=>lhs;cbv)
instance t166:FT Tryz.prog 166 x166.d:=x166.ft
end Go.Proofs.YtnmkkggfgdfmeaaGreatDoor
namespace Go.Pb
variable [Go.Sym.Tab]
open Go.Sym
def P5 (t:Tok):Bool:=t.kind == 5 || t.kind == 2
def ixA:Nat->List (List UInt8)->List UInt8->Int
 | _,[],_ => -1
 | k,t :: l,x=>if x == t then (k:Int) else ixA (k+1) l x
def amT (t:Tok) (l:List (List UInt8)):Int:=if P5 t=true then ixA 0 l t.text else -1
def hd0 (E:Int) (ts:List Tok):Tok:=ts.headD ⟨0,[],0,E⟩
def P3 (t:Tok):Int:=if amT t C5<0 then 0 else B4 (12+amT t C5)
abbrev lvo (E:Int) (ts:List Tok):Int:=P3 (hd0 E ts)
section
variable {L:List Tok} {E:Int}
theorem A7e (s:Rd):B5 L E s=hd0 E (L.drop s.i):=by
 unfold B5 hd0;rw [A0X, <- List.head?_drop];cases L.drop s.i<;>rfl
theorem C7 {s:Rd} {t:Tok} {ts:List Tok} (h:L.drop s.i=t :: ts):B5 L E s=t:=by rw [A7e,h];rfl
theorem E8 {s:Rd} {t:Tok} {ts:List Tok} (h:L.drop s.i=t :: ts):L.drop (s.i+1)=ts:=by
 rw [<- A3A,h];rfl
theorem G4 {i:Nat} {a b:List Tok} (h:L.drop i=a++b):L.drop (i+a.length)=b:=by
 rw [<- A3A,h,List.drop_left]
theorem D2k {s:Rd} (hok:okR s=true):∀ (l:List (List UInt8)) (k:Nat),V6 L E s k l=if P5 (B5 L E s)=true then ixA k l (B5 L E s).text else -1
 | [],k=>by simp [V6,ixA]
 | t :: l,k=>by
  have ih:=D2k hok l (k+1);have hi:isR L E s t=(P5 (B5 L E s) && (B5 L E s).text == t):=by unfold isR P5;rw [hok,A1N]
  rw [V6,ixA,ih,hi];by_cases hs:P5 (B5 L E s)=true
  ·rw [hs,if_pos rfl,A1N,if_pos rfl]
  ·have hs:P5 (B5 L E s)=false:=by simpa using hs
   rw [hs,Bool.false_and,if_neg (by decide),if_neg (by decide),if_neg (by decide)]
theorem U3 {s:Rd} (hok:okR s=true) (l:List (List UInt8)):C1 L E s l=amT (B5 L E s) l:=D2k hok l 0
theorem A2y {s:Rd} (hok:okR s=true) (t:List UInt8):isR L E s t=(P5 (B5 L E s) && (B5 L E s).text == t):=by unfold isR P5;rw [hok,A1N]
theorem B0l {s:Rd} (hok:okR s=true) (k:Int):I0 L E s k=((B5 L E s).kind == k):=by unfold I0;rw [hok,A1N]
theorem D2c {s:Rd} {t:List UInt8} (hok:okR s=true) (h1:P5 (B5 L E s)=true) (h2:(B5 L E s).text=t):D1 L E s t=A7 s:=by
 unfold D1;rw [A2y hok,h1,h2,if_neg (by simp)]
theorem B1h {s:Rd} {k:Int} (hok:okR s=true) (h1:(B5 L E s).kind=k):B2 L E s k=(B5 L E s,A7 s):=by
 unfold B2;rw [B0l hok,if_neg (by simp [h1])]
def adv (s:Rd) (k:Nat) (o:Nat):Rd:={ s with i:=s.i+k,ops:=s.ops+(o:Int) }
theorem A2e {s:Rd} {k o:Nat} (h:okR s=true):okR (adv s k o)=true:=h
theorem W5 {n:Int} {e:Ex} {s:Rd} (hok:okR s=true) (hn:1<=n) (h:lvo E (L.drop s.i)≠n):Lop L E n e s (e,s):=by
 refine Lop.stop ?_;rw [U3 hok,A7e];unfold lvo P3 at h;by_cases hk:amT (hd0 E (L.drop s.i)) C5<0
 ·exact .inl hk
 ·rw [if_neg hk] at h;exact .inr h
theorem A9d {s s1:Rd} {e:Ex} (hok:okR s1=true):∀ (j:Nat) {m n:Int} {r:Ex × Rd},m-n<=j->Bin L E m s (e,s1)->1<=n->n<m->m<=6->lvo E (L.drop s1.i)<=n->Lop L E n e s1 r->Bin L E n s r
 | 0,m,n,r,hj,h,h1,h2,h3,h4,hr=>by omega
 | j+1,m,n,r,hj,h,h1,h2,h3,h4,hr=>by
  by_cases he:n+1=m
  ·exact Bin.go (by omega) (by rw [he];exact h) hr
  ·refine Bin.go (by omega) ?_ hr;exact A9d hok j (m:=m) (n:=n+1) (by omega) h (by omega) (by omega) h3 (by omega) (W5 hok (by omega) (by omega))
theorem B1c {s s1:Rd} {e:Ex} {n:Int} {r:Ex × Rd} (hok:okR s1=true) (h:Un L E s (e,s1)) (h1:1<=n) (h2:n<=5) (h4:lvo E (L.drop s1.i)<=n) (hr:Lop L E n e s1 r):Bin L E n s r :=
 A9d hok 6 (m:=6) (by omega) (Bin.un (by decide) h) h1 (by omega) (by omega) h4 hr
theorem D2w {s s1:Rd} {e:Ex} {n:Int} (hok:okR s1=true) (h:Un L E s (e,s1)) (h1:1<=n) (h2:n<=5) (h4:lvo E (L.drop s1.i)<n):Bin L E n s (e,s1) :=
 B1c hok h h1 h2 (by omega) (W5 hok h1 (by omega))
theorem B9r {t:Tok} (l:List (List UInt8)) (h:P5 t=false):amT t l = -1:=by unfold amT;rw [if_neg (by rw [h];decide)]
theorem C3x {s:Rd} {v:Int} {ts:List Tok} (hok:okR s=true) (h:L.drop s.i=⟨3,[],v,0⟩ :: ts) (ho:s.ops+1<=32):Un L E s (.mk 1 v [] [] 0,adv s 1 1):=by
 have hp:=C7 (E:=E) h;have ha:∀ l,C1 L E s l = -1:=fun l=>by rw [U3 hok,hp];exact B9r l rfl
 have h1:=Un.prim (L:=L) (E:=E) (s:=s) (by rw [ha];decide);have h2:I4 L E s=(.mk 1 v [] [] 0,adv s 1 1):=by
  unfold I4;dsimp only;rw [ha,hp,B0l hok,B0l hok,hp,if_neg (by simp),show C4 L E { s with ops:=s.ops+1 } (s.ops+1) 32 9 = { s with ops:=s.ops+1 } from if_neg (by omega),if_neg (by show ¬ okR s=false;rw [hok];decide),if_neg (by decide),if_pos rfl];rfl
 rw [h2] at h1;exact h1
theorem C3w {s:Rd} {n:List UInt8} {ts:List Tok} (hok:okR s=true) (h:L.drop s.i=⟨1,n,0,0⟩ :: ts) (ho:s.ops+1<=32):Un L E s (.mk 2 0 n [] 0,adv s 1 1):=by
 have hp:=C7 (E:=E) h;have ha:∀ l,C1 L E s l = -1:=fun l=>by rw [U3 hok,hp];exact B9r l rfl
 have h1:=Un.prim (L:=L) (E:=E) (s:=s) (by rw [ha];decide);have h2:I4 L E s=(.mk 2 0 n [] 0,adv s 1 1):=by
  unfold I4;dsimp only;rw [ha,hp,B0l hok,B0l hok,hp,if_neg (by simp),show C4 L E { s with ops:=s.ops+1 } (s.ops+1) 32 9 = { s with ops:=s.ops+1 } from if_neg (by omega),if_neg (by show ¬ okR s=false;rw [hok];decide),if_neg (by decide),if_neg (by show ¬ (1:Int)=3;decide)];rfl
 rw [h2] at h1;exact h1
theorem A2l {s:Rd} {w:List UInt8} {ts:List Tok} {j:Nat} (hok:okR s=true) (h:L.drop s.i=A5 w :: ts) (ho:s.ops+1<=32) (hj:j<4) (hi:amT (A5 w) F2=(j:Int)) (hpre:amT (A5 w) K5<0) :
  Un L E s (.mk (Y7.getD j 0) 0 [] [] 0,adv s 1 1):=by
 have hp:=C7 (E:=E) h;have h1:=Un.prim (L:=L) (E:=E) (s:=s) (by rw [U3 hok,hp];exact hpre);have ha:C1 L E s F2=(j:Int):=by rw [U3 hok,hp];exact hi
 have h2:I4 L E s=(.mk (Y7.getD j 0) 0 [] [] 0,adv s 1 1):=by
  unfold I4;dsimp only;rw [ha,hp,if_neg (by omega),show C4 L E { s with ops:=s.ops+1 } (s.ops+1) 32 9 = { s with ops:=s.ops+1 } from if_neg (by omega),if_neg (by show ¬ okR s=false;rw [hok];decide),if_pos (by omega),if_neg (by omega)];rfl
 rw [h2] at h1;exact h1
theorem A5n {s:Rd} {w n:List UInt8} {ts:List Tok} {j:Nat} (hok:okR s=true) (h:L.drop s.i=A5 w :: ⟨1,n,0,0⟩ :: ts) (ho:s.ops+1<=32) (hj4:4<=j) (hj:j<7) (hi:amT (A5 w) F2=(j:Int)) (hpre:amT (A5 w) K5<0) :
  Un L E s (.mk (Y7.getD j 0) 0 n [] 0,adv s 2 1):=by
 have hp:=C7 (E:=E) h;have hd:=E8 h;have h1:=Un.prim (L:=L) (E:=E) (s:=s) (by rw [U3 hok,hp];exact hpre);have ha:C1 L E s F2=(j:Int):=by rw [U3 hok,hp];exact hi
 have hp2:B5 L E (A7 { s with ops:=s.ops+1 })=⟨1,n,0,0⟩:=C7 hd;have ht:B2 L E (A7 { s with ops:=s.ops+1 }) 1=(⟨1,n,0,0⟩,A7 (A7 { s with ops:=s.ops+1 })):=by
  rw [B1h (show okR (A7 { s with ops:=s.ops+1 })=true from hok) (by rw [hp2]),hp2]
 have h2:I4 L E s=(.mk (Y7.getD j 0) 0 n [] 0,adv s 2 1):=by
  unfold I4;dsimp only;rw [ha,hp,if_neg (by omega),show C4 L E { s with ops:=s.ops+1 } (s.ops+1) 32 9 = { s with ops:=s.ops+1 } from if_neg (by omega),if_neg (by show ¬ okR s=false;rw [hok];decide),if_pos (by omega),if_pos (by omega),ht];rfl
 rw [h2] at h1;exact h1
def CE (L:List Tok) (E:Int) (e:Ex):Prop:=∀ o d,msM e=some (o,d)->∀ (s:Rd) (post:List Tok),L.drop s.i=exT e++post->okR s=true->s.ops+(o:Int)<=32->s.par+(d:Int)<=16 ->
 ∃ e',e'.plain=e.plain/\(6<=B4 e.kind->Un L E s (e',adv s (exT e).length o)) /\
  (∀ n,1<=n->n<=5->n<=B4 e.kind->lvo E post<=n->(n=3->lvo E post≠3)->∀ r,Lop L E n e' (adv s (exT e).length o) r->Bin L E n s r)
theorem D7c:amT (A5 [40]) K5=2:=by decide +kernel
theorem C7i:amT (A5 [45]) K5=0:=by decide +kernel
theorem D1a:amT (A5 [33]) K5=1:=by decide +kernel
theorem B8t:P3 (A5 [41])=0:=by decide +kernel
theorem C8k:P5 (A5 [41])=true:=by decide +kernel
theorem A3t {s:Rd} {n m e:Int} (h:n<=m):C4 L E s n m e=s:=if_neg (by omega)
theorem D1m {x:Ex} (hx:CE L E x) {o d:Nat} (hm:msM x=some (o,d)) {s:Rd} {post:List Tok} (h:L.drop s.i=[A5 [40]]++exT x++[A5 [41]]++post) (hok:okR s=true) (ho:s.ops+(o:Int)<=32) (hp:s.par+((d+1:Nat):Int)<=16) :
  ∃ x',x'.plain=x.plain/\Un L E s (x',adv s ([A5 [40]]++exT x++[A5 [41]]).length o):=by
 have h0:L.drop s.i=A5 [40] :: (exT x++([A5 [41]]++post)):=by rw [h];simp
 have h1:=E8 h0;have hpk:=C7 (E:=E) h0;obtain ⟨x',e1, -,e3⟩:=hx o d hm { s with i:=s.i+1,par:=s.par+1 } ([A5 [41]]++post) h1 hok ho (by show s.par+1+(d:Int)<=16;omega);have hd2:L.drop (s.i+1+(exT x).length)=A5 [41] :: post:=G4 h1;have hb:=e3 1 (by decide) (by decide) (by have:=V8 x.kind;omega) (by show P3 (A5 [41])<=1;rw [B8t];decide) (fun h=>absurd h (by decide)) _ (W5 (show okR s=true from hok) (by decide) (by show P3 (hd0 E (L.drop (s.i+1+(exT x).length)))≠1;rw [hd2];show P3 (A5 [41])≠1;rw [B8t];decide));have hu:=Un.par (by rw [U3 hok,hpk];exact D7c) (by rw [A3t (by omega)];exact hok) hb;refine ⟨x',e1,?_⟩;have hpk2:B5 L E (adv { s with i:=s.i+1,par:=s.par+1 } (exT x).length o)=A5 [41]:=C7 hd2;rw [D2c (show okR (adv { s with i:=s.i+1,par:=s.par+1 } (exT x).length o)=true from hok) (by rw [hpk2];exact C8k) (by rw [hpk2];rfl)] at hu;have e4:({ A7 (adv { s with i:=s.i+1,par:=s.par+1 } (exT x).length o) with par:=(A7 (adv { s with i:=s.i+1,par:=s.par+1 } (exT x).length o)).par-1 }:Rd)=adv s ([A5 [40]]++exT x++[A5 [41]]).length o:=by
  have a1:s.i+1+(exT x).length+1=s.i+([A5 [40]]++exT x++[A5 [41]]).length:=by simp;omega
  have a2:s.par+1-1=s.par:=by omega
  show Rd.mk (s.i+1+(exT x).length+1) s.e s.pos (s.ops+(o:Int)) (s.par+1-1)=Rd.mk (s.i+([A5 [40]]++exT x++[A5 [41]]).length) s.e s.pos (s.ops+(o:Int)) s.par;rw [a1,a2]
 rw [e4] at hu;exact hu
theorem B1q {x:Ex} (hx:CE L E x) {o d:Nat} {least:Int} (hm:msM x=some (o,d)) {s:Rd} {post:List Tok} (h:L.drop s.i=E3 (x.kind,exT x) least++post) (hok:okR s=true) (ho:s.ops+(o:Int)<=32) (hp:s.par+((if B4 x.kind<least then d+1 else d:Nat):Int)<=16) (h1:1<=least) (h6:least<=6) (hl:lvo E post<least) :
  ∃ x',x'.plain=x.plain/\(least<=5->Bin L E least s (x',adv s (E3 (x.kind,exT x) least).length o))/\(least=6->Un L E s (x',adv s (E3 (x.kind,exT x) least).length o)):=by
 have hdp:=G4 h;unfold E3 at h hdp ⊢;dsimp only at h hdp ⊢;by_cases hlt:B4 x.kind<least
 ·rw [if_pos hlt] at h hp hdp ⊢;obtain ⟨x',e1,e2⟩:=D1m hx hm h hok ho hp;exact ⟨x',e1,fun h5=>D2w (A2e hok) e2 h1 h5 (by show lvo E (L.drop (s.i+_))<least;rw [hdp];exact hl),fun _=>e2⟩
 ·rw [if_neg hlt] at h hp hdp ⊢;obtain ⟨x',e1,e2,e3⟩:=hx o d hm s post h hok ho hp;refine ⟨x',e1,fun h5=>?_,fun h=>e2 (by omega)⟩;refine e3 least h1 h5 (by omega) (by omega) (by omega) _ (W5 (A2e hok) h1 ?_);show lvo E (L.drop (s.i+_))≠least;rw [hdp];omega
theorem C9v {x:Ex} (hx:CE L E x) {o d:Nat} {q:Int} (hm:msM x=some (o,d)) {s:Rd} {post:List Tok} (h:L.drop s.i=E3 (x.kind,exT x) (if q=3 then 4 else q)++post) (hok:okR s=true) (ho:s.ops+(o:Int)<=32) (hp:s.par+((if B4 x.kind<(if q=3 then 4 else q) then d+1 else d:Nat):Int)<=16) (h1:1<=q) (h5:q<=5) (hl:lvo E post=q) :
  ∃ x',x'.plain=x.plain/\∀ r,Lop L E q x' (adv s (E3 (x.kind,exT x) (if q=3 then 4 else q)).length o) r->Bin L E q s r:=by
 have hdp:=G4 h;by_cases h3:q=3
 ·subst h3;rw [if_pos rfl] at h hp hdp ⊢;obtain ⟨x',e1,e2, -⟩:=B1q hx hm h hok ho hp (by decide) (by decide) (by omega);exact ⟨x',e1,fun r hr=>Bin.go (by decide) (e2 (by decide)) hr⟩
 ·rw [if_neg h3] at h hp hdp ⊢;unfold E3 at h hdp ⊢;dsimp only at h hdp ⊢;by_cases hlt:B4 x.kind<q
  ·rw [if_pos hlt] at h hp hdp ⊢;obtain ⟨x',e1,e2⟩:=D1m hx hm h hok ho hp;exact ⟨x',e1,fun r hr=>B1c (A2e hok) e2 h1 h5 (by show lvo E (L.drop (s.i+_))<=q;rw [hdp];omega) hr⟩
  ·rw [if_neg hlt] at h hp hdp ⊢;obtain ⟨x',e1,e2,e3⟩:=hx o d hm s post h hok ho hp;exact ⟨x',e1,e3 q h1 h5 (by omega) (by omega) (fun h=>absurd h h3)⟩
theorem A5q {k v:Int} {n:List UInt8} {a:List Ex} {p:Int} {o d:Nat} (h:msM (.mk k v n a p)=some (o,d)) :
  kOk k=true/\a.length=J6 k/\A1j k n=true/\A1g k v=true/\(J6 k=0->o=1/\d=0)/\(J6 k≠0->∃ d',msL k 0 a=some (o,d')/\d=if J6 k=1 then d'+1 else d'):=by
 unfold msM at h;split at h
 ·cases h
 ·rename_i hc;have h1:kOk k=true:=by cases hz:kOk k with|true=>rfl|false=>exact absurd (.inl hz) hc
  have h2:a.length=J6 k:=Classical.byContradiction fun hz=>hc (.inr (.inl hz));have h3:A1j k n=true:=by cases hz:A1j k n with|true=>rfl|false=>exact absurd (.inr (.inr (.inl hz))) hc
  have h4:A1g k v=true:=by cases hz:A1g k v with|true=>rfl|false=>exact absurd (.inr (.inr (.inr hz))) hc
  refine ⟨h1,h2,h3,h4,?_,?_⟩
  ·intro h0;rw [if_pos h0] at h;cases h;exact ⟨rfl,rfl⟩
  ·intro h0;rw [if_neg h0] at h;split at h
   ·cases h
   ·rename_i o' d' hm;cases h;exact ⟨d',hm,rfl⟩
theorem C3b:∀ j:Nat,j<13->amT (A5 (C5.getD j [])) C5=(j:Int)/\P5 (A5 (C5.getD j []))=true:=by decide +kernel
theorem nm0 {k:Int} {n:List UInt8} (h:A1j k n=true) (h2:k≠2) (h5:B1z k=false):n=[]:=by
 unfold A1j at h;rw [if_neg (by rw [h5];simp [h2])] at h;simpa using h
theorem vl0 {k v:Int} (h:A1g k v=true) (h1:k≠1):v=0:=by
 unfold A1g at h;simp only [A0Z,A0G,A1K,A0L] at h;rcases h with h|h
 ·exact h
 ·exact absurd h.1 h1
theorem B8x {α : Type} {l:List α} (h:l.length=2):∃ x y,l=[x,y]:=by
 match l,h with
 | [x,y],_=>exact ⟨x,y,rfl⟩
theorem B4o:∀ (m:Nat) (e:Ex),e.sz<m->CE L E e:=by
 intro m
 induction m with
 | zero=>intro e h;omega
 | succ m ih =>
 intro e hm o d hms s post h hok ho hp;cases e with|mk k v n a p =>
 obtain ⟨h1,h2,h3,h4,h5,h6⟩:=A5q hms;have hlr:=V8 k
 have viaUn:∀ e':Ex,e'.plain=(Ex.mk k v n a p).plain->Un L E s (e',adv s (exT (.mk k v n a p)).length o) ->
   ∃ e',e'.plain=(Ex.mk k v n a p).plain/\(6<=B4 k->Un L E s (e',adv s (exT (.mk k v n a p)).length o)) /\
    (∀ n',1<=n'->n'<=5->n'<=B4 k->lvo E post<=n'->(n'=3->lvo E post≠3)->∀ r,Lop L E n' e' (adv s (exT (.mk k v n a p)).length o) r->Bin L E n' s r):=fun e' he hu =>
  ⟨e',he,fun _=>hu,fun n' q1 q2 _ q4 _ r hr=>B1c (A2e hok) hu q1 q2 (by show lvo E (L.drop (s.i+_))<=n';rw [G4 h];exact q4) hr⟩
 by_cases hc0:J6 k=0
 ·obtain ⟨rfl,rfl⟩:=h5 hc0;have ha:a=[]:=A1V (by omega);subst ha;have hl7:B4 k=7:=by
   unfold J6 at hc0;split at hc0
   ·omega
   ·split at hc0<;>omega
  have hk9:1<=k/\k<=9:=by
   unfold kOk at h1;simp only [A0Z,A0G,A0L] at h1;have hk24:1<=k/\k<=24:=by omega
   refine ⟨hk24.1,?_⟩;apply Classical.byContradiction;intro hc;unfold B4 at hl7;repeat' split at hl7
   all_goals omega
  refine (show ∃ e',_ from ?_);have hT:exT (.mk k v n [] p)=K3 k v n []:=by rw [exT,A6q]
  rw [hT] at h viaUn ⊢;have ho1:s.ops+1<=32:=ho;have:k=1\/k=2\/k=3\/k=4\/k=5\/k=6\/k=7\/k=8\/k=9:=by omega
  rcases this with rfl|rfl|rfl|rfl|rfl|rfl|rfl|rfl|rfl
  ·have hn:=nm0 h3 (by decide) (by decide);subst hn;have hv:¬ (v<0\/2147483647<v):=by
    unfold A1g at h4;simp only [A0Z,A0G,A1K,A0L] at h4;omega
   have hb:K3 1 v [] []=[⟨3,[],v,0⟩]:=by unfold K3;dsimp only;rw [if_pos rfl];unfold T7;rw [if_neg hv]
   rw [hb] at h viaUn ⊢;exact viaUn (.mk 1 v [] [] 0) rfl (C3x hok h ho1)
  ·have hv:=vl0 h4 (by decide);subst hv;have hn:D8 n=true:=h3;have hb:K3 2 0 n []=[⟨1,n,0,0⟩]:=by unfold K3;dsimp only;rw [if_neg (by decide),if_pos rfl];unfold D4;rw [if_neg (by rw [hn];decide)]
   rw [hb] at h viaUn ⊢;exact viaUn (.mk 2 0 n [] 0) rfl (C3w hok h ho1)
  ·have hv:=vl0 h4 (by decide);have hn:=nm0 h3 (by decide) (by decide);subst hv hn;have hb:K3 3 0 [] []=[A5 [116,114,117,101]]:=rfl;rw [hb] at h viaUn ⊢;exact viaUn (.mk 3 0 [] [] 0) rfl (A2l (j:=0) hok h ho1 (by decide) (by decide +kernel) (by decide +kernel))
  ·have hv:=vl0 h4 (by decide);have hn:=nm0 h3 (by decide) (by decide);subst hv hn;have hb:K3 4 0 [] []=[A5 [102,97,108,115,101]]:=rfl;rw [hb] at h viaUn ⊢;exact viaUn (.mk 4 0 [] [] 0) rfl (A2l (j:=1) hok h ho1 (by decide) (by decide +kernel) (by decide +kernel))
  ·have hv:=vl0 h4 (by decide);subst hv;have hn:D8 n=true:=h3;have hb:K3 5 0 n []=[A5 [99,108,111,115,101,100],⟨1,n,0,0⟩]:=by
    show [A5 [99,108,111,115,101,100]]++D4 n=_;unfold D4;rw [if_neg (by rw [hn];decide)];rfl
   rw [hb] at h viaUn ⊢;exact viaUn (.mk 5 0 n [] 0) rfl (A5n (j:=4) hok h ho1 (by decide) (by decide) (by decide +kernel) (by decide +kernel))
  ·have hv:=vl0 h4 (by decide);subst hv;have hn:D8 n=true:=h3;have hb:K3 6 0 n []=[A5 [97,99,116,105,118,101],⟨1,n,0,0⟩]:=by
    show [A5 [97,99,116,105,118,101]]++D4 n=_;unfold D4;rw [if_neg (by rw [hn];decide)];rfl
   rw [hb] at h viaUn ⊢;exact viaUn (.mk 6 0 n [] 0) rfl (A5n (j:=5) hok h ho1 (by decide) (by decide) (by decide +kernel) (by decide +kernel))
  ·have hv:=vl0 h4 (by decide);subst hv;have hn:D8 n=true:=h3;have hb:K3 7 0 n []=[A5 [108,101,102,116],⟨1,n,0,0⟩]:=by
    show [A5 [108,101,102,116]]++D4 n=_;unfold D4;rw [if_neg (by rw [hn];decide)];rfl
   rw [hb] at h viaUn ⊢;exact viaUn (.mk 7 0 n [] 0) rfl (A5n (j:=6) hok h ho1 (by decide) (by decide) (by decide +kernel) (by decide +kernel))
  ·have hv:=vl0 h4 (by decide);have hn:=nm0 h3 (by decide) (by decide);subst hv hn;have hb:K3 8 0 [] []=[A5 [112,108,97,121,101,114]]:=rfl;rw [hb] at h viaUn ⊢;exact viaUn (.mk 8 0 [] [] 0) rfl (A2l (j:=2) hok h ho1 (by decide) (by decide +kernel) (by decide +kernel))
  ·have hv:=vl0 h4 (by decide);have hn:=nm0 h3 (by decide) (by decide);subst hv hn;have hb:K3 9 0 [] []=[A5 [98,97,108,108]]:=rfl;rw [hb] at h viaUn ⊢;exact viaUn (.mk 9 0 [] [] 0) rfl (A2l (j:=3) hok h ho1 (by decide) (by decide +kernel) (by decide +kernel))
 obtain ⟨d',hl,hd'⟩:=h6 hc0;clear h5 h6;have hv:=vl0 h4 (by rintro rfl;exact hc0 rfl);have hn:=nm0 h3 (by rintro rfl;exact hc0 rfl) (by
  cases hz:B1z k with
  | false=>rfl
  | true =>
   unfold B1z at hz;simp only [A0Z,A1K] at hz;rcases hz with rfl|rfl|rfl<;>exact absurd rfl hc0)
 subst hv hn;by_cases hl6:B4 k=6
 ·
  have hk:k=10\/k=11:=by
   unfold B4 at hl6;repeat' split at hl6
   all_goals omega
  have hc1:J6 k=1:=by unfold J6;rw [if_pos hl6]
  rw [hc1] at h2 hd';rw [if_pos rfl] at hd';obtain ⟨x,rfl⟩:∃ x,a=[x]:=List.length_eq_one_iff.1 h2;have hxc:=ih x (by rw [Ex.sz,Ex.szs,Ex.szs] at hm;omega);unfold msL at hl;cases hx:msM x with
  | none=>rw [hx] at hl;cases hl
  | some q =>
   obtain ⟨o1,d1⟩:=q;rw [hx] at hl;dsimp only at hl;unfold msL at hl;dsimp only at hl;simp only [Option.some.injEq,Prod.mk.injEq,A2W,Nat.max_zero] at hl;obtain ⟨rfl,hd1⟩:=hl;have hwr:X4 k x.kind 0=decide (B4 x.kind<6):=by
    unfold X4;rw [hl6];simp
   rw [hwr] at hd1;have hT:exT (.mk k 0 [] [x] p)=[A5 (if k=10 then [45] else [33])]++E3 (x.kind,exT x) 6:=by
    rw [exT,A6q,A6q];rcases hk with rfl|rfl<;>rfl
   rw [hT] at h viaUn ⊢;have h0:L.drop s.i=A5 (if k=10 then [45] else [33]) :: (E3 (x.kind,exT x) 6++post):=by rw [h];simp
   have hdn:=E8 h0;have hpk:=C7 (E:=E) h0;have ham:C1 L E s K5=k-10:=by
    rw [U3 hok,hpk];rcases hk with rfl|rfl
    ·exact C7i
    ·exact D1a
   have hlt6:lvo E post<6:=by
    unfold lvo P3;split
    ·decide
    ·rename_i hz;have:=V8 (12+amT (hd0 E post) C5);have h13:amT (hd0 E post) C5<13:=by
      have gen:∀ (l:List (List UInt8)) (j:Nat) (w:List UInt8),ixA j l w<((j+l.length:Nat):Int):=by
       intro l
       induction l with
       | nil=>intro j w;simp [ixA];omega
       | cons a l ih =>
        intro j w;have:=ih (j+1) w;simp only [ixA,A0E];split<;>omega
      unfold amT;split
      ·exact gen C5 0 _
      ·decide
     exact C9u (by omega) h13
   obtain ⟨x',e1, -,e3⟩:=B1q (least:=6) hxc hx (s:={ s with i:=s.i+1,par:=s.par+1 }) hdn hok ho (by
    show s.par+1+_<=16;have:((if B4 x.kind<6 then d1+1 else d1:Nat):Int)=(d':Int):=by
     rw [<- hd1];by_cases hz:B4 x.kind<6
     ·rw [if_pos hz,if_pos (by simpa using hz)]
     ·rw [if_neg hz,if_neg (by simpa using hz)]
    rw [this];omega) (by decide) (by decide) hlt6
   have hu:=Un.pre (L:=L) (E:=E) (s:=s) (by rw [ham];omega) (by rw [ham];omega) (by rw [A3t (by omega)];exact hok) (e3 rfl);rw [ham,hpk] at hu;have e4:({ adv { s with i:=s.i+1,par:=s.par+1 } (E3 (x.kind,exT x) 6).length o1 with par:=(adv { s with i:=s.i+1,par:=s.par+1 } (E3 (x.kind,exT x) 6).length o1).par-1 }:Rd)=adv s ([A5 (if k=10 then [45] else [33])]++E3 (x.kind,exT x) 6).length o1:=by
    have a1:s.i+1+(E3 (x.kind,exT x) 6).length=s.i+([A5 (if k=10 then [45] else [33])]++E3 (x.kind,exT x) 6).length:=by simp;omega
    have a2:s.par+1-1=s.par:=by omega
    show Rd.mk (s.i+1+(E3 (x.kind,exT x) 6).length) s.e s.pos (s.ops+(o1:Int)) (s.par+1-1)=Rd.mk (s.i+_) s.e s.pos (s.ops+(o1:Int)) s.par;rw [a1,a2]
   rw [e4] at hu;refine viaUn _ ?_ hu;rw [Ex.plain,Ex.plain,Ex.plains,Ex.plains,Ex.plains,Ex.plains,e1]
   congr 1
   omega
 ·
  have hl5:B4 k<=5:=by
   unfold J6 at hc0;rw [if_neg hl6] at hc0;split at hc0
   ·omega
   ·exact absurd rfl hc0
  have hc2:J6 k=2:=by unfold J6;rw [if_neg hl6,if_pos (by omega)]
  rw [hc2] at h2 hd';rw [if_neg (by decide)] at hd';subst hd';obtain ⟨x,y,rfl⟩:∃ x y,a=[x,y]:=B8x h2;have hxc:=ih x (by rw [Ex.sz,Ex.szs,Ex.szs] at hm;omega);have hyc:=ih y (by rw [Ex.sz,Ex.szs,Ex.szs,Ex.szs] at hm;omega);unfold msL at hl;cases hx:msM x with
  | none=>rw [hx] at hl;cases hl
  | some q =>
   obtain ⟨o1,d1⟩:=q;rw [hx] at hl;dsimp only at hl;unfold msL at hl;cases hy:msM y with
   | none=>rw [hy] at hl;cases hl
   | some q2 =>
    obtain ⟨o2,d2⟩:=q2;rw [hy] at hl;dsimp only at hl;unfold msL at hl;dsimp only at hl;simp only [Option.some.injEq,Prod.mk.injEq,A2W,Nat.max_zero] at hl;obtain ⟨rfl,hdd⟩:=hl;have hlk:=B2f (k:=k) (by omega);have hk12:12<=k:=by
     apply Classical.byContradiction;intro hc;have:k=10\/k=11:=by omega
     exact hl6 (A4r this)
    obtain ⟨j,hj⟩:∃ j:Nat,k=12+(j:Int):=⟨(k-12).toNat,by omega⟩;have hj13:j<13:=by omega
    have hjn:(k-12).toNat=j:=by omega
    obtain ⟨hs1,hs2⟩:=C3b j hj13;have hT:exT (.mk k 0 [] [x,y] p)=E3 (x.kind,exT x) (if B4 k=3 then 4 else B4 k)++[A5 (C5.getD j [])]++E3 (y.kind,exT y) (B4 k+1):=by
     rw [exT,A6q,A6q,A6q];unfold K3;dsimp only;rw [if_neg (by omega),if_neg (by omega),if_neg (by omega),if_neg (by omega),if_neg (by omega),if_neg (by omega),if_neg (by omega),if_neg (by omega),if_neg (by omega),if_pos (by omega),hjn]
    rw [hT] at h ⊢;generalize A5 (C5.getD j [])=sg at hs1 hs2 hT h ⊢;have hsl:P3 sg=B4 k:=by unfold P3;rw [hs1,if_neg (by omega), <- hj]
    have hdx:((if B4 x.kind<(if B4 k=3 then 4 else B4 k) then d1+1 else d1:Nat):Int)<=(d:Int):=by
     have hwr:(X4 k x.kind 0=true)↔B4 x.kind<(if B4 k=3 then 4 else B4 k):=by
      unfold X4;simp only [A0Z,A0G,A0L,A1K];by_cases h3:B4 k=3
      ·rw [if_pos h3];omega
      ·rw [if_neg h3];omega
     by_cases hz:B4 x.kind<(if B4 k=3 then 4 else B4 k)
     ·rw [if_pos hz];rw [if_pos (hwr.2 hz)] at hdd;omega
     ·rw [if_neg hz];rw [if_neg (fun h=>hz (hwr.1 h))] at hdd;omega
    have hdy:((if B4 y.kind<B4 k+1 then d2+1 else d2:Nat):Int)<=(d:Int):=by
     have hwr:(X4 k y.kind (0+1)=true)↔B4 y.kind<B4 k+1:=by
      unfold X4;rw [show ((0+1:Nat) == 1)=true from rfl,Bool.true_or,A2G];simp only [A0Z,A0L,A1K];omega
     by_cases hz:B4 y.kind<B4 k+1
     ·rw [if_pos hz];rw [if_pos (hwr.2 hz)] at hdd;omega
     ·rw [if_neg hz];rw [if_neg (fun h=>hz (hwr.1 h))] at hdd;omega
    have h0:L.drop s.i=E3 (x.kind,exT x) (if B4 k=3 then 4 else B4 k)++(sg :: (E3 (y.kind,exT y) (B4 k+1)++post)):=by rw [h];simp
    obtain ⟨x',e1,e2⟩:=C9v hxc hx h0 hok (by omega) (by omega) hlr.1 hl5 (by show P3 sg=B4 k;exact hsl);have hd1:=G4 h0;have hpk:B5 L E (adv s (E3 (x.kind,exT x) (if B4 k=3 then 4 else B4 k)).length o1)=sg:=C7 hd1;have hd2:=E8 (s:=adv s (E3 (x.kind,exT x) (if B4 k=3 then 4 else B4 k)).length o1) hd1;have ham:C1 L E (adv s (E3 (x.kind,exT x) (if B4 k=3 then 4 else B4 k)).length o1) C5=(j:Int):=by rw [U3 (A2e hok),hpk];exact hs1
    have hfin:s.i+(E3 (x.kind,exT x) (if B4 k=3 then 4 else B4 k)).length+1+(E3 (y.kind,exT y) (B4 k+1)).length=s.i+(E3 (x.kind,exT x) (if B4 k=3 then 4 else B4 k)++[sg]++E3 (y.kind,exT y) (B4 k+1)).length:=by simp only [A0A,A0I];omega
    have hadv:adv (A7 (adv s (E3 (x.kind,exT x) (if B4 k=3 then 4 else B4 k)).length o1)) (E3 (y.kind,exT y) (B4 k+1)).length o2=adv s (E3 (x.kind,exT x) (if B4 k=3 then 4 else B4 k)++[sg]++E3 (y.kind,exT y) (B4 k+1)).length (o1+o2):=by
     have a2:s.ops+(o1:Int)+(o2:Int)=s.ops+((o1+o2:Nat):Int):=by omega
     show Rd.mk (s.i+_+1+_) s.e s.pos (s.ops+(o1:Int)+(o2:Int)) s.par=Rd.mk (s.i+_) s.e s.pos (s.ops+((o1+o2:Nat):Int)) s.par;rw [hfin,a2]
    have hdr:=G4 h;have main:lvo E post<=B4 k->∃ y',y'.plain=y.plain/\Bin L E (B4 k+1) (A7 (adv s (E3 (x.kind,exT x) (if B4 k=3 then 4 else B4 k)).length o1)) (y',adv s (E3 (x.kind,exT x) (if B4 k=3 then 4 else B4 k)++[sg]++E3 (y.kind,exT y) (B4 k+1)).length (o1+o2)):=by
     intro hlv;obtain ⟨y',f1,f2,f3⟩:=B1q (least:=B4 k+1) hyc hy (s:=A7 (adv s (E3 (x.kind,exT x) (if B4 k=3 then 4 else B4 k)).length o1)) hd2 hok (by show s.ops+(o1:Int)+(o2:Int)<=32;omega) (by show s.par+_<=16;omega) (by omega) (by omega) (by omega);rw [hadv] at f2 f3;refine ⟨y',f1,?_⟩;by_cases h5':B4 k+1<=5
     ·exact f2 h5'
     ·exact Bin.un (by omega) (f3 (by omega))
    by_cases hlv:lvo E post<=B4 k
    ·obtain ⟨y',f1,f2⟩:=main hlv;refine ⟨.mk k 0 [] [x',y'] sg.pos,?_,fun h=>absurd h (by show ¬ 6<=B4 k;omega),?_⟩
     ·rw [Ex.plain,Ex.plain,Ex.plains,Ex.plains,Ex.plains,Ex.plains,Ex.plains,Ex.plains,e1,f1]
     ·intro n' q1 q2 q3 q4 q5 r hr;have q3:n'<=B4 k:=q3;have key:∀ r',Lop L E (B4 k) (.mk k 0 [] [x',y'] sg.pos) (adv s (E3 (x.kind,exT x) (if B4 k=3 then 4 else B4 k)++[sg]++E3 (y.kind,exT y) (B4 k+1)).length (o1+o2)) r'->(B4 k=3->lvo E post≠3)->Bin L E (B4 k) s r':=by
       intro r' hr' h33;refine e2 r' ?_;by_cases h3:B4 k=3
       ·have hst:=W5 (L:=L) (E:=E) (n:=B4 k) (e:=.mk k 0 [] [x',y'] sg.pos) (s:=adv s (E3 (x.kind,exT x) (if B4 k=3 then 4 else B4 k)++[sg]++E3 (y.kind,exT y) (B4 k+1)).length (o1+o2)) (A2e hok) hlr.1 (by show lvo E (L.drop (s.i+_))≠B4 k;rw [hdr,h3];exact h33 h3);have:=Evt.uniq hr' hst;rw [this];have ht:=Lop.three (L:=L) (E:=E) (n:=B4 k) (e:=x') (x:=y') (s:=adv s (E3 (x.kind,exT x) (if B4 k=3 then 4 else B4 k)).length o1) (by rw [ham];omega) (by rw [ham, <- hj]) h3 f2;rw [ham, <- hj,hpk] at ht;exact ht
       ·refine Lop.more (by rw [ham];omega) (by rw [ham, <- hj]) h3 f2 ?_;rw [ham, <- hj,hpk];exact hr'
      by_cases hnq:n'=B4 k
      ·subst hnq;exact key r hr q5
      ·refine A9d (A2e hok) 6 (m:=B4 k) (by omega) (key _ (W5 (A2e hok) hlr.1 ?_) (by omega)) q1 (by omega) (by omega) ?_ hr
       ·show lvo E (L.drop (s.i+_))≠B4 k;rw [hdr];omega
       ·show lvo E (L.drop (s.i+_))<=n';rw [hdr];exact q4
    ·refine ⟨.mk k 0 [] [x,y] p,rfl,fun h=>absurd h (by show ¬ 6<=B4 k;omega),?_⟩;intro n' q1 q2 q3 q4 q5 r hr;have q3:n'<=B4 k:=q3;omega
theorem K4 {e:Ex} (hv:X5 e=true) {s:Rd} {post:List Tok} (h:L.drop s.i=exT e++post) (hok:okR s=true) (hl:lvo E post=0) :
  ∃ e' s',e'.plain=e.plain/\Xpn L E s (e',s')/\s'.i=s.i+(exT e).length/\okR s'=true:=by
 unfold X5 at hv;cases hms:msM e with
 | none=>rw [hms] at hv;cases hv
 | some q =>
  obtain ⟨o,d⟩:=q;rw [hms] at hv;simp only [A0G,A0L] at hv;obtain ⟨e',e1, -,e3⟩:=B4o (L:=L) (E:=E) (e.sz+1) e (by omega) o d hms { s with ops:=0,par:=0 } post h hok (by show (0:Int)+(o:Int)<=32;omega) (by show (0:Int)+(d:Int)<=16;omega);refine ⟨e',adv { s with ops:=0,par:=0 } (exT e).length o,e1,?_,rfl,hok⟩;refine e3 1 (by decide) (by decide) (V8 _).1 (by omega) (fun h=>absurd h (by decide)) _ (W5 (show okR s=true from hok) (by decide) ?_);show lvo E (L.drop (s.i+_))≠1;rw [G4 h];omega
end
end Go.Pb
namespace Go.Pb
variable [Go.Sym.Tab]
open Go.Sym
section
variable {L:List Tok} {E:Int}
theorem Q8 {s:Rd} {w:List UInt8} {ts:List Tok} (h:L.drop s.i=A5 w :: ts) (hok:okR s=true) (hs:P5 (A5 w)=true):D1 L E s w=A7 s :=
 D2c hok (by rw [C7 h];exact hs) (by rw [C7 h];rfl)
theorem A3i {s:Rd} {n:List UInt8} {ts:List Tok} (h:L.drop s.i=D4 n++ts) (hok:okR s=true) (hn:D8 n=true):B2 L E s 1=(⟨1,n,0,0⟩,A7 s):=by
 have h0:L.drop s.i=⟨1,n,0,0⟩ :: ts:=by rw [h];unfold D4;rw [if_neg (by rw [hn];decide)];rfl
 rw [B1h hok (by rw [C7 h0]),C7 h0]
theorem B1f {s:Rd} {v:Int} {ts:List Tok} (h:L.drop s.i=T7 v++ts) (hok:okR s=true) (h0:0<=v) (h1:v<=2147483647):B2 L E s 3=(⟨3,[],v,0⟩,A7 s):=by
 have h2:L.drop s.i=⟨3,[],v,0⟩ :: ts:=by rw [h];unfold T7;rw [if_neg (by omega)];rfl
 rw [B1h hok (by rw [C7 h2]),C7 h2]
theorem C7z {s:Rd} {t:List UInt8} {ts:List Tok} (h:L.drop s.i=A1a t++ts) (hok:okR s=true) (ht:U0 t=true):B2 L E s 4=(⟨4,t,0,0⟩,A7 s):=by
 unfold U0 at ht;simp only [A0G,A0L] at ht;have h0:L.drop s.i=⟨4,t,0,0⟩ :: ts:=by rw [h];unfold A1a;rw [if_neg (by rw [ht.1];simp;omega)];rfl
 rw [B1h hok (by rw [C7 h0]),C7 h0]
theorem X1 {s:Rd} {a ts:List Tok} (h:L.drop s.i=a++ts) (ha:a.length=1):L.drop (s.i+1)=ts:=by
 rw [<- ha];exact G4 h
def D0o (E:Int) (ts:List Tok):Bool:=P5 (hd0 E ts) && (hd0 E ts).text == [101,108,115,101]
theorem B5s:∀ j:Nat,j<18->amT (A5 (C0.getD j [])) C0=(j:Int)/\P5 (A5 (C0.getD j []))=true/\(A5 (C0.getD j [])).text≠[125]/\(A5 (C0.getD j [])).text≠[101,108,115,101]:=by decide +kernel
theorem w61:P5 (A5 [61])=true:=by decide +kernel
theorem w59:P5 (A5 [59])=true/\P3 (A5 [59])=0:=by decide +kernel
theorem w44:P5 (A5 [44])=true/\P3 (A5 [44])=0:=by decide +kernel
theorem w123:P5 (A5 [123])=true/\P3 (A5 [123])=0/\(A5 [123]).text≠[105,102]:=by decide +kernel
theorem w125:P5 (A5 [125])=true/\(A5 [125]).text≠[101,108,115,101]:=by decide +kernel
theorem D2t:P5 (A5 [101,108,115,101])=true:=by decide +kernel
def HdS (t:Tok):Prop:=t.kind=1\/∃ j,j<18/\t=A5 (C0.getD j [])
theorem HdS.facts {t:Tok} (h:HdS t):(P5 t && t.text == [125])=false/\(P5 t && t.text == [101,108,115,101])=false/\(0<=amT t C0\/t.kind=1):=by
 rcases h with h|⟨j,hj,rfl⟩
 ·have:P5 t=false:=by unfold P5;rw [h];rfl
  exact ⟨by rw [this];rfl,by rw [this];rfl,.inr h⟩
 ·obtain ⟨h1,h2,h3,h4⟩:=B5s j hj;refine ⟨?_,?_,.inl (by omega)⟩
  ·rw [h2,A1N];simpa using h3
  ·rw [h2,A1N];simpa using h4
theorem C1q {d:Nat} {k p:Int} {n t:List UInt8} {a:List Ex} {x y:List St} (h:R6 d (.mk k n t a x y p)=true) :
  (1<=k/\k<=19)/\(a.length=(M2 k).args/\a.all X5=true)/\((if (M2 k).name=true then D8 n else n == [])=true/\(if (M2 k).text=true then U0 t else t == [])=true) /\
   (((M2 k).thn=true\/x=[])/\((M2 k).els=true\/y=[]))/\N8 x (d+1)=true/\N8 y (d+1)=true:=by
 unfold R6 at h;simp only [A0G,A0L,A1K,A0Z,A4B] at h;obtain ⟨⟨⟨⟨⟨h1,h2⟩,h3,h4⟩,h5,h6⟩,h7,h8⟩,h9,h10⟩:=h;refine ⟨⟨h1,h2⟩,⟨h3,h4⟩,⟨h5,h6⟩,⟨h7,h8⟩,?_,?_⟩
 ·unfold N8;simp only [A0G,A0L,A0Z,A4B];exact h9
 ·unfold N8;simp only [A0G,A0L,A0Z,A4B];exact h10
theorem B7u {d:Nat} {x:St} (h:R6 d x=true):∃ t ts,stT x=t :: ts/\HdS t:=by
 cases x with|mk k n t a x y p =>
 obtain ⟨⟨k1,k2⟩, -,⟨hn, -⟩, -⟩:=C1q h;unfold stT;by_cases h1:k=1
 ·subst h1;rw [if_pos rfl];have hn:D8 n=true:=hn;refine ⟨⟨1,n,0,0⟩,[A5 [61]]++agT a 0++[A5 [59]],?_,.inl rfl⟩;unfold D4;rw [if_neg (by rw [hn];decide)];simp
 rw [if_neg h1,if_neg (by omega)];dsimp only;have hw:HdS (A5 (C0.getD (k-2).toNat [])):=.inr ⟨(k-2).toNat,by omega,rfl⟩;generalize A5 (C0.getD (k-2).toNat [])=w at hw;by_cases h23:k=2\/k=3
 ·rw [if_pos h23]
  match y with
  | []=>exact ⟨w,_,rfl,hw⟩
  | [q] =>
   dsimp only;split
   ·exact ⟨w,_,rfl,hw⟩
   ·exact ⟨w,_,rfl,hw⟩
  | q :: q2 :: l=>exact ⟨w,_,rfl,hw⟩
 rw [if_neg h23];repeat' split
 all_goals exact ⟨w,_,rfl,hw⟩
def CSt (L:List Tok) (E:Int) (x:St):Prop:=∀ (d:Nat) (s:Rd) (post:List Tok),R6 d x=true->d<=8->L.drop s.i=stT x++post->okR s=true->D0o E post=false ->
 ∃ x' s',x'.plain=x.plain/\L3 L E d s (x',s')/\s'.i=s.i+(stT x).length/\okR s'=true
theorem A3d:∀ (l:List St),(∀ x∈l,CSt L E x)->∀ (acc:List St) (d:Nat) (s:Rd) (post:List Tok),G7 d l=true->acc.length+l.length<=64->(l=[]\/d<=8)->L.drop s.i=O8 l++([A5 [125]]++post)->okR s=true ->
  ∃ l' s',St.plains l'=St.plains l/\V7 L E d acc s (acc++l',s')/\s'.i=s.i+(O8 l).length+1/\okR s'=true
 | [],_,acc,d,s,post,hv,hl,hd,h,hok=>by
  have h0:L.drop s.i=A5 [125] :: post:=by rw [h];rfl
  have hi:isR L E s [125]=true:=by rw [A2y hok,C7 h0,w125.1];rfl
  have hb:=V7.stop (L:=L) (E:=E) (d:=d) (l:=acc) (s:=s) (by rw [hi];simp);rw [Q8 h0 hok w125.1] at hb;exact ⟨[],A7 s,rfl,by rw [A1E];exact hb,rfl,hok⟩
 | x :: l,hx,acc,d,s,post,hv,hl,hd,h,hok=>by
  rw [G7,A0G] at hv;have hd8:d<=8:=hd.resolve_left (by simp);obtain ⟨t,ts,e1,e2⟩:=B7u hv.1;obtain ⟨f1,f2,f3⟩:=e2.facts;have h0:L.drop s.i=stT x++(O8 l++([A5 [125]]++post)):=by rw [h,O8,A0S]
  have hp:B5 L E s=t:=C7 (ts:=ts++(O8 l++([A5 [125]]++post))) (by rw [h0,e1];rfl);have hels:D0o E (O8 l++([A5 [125]]++post))=false:=by
   unfold D0o;cases l with
   | nil =>
    show (P5 (A5 [125]) && (A5 [125]).text == [101,108,115,101])=false;rw [w125.1,A1N];simpa using w125.2
   | cons y l =>
    have hv2:=hv.2;rw [G7,A0G] at hv2;obtain ⟨u,us,g1,g2⟩:=B7u hv2.1;rw [O8,g1];exact g2.facts.2.1
  obtain ⟨x',s1,p1,p2,p3,p4⟩:=hx x A0N d s _ hv.1 hd8 h0 hok hels;have hdr:L.drop s1.i=O8 l++([A5 [125]]++post):=by rw [p3];exact G4 h0
  obtain ⟨l',s',q1,q2,q3,q4⟩:=A3d l (fun y hy=>hx y (A0M _ hy)) (acc++[x']) d s1 post hv.2 (by simp only [A0A,A0E,A0F] at hl ⊢;omega) (.inr hd8) hdr p4;refine ⟨x' :: l',s',by rw [St.plains,St.plains,p1,q1],?_,by rw [q3,p3,O8,A0A];omega,q4⟩;refine V7.more (s1:=s1) (x:=x') ⟨hok,by rw [A2y hok,hp];exact f1⟩ ?_ ?_ (by rw [A0S] at q2;exact q2)
  ·rintro ⟨g1,g2⟩;rw [U3 hok,hp] at g1;rw [B0l hok,hp] at g2;rcases f3 with f3|f3
   ·omega
   ·rw [f3] at g2;simp at g2
  ·rw [A3t (by simp only [A0E] at hl;omega)];exact p2
theorem R2 {l:List St} (hx:∀ x∈l,CSt L E x) {d:Nat} {s:Rd} {post:List Tok} (hv:N8 l d=true) (h:L.drop s.i=blT l++post) (hok:okR s=true) :
  ∃ l' s',St.plains l'=St.plains l/\A5d L E d s (l',s')/\s'.i=s.i+(blT l).length/\okR s'=true:=by
 unfold N8 at hv;simp only [A0G,A0L,A0Z,A4B] at hv;have h0:L.drop s.i=A5 [123] :: (O8 l++([A5 [125]]++post)):=by rw [h];unfold blT;simp
 have he:=Q8 (E:=E) h0 hok w123.1;obtain ⟨l',s',q1,q2,q3,q4⟩:=A3d l hx [] d (A7 s) post hv.2 (by simp only [A0F];omega) hv.1.2 (E8 h0) hok;refine ⟨l',s',q1,A5d.mk (by rw [he];exact q2),?_,q4⟩;rw [q3];unfold blT;simp only [A0A,A0I];show s.i+1+_+1=_;omega
theorem A5a {a:List Ex} (h:a.length=1) (hv:a.all X5=true):∃ e,a=[e]/\X5 e=true:=by
 obtain ⟨e,rfl⟩:=List.length_eq_one_iff.1 h;exact ⟨e,rfl,by simpa using hv⟩
theorem ag0 (e:Ex) (l:List Ex):agT (e :: l) 0=exT e:=rfl
theorem ag1 (e e2:Ex) (l:List Ex):agT (e :: e2 :: l) 1=exT e2:=rfl
theorem C0c {k:Int} (h1:k≠1) (h2:k≠2) (h3:k≠3) (h4:k≠4) (h8:k≠8) (h9:k≠9) (h10:k≠10) (h18:k≠18) (h19:k≠19):M2 k=⟨true,false,0,false,false⟩:=by
 unfold M2;rw [if_neg (by omega),if_neg h9,if_neg h2,if_neg h3,if_neg h4,if_neg h18,if_neg h19]
def B8c:List St->List Tok
 | []=>[]
 | [q]=>if q.kind=2 then [A5 [101,108,115,101]]++stT q else [A5 [101,108,115,101]]++blT [q]
 | q :: q2 :: r=>[A5 [101,108,115,101]]++blT (q :: q2 :: r)
theorem B3h:∀ (m:Nat) (x:St),x.sz<m->CSt L E x:=by
 intro m
 induction m with
 | zero=>intro x h;omega
 | succ m ih =>
 intro x hm d s post hv hd h hok hels;cases x with|mk k n t a x y p =>
 obtain ⟨⟨k1,k2⟩,⟨ha,hav⟩,⟨hn,ht⟩,⟨hx,hy⟩,hbx,hby⟩:=C1q hv;have hcx:∀ q∈x,CSt L E q:=fun q hq=>ih q (by rw [St.sz] at hm;have:=St.szs_mem hq;omega);have hcy:∀ q∈y,CSt L E q:=fun q hq=>ih q (by rw [St.sz] at hm;have:=St.szs_mem hq;omega);have hlim:okR (C4 L E s (d:Int) 8 50)=true:=by rw [A3t (by omega)];exact hok
 have hcast:((d+1:Nat):Int)=(d:Int)+1:=by omega
 by_cases hk1:k=1
 ·
  subst hk1;have hn:D8 n=true:=hn;have ht:t=[]:=by have h':(t == [])=true:=ht;simpa using h'
  have hx:x=[]:=hx.resolve_left (by decide);have hy:y=[]:=hy.resolve_left (by decide);subst ht hx hy;obtain ⟨e,rfl,he⟩:=A5a ha hav;have hT:stT (.mk 1 n [] [e] [] [] p)=D4 n++[A5 [61]]++exT e++[A5 [59]]:=by unfold stT;rw [if_pos rfl,ag0]
  rw [hT] at h ⊢;have h0:L.drop s.i=D4 n++(A5 [61] :: (exT e++(A5 [59] :: post))):=by rw [h];simp
  have h1:=X1 h0 (A4 n);have hpk:B5 L E s=⟨1,n,0,0⟩:=C7 (ts:=A5 [61] :: (exT e++(A5 [59] :: post))) (by rw [h0];unfold D4;rw [if_neg (by rw [hn];decide)];rfl);have htk:=A3i (E:=E) h0 hok hn;have h2:=E8 (s:=A7 s) h1;have he1:=Q8 (E:=E) (s:=A7 s) h1 hok w61;obtain ⟨e',s1,p1,p2,p3,p4⟩:=K4 (L:=L) (E:=E) he (s:=A7 (A7 s)) h2 hok (by show P3 (A5 [59])=0;exact w59.2);have h3:L.drop s1.i=A5 [59] :: post:=by rw [p3];exact G4 h2
  have hst:=L3.set (L:=L) (E:=E) (d:=d) (s:=s) (s1:=s1) (e:=e') hlim (by rw [U3 hok,hpk];exact (by decide:(-1:Int)<0)) (by rw [htk,he1];exact p2);rw [htk,Q8 h3 p4 w59.1] at hst;refine ⟨_,_,?_,hst,?_,p4⟩
  ·rw [St.plain,St.plain,Ex.plains,Ex.plains,Ex.plains,Ex.plains,p1]
  ·show s1.i+1=_;rw [p3];simp only [A0A,A0I,A4];show s.i+1+1+_+1=_;omega
 obtain ⟨j,hj⟩:∃ j:Nat,k=2+(j:Int):=⟨(k-2).toNat,by omega⟩;have hj18:j<18:=by omega
 have hjn:(k-2).toNat=j:=by omega
 obtain ⟨a1,a2, -, -⟩:=B5s j hj18;by_cases h23:k=2\/k=3
 ·
  have hsh:(M2 k).args=1/\(M2 k).name=false/\(M2 k).text=false/\(k=3->(M2 k).els=false):=by
   rcases h23 with rfl|rfl
   ·exact ⟨rfl,rfl,rfl,fun h=>absurd h (by decide)⟩
   ·exact ⟨rfl,rfl,rfl,fun _=>rfl⟩
  rw [hsh.1] at ha;rw [hsh.2.1] at hn;rw [hsh.2.2.1] at ht;have hn:n=[]:=by have h':(n == [])=true:=hn;simpa using h'
  have ht:t=[]:=by have h':(t == [])=true:=ht;simpa using h'
  subst hn ht;have hy3:k=3->y=[]:=fun h=>hy.resolve_left (by rw [hsh.2.2.2 h];decide);obtain ⟨e,rfl,he⟩:=A5a ha hav;obtain ⟨rest,hrest,hT⟩:∃ rest,rest=B8c y/\stT (.mk k [] [] [e] x y p)=[A5 (C0.getD j [])]++exT e++blT x++rest:=by
   refine ⟨_,rfl,?_⟩;clear hy hy3 hv hm h hby hcy;rw [stT,if_neg hk1,if_neg (by omega)];dsimp only;rw [if_pos h23,hjn,ag0]
   match y with
   | []=>simp [blT,B8c]
   | [q] =>
    unfold B8c;dsimp only;split
    ·simp [blT]
    ·simp [blT,O8]
   | q :: q2 :: r=>simp [blT,B8c]
  rw [hT] at h ⊢;generalize A5 (C0.getD j [])=w at a1 a2 h hT ⊢;have h0:L.drop s.i=w :: (exT e++(blT x++(rest++post))):=by rw [h];simp
  have hpk:=C7 (E:=E) h0;have ham:C1 L E s C0=(j:Int):=by rw [U3 hok,hpk];exact a1
  have h1:=E8 h0;obtain ⟨e',s2,p1,p2,p3,p4⟩:=K4 (L:=L) (E:=E) he (s:=A7 s) h1 hok (by unfold blT;show P3 (A5 [123])=0;exact w123.2.1);have h2:L.drop s2.i=blT x++(rest++post):=by rw [p3];exact G4 h1
  obtain ⟨t',s3,b1,b2,b3,b4⟩:=R2 hcx hbx h2 p4;rw [hcast] at b2;have h3:L.drop s3.i=rest++post:=by rw [b3];exact G4 h2
  have hi3:s3.i=s.i+1+(exT e).length+(blT x).length:=by rw [b3,p3];rfl
  have blkCase:¬ (C1 L E s C0=0/\isR L E s3 [101,108,115,101]=true)->y=[]->rest=[]->∃ x' s',x'.plain=(St.mk k [] [] [e] x y p).plain/\L3 L E d s (x',s')/\s'.i=s.i+([w]++exT e++blT x++rest).length/\okR s'=true:=by
   intro hc hy0 hr0;subst hy0 hr0;have hst:=L3.blk (L:=L) (E:=E) (d:=d) (s:=s) hlim (by rw [ham];omega) p2 b2 hc;refine ⟨_,_,?_,hst,?_,b4⟩
   ·rw [ham, <- hj,St.plain,St.plain,Ex.plains,Ex.plains,Ex.plains,Ex.plains,p1,b1]
   ·rw [hi3];simp only [A0A,A0I,A0F];omega
  by_cases hk3:k=3
  ·have hy0:=hy3 hk3;subst hy0;exact blkCase (by rw [ham];omega) rfl hrest
  ·have hk2:k=2:=by omega
   have hj0:j=0:=by omega
   have hd1:y≠[]->d+1<=8:=fun hne=>by
    unfold N8 at hby;simp only [A0G,A0L,A0Z,A4B] at hby;exact hby.1.2.resolve_left hne
   have elsCase:∀ (o':List St) (s4:Rd),St.plains o'=St.plains y->A5c L E d (A7 s3) (o',s4)->isR L E s3 [101,108,115,101]=true->s4.i=s3.i+rest.length->okR s4=true->∃ x' s',x'.plain=(St.mk k [] [] [e] x y p).plain/\L3 L E d s (x',s')/\s'.i=s.i+([w]++exT e++blT x++rest).length/\okR s'=true:=by
    intro o' s4 c1 c2 c3 c4 c5;have hst:=L3.els (L:=L) (E:=E) (d:=d) (s:=s) hlim (by rw [ham,hj0];rfl) p2 b2 c3 c2;refine ⟨_,_,?_,hst,?_,c5⟩
    ·rw [hk2,St.plain,St.plain,Ex.plains,Ex.plains,Ex.plains,Ex.plains,p1,b1,c1]
    ·rw [c4,hi3];simp only [A0A,A0I];omega
   clear hy hy3 hv hm hT h h0
   match y,hcy,hby,hd1,hrest,blkCase,elsCase with
   | [],_,_,_,hrest,blkCase,_ =>
    refine blkCase ?_ rfl hrest;rintro ⟨-,g⟩;rw [hrest] at h3;rw [A2y b4,A7e,h3] at g;have g:D0o E post=true:=g;rw [hels] at g;cases g
   | [q],hcy,hby,hd1,hrest,_,elsCase =>
    have hrest:rest=if q.kind=2 then [A5 [101,108,115,101]]++stT q else [A5 [101,108,115,101]]++blT [q]:=hrest
    have hd1:=hd1 (by simp);by_cases hq2:q.kind=2
    ·rw [if_pos hq2] at hrest;subst hrest;have h4:L.drop s3.i=A5 [101,108,115,101] :: (stT q++post):=by rw [h3];simp
     have hi:isR L E s3 [101,108,115,101]=true:=by rw [A2y b4,C7 h4,D2t];rfl
     have hvq:R6 (d+1) q=true:=by
      unfold N8 at hby;simp only [A0G] at hby;have:=hby.2;rw [G7,A0G] at this;exact this.1
     obtain ⟨q',s4,c1,c2,c3,c4⟩:=hcy q A0N (d+1) (A7 s3) post hvq hd1 (E8 h4) b4 hels;rw [hcast] at c2;have hif:isR L E (A7 s3) [105,102]=true:=by
      have h5:=E8 h4;have:∃ ts,stT q=A5 (C0.getD 0 []) :: ts:=by
       cases q with|mk kq nq tq aq xq yq pq =>
       have hq2:kq=2:=hq2;subst hq2;unfold stT;rw [if_neg (by decide),if_neg (by decide)];dsimp only;rw [if_pos (.inl rfl)]
       match yq with
       | []=>exact ⟨_,rfl⟩
       | [q3] =>
        dsimp only;split
        ·exact ⟨_,rfl⟩
        ·exact ⟨_,rfl⟩
       | _ :: _ :: _=>exact ⟨_,rfl⟩
      obtain ⟨ts,hts⟩:=this;rw [A2y (show okR (A7 s3)=true from b4),C7 (s:=A7 s3) (t:=A5 (C0.getD 0 [])) (ts:=ts++post) (by show L.drop (s3.i+1)=_;rw [h5,hts];rfl),(B5s 0 (by decide)).2.1];rfl
     refine elsCase [q'] s4 (by rw [St.plains,St.plains,St.plains,St.plains,c1]) (A5c.iff hif c2) hi ?_ c4;rw [c3];simp only [A0A,A0I];show s3.i+1+_=_;omega
    ·rw [if_neg hq2] at hrest;subst hrest;have h4:L.drop s3.i=A5 [101,108,115,101] :: (blT [q]++post):=by rw [h3];simp
     have hi:isR L E s3 [101,108,115,101]=true:=by rw [A2y b4,C7 h4,D2t];rfl
     obtain ⟨o',s4,c1,c2,c3,c4⟩:=R2 hcy hby (s:=A7 s3) (E8 h4) b4;rw [hcast] at c2;have hif:isR L E (A7 s3) [105,102]=false:=by
      rw [A2y (show okR (A7 s3)=true from b4),C7 (s:=A7 s3) (t:=A5 [123]) (ts:=O8 [q]++[A5 [125]]++post) (by show L.drop (s3.i+1)=_;rw [E8 h4];unfold blT;simp),w123.1,A1N];simpa using w123.2.2
     refine elsCase o' s4 c1 (A5c.blk hif c2) hi ?_ c4;rw [c3];simp only [A0A,A0I];show s3.i+1+_=_;omega
   | q :: q2 :: r,hcy,hby,hd1,hrest,_,elsCase =>
    have hrest:rest=[A5 [101,108,115,101]]++blT (q :: q2 :: r):=hrest;subst hrest;have h4:L.drop s3.i=A5 [101,108,115,101] :: (blT (q :: q2 :: r)++post):=by rw [h3];simp
    have hi:isR L E s3 [101,108,115,101]=true:=by rw [A2y b4,C7 h4,D2t];rfl
    obtain ⟨o',s4,c1,c2,c3,c4⟩:=R2 hcy hby (s:=A7 s3) (E8 h4) b4;rw [hcast] at c2;have hif:isR L E (A7 s3) [105,102]=false:=by
     rw [A2y (show okR (A7 s3)=true from b4),C7 (s:=A7 s3) (t:=A5 [123]) (ts:=O8 (q :: q2 :: r)++[A5 [125]]++post) (by show L.drop (s3.i+1)=_;rw [E8 h4];unfold blT;simp),w123.1,A1N];simpa using w123.2.2
    refine elsCase o' s4 c1 (A5c.blk hif c2) hi ?_ c4;rw [c3];simp only [A0A,A0I];show s3.i+1+_=_;omega
 have hshx:(M2 k).thn=false/\(M2 k).els=false:=by
  unfold M2;repeat' split
  all_goals first|exact ⟨rfl,rfl⟩|omega
 have hx:x=[]:=hx.resolve_left (by rw [hshx.1];decide);have hy:y=[]:=hy.resolve_left (by rw [hshx.2];decide);subst hx hy;have tailGo:∀ (toks:List Tok) (n' t':List UInt8) (a':List Ex) (s':Rd),stT (.mk k n t a [] [] p)=[A5 (C0.getD j [])]++toks->n'=n->t'=t->Ex.plains a'=Ex.plains a->s'.i=s.i+1+toks.length->okR s'=true ->
   (L.drop (s.i+1)=toks++post->Evt (fun f=>I9 L E f k (B5 L E s).pos (A7 s)) (.mk k n' t' a' [] [] (B5 L E s).pos,s'))->∃ x' s',x'.plain=(St.mk k n t a [] [] p).plain/\L3 L E d s (x',s')/\s'.i=s.i+(stT (.mk k n t a [] [] p)).length/\okR s'=true:=by
  intro toks n' t' a' s' c1 c2 c3 c4 c5 c6 c7;subst c2 c3;rw [c1] at h ⊢;have h0:L.drop s.i=A5 (C0.getD j []) :: (toks++post):=by rw [h];simp
  have hpk:=C7 (E:=E) h0;have ham:C1 L E s C0=(j:Int):=by rw [U3 hok,hpk];exact a1
  have hst:=L3.tail (L:=L) (E:=E) (d:=d) (s:=s) hlim (by rw [ham];omega) (by rw [ham, <- hj];exact c7 (E8 h0));refine ⟨_,_,?_,hst,?_,c6⟩
  ·rw [St.plain,St.plain,c4]
  ·rw [c5];simp only [A0A,A0I];omega
 have hT:stT (.mk k n t a [] [] p)=[A5 (C0.getD j [])]++(if k=4 then agT a 0++[A5 [59]] else if k=18 then A1a t++[A5 [44]]++agT a 0++[A5 [59]] else if k=8\/k=10 then D4 n++agT a 0++[A5 [59]] else if k=9 then D4 n++agT a 0++[A5 [44]]++agT a 1++[A5 [59]] else if k=19 then [A5 [59]] else D4 n++[A5 [59]]):=by
  unfold stT;rw [if_neg hk1,if_neg (by omega)];dsimp only;rw [if_neg h23,hjn];repeat' split
  all_goals simp
 by_cases h4:k=4
 ·subst h4;have hn:n=[]:=by have h':(n == [])=true:=hn;simpa using h'
  have ht:t=[]:=by have h':(t == [])=true:=ht;simpa using h'
  subst hn ht;obtain ⟨e,rfl,he⟩:=A5a ha hav;rw [if_pos rfl,ag0] at hT;have h0:L.drop (s.i+1)=exT e++(A5 [59] :: post):=by
   rw [hT] at h;have:L.drop s.i=A5 (C0.getD j []) :: (exT e++(A5 [59] :: post)):=by rw [h];simp
   exact E8 this
  obtain ⟨e',s1,p1,p2,p3,p4⟩:=K4 (L:=L) (E:=E) he (s:=A7 s) h0 hok (by show P3 (A5 [59])=0;exact w59.2);have h3:L.drop s1.i=A5 [59] :: post:=by rw [p3];exact G4 h0
  refine tailGo _ [] [] [e'] (A7 s1) hT rfl rfl (by rw [Ex.plains,Ex.plains,Ex.plains,Ex.plains,p1]) (by show s1.i+1=_;rw [p3];simp only [A0A,A0I];show s.i+1+_+1=_;omega) p4 (fun _=>p2.map fun f hf=>?_);unfold I9;rw [if_pos rfl,hf];dsimp only;rw [Q8 h3 p4 w59.1]
 rw [if_neg h4] at hT;by_cases h18:k=18
 ·subst h18;have hn:n=[]:=by have h':(n == [])=true:=hn;simpa using h'
  have ht:U0 t=true:=ht;subst hn;obtain ⟨e,rfl,he⟩:=A5a ha hav;rw [if_pos rfl,ag0] at hT;have h0:L.drop (s.i+1)=A1a t++(A5 [44] :: (exT e++(A5 [59] :: post))):=by
   rw [hT] at h;have:L.drop s.i=A5 (C0.getD j []) :: (A1a t++(A5 [44] :: (exT e++(A5 [59] :: post)))):=by rw [h];simp
   exact E8 this
  have htk:=C7z (E:=E) (s:=A7 s) h0 hok ht;have h1:=X1 (s:=A7 s) h0 (A8 t);have he1:=Q8 (E:=E) (s:=A7 (A7 s)) h1 hok w44.1;have h2:=E8 (s:=A7 (A7 s)) h1;obtain ⟨e',s1,p1,p2,p3,p4⟩:=K4 (L:=L) (E:=E) he (s:=A7 (A7 (A7 s))) h2 hok (by show P3 (A5 [59])=0;exact w59.2);have h3:L.drop s1.i=A5 [59] :: post:=by rw [p3];exact G4 h2
  refine tailGo _ [] t [e'] (A7 s1) hT rfl rfl (by rw [Ex.plains,Ex.plains,Ex.plains,Ex.plains,p1]) (by show s1.i+1=_;rw [p3];simp only [A0A,A0I,A8];show s.i+1+1+1+_+1=_;omega) p4 (fun _=>p2.map fun f hf=>?_);unfold I9;rw [if_neg (by decide),if_pos rfl,htk,he1,hf];dsimp only;rw [Q8 h3 p4 w59.1]
 rw [if_neg h18] at hT;by_cases h8:k=8\/k=10
 ·have hsh:M2 k=⟨true,false,1,false,false⟩:=by rcases h8 with rfl|rfl<;>rfl
  rw [hsh] at ha hn ht;have hn:D8 n=true:=hn;have ht:t=[]:=by have h':(t == [])=true:=ht;simpa using h'
  subst ht;obtain ⟨e,rfl,he⟩:=A5a ha hav;rw [if_pos h8,ag0] at hT;have h0:L.drop (s.i+1)=D4 n++(exT e++(A5 [59] :: post)):=by
   rw [hT] at h;have:L.drop s.i=A5 (C0.getD j []) :: (D4 n++(exT e++(A5 [59] :: post))):=by rw [h];simp
   exact E8 this
  have htk:=A3i (E:=E) (s:=A7 s) h0 hok hn;have h1:=X1 (s:=A7 s) h0 (A4 n);obtain ⟨e',s1,p1,p2,p3,p4⟩:=K4 (L:=L) (E:=E) he (s:=A7 (A7 s)) h1 hok (by show P3 (A5 [59])=0;exact w59.2);have h3:L.drop s1.i=A5 [59] :: post:=by rw [p3];exact G4 h1
  refine tailGo _ n [] [e'] (A7 s1) hT rfl rfl (by rw [Ex.plains,Ex.plains,Ex.plains,Ex.plains,p1]) (by show s1.i+1=_;rw [p3];simp only [A0A,A0I,A4];show s.i+1+1+_+1=_;omega) p4 (fun _=>p2.map fun f hf=>?_);unfold I9;rw [if_neg h4,if_neg h18,if_neg (by omega)];dsimp only;rw [if_pos (by omega),htk];dsimp only;rw [hf];dsimp only;rw [if_neg (by omega),Q8 h3 p4 w59.1]
 rw [if_neg h8] at hT;by_cases h9:k=9
 ·subst h9;have hn:D8 n=true:=hn;have ht:t=[]:=by have h':(t == [])=true:=ht;simpa using h'
  subst ht;obtain ⟨e,e2,rfl⟩:=B8x ha;simp only [A2M,A4L,A2G,A0G] at hav;rw [if_pos rfl,ag0,ag1] at hT;have h0:L.drop (s.i+1)=D4 n++(exT e++(A5 [44] :: (exT e2++(A5 [59] :: post)))):=by
   rw [hT] at h;have:L.drop s.i=A5 (C0.getD j []) :: (D4 n++(exT e++(A5 [44] :: (exT e2++(A5 [59] :: post))))):=by rw [h];simp
   exact E8 this
  have htk:=A3i (E:=E) (s:=A7 s) h0 hok hn;have h1:=X1 (s:=A7 s) h0 (A4 n);obtain ⟨e',s1,p1,p2,p3,p4⟩:=K4 (L:=L) (E:=E) hav.1 (s:=A7 (A7 s)) h1 hok (by show P3 (A5 [44])=0;exact w44.2);have h3:L.drop s1.i=A5 [44] :: (exT e2++(A5 [59] :: post)):=by rw [p3];exact G4 h1
  have hx1:=Q8 (E:=E) h3 p4 w44.1;obtain ⟨e2',s2,r1,r2,r3,r4⟩:=K4 (L:=L) (E:=E) hav.2 (s:=A7 s1) (E8 h3) p4 (by show P3 (A5 [59])=0;exact w59.2);have h5:L.drop s2.i=A5 [59] :: post:=by rw [r3];exact G4 (E8 h3)
  refine tailGo _ n [] [e',e2'] (A7 s2) hT rfl rfl (by rw [Ex.plains,Ex.plains,Ex.plains,Ex.plains,Ex.plains,Ex.plains,p1,r1]) (by show s2.i+1=_;rw [r3];show s1.i+1+_+1=_;rw [p3];simp only [A0A,A0I,A4];show s.i+1+1+_+1+_+1=_;omega) r4 (fun _=>p2.map2 r2 fun f hf hf2=>?_);unfold I9;rw [if_neg h4,if_neg h18,if_neg (by decide)];dsimp only;rw [if_pos (by decide),htk];dsimp only;rw [hf];dsimp only;rw [if_pos rfl,hx1,hf2];dsimp only;rw [Q8 h5 r4 w59.1]
 rw [if_neg h9] at hT;by_cases h19:k=19
 ·subst h19;have hn:n=[]:=by have h':(n == [])=true:=hn;simpa using h'
  have ht:t=[]:=by have h':(t == [])=true:=ht;simpa using h'
  have ha:a=[]:=A1V ha;subst hn ht ha;rw [if_pos rfl] at hT;have h0:L.drop (s.i+1)=A5 [59] :: post:=by
   rw [hT] at h;have:L.drop s.i=A5 (C0.getD j []) :: (A5 [59] :: post):=by rw [h];simp
   exact E8 this
  refine tailGo _ [] [] [] (A7 (A7 s)) hT rfl rfl rfl rfl hok (fun _=>Evt.one fun f=>?_);unfold I9;rw [if_neg (by decide),if_neg (by decide),if_pos rfl,Q8 (s:=A7 s) h0 hok w59.1]
 rw [if_neg h19] at hT;have hsh:=C0c hk1 (fun h=>h23 (.inl h)) (fun h=>h23 (.inr h)) h4 (fun h=>h8 (.inl h)) h9 (fun h=>h8 (.inr h)) h18 h19;rw [hsh] at ha hn ht;have hn:D8 n=true:=hn;have ht:t=[]:=by have h':(t == [])=true:=ht;simpa using h'
 have ha:a=[]:=A1V ha;subst ht ha;have h0:L.drop (s.i+1)=D4 n++(A5 [59] :: post):=by
  rw [hT] at h;have:L.drop s.i=A5 (C0.getD j []) :: (D4 n++(A5 [59] :: post)):=by rw [h];simp
  exact E8 this
 have htk:=A3i (E:=E) (s:=A7 s) h0 hok hn;have h1:=X1 (s:=A7 s) h0 (A4 n);refine tailGo _ n [] [] (A7 (A7 (A7 s))) hT rfl rfl rfl (by simp only [A0A,A0I,A4];show s.i+1+1+1=_;omega) hok (fun _=>Evt.one fun f=>?_);unfold I9;rw [if_neg h4,if_neg h18,if_neg h19];dsimp only;rw [if_neg (by omega),htk];dsimp only;rw [Q8 (s:=A7 (A7 s)) h1 hok w59.1]
theorem B2q {l:List St} {d:Nat} {s:Rd} {post:List Tok} (hv:N8 l d=true) (h:L.drop s.i=blT l++post) (hok:okR s=true) :
  ∃ l' s',St.plains l'=St.plains l/\A5d L E d s (l',s')/\s'.i=s.i+(blT l).length/\okR s'=true :=
 R2 (fun x hx=>B3h (x.sz+1) x (by omega)) hv h hok
end
end Go.Pb
namespace Go.Pb
variable [Go.Sym.Tab]
open Go.Sym
section
variable {L:List Tok} {E:Int}
theorem D6s:∀ j:Nat,j<8->amT (A5 (D2.getD j [])) D2=(j:Int):=by decide +kernel
theorem D3c:∀ j:Nat,j<6->amT (A5 (E1.getD j [])) E1=(j:Int):=by decide +kernel
theorem C1o:P5 (A5 [109,111,100,101])=true/\amT (A5 [109,111,100,101]) D2 = -1:=by decide +kernel
theorem won:P5 (A5 [111,110])=true/\(A5 [111,110]).text≠[125]:=by decide +kernel
theorem E1j:P5 (A5 [45])=true:=by decide +kernel
theorem B7d {d:Dc} {k v:Int} {n:List UInt8} (h1:k=d.kind) (h2:n=d.name) (h3:v=d.value) {p:Int}:Dc.plain ⟨k,n,v,p⟩=d.plain:=by
 subst h1 h2 h3;rfl
theorem B2n {d:Dc} (hv:A1m d=true) {s:Rd} {post:List Tok} (h:L.drop s.i=dcT d++post) (hok:okR s=true) :
  C1 L E s D2=d.kind-1/\(R0 L E (d.kind-1) s).1.plain=d.plain/\(R0 L E (d.kind-1) s).2.i=s.i+(dcT d).length/\okR (R0 L E (d.kind-1) s).2=true:=by
 unfold A1m at hv;simp only [A0G,A0L] at hv;obtain ⟨⟨⟨⟨k1,k8⟩,hn⟩,v0⟩,v1⟩:=hv;obtain ⟨j,hj⟩:∃ j:Nat,d.kind=1+(j:Int):=⟨(d.kind-1).toNat,by omega⟩;have hj8:j<8:=by omega
 have hjn:(d.kind-1).toNat=j:=by omega
 have a1:=D6s j hj8;have hT:dcT d=[A5 (D2.getD j [])]++D4 d.name++(if 6<d.kind then [] else if d.value<0 then [A5 [45]]++T7 (-d.value) else T7 d.value)++[A5 [59]]:=by
  unfold dcT;rw [if_neg (by omega)];dsimp only;rw [hjn];by_cases h6:6<d.kind
  ·rw [if_pos h6,if_pos h6];simp
  ·rw [if_neg h6,if_neg h6];by_cases hneg:d.value<0
   ·have hk6:d.kind=6:=by
     by_cases hz:d.kind=6
     ·exact hz
     ·rw [if_neg hz] at v0;omega
    rw [if_pos hk6] at v0;rw [if_pos ⟨hneg,v0,hk6⟩,if_pos hneg];simp
   ·rw [if_neg (fun h=>hneg h.1),if_neg hneg]
 rw [hT] at h ⊢;have h0:L.drop s.i=A5 (D2.getD j []) :: (D4 d.name++((if 6<d.kind then [] else if d.value<0 then [A5 [45]]++T7 (-d.value) else T7 d.value)++(A5 [59] :: post))):=by rw [h];simp
 have hpk:=C7 (E:=E) h0;have h1:=E8 h0;have htk:=A3i (E:=E) (s:=A7 s) h1 hok hn;have h2:=X1 (s:=A7 s) h1 (A4 d.name);refine ⟨by rw [U3 hok,hpk,a1];omega,?_⟩;unfold R0;dsimp only;rw [htk];dsimp only;by_cases h6:6<d.kind
 ·rw [if_pos h6] at h2 ⊢;rw [if_neg (by omega)];have h2:L.drop (A7 (A7 s)).i=A5 [59] :: post:=h2;rw [Q8 h2 hok w59.1];refine ⟨B7d (by omega) rfl ?_,?_,hok⟩
  ·rw [if_neg (by omega)] at v0;rw [if_pos (by omega)] at v1;omega
  ·simp only [A0A,A0I,A4,A0F];show s.i+1+1+1=_;omega
 ·rw [if_neg h6] at h2 ⊢;rw [if_pos (by omega)];rw [if_neg (by omega)] at v1;by_cases hneg:d.value<0
  ·have hk6:d.kind=6:=by
    by_cases hz:d.kind=6
    ·exact hz
    ·rw [if_neg hz] at v0;omega
   rw [if_pos hk6] at v0;rw [if_pos hneg] at h2 ⊢;have h3:L.drop (A7 (A7 s)).i=A5 [45] :: (T7 (-d.value)++(A5 [59] :: post)):=by rw [show L.drop (A7 (A7 s)).i=_ from h2];simp
   have hm:(d.kind-1+1 == 6 && isR L E (A7 (A7 s)) [45])=true:=by
    rw [A2y (show okR (A7 (A7 s))=true from hok),C7 h3,E1j,hk6];rfl
   rw [if_pos hm,if_pos hm];have h4:=E8 h3;have htk2:=B1f (E:=E) (s:=A7 (A7 (A7 s))) h4 hok (by omega) (by omega);rw [htk2];have h5:=X1 (s:=A7 (A7 (A7 s))) h4 (B0 _);have h5:L.drop (A7 (A7 (A7 (A7 s)))).i=A5 [59] :: post:=h5;dsimp only;rw [Q8 h5 hok w59.1];refine ⟨B7d (by omega) rfl (by omega),?_,hok⟩;simp only [A0A,A0I,A4,B0];show s.i+1+1+1+1+1=_;omega
  ·rw [if_neg hneg] at h2 ⊢;have h3:L.drop (A7 (A7 s)).i=T7 d.value++(A5 [59] :: post):=h2;have hp3:B5 L E (A7 (A7 s))=⟨3,[],d.value,0⟩:=C7 (ts:=A5 [59] :: post) (by rw [h3];unfold T7;rw [if_neg (by omega)];rfl);have hm:(d.kind-1+1 == 6 && isR L E (A7 (A7 s)) [45])=false:=by
    rw [A2y (show okR (A7 (A7 s))=true from hok),hp3];simp [P5]
   rw [hm];simp only [A1O,if_false];have htk2:=B1f (E:=E) (s:=A7 (A7 s)) h3 hok (by omega) (by omega);rw [htk2];have h5:=X1 (s:=A7 (A7 s)) h3 (B0 _);have h5:L.drop (A7 (A7 (A7 s))).i=A5 [59] :: post:=h5;dsimp only;rw [Q8 h5 hok w59.1];refine ⟨B7d (by omega) rfl rfl,?_,hok⟩;simp only [A0A,A0I,A4,B0];show s.i+1+1+1+1=_;omega
theorem A4g:∀ (l acc:List Dc) (s:Rd) (post:List Tok),l.all A1m=true->acc.length+l.length<=128->amT (hd0 E post) D2<0->L.drop s.i=l.flatMap dcT++post->okR s=true ->
  ∃ l' s',l'.map Dc.plain=l.map Dc.plain/\Evt (fun f=>R9 L E f acc s) (acc++l',s')/\L.drop s'.i=post/\okR s'=true
 | [],acc,s,post,hv,hl,hp,h,hok=>by
  have h:L.drop s.i=post:=h;refine ⟨[],s,rfl,Evt.one fun f=>?_,h,hok⟩;rw [R9];dsimp only;rw [U3 hok,A7e,h,if_pos hp,A1E]
 | d :: l,acc,s,post,hv,hl,hp,h,hok=>by
  simp only [A2M,A0G] at hv;have h0:L.drop s.i=dcT d++(l.flatMap dcT++post):=by rw [h,A2K,A0S]
  obtain ⟨e1,e2,e3,e4⟩:=B2n (E:=E) hv.1 h0 hok;have hk1:1<=d.kind:=by
   have:=hv.1;unfold A1m at this;simp only [A0G,A0L] at this;omega
  obtain ⟨l',s',q1,q2,q3,q4⟩:=A4g l (acc++[(R0 L E (d.kind-1) s).1]) (R0 L E (d.kind-1) s).2 post hv.2 (by simp only [A0A,A0E,A0F] at hl ⊢;omega) hp (by rw [e3];exact G4 h0) e4;refine ⟨(R0 L E (d.kind-1) s).1 :: l',s',by rw [A0T,A0T,e2,q1],?_,q3,q4⟩;rw [A0S] at q2;refine q2.ext fun f hf=>?_;rw [R9];dsimp only;rw [e1,if_neg (by omega),A3t (by simp only [A0E] at hl;omega),if_pos hok];exact hf
theorem hdp {h:Hd} {b:List St} (hb:St.plains b=St.plains h.body) {k:Int} {n:List UInt8} {p:Int} (hk:k=h.trig) (hn:n=h.name):Hd.plain ⟨k,n,b,p⟩=h.plain:=by
 unfold Hd.plain;dsimp only;rw [hb,hk,hn]
theorem A4p:∀ (l acc:List Hd) (s:Rd) (post:List Tok),l.all A1h=true->acc.length+l.length<=32->L.drop s.i=l.flatMap hdT++([A5 [125]]++post)->okR s=true ->
  ∃ l' s',l'.map Hd.plain=l.map Hd.plain/\Evt (fun f=>T8 L E f acc s) (acc++l',s')/\L.drop s'.i=post/\okR s'=true
 | [],acc,s,post,hv,hl,h,hok=>by
  have h:L.drop s.i=A5 [125] :: post:=h;have hi:isR L E s [125]=true:=by rw [A2y hok,C7 h,w125.1];rfl
  refine ⟨[],A7 s,rfl,Evt.one fun f=>?_,E8 h,hok⟩;rw [T8,if_neg (by rw [hi];simp),Q8 h hok w125.1,A1E]
 | x :: l,acc,s,post,hv,hl,h,hok=>by
  simp only [A2M,A0G] at hv;have hx:=hv.1;unfold A1h at hx;simp only [A0G,A0L] at hx;obtain ⟨⟨⟨t1,t6⟩,hn⟩,hb⟩:=hx;obtain ⟨j,hj⟩:∃ j:Nat,x.trig=1+(j:Int):=⟨(x.trig-1).toNat,by omega⟩;have hj6:j<6:=by omega
  have hjn:(x.trig-1).toNat=j:=by omega
  have h0:L.drop s.i=A5 [111,110] :: (A5 (E1.getD j []) :: ((if 2<x.trig then D4 x.name else [])++(blT x.body++(l.flatMap hdT++([A5 [125]]++post))))):=by
   rw [h,A2K];unfold hdT;rw [hjn];simp
  have hpk:=C7 (E:=E) h0;have hi:isR L E s [125]=false:=by rw [A2y hok,hpk,won.1,A1N];simpa using won.2
  have hon:isR L E s [111,110]=true:=by rw [A2y hok,hpk,won.1];rfl
  have he:=Q8 (E:=E) h0 hok won.1;have h1:=E8 h0;have h1:L.drop (A7 s).i=_:=h1;have ham:C1 L E (A7 s) E1=(j:Int):=by rw [U3 (show okR (A7 s)=true from hok),C7 h1];exact D3c j hj6
  have h2:=E8 h1;have h2:L.drop (A7 (A7 s)).i=_:=h2;have key:∃ s4,s4=(if 2<=(j:Int) then (B2 L E (A7 (A7 s)) 1).2 else A7 (A7 s))/\okR s4=true/\(if 2<=(j:Int) then (B2 L E (A7 (A7 s)) 1).1.text else [])=x.name/\L.drop s4.i=blT x.body++(l.flatMap hdT++([A5 [125]]++post)):=by
   refine ⟨_,rfl,?_⟩;by_cases h2j:2<=(j:Int)
   ·rw [if_pos h2j,if_pos h2j];rw [if_pos (by omega)] at hn h2;rw [A3i (E:=E) h2 hok hn];exact ⟨hok,rfl,X1 (s:=A7 (A7 s)) h2 (A4 _)⟩
   ·rw [if_neg h2j,if_neg h2j];rw [if_neg (by omega)] at hn h2;exact ⟨hok,by have:x.name=[]:=(by simpa using hn);rw [this],h2⟩
  obtain ⟨s4,k1,k2,k3,k4⟩:=key;obtain ⟨b',s5,b1,b2,b3,b4⟩:=B2q (L:=L) (E:=E) (d:=1) hb k4 k2;obtain ⟨l',s',q1,q2,q3,q4⟩:=A4p l (acc++[⟨1+(j:Int),x.name,b',(B5 L E s).pos⟩]) s5 post hv.2 (by simp only [A0A,A0E,A0F] at hl ⊢;omega) (by rw [b3];exact G4 k4) b4;refine ⟨⟨1+(j:Int),x.name,b',(B5 L E s).pos⟩ :: l',s',by rw [A0T,A0T,hdp b1 hj.symm rfl,q1],?_,q3,q4⟩;rw [A0S] at q2;refine Evt.ext2 b2 q2 fun f hf hf2=>?_;rw [T8,if_pos ⟨hok,hi⟩,if_neg (by rw [hon];decide)];dsimp only;rw [A3t (by simp only [A0E] at hl;omega),he,ham,if_neg (by omega), <- k1,k3];rw [show ((1:Nat):Int)=1 from rfl] at hf;rw [hf];exact hf2
theorem B2b {m:Md} (hv:W0 m=true) {s:Rd} {post:List Tok} (h:L.drop s.i=mdT m++post) (hok:okR s=true) :
  isR L E s [109,111,100,101]=true/\∃ m' s',m'.plain=m.plain/\Evt (fun f=>A2x L E f s) (m',s')/\L.drop s'.i=post/\okR s'=true:=by
 unfold W0 at hv;simp only [A0G,A0L] at hv;obtain ⟨⟨⟨⟨hn,p0⟩,p1⟩,hl⟩,hh⟩:=hv;have h0:L.drop s.i=A5 [109,111,100,101] :: (D4 m.name++(T7 m.prio++(A5 [123] :: (m.hds.flatMap hdT++([A5 [125]]++post))))):=by
  rw [h];unfold mdT;simp
 have hpk:=C7 (E:=E) h0;have he:=Q8 (E:=E) h0 hok C1o.1;have h1:L.drop (A7 s).i=_:=E8 h0;have htk:=A3i (E:=E) h1 hok hn;have h2:L.drop (A7 (A7 s)).i=_:=X1 (s:=A7 s) h1 (A4 _);have htk2:=B1f (E:=E) h2 hok p0 p1;have h3:L.drop (A7 (A7 (A7 s))).i=_:=X1 (s:=A7 (A7 s)) h2 (B0 _);have he3:=Q8 (E:=E) h3 hok w123.1;have h4:L.drop (A7 (A7 (A7 (A7 s)))).i=_:=E8 h3;obtain ⟨l',s',q1,q2,q3,q4⟩:=A4p (L:=L) (E:=E) m.hds [] _ post hh (by simp only [A0F];omega) h4 hok;refine ⟨by rw [A2y hok,hpk,C1o.1];rfl,⟨m.name,m.prio,l',(B5 L E s).pos⟩,s',?_,q2.map fun f hf=>?_,q3,q4⟩
 ·unfold Md.plain;dsimp only;rw [q1]
 ·unfold A2x;dsimp only;rw [he,htk];dsimp only;rw [htk2];dsimp only;rw [he3,hf];rfl
theorem A4f:∀ (l acc:List Md) (s:Rd),l.all W0=true->acc.length+l.length<=16->L.drop s.i=l.flatMap mdT->okR s=true ->
  ∃ l' s',l'.map Md.plain=l.map Md.plain/\Evt (fun f=>Q0 L E f acc s) (acc++l',s')/\okR s'=true
 | [],acc,s,hv,hl,h,hok=>by
  have hi:¬ s.i<L.length:=fun hlt=>by
   have:=List.drop_eq_nil_iff.1 (show L.drop s.i=[] from h);omega
  refine ⟨[],s,rfl,Evt.one fun f=>?_,hok⟩;rw [Q0,if_neg (fun h=>hi h.2),A1E]
 | m :: l,acc,s,hv,hl,h,hok=>by
  simp only [A2M,A0G] at hv;have h0:L.drop s.i=mdT m++l.flatMap mdT:=by rw [h,A2K]
  obtain ⟨hm,m',s1,e1,e2,e3,e4⟩:=B2b (E:=E) hv.1 h0 hok;obtain ⟨l',s',q1,q2,q4⟩:=A4f l (acc++[m']) s1 hv.2 (by simp only [A0A,A0E,A0F] at hl ⊢;omega) e3 e4;refine ⟨m' :: l',s',by rw [A0T,A0T,e1,q1],?_,q4⟩;rw [A0S] at q2;refine Evt.ext2 e2 q2 fun f hf hf2=>?_;rw [Q0,if_pos ⟨hok,(A1b hm).2⟩,if_neg (by rw [hm];decide)];dsimp only;rw [A3t (by simp only [A0E] at hl;omega),if_pos hok,hf];exact hf2
end
theorem D0k {h:Hd} (hv:A1h h=true):U1 h=false:=by
 unfold A1h at hv;simp only [A0G,A0L] at hv;unfold U1;simp only [A4F,A1W];omega
theorem B3p {r:Ru} (hv:R5 r=true) (E:Int):okR (X7 (ruT r) E).2=true/\(X7 (ruT r) E).1.plain=r.plain:=by
 unfold R5 at hv;simp only [A0G,A0L] at hv;obtain ⟨⟨⟨h1,h2⟩,h3⟩,h4⟩:=hv;have hbad:(r.modes.any fun m=>m.hds.any U1)=false:=by
  rw [A4O];intro m hm;have:=A0U.1 h4 m hm;unfold W0 at this;simp only [A0G] at this;rw [Bool.not_eq_true,A4O];intro h hh;rw [D0k (A0U.1 this.2 h hh)];decide
 have hT:ruT r=r.decls.flatMap dcT++r.modes.flatMap mdT:=by unfold ruT;rw [if_neg (by rw [hbad];decide)]
 have hp:amT (hd0 E (r.modes.flatMap mdT)) D2<0:=by
  cases hm:r.modes with
  | nil=>exact (by decide:(-1:Int)<0)
  | cons m l =>
   have:hd0 E ((m :: l).flatMap mdT)=A5 [109,111,100,101]:=by rw [A2K];unfold mdT;rfl
   rw [this,C1o.2];decide
 obtain ⟨ld,s1,a1,a2,a3,a4⟩:=A4g (L:=ruT r) (E:=E) r.decls [] rd0 (r.modes.flatMap mdT) h3 (by simpa using h1) hp (by rw [hT];rfl) rfl;obtain ⟨lm,s2,b1,b2,b4⟩:=A4f (L:=ruT r) (E:=E) r.modes [] s1 h4 (by simpa using h2) a3 a4;have hr:Evt (fun f=>A4e (ruT r) E f rd0) (⟨ld,lm⟩,s2):=a2.map2 b2 fun f h1 h2=>by
  unfold A4e;rw [h1];dsimp only;rw [h2];rfl
 rw [(A3j (ruT r) E).uniq hr];refine ⟨b4,?_⟩;unfold Ru.plain;dsimp only;rw [a1,b1]
mutual
theorem B0g:∀ e:Ex,msM e.plain=msM e
 | .mk k v n a p=>by
  rw [Ex.plain,msM,msM,B0h k 0 a,Ex.plains_map,A0D]
theorem B0h:∀ (k:Int) (i:Nat) (l:List Ex),msL k i (Ex.plains l)=msL k i l
 | k,i,[]=>rfl
 | k,i,e :: l=>by
  have hk:e.plain.kind=e.kind:=by cases e;rfl
  rw [Ex.plains,msL,msL,B0g e,B0h k (i+1) l,hk]
end
theorem B5o (e:Ex):X5 e.plain=X5 e:=by unfold X5;rw [B0g]
theorem A3m {l:List St}:(St.plains l).isEmpty=l.isEmpty:=by cases l<;>rfl
theorem A3n (l:List St):(St.plains l).length=l.length:=by rw [St.plains_map,A0D]
mutual
theorem B5l:∀ (d:Nat) (s:St),R6 d s.plain=R6 d s
 | d,.mk k n t a x y p=>by
  have ha:(Ex.plains a).all X5=a.all X5:=by
   rw [Ex.plains_map,List.all_map]
   congr 1
   funext e
   exact B5o e
  rw [St.plain,R6,R6,X8 (d+1) x,X8 (d+1) y,ha,Ex.plains_map,A0D,A3m,A3m,A3n,A3n]
theorem X8:∀ (d:Nat) (l:List St),G7 d (St.plains l)=G7 d l
 | d,[]=>rfl
 | d,s :: l=>by rw [St.plains,G7,G7,B5l d s,X8 d l]
end
theorem B5n (h:Hd):A1h h.plain=A1h h:=by
 unfold A1h Hd.plain N8;dsimp only;rw [X8,A3n,A3m]
theorem B5m (m:Md):W0 m.plain=W0 m:=by
 unfold W0 Md.plain;dsimp only;rw [A0D,List.all_map]
 congr 2
 funext h
 exact B5n h
theorem A7v (r:Ru):R5 r.plain=R5 r:=by
 unfold R5 Ru.plain;dsimp only;rw [A0D,A0D,List.all_map,List.all_map]
 congr 2
 funext m
 exact B5m m
theorem C7r (r:Ru):B9x r=R5 r:=by
 cases hv:R5 r with
 | true =>
  obtain ⟨h1,h2⟩:=B3p hv 0;unfold B9x;rw [h1,A1N];exact @decide_eq_true _ (_) h2
 | false =>
  cases hd:B9x r with
  | false=>rfl
  | true =>
   unfold B9x at hd;rw [A0G] at hd;have h2:=@of_decide_eq_true _ (_) hd.2;obtain ⟨f,hf⟩:=(A3j (ruT r) 0).get;have h3:=C0f (fun t ht=>(C5n r t ht).1) hf hd.1;rw [<- A7v,h2,A7v,hv] at h3;cases h3
end Go.Pb
set_option maxHeartbeats 8000000
namespace Go.Proofs.YtnmkkggfgdfmeaaGreatDoor
open Go.Eng (IC IOper DReg IFn B8)
open Go.Sym Go.Pb
theorem c_IF_hd {g:Hd->Bool} {f:Nat} {a cs:List DV} (xs:List (Hd)) (hx:xs.length<=9223372036854775807) (na:DV.nlL a=true) (ncs:DV.nlL cs=true) (hf:∀ x∈xs,PC Tryz.prog f (a++[Hd.v x]++cs) (.bool (g x))) :
  PC Tryz.prog 88 [S2 xs,.func f a cs] (I64 (W7 g xs 0)):=by
 refine PC.ofT A9 rfl (A0B rfl) (by simp [DV.nlL,DV.nl,A7f,na,ncs]) rfl ?_;repeat' ((with_reducible apply wr)<;>try simp only [go_sem,seval,A0D])
 refine C2 (fun k:Nat=>[(0,S2 xs),(1,.func f a cs),(7,I64 xs.length),(8,I64 k)]) (fun _=>nil) (fun k _=>k<=xs.length/\W7 g xs 0=W7 g (xs.drop k) k) (fun k=>xs.length-k) 0 (by simp [C3,tm,Tm.upd]) (Sub.nil _) (by simp) ?_;rintro k c ⟨hk,he⟩;by_cases hlt:k<xs.length
 ·have hd:decide ((k:Int)<xs.length)=true:=by simpa using hlt
  have hg:=A0C hlt;have hw:=w64 (n:=(k:Int)+1) (by omega) (by omega);have hst:=A0a (g:=g) hg;have hc:=hf xs[k] (A0O hlt);repeat' ((with_reducible first|refine wr ?_|refine cpc hc ?_|refine wb2 ?_ ?_<;>(intro hb;try simp only [hb])|fail)<;>try simp only [go_sem,seval,hd,hg,hw])
  ·refine A6 ?_;rw [he,hst,hb];rfl
  ·exact ⟨k+1,rfl,Sub.refl _,inv ⟨by omega,by rw [he,hst,hb];rfl⟩,by omega⟩
 ·have hd:decide ((k:Int)<xs.length)=false:=by simpa using hlt
  repeat' ((with_reducible apply wr)<;>try simp only [go_sem,seval,hd])
  refine A6 ?_;rw [he,A1v (by omega)]
theorem c_CF_hd {g:Hd->Bool} {f:Nat} {a cs:List DV} (xs:List (Hd)) (hx:xs.length<=9223372036854775807) (na:DV.nlL a=true) (ncs:DV.nlL cs=true) (hf:∀ x∈xs,PC Tryz.prog f (a++[Hd.v x]++cs) (.bool (g x))) :
  PC Tryz.prog 45 [S2 xs,.func f a cs] (.bool (xs.any g)):=by
 refine PC.ofT A9 rfl (A0B rfl) (by simp [DV.nlL,DV.nl,A7f,na,ncs]) rfl ?_;have hc:=c_IF_hd xs hx na ncs hf;repeat' ((with_reducible first|apply wr|refine cpc hc ?_|fail)<;>try simp only [go_sem,seval])
 refine A6 ?_;rw [A1w]
theorem c_IF_dc {g:Dc->Bool} {f:Nat} {a cs:List DV} (xs:List (Dc)) (hx:xs.length<=9223372036854775807) (na:DV.nlL a=true) (ncs:DV.nlL cs=true) (hf:∀ x∈xs,PC Tryz.prog f (a++[Dc.v x]++cs) (.bool (g x))) :
  PC Tryz.prog 120 [C8 xs,.func f a cs] (I64 (W7 g xs 0)):=by
 refine PC.ofT A9 rfl (A0B rfl) (by simp [DV.nlL,DV.nl,H4,na,ncs]) rfl ?_;repeat' ((with_reducible apply wr)<;>try simp only [go_sem,seval,A0D])
 refine C2 (fun k:Nat=>[(0,C8 xs),(1,.func f a cs),(7,I64 xs.length),(8,I64 k)]) (fun _=>nil) (fun k _=>k<=xs.length/\W7 g xs 0=W7 g (xs.drop k) k) (fun k=>xs.length-k) 0 (by simp [C3,tm,Tm.upd]) (Sub.nil _) (by simp) ?_;rintro k c ⟨hk,he⟩;by_cases hlt:k<xs.length
 ·have hd:decide ((k:Int)<xs.length)=true:=by simpa using hlt
  have hg:=A0C hlt;have hw:=w64 (n:=(k:Int)+1) (by omega) (by omega);have hst:=A0a (g:=g) hg;have hc:=hf xs[k] (A0O hlt);repeat' ((with_reducible first|refine wr ?_|refine cpc hc ?_|refine wb2 ?_ ?_<;>(intro hb;try simp only [hb])|fail)<;>try simp only [go_sem,seval,hd,hg,hw])
  ·refine A6 ?_;rw [he,hst,hb];rfl
  ·exact ⟨k+1,rfl,Sub.refl _,inv ⟨by omega,by rw [he,hst,hb];rfl⟩,by omega⟩
 ·have hd:decide ((k:Int)<xs.length)=false:=by simpa using hlt
  repeat' ((with_reducible apply wr)<;>try simp only [go_sem,seval,hd])
  refine A6 ?_;rw [he,A1v (by omega)]
theorem c_CF_dc {g:Dc->Bool} {f:Nat} {a cs:List DV} (xs:List (Dc)) (hx:xs.length<=9223372036854775807) (na:DV.nlL a=true) (ncs:DV.nlL cs=true) (hf:∀ x∈xs,PC Tryz.prog f (a++[Dc.v x]++cs) (.bool (g x))) :
  PC Tryz.prog 79 [C8 xs,.func f a cs] (.bool (xs.any g)):=by
 refine PC.ofT A9 rfl (A0B rfl) (by simp [DV.nlL,DV.nl,H4,na,ncs]) rfl ?_;have hc:=c_IF_dc xs hx na ncs hf;repeat' ((with_reducible first|apply wr|refine cpc hc ?_|fail)<;>try simp only [go_sem,seval])
 refine A6 ?_;rw [A1w]
theorem c_IF_md {g:Md->Bool} {f:Nat} {a cs:List DV} (xs:List (Md)) (hx:xs.length<=9223372036854775807) (na:DV.nlL a=true) (ncs:DV.nlL cs=true) (hf:∀ x∈xs,PC Tryz.prog f (a++[Md.v x]++cs) (.bool (g x))) :
  PC Tryz.prog 122 [D5 xs,.func f a cs] (I64 (W7 g xs 0)):=by
 refine PC.ofT A9 rfl (A0B rfl) (by simp [DV.nlL,DV.nl,G9,na,ncs]) rfl ?_;repeat' ((with_reducible apply wr)<;>try simp only [go_sem,seval,A0D])
 refine C2 (fun k:Nat=>[(0,D5 xs),(1,.func f a cs),(7,I64 xs.length),(8,I64 k)]) (fun _=>nil) (fun k _=>k<=xs.length/\W7 g xs 0=W7 g (xs.drop k) k) (fun k=>xs.length-k) 0 (by simp [C3,tm,Tm.upd]) (Sub.nil _) (by simp) ?_;rintro k c ⟨hk,he⟩;by_cases hlt:k<xs.length
 ·have hd:decide ((k:Int)<xs.length)=true:=by simpa using hlt
  have hg:=A0C hlt;have hw:=w64 (n:=(k:Int)+1) (by omega) (by omega);have hst:=A0a (g:=g) hg;have hc:=hf xs[k] (A0O hlt);repeat' ((with_reducible first|refine wr ?_|refine cpc hc ?_|refine wb2 ?_ ?_<;>(intro hb;try simp only [hb])|fail)<;>try simp only [go_sem,seval,hd,hg,hw])
  ·refine A6 ?_;rw [he,hst,hb];rfl
  ·exact ⟨k+1,rfl,Sub.refl _,inv ⟨by omega,by rw [he,hst,hb];rfl⟩,by omega⟩
 ·have hd:decide ((k:Int)<xs.length)=false:=by simpa using hlt
  repeat' ((with_reducible apply wr)<;>try simp only [go_sem,seval,hd])
  refine A6 ?_;rw [he,A1v (by omega)]
theorem c_CF_md {g:Md->Bool} {f:Nat} {a cs:List DV} (xs:List (Md)) (hx:xs.length<=9223372036854775807) (na:DV.nlL a=true) (ncs:DV.nlL cs=true) (hf:∀ x∈xs,PC Tryz.prog f (a++[Md.v x]++cs) (.bool (g x))) :
  PC Tryz.prog 82 [D5 xs,.func f a cs] (.bool (xs.any g)):=by
 refine PC.ofT A9 rfl (A0B rfl) (by simp [DV.nlL,DV.nl,G9,na,ncs]) rfl ?_;have hc:=c_IF_md xs hx na ncs hf;repeat' ((with_reducible first|apply wr|refine cpc hc ?_|fail)<;>try simp only [go_sem,seval])
 refine A6 ?_;rw [A1w]
theorem c_IF_st {g:Pb.St->Bool} {f:Nat} {a cs:List DV} (xs:List (Pb.St)) (hx:xs.length<=9223372036854775807) (na:DV.nlL a=true) (ncs:DV.nlL cs=true) (hf:∀ x∈xs,PC Tryz.prog f (a++[Pb.St.v x]++cs) (.bool (g x))) :
  PC Tryz.prog 158 [F3 xs,.func f a cs] (I64 (W7 g xs 0)):=by
 refine PC.ofT A9 rfl (A0B rfl) (by simp [DV.nlL,DV.nl,Q2,na,ncs]) rfl ?_;repeat' ((with_reducible apply wr)<;>try simp only [go_sem,seval,A0D])
 refine C2 (fun k:Nat=>[(0,F3 xs),(1,.func f a cs),(7,I64 xs.length),(8,I64 k)]) (fun _=>nil) (fun k _=>k<=xs.length/\W7 g xs 0=W7 g (xs.drop k) k) (fun k=>xs.length-k) 0 (by simp [C3,tm,Tm.upd]) (Sub.nil _) (by simp) ?_;rintro k c ⟨hk,he⟩;by_cases hlt:k<xs.length
 ·have hd:decide ((k:Int)<xs.length)=true:=by simpa using hlt
  have hg:=A0C hlt;have hw:=w64 (n:=(k:Int)+1) (by omega) (by omega);have hst:=A0a (g:=g) hg;have hc:=hf xs[k] (A0O hlt);rw [Pb.St.v_w] at hc;repeat' ((with_reducible first|refine wr ?_|refine cpc hc ?_|refine wb2 ?_ ?_<;>(intro hb;try simp only [hb])|fail)<;>try simp only [go_sem,seval,hd,hg,hw,Pb.St.v_w])
  ·refine A6 ?_;rw [he,hst,hb];rfl
  ·exact ⟨k+1,rfl,Sub.refl _,inv ⟨by omega,by rw [he,hst,hb];rfl⟩,by omega⟩
 ·have hd:decide ((k:Int)<xs.length)=false:=by simpa using hlt
  repeat' ((with_reducible apply wr)<;>try simp only [go_sem,seval,hd])
  refine A6 ?_;rw [he,A1v (by omega)]
theorem c_CF_st {g:Pb.St->Bool} {f:Nat} {a cs:List DV} (xs:List (Pb.St)) (hx:xs.length<=9223372036854775807) (na:DV.nlL a=true) (ncs:DV.nlL cs=true) (hf:∀ x∈xs,PC Tryz.prog f (a++[Pb.St.v x]++cs) (.bool (g x))) :
  PC Tryz.prog 148 [F3 xs,.func f a cs] (.bool (xs.any g)):=by
 refine PC.ofT A9 rfl (A0B rfl) (by simp [DV.nlL,DV.nl,Q2,na,ncs]) rfl ?_;have hc:=c_IF_st xs hx na ncs hf;repeat' ((with_reducible first|apply wr|refine cpc hc ?_|fail)<;>try simp only [go_sem,seval])
 refine A6 ?_;rw [A1w]
theorem c_IF_ex {g:Ex->Bool} {f:Nat} {a cs:List DV} (xs:List (Ex)) (hx:xs.length<=9223372036854775807) (na:DV.nlL a=true) (ncs:DV.nlL cs=true) (hf:∀ x∈xs,PC Tryz.prog f (a++[Ex.v x]++cs) (.bool (g x))) :
  PC Tryz.prog 166 [I3 xs,.func f a cs] (I64 (W7 g xs 0)):=by
 refine PC.ofT A9 rfl (A0B rfl) (by simp [DV.nlL,DV.nl,Y1,na,ncs]) rfl ?_;repeat' ((with_reducible apply wr)<;>try simp only [go_sem,seval,A0D])
 refine C2 (fun k:Nat=>[(0,I3 xs),(1,.func f a cs),(7,I64 xs.length),(8,I64 k)]) (fun _=>nil) (fun k _=>k<=xs.length/\W7 g xs 0=W7 g (xs.drop k) k) (fun k=>xs.length-k) 0 (by simp [C3,tm,Tm.upd]) (Sub.nil _) (by simp) ?_;rintro k c ⟨hk,he⟩;by_cases hlt:k<xs.length
 ·have hd:decide ((k:Int)<xs.length)=true:=by simpa using hlt
  have hg:=A0C hlt;have hw:=w64 (n:=(k:Int)+1) (by omega) (by omega);have hst:=A0a (g:=g) hg;have hc:=hf xs[k] (A0O hlt);rw [Ex.v_w] at hc;repeat' ((with_reducible first|refine wr ?_|refine cpc hc ?_|refine wb2 ?_ ?_<;>(intro hb;try simp only [hb])|fail)<;>try simp only [go_sem,seval,hd,hg,hw,Ex.v_w])
  ·refine A6 ?_;rw [he,hst,hb];rfl
  ·exact ⟨k+1,rfl,Sub.refl _,inv ⟨by omega,by rw [he,hst,hb];rfl⟩,by omega⟩
 ·have hd:decide ((k:Int)<xs.length)=false:=by simpa using hlt
  repeat' ((with_reducible apply wr)<;>try simp only [go_sem,seval,hd])
  refine A6 ?_;rw [he,A1v (by omega)]
theorem c_CF_ex {g:Ex->Bool} {f:Nat} {a cs:List DV} (xs:List (Ex)) (hx:xs.length<=9223372036854775807) (na:DV.nlL a=true) (ncs:DV.nlL cs=true) (hf:∀ x∈xs,PC Tryz.prog f (a++[Ex.v x]++cs) (.bool (g x))) :
  PC Tryz.prog 160 [I3 xs,.func f a cs] (.bool (xs.any g)):=by
 refine PC.ofT A9 rfl (A0B rfl) (by simp [DV.nlL,DV.nl,Y1,na,ncs]) rfl ?_;have hc:=c_IF_ex xs hx na ncs hf;repeat' ((with_reducible first|apply wr|refine cpc hc ?_|fail)<;>try simp only [go_sem,seval])
 refine A6 ?_;rw [A1w]
end Go.Proofs.YtnmkkggfgdfmeaaGreatDoor
namespace Go.Pb
variable [Go.Sym.Tab]
open Go.Sym
mutual
theorem D1p:∀ (e:Ex) (o d:Nat),msM e=some (o,d)->o<=e.sz/\d+1<=2 * e.sz
 | .mk k v n a p,o,d,h=>by
  have hs:(Ex.mk k v n a p).sz=1+n.length+Ex.szs a:=by rw [Ex.sz]
  obtain ⟨h1,h2,h3,h4,h5,h6⟩:=A5q h;by_cases hc:J6 k=0
  ·obtain ⟨rfl,rfl⟩:=h5 hc;omega
  ·obtain ⟨d',hl,hd⟩:=h6 hc;have:=B6m k 0 a o d' hl;rw [hd];split<;>omega
theorem B6m:∀ (k:Int) (i:Nat) (l:List Ex) (o d:Nat),msL k i l=some (o,d)->o<=Ex.szs l/\d<=2 * Ex.szs l
 | k,i,[],o,d,h=>by simp [msL] at h;omega
 | k,i,e :: l,o,d,h=>by
  rw [msL] at h;have hs:Ex.szs (e :: l)=e.sz+Ex.szs l:=by rw [Ex.szs]
  have hp:=e.sz_pos;cases he:msM e with
  | none=>rw [he] at h;cases h
  | some q =>
   obtain ⟨o1,d1⟩:=q;have h1:=D1p e o1 d1 he;rw [he] at h;dsimp only at h;cases hl:msL k (i+1) l with
   | none=>rw [hl] at h;cases h
   | some q2 =>
    obtain ⟨o2,d2⟩:=q2;have h2:=B6m k (i+1) l o2 d2 hl;rw [hl] at h;dsimp only at h;have h3:=Option.some.inj h;have h4:o1+o2=o:=congrArg Prod.fst h3;have h5:max (if X4 k e.kind i=true then d1+1 else d1) d2=d:=congrArg Prod.snd h3;rw [hs];split at h5<;>omega
end
def msV:Option (Nat × Nat)->DV
 | none=>.tup [I64 0,I64 0,.bool false]
 | some (o,d)=>.tup [I64 o,I64 d,.bool true]
theorem D5c (q:Option (Nat × Nat)):(msV q).nl=true:=by cases q<;>rfl
theorem C4r {k:Int} {a:List Ex} {i:Nat} {x:Ex} (h:a[i]? = some x):msL k i (a.drop i)=match msM x with
  | none=>none
  | some (o,d)=>match msL k (i+1) (a.drop (i+1)) with
   | none=>none
   | some (o2,d2)=>some (o+o2,max (if X4 k x.kind i=true then d+1 else d) d2):=by
 have hlt:=(A0K.1 h).1;rw [A1C hlt,(A0K.1 h).2,msL];try rfl
end Go.Pb
namespace Go.Proofs.YtnmkkggfgdfmeaaGreatDoor
open Go.Eng (IC IOper DReg IFn B8)
open Go.Sym Go.Pb
theorem C8u {H:Hp} {a b:Bool} (h:a=b):∃ H2,GL H [.bool a] H2 [.bool b]:=⟨H,by rw [h];exact GL.refl _ _⟩
theorem B3f {b1 b2 b3:Blk} {cc:Nat} (u:Unit) (h:1<=cc):Sym.Sub (Sym.nil.upd 0 b1) (((Sym.nil.upd 0 b1).upd cc b2).upd cc b3):=by
 intro j b hj;simp only [Hp.upd,Sym.nil] at hj ⊢;split at hj
 ·rename_i h0;rw [if_neg (by omega),if_neg (by omega),if_pos h0];exact hj
 ·cases hj
theorem c_levS (k:Int):PC Tryz.prog 127 [I64 k] (I64 (B4 k)):=by
 refine PC.ofT A9 rfl (A0B rfl) (by simp [DV.nlL,DV.nl]) (by simp [DV.nlL,DV.nl]) ?_;repeat' ((with_reducible first|refine wr ?_|refine wb2 ?_ ?_<;>(intro hb;try simp only [hb])|fail)<;>try simp only [go_sem,seval])
 all_goals refine A6 (congrArg I64 ?_)
 all_goals simp_all [B4]
 all_goals omega
theorem c_namedS (k:Int):PC Tryz.prog 128 [I64 k] (.bool (B1z k)):=by
 refine PC.ofT A9 rfl (A0B rfl) (by simp [DV.nlL,DV.nl]) (by simp [DV.nlL,DV.nl]) ?_;repeat' ((with_reducible first|refine wr ?_|refine wb2 ?_ ?_<;>(intro hb;try simp only [hb])|fail)<;>try simp only [go_sem,seval])
 all_goals refine A6 (congrArg DV.bool ?_)
 all_goals (cases h5:k == 5<;>cases h6:k == 6<;>cases h7:k == 7<;>simp_all [B1z])
theorem c_wrapped (e x:Ex) (i:Nat) (h:e.args[i]? = some x) (hi:i<=1):PC Tryz.prog 129 [e.v,I64 i] (.bool (X4 e.kind x.kind i)):=by
 refine PC.ofT A9 rfl (A0B rfl) (by simp [DV.nlL,DV.nl,Ex.nl]) rfl ?_;rw [Ex.v_w];have h1:=c_levS e.kind;have h2:=c_levS x.kind;repeat' ((with_reducible first|refine wr ?_|refine cpc h1 ?_|refine cpc h2 ?_|refine wb2 ?_ ?_<;>(intro hb;try simp only [hb])|fail)<;>try simp only [go_sem,seval,h,Ex.v_w])
 all_goals refine C8u ?_
 all_goals unfold X4
 all_goals (cases hi1:i == 1<;>cases h3:B4 e.kind == 3<;>simp_all)
 all_goals omega
theorem c_measure:∀ (m:Nat) (e:Ex),e.sz<m->e.sz<=100000000->PC Tryz.prog 95 [e.v] (msV (msM e)):=by
 intro m
 induction m with
 | zero=>intro e h;omega
 | succ m ih =>
 intro e hm hB;have hnl:=e.sz_name;have hx:∀ x∈e.args,PC Tryz.prog 95 [x.v] (msV (msM x)):=fun x hx=>ih x (by have:=Ex.sz_arg hx;omega) (by have:=Ex.sz_arg hx;omega);have hwr:∀ (x:Ex) (i:Nat),e.args[i]? = some x->i<=1->PC Tryz.prog 129 [e.w,I64 i] (.bool (X4 e.kind x.kind i)):=fun x i h hi=>by have:=c_wrapped e x i h hi;rwa [Ex.v_w] at this
 refine PC.ofT A9 rfl (A0B rfl) (by simp [DV.nlL,DV.nl,Ex.nl]) (D5c _) ?_;rw [Ex.v_w];obtain ⟨R,hR⟩:∃ R,R=msV (msM e):=⟨_,rfl⟩;rw [<- hR];have hle:=B6m e.kind 0 e.args;have hal:Ex.szs e.args<e.sz:=by cases e with|mk k v n a p=>rw [Ex.sz];show Ex.szs a<_;omega
 have hargs:∀ x∈e.args,x.sz<=Ex.szs e.args:=fun x hx=>Ex.szs_mem hx;cases e with|mk k v n a p =>
 rw [msM] at hR;dsimp only [Ex.w,Ex.kind,Ex.value,Ex.name,Ex.args,Ex.pos] at hx hwr hle hal hargs hnl ⊢;have hl:=c_levS k;have hnk:=c_namedS k;have hin:=c_IsName n (by omega);have none0:kOk k=false\/a.length≠J6 k\/A1j k n=false\/A1g k v=false->R=.tup [I64 0,I64 0,.bool false]:=fun h=>by rw [hR,if_pos h];rfl
 have ci:((J6 k:Nat):Int)<=2:=by unfold J6;(repeat' split)<;>decide
 have kA:∀ nm vl:Bool,A1j k n=nm->A1g k v=vl->kOk k=true->IW Tryz.prog 113 (pz Tryz.prog 95 (.o (.i (.o (.o (.o .h)))))) ⟨tm [(1,.ptr 0 0),(2,I64 0),(3,I64 0),(5,I64 (J6 k)),(7,.bool nm),(8,.bool vl)],Sym.nil.upd 0 ⟨0,true,[I64 k,I64 v,.str n,I3 a,I64 p]⟩,1⟩ (rt [.tmp 2,.tmp 3,.tmp 4] fun v H' x => ∃ H2,GL H' [v] H2 [R]):=by
  intro nm vl hnm hvl hkk;by_cases hlen:a.length=J6 k
  ·have d0:((a.length:Int) != (J6 k:Int))=false:=by simp [hlen]
   cases nm with
   | false =>
    repeat' ((with_reducible apply wr)<;>try simp only [go_sem,seval,d0])
    exact A6 (none0 (.inr (.inr (.inl hnm)))).symm
   | true =>
    cases vl with
    | false =>
     repeat' ((with_reducible apply wr)<;>try simp only [go_sem,seval,d0])
     exact A6 (none0 (.inr (.inr (.inr hvl)))).symm
    | true =>
     rw [if_neg (by simp [hkk,hnm,hvl,hlen])] at hR;by_cases hc0:J6 k=0
     ·have d1:((J6 k:Int) == 0)=true:=by simp [hc0]
      rw [if_pos hc0] at hR;repeat' ((with_reducible apply wr)<;>try simp only [go_sem,seval,d0,d1])
      exact A6 hR.symm
     ·have d1:((J6 k:Int) == 0)=false:=by simp [hc0]
      rw [if_neg hc0] at hR;repeat' ((with_reducible apply wr)<;>try simp only [go_sem,seval,d0,d1])
      have hl2:a.length<=2:=by omega
      refine C2 (fun q:Nat × Nat × Nat=>[(1,.ptr 0 0),(5,I64 (J6 k)),(80,I3 a),(81,I64 a.length),(82,I64 q.1),(2,I64 q.2.1),(3,I64 q.2.2)]) (fun _=>Sym.nil.upd 0 ⟨0,true,[I64 k,I64 v,.str n,I3 a,I64 p]⟩)
       (fun q cc=>1<=cc/\q.1<=a.length/\q.2.1<=q.1 * 1000000000/\q.2.2<=1000000000/\msL k 0 a=(match msL k q.1 (a.drop q.1) with
        | none=>none
        | some (o2,d2)=>some (q.2.1+o2,max q.2.2 d2))) (fun q=>a.length-q.1) (0,0,0) (by simp [C3,tm,Tm.upd]) (Sub.refl _)
       ⟨A0H _,A0R _,A0R _,A0R _,by
        rw [A3J];cases msL k 0 a with
        | none=>rfl
        | some q=>obtain ⟨o2,d2⟩:=q;simp⟩ ?_
      rintro ⟨i,o,d⟩ cc ⟨h1c,hk,ho,hd3,he⟩;dsimp only at hk ho hd3 he ⊢;by_cases hlt:i<a.length
      ·have hd:decide ((i:Int)<a.length)=true:=by simpa using hlt
       have hg:=A0C hlt;have hw:=w64 (n:=(i:Int)+1) (by omega) (by omega);rw [C4r hg] at he;have hmx:=hx _ (A0O hlt);have hax:=hargs _ (A0O hlt);have hwx:=hwr _ i hg (by omega);have hms:=D1p a[i];generalize a[i]=x at hg he hmx hax hwx hms;rw [Ex.v_w] at hmx;have hwx:PC Tryz.prog 129 [DV.agg [I64 k,I64 v,DV.str n,I3 a,I64 p],I64 i] (.bool (X4 k x.kind i)):=hwx;have ne0:=M8 0 cc (by omega);cases hq:msM x with
       | none =>
        rw [hq] at he hmx;dsimp only [msV] at he hmx;rw [he] at hR;repeat' ((with_reducible first|apply wr|refine cpc hmx ?_|refine cpc hwx ?_|fail)<;>try simp only [go_sem,seval,hd,hg,hw,Ex.v_w,ne0])
        exact A6 hR.symm
       | some qq =>
        obtain ⟨o1,d1'⟩:=qq;rw [hq] at he hmx;dsimp only [msV] at he hmx;have:=hms o1 d1' hq;have w1:=w64 (n:=(o:Int)+(o1:Int)) (by omega) (by omega);have w2:=w64 (n:=(d1':Int)+1) (by omega) (by omega);cases hwb:X4 k x.kind i with
        | true =>
         rw [hwb] at he;repeat' ((with_reducible first|apply wr|refine cpc hmx ?_|refine cpc hwx ?_|fail)<;>try simp only [go_sem,seval,hd,hg,hw,Ex.v_w,ne0,hwb,w1,w2])
         all_goals (refine ⟨(i+1,o+o1,max d (d1'+1)),⟨by simp,by simp,?_⟩,?_,inv ⟨by omega,by simp only;omega,by simp only;omega,by simp only;omega,?_⟩,by simp only;omega⟩)
         all_goals first
          | (refine congrArg I64 ?_;dsimp only;split<;>omega)
          | exact B3f () h1c
          | (rw [he];dsimp only;cases msL k (i+1) (a.drop (i+1)) with
           | none=>rfl
           | some q=>obtain ⟨o2,d2⟩:=q;simp [A2Y,Nat.max_assoc])
        | false =>
         rw [hwb] at he;repeat' ((with_reducible first|apply wr|refine cpc hmx ?_|refine cpc hwx ?_|fail)<;>try simp only [go_sem,seval,hd,hg,hw,Ex.v_w,ne0,hwb,w1,w2])
         all_goals (refine ⟨(i+1,o+o1,max d (d1')),⟨by simp,by simp,?_⟩,?_,inv ⟨by omega,by simp only;omega,by simp only;omega,by simp only;omega,?_⟩,by simp only;omega⟩)
         all_goals first
          | (refine congrArg I64 ?_;dsimp only;split<;>omega)
          | exact B3f () h1c
          | (rw [he];dsimp only;cases msL k (i+1) (a.drop (i+1)) with
           | none=>rfl
           | some q=>obtain ⟨o2,d2⟩:=q;simp [A2Y,Nat.max_assoc])
      ·have hd:decide ((i:Int)<a.length)=false:=by simpa using hlt
       rw [A1T (by omega)] at he;have w1:=w64 (n:=(d:Int)+1) (by omega) (by omega);by_cases hc1:J6 k=1
       ·have e1:((J6 k:Int) == 1)=true:=by simp [hc1]
        rw [he,hc1] at hR;repeat' ((with_reducible apply wr)<;>try simp only [go_sem,seval,hd,e1,w1])
        refine A6 ?_;rw [hR];simp [msV,msL]
       ·have e1:((J6 k:Int) == 1)=false:=by simp;omega
        rw [he] at hR;simp only [if_neg hc1] at hR;repeat' ((with_reducible apply wr)<;>try simp only [go_sem,seval,hd,e1,w1])
        refine A6 ?_;rw [hR];simp [msV,msL]
  ·have d0:((a.length:Int) != (J6 k:Int))=true:=by simp;omega
   repeat' ((with_reducible apply wr)<;>try simp only [go_sem,seval,d0])
   exact A6 (none0 (.inr (.inl hlen))).symm
 have kB:∀ nm:Bool,A1j k n=nm->kOk k=true->IW Tryz.prog 113 (pz Tryz.prog 95 (.o (.o (.o (.o (.o .h)))))) ⟨tm [(1,.ptr 0 0),(2,I64 0),(3,I64 0),(5,I64 (J6 k)),(7,.bool nm)],Sym.nil.upd 0 ⟨0,true,[I64 k,I64 v,.str n,I3 a,I64 p]⟩,1⟩ (rt [.tmp 2,.tmp 3,.tmp 4] fun v H' x => ∃ H2,GL H' [v] H2 [R]):=by
  intro nm hnm hkk;repeat' ((with_reducible first|refine G8 (p:=IW _ _ (pz Tryz.prog 95 (.o (.i (.o (.o (.o .h)))))) _ _) ?_|refine wr ?_|refine wb2 ?_ ?_<;>(intro hb;try simp only [hb])|fail)<;>try simp only [go_sem,seval])
  all_goals refine IW.stage (L:=[(1,.ptr 0 0),(2,I64 0),(3,I64 0),(5,I64 (J6 k)),(7,.bool nm),(8,.bool (A1g k v))]) ?_ (kA nm _ hnm rfl hkk)
  all_goals simp_all [C3,tm,Tm.upd,A1g]
  all_goals omega
 have kC:kOk k=true->IW Tryz.prog 113 (pz Tryz.prog 95 (.o (.o (.o (.i .h))))) ⟨tm [(1,.ptr 0 0),(2,I64 0),(3,I64 0),(5,I64 (J6 k))],Sym.nil.upd 0 ⟨0,true,[I64 k,I64 v,.str n,I3 a,I64 p]⟩,1⟩ (rt [.tmp 2,.tmp 3,.tmp 4] fun v H' x => ∃ H2,GL H' [v] H2 [R]):=by
  intro hkk;repeat' ((with_reducible first|refine G8 (p:=IW _ _ (pz Tryz.prog 95 (.o (.o (.o (.o (.o .h)))))) _ _) ?_|refine wr ?_|refine cpc hnk ?_|refine cpc hin ?_|refine wb2 ?_ ?_<;>(intro hb;try simp only [hb])|fail)<;>try simp only [go_sem,seval])
  all_goals refine IW.stage (L:=[(1,.ptr 0 0),(2,I64 0),(3,I64 0),(5,I64 (J6 k)),(7,.bool (A1j k n))]) ?_ (kB _ rfl hkk)
  all_goals simp_all [C3,tm,Tm.upd,A1j]
 by_cases l6:B4 k=6
 ·have m6:(B4 k == 6)=true:=by simpa using l6
  repeat' ((with_reducible first|refine G8 (p:=IW _ _ (pz Tryz.prog 95 (.o (.o (.o (.i .h))))) _ _) ?_|refine wr ?_|refine cpc hl ?_|fail)<;>try simp only [go_sem,seval,m6])
  refine IW.stage ?_ (kC (by simp [kOk];left;omega));simp [C3,tm,Tm.upd,J6,l6]
 have m6:(B4 k == 6)=false:=by simpa using l6
 by_cases l5:B4 k<6
 ·have m5:decide (B4 k<6)=true:=by simpa using l5
  repeat' ((with_reducible first|refine G8 (p:=IW _ _ (pz Tryz.prog 95 (.o (.o (.o (.i .h))))) _ _) ?_|refine wr ?_|refine cpc hl ?_|fail)<;>try simp only [go_sem,seval,m6,m5])
  refine IW.stage ?_ (kC (by simp [kOk];left;omega));simp [C3,tm,Tm.upd,J6,l6,l5]
 have m5:decide (B4 k<6)=false:=by simpa using l5
 repeat' ((with_reducible first|refine G8 (p:=IW _ _ (pz Tryz.prog 95 (.o (.o (.o (.i .h))))) _ _) ?_|refine wr ?_|refine cpc hl ?_|refine wb2 ?_ ?_<;>(intro hb;try simp only [hb])|fail)<;>try simp only [go_sem,seval,m6,m5])
 all_goals first
  | (refine IW.stage ?_ (kC (by simp_all [kOk]<;>omega));simp [C3,tm,Tm.upd,J6,l6,l5];done)
  | (refine A6 (none0 (.inl ?_)).symm;simp_all [kOk]<;>omega)
theorem c_ValidExpr (e:Ex) (hB:e.sz<=100000000):PC Tryz.prog 56 [e.v] (.bool (X5 e)):=by
 refine PC.ofT A9 rfl (A0B rfl) (by simp [DV.nlL,DV.nl]) (by simp [DV.nlL,DV.nl]) ?_;have hm:=c_measure _ e (A2Z _) hB;unfold X5;rw [Ex.v_w] at hm ⊢;cases hq:msM e with
 | none =>
  rw [hq] at hm;dsimp only [msV] at hm;repeat' ((with_reducible first|apply wr|refine cpc hm ?_|fail)<;>try simp only [go_sem,seval])
  all_goals exact A6 rfl
 | some q =>
  obtain ⟨o,d⟩:=q;rw [hq] at hm;dsimp only [msV] at hm;repeat' ((with_reducible first|refine wr ?_|refine cpc hm ?_|refine wb2 ?_ ?_<;>(intro hb;try simp only [hb])|fail)<;>try simp only [go_sem,seval])
  all_goals (refine A6 (congrArg DV.bool ?_);by_cases h1:o<=32<;>by_cases h2:d<=16<;>simp_all<;>omega)
end Go.Proofs.YtnmkkggfgdfmeaaGreatDoor
namespace Go.Pb
open Go.Sym
def Shp.v (s:Shp):DV:=.agg [.bool s.name,.bool s.text,I64 s.args,.bool s.thn,.bool s.els]
end Go.Pb
namespace Go.Proofs.YtnmkkggfgdfmeaaGreatDoor
open Go.Eng (IC IOper DReg IFn B8)
open Go.Sym Go.Pb
def C9z (k:Int):Bool:=decide (1<=k) && decide (k<=19)
theorem c_shapeOf (k:Int):PC Tryz.prog 159 [I64 k] (.tup [(M2 k).v,.bool (C9z k)]):=by
 refine PC.ofT A9 rfl (A0B rfl) (by simp [DV.nlL,DV.nl]) rfl ?_;repeat' ((with_reducible first|refine wr ?_|refine wb2 ?_ ?_<;>(intro hb;try simp only [hb])|fail)<;>try simp only [go_sem,seval])
 all_goals refine A6 ?_
 all_goals simp_all [M2,C9z,Shp.v,tm,Tm.upd]
 all_goals omega
theorem c_isText (s:List UInt8) (hs:s.length<=1000000000):PC Tryz.prog 162 [.str s] (.bool (U0 s)):=by
 refine PC.ofT A9 rfl (A0B rfl) (by simp [DV.nlL,DV.nl]) (by simp [DV.nlL,DV.nl]) ?_;repeat' ((with_reducible apply wr)<;>try simp only [go_sem,seval])
 refine C2 (fun k:Nat=>[(0,.str s),(3,I64 k)]) (fun _=>Sym.nil) (fun k _=>k<=s.length/\(s.take k).all txB=true) (fun k=>s.length-k) 0 (by simp [C3,tm,Tm.upd]) (Sub.refl _) ⟨A0R _,rfl⟩ ?_;rintro k cc ⟨hk,he⟩;by_cases hlt:k<s.length
 ·have hd:decide ((k:Int)<s.length)=true:=by simpa using hlt
  have hg:=A0C hlt;have hw:=w64 (n:=(k:Int)+1) (by omega) (by omega);generalize s[k]=x at hg;have hx:txB x=(decide (32<=x.toNat) && decide (x.toNat<=126)):=rfl;repeat' ((with_reducible first|refine wr ?_|refine wb2 ?_ ?_<;>(intro hb;try simp only [hb])|fail)<;>try simp only [go_sem,seval,hd,hg,hw])
  ·refine A6 (congrArg DV.bool ?_);have:=A5b txB s k _ hg (by simp_all<;>omega);simp [U0,this]
  ·refine A6 (congrArg DV.bool ?_);have:=A5b txB s k _ hg (by simp_all<;>omega);simp [U0,this]
  ·exact ⟨k+1,rfl,Sub.refl _,inv ⟨by omega,by rw [A2v txB s k _ hg,he];simp_all<;>omega⟩,by omega⟩
 have hd:decide ((k:Int)<s.length)=false:=by simpa using hlt
 have hall:=A9f txB s k (by omega) he;repeat' ((with_reducible apply wr)<;>try simp only [go_sem,seval,hd])
 refine A6 (congrArg DV.bool ?_);simp [U0,hall];omega
theorem c_validDecl (d:Dc) (hB:d.name.length<=1000000000):PC Tryz.prog 81 [d.v] (.bool (A1m d)):=by
 refine PC.ofT A9 rfl (A0B rfl) (by simp [DV.nlL,DV.nl]) (by simp [DV.nlL,DV.nl]) ?_;have hn:=c_IsName d.name hB;repeat' ((with_reducible first|refine wr ?_|refine cpc hn ?_|refine wb2 ?_ ?_<;>(intro hb;try simp only [hb])|fail)<;>try simp only [go_sem,seval])
 all_goals (refine A6 (congrArg DV.bool ?_);simp_all [A1m]<;>omega)
theorem c_vS1 (e:Ex) (hB:e.sz<=100000000):PC Tryz.prog 161 [e.v] (.bool (!X5 e)):=by
 refine PC.ofT A9 rfl (A0B rfl) (by simp [DV.nlL,DV.nl]) (by simp [DV.nlL,DV.nl]) ?_;have h:=c_ValidExpr e hB;rw [Ex.v_w] at h ⊢;repeat' ((with_reducible first|apply wr|refine cpc h ?_|fail)<;>try simp only [go_sem,seval])
 exact A6 rfl
theorem D2v (d:Nat) (s:Pb.St):R6 d s=(C9z s.kind && (s.args.length == (M2 s.kind).args && s.args.all X5) &&
   ((if (M2 s.kind).name=true then D8 s.name else s.name == []) && (if (M2 s.kind).text=true then U0 s.text else s.text == [])) &&
   (((M2 s.kind).thn || s.thn.isEmpty) && ((M2 s.kind).els || s.els.isEmpty)) && (N8 s.thn (d+1) && N8 s.els (d+1))):=by
 cases s with|mk k n t a x y p=>rw [R6];rfl
theorem B2t {α : Type} (g : α -> Bool) (l:List α):l.any (fun x => !g x) = !l.all g:=by
 induction l with
 | nil=>rfl
 | cons x l ih=>rw [List.any_cons,A2M,ih,Bool.not_and]
theorem c_vSt (s:Pb.St) (d:Nat) (hd:d<=1000000000) (hB:s.sz<=100000000) (hX:PC Tryz.prog 123 [F3 s.thn,I64 (d+1:Nat)] (.bool (N8 s.thn (d+1)))) (hY:PC Tryz.prog 123 [F3 s.els,I64 (d+1:Nat)] (.bool (N8 s.els (d+1)))) :
  PC Tryz.prog 150 [s.v,I64 d] (.bool (R6 d s)):=by
 rw [D2v];have hsa:Ex.szs s.args<s.sz:=by cases s with|mk k n t a x y p=>rw [Pb.St.sz];show Ex.szs a<_;omega
 have hal:=Ex.szs_len s.args;have hxl:=Pb.St.szs_len s.thn;have hyl:=Pb.St.szs_len s.els;have hxs:=s.sz_thn;have hys:=s.sz_els;have hnl:=s.sz_name;have htl:=s.sz_text;have hn:=c_IsName s.name (by omega);have ht:=c_isText s.text (by omega);have hsh:=c_shapeOf s.kind;have hca:=c_CF_ex (f:=161) (a:=[]) (cs:=[]) (g:=fun e => !X5 e) s.args (by omega) rfl rfl (fun x hx=>c_vS1 x (by have:=Ex.szs_mem hx;omega));rw [B2t] at hca;have hw:=w64 (n:=(d:Int)+1) (by omega) (by omega);refine PC.ofT A9 rfl (A0B rfl) (by rw [Pb.St.v_w];simp [DV.nlL,DV.nl,Y1,Q2]) rfl ?_;cases s with|mk k n t a x y p =>
 dsimp only [Pb.St.kind,Pb.St.name,Pb.St.text,Pb.St.args,Pb.St.thn,Pb.St.els,Pb.St.pos] at *;have hX:PC Tryz.prog 123 [F3 x,I64 ((d:Int)+1)] (.bool (N8 x (d+1))):=hX;have hY:PC Tryz.prog 123 [F3 y,I64 ((d:Int)+1)] (.bool (N8 y (d+1))):=hY;have ev:(Pb.St.mk k n t a x y p).v=.agg [I64 k,.str n,.str t,I3 a,F3 x,F3 y,I64 p]:=Pb.St.v_w _;rw [ev];generalize N8 x (d+1)=bx at *;generalize N8 y (d+1)=bY at *;generalize C9z k=kb at *;obtain ⟨nb,tb,ar,xb,yb,hs⟩:∃ nb tb ar xb yb,M2 k=⟨nb,tb,ar,xb,yb⟩:=⟨_,_,_,_,_,rfl⟩;simp only [hs,Shp.v] at hsh ⊢;have kA:∀ (cc:Nat) (nm tx:Bool),IW Tryz.prog 86 (pz Tryz.prog 150 (.i (.i (.o (.i .h))))) ⟨tm [(1,I64 d),(2,.ptr 0 0),(5,.ptr 1 0),(7,.bool nm),(8,.bool tx)],(Sym.nil.upd 0 ⟨0,true,[I64 k,.str n,.str t,I3 a,F3 x,F3 y,I64 p]⟩).upd 1 ⟨0,true,[.bool nb,.bool tb,I64 ar,.bool xb,.bool yb]⟩,cc⟩ (rt [.tmp 4] fun v H' c => ∃ H2,GL H' [v] H2 [.bool ((nm && tx) && ((xb || x.isEmpty) && (yb || y.isEmpty)) && (bx && bY))]):=by
  intro cc nm tx;have ex:x.isEmpty = !decide ((x.length:Int)>0):=by cases x<;>simp
  have ey:y.isEmpty = !decide ((y.length:Int)>0):=by cases y<;>simp
  rw [ex,ey];cases nm with
  | false =>
   repeat' ((with_reducible apply wr)<;>try simp only [go_sem,seval])
   exact A6 (by simp)
  | true =>
  cases tx with
  | false =>
   repeat' ((with_reducible apply wr)<;>try simp only [go_sem,seval])
   exact A6 (by simp)
  | true =>
  generalize hlx:decide ((x.length:Int)>0)=lx at *;generalize hly:decide ((y.length:Int)>0)=ly at *;cases bx<;>cases bY<;>cases xb<;>cases lx<;>cases yb<;>cases ly;all_goals (repeat' ((with_reducible first|apply wr|refine cpc hX ?_|refine cpc hY ?_|fail)<;>try simp only [go_sem,seval,hlx,hly,hw,A0D]))
  all_goals exact A6 rfl
 have kB:∀ cc:Nat,IW Tryz.prog 86 (pz Tryz.prog 150 (.i (.i (.i .h)))) ⟨tm [(1,I64 d),(2,.ptr 0 0),(5,.ptr 1 0),(7,.bool (n == [])),(8,.bool (t == []))],(Sym.nil.upd 0 ⟨0,true,[I64 k,.str n,.str t,I3 a,F3 x,F3 y,I64 p]⟩).upd 1 ⟨0,true,[.bool nb,.bool tb,I64 ar,.bool xb,.bool yb]⟩,cc⟩ (rt [.tmp 4] fun v H' c => ∃ H2,GL H' [v] H2 [.bool (((if nb=true then D8 n else n == []) && (if tb=true then U0 t else t == [])) && ((xb || x.isEmpty) && (yb || y.isEmpty)) && (bx && bY))]):=by
  intro cc;cases nb<;>cases tb;all_goals (repeat' ((with_reducible first|refine G8 (p:=IW _ _ (pz Tryz.prog 150 (.i (.i (.o (.i .h))))) _ _) ?_|refine wr ?_|refine cpc hn ?_|refine cpc ht ?_|fail)<;>try simp only [go_sem,seval]))
  all_goals (refine IW.stage ?_ (kA _ _ _);simp [C3,tm,Tm.upd])
 cases kb with
 | false =>
  repeat' ((with_reducible first|apply wr|refine cpc hsh ?_|fail)<;>try simp only [go_sem,seval])
  exact A6 (by simp)
 | true =>
 by_cases hal2:a.length=ar
 ·have d0:((a.length:Int) != (ar:Int))=false:=by simp [hal2]
  cases hall:a.all X5 with
  | false =>
   rw [hall] at hca;repeat' ((with_reducible first|apply wr|refine cpc hsh ?_|refine cpc hca ?_|fail)<;>try simp only [go_sem,seval,d0,A0D])
   exact A6 (by simp)
  | true =>
   rw [hall] at hca;have e1:(a.length == ar)=true:=by simpa using hal2
   rw [e1];simp only [A1N];repeat' ((with_reducible first|refine G8 (p:=IW _ _ (pz Tryz.prog 150 (.i (.i (.i .h)))) _ _) ?_|refine wr ?_|refine cpc hsh ?_|refine cpc hca ?_|fail)<;>try simp only [go_sem,seval,d0,A0D,A1])
   refine IW.stage (L:=[(1,I64 d),(2,.ptr 0 0),(5,.ptr 1 0),(7,.bool (n == [])),(8,.bool (t == []))]) ?_ (kB _);simp [C3,tm,Tm.upd]
 ·have d0:((a.length:Int) != (ar:Int))=true:=by simp;omega
  repeat' ((with_reducible first|apply wr|refine cpc hsh ?_|fail)<;>try simp only [go_sem,seval,d0,A0D])
  exact A6 (by simp;omega)
theorem c_vB1 (s:Pb.St) (d:Nat) (h:PC Tryz.prog 150 [s.v,I64 d] (.bool (R6 d s))):PC Tryz.prog 149 [s.v,.fptr [I64 d]] (.bool (!R6 d s)):=by
 rw [Pb.St.v_w] at h ⊢;refine PC.ofT A9 rfl (A0B rfl) (by simp [DV.nlL,DV.nl]) (by simp [DV.nlL,DV.nl]) ?_;repeat' ((with_reducible first|apply wr|refine cpc h ?_|fail)<;>try simp only [go_sem,seval])
 exact A6 rfl
theorem A9t (d:Nat):∀ l:List Pb.St,G7 d l=l.all (R6 d)
 | []=>by rw [G7];rfl
 | s :: l=>by rw [G7,A9t d l];rfl
theorem c_validBlock:∀ (m:Nat) (l:List Pb.St) (d:Nat),Pb.St.szs l<m->Pb.St.szs l<=100000000->d+Pb.St.szs l<=1000000000->PC Tryz.prog 123 [F3 l,I64 d] (.bool (N8 l d)):=by
 intro m
 induction m with
 | zero=>intro l d h;omega
 | succ m ih =>
 intro l d hm hB hd;have hl:=Pb.St.szs_len l;have hcf:=c_CF_st (f:=149) (a:=[]) (cs:=[.fptr [I64 d]]) (g:=fun s => !R6 d s) l (by omega) rfl rfl (fun s hs=>by
  have h1:=Pb.St.szs_mem hs;have h2:=s.sz_thn;have h3:=s.sz_els;exact c_vB1 s d (c_vSt s d (by omega) (by omega) (ih _ _ (by omega) (by omega) (by omega)) (ih _ _ (by omega) (by omega) (by omega))))
 rw [B2t, <- A9t] at hcf;refine PC.ofT A9 rfl (A0B rfl) (by simp [DV.nlL,DV.nl,Q2]) rfl ?_;have el:l.isEmpty = !decide ((l.length:Int)>0):=by cases l<;>simp
 have e64:decide (l.length<=64) = !decide ((l.length:Int)>64):=by rw [<- decide_not];exact decide_eq_decide.2 (by omega)
 have e8:decide (d<=8) = !decide ((d:Int)>8):=by rw [<- decide_not];exact decide_eq_decide.2 (by omega)
 unfold N8;rw [el,e64,e8];repeat' ((first|(with_reducible first|refine wr ?_)|(with_reducible refine wb2 ?_ ?_<;>(intro hb;try simp only [hb]))|(refine AC.call (hcf.lend rfl (GL.one (id:=0) (b:=⟨0,true,[I64 d]⟩) rfl rfl (.cons _ _ _ _ (.same _) (.cons _ _ _ _ (.func _ _ _ _ _ .nil (.cons _ _ _ _ (.ptr 0 _ (A0R _) rfl) .nil)) .nil)))) ?_<;>rintro v H' c' ⟨rfl,rfl,rfl⟩ hcc)|fail)<;>try simp only [go_sem,seval,A0D])
 all_goals (refine A6 (congrArg DV.bool ?_);simp_all)
theorem c_validHd (h:Hd) (hB:Pb.St.szs h.body<=100000000):PC Tryz.prog 123 [F3 h.body,I64 1] (.bool (N8 h.body 1)) :=
 c_validBlock _ h.body 1 (A2Z _) hB (by omega)
theorem D9k (h:Hd):h.v=.agg [I64 h.trig,.str h.name,F3 h.body,I64 h.pos]:=rfl
theorem c_validMode (d:Md) (hB:d.sz<=100000000):PC Tryz.prog 84 [d.v] (.bool (W0 d)):=by
 have hsz:d.sz=1+d.name.length+(d.hds.map Hd.sz).sum:=rfl;have hhl:d.hds.length<=(d.hds.map Hd.sz).sum:=H5 fun x _=>by show 1<=1+_+_;omega
 have hn:=c_IsName d.name (by omega);refine PC.ofT A9 rfl (A0B rfl) (by simp [Md.v,DV.nlL,DV.nl,A7f]) rfl ?_;have ev:d.v=.agg [.str d.name,I64 d.prio,S2 d.hds,I64 d.pos]:=rfl;rw [ev];cases hnm:D8 d.name with
 | false =>
  rw [hnm] at hn;repeat' ((with_reducible first|apply wr|refine cpc hn ?_|fail)<;>try simp only [go_sem,seval])
  exact A6 (by simp [W0,hnm])
 | true =>
 rw [hnm] at hn;by_cases p0:d.prio<0
 ·have q0:decide (d.prio<0)=true:=by simpa using p0
  repeat' ((with_reducible first|apply wr|refine cpc hn ?_|fail)<;>try simp only [go_sem,seval,q0])
  exact A6 (by simp [W0,hnm];omega)
 have q0:decide (d.prio<0)=false:=by simpa using p0
 by_cases p1:d.prio>2147483647
 ·have q1:decide (d.prio>2147483647)=true:=by simpa using p1
  repeat' ((with_reducible first|apply wr|refine cpc hn ?_|fail)<;>try simp only [go_sem,seval,q0,q1])
  exact A6 (by simp [W0,hnm];omega)
 have q1:decide (d.prio>2147483647)=false:=by simpa using p1
 by_cases p2:d.hds.length>32
 ·have q2:decide ((d.hds.length:Int)>32)=true:=by simp;omega
  repeat' ((with_reducible first|apply wr|refine cpc hn ?_|fail)<;>try simp only [go_sem,seval,q0,q1,q2,A0D])
  exact A6 (by simp [W0,hnm];omega)
 have q2:decide ((d.hds.length:Int)>32)=false:=by simp;omega
 have er:W0 d=d.hds.all A1h:=by
  unfold W0;rw [hnm,show decide (0<=d.prio)=true by simp;omega,show decide (d.prio<=2147483647)=true by simp;omega,show decide (d.hds.length<=32)=true by simp;omega];rfl
 rw [er];repeat' ((with_reducible first|apply wr|refine cpc hn ?_|fail)<;>try simp only [go_sem,seval,q0,q1,q2,A0D])
 refine C2 (fun k:Nat=>[(27,S2 d.hds),(28,I64 d.hds.length),(29,I64 k)]) (fun _=>Sym.nil) (fun k _=>k<=d.hds.length/\(d.hds.take k).all A1h=true) (fun k=>d.hds.length-k) 0 (by simp [C3,tm,Tm.upd]) (Sub.nil _) ⟨A0R _,rfl⟩ ?_;rintro k cc ⟨hk,he⟩;by_cases hlt:k<d.hds.length
 ·have hd:decide ((k:Int)<d.hds.length)=true:=by simpa using hlt
  have hg:=A0C hlt;have hw:=w64 (n:=(k:Int)+1) (by omega) (by omega);have hs:d.hds[k].sz<=(d.hds.map Hd.sz).sum:=J2 (A0O hlt);generalize d.hds[k]=h at hg hs;have hhs:h.sz=1+h.name.length+Pb.St.szs h.body:=rfl;have hn2:=c_IsName h.name (by omega);have hb2:=c_validHd h (by omega);have hf:=A5b A1h d.hds k _ hg;have ht:=A2v A1h d.hds k _ hg;have eh:A1h h=(decide (1<=h.trig) && decide (h.trig<=6) && (if 3<=h.trig then D8 h.name else h.name == []) && N8 h.body 1):=rfl;by_cases t3:3<=h.trig
  ·have u3:decide (h.trig≥3)=true:=by simpa using t3
   rw [if_pos t3] at eh;repeat' ((with_reducible first|refine wr ?_|refine cpc hn2 ?_|refine cpc hb2 ?_|refine wb2 ?_ ?_<;>(intro hb;try simp only [hb])|fail)<;>try simp only [go_sem,seval,hd,hg,hw,u3,D9k,A0,A1])
   all_goals first
    | (refine A6 (congrArg DV.bool (hf ?_).symm);rw [eh];clear hf ht eh er;simp_all<;>omega)
    | (refine ⟨k+1,rfl,Sub.nil _,inv ⟨by omega,?_⟩,by omega⟩;rw [ht,he,eh];clear hf ht eh er;simp_all<;>omega)
  ·have u3:decide (h.trig≥3)=false:=by simpa using t3
   rw [if_neg t3] at eh;repeat' ((with_reducible first|refine wr ?_|refine cpc hn2 ?_|refine cpc hb2 ?_|refine wb2 ?_ ?_<;>(intro hb;try simp only [hb])|fail)<;>try simp only [go_sem,seval,hd,hg,hw,u3,D9k,A0,A1])
   all_goals first
    | (refine A6 (congrArg DV.bool (hf ?_).symm);rw [eh];clear hf ht eh er;simp_all<;>omega)
    | (refine ⟨k+1,rfl,Sub.nil _,inv ⟨by omega,?_⟩,by omega⟩;rw [ht,he,eh];clear hf ht eh er;simp_all<;>omega)
 have hd:decide ((k:Int)<d.hds.length)=false:=by simpa using hlt
 have hall:=A9f A1h d.hds k (by omega) he;repeat' ((with_reducible apply wr)<;>try simp only [go_sem,seval,hd])
 exact A6 (by rw [hall])
theorem c_V1 (d:Dc) (hB:d.name.length<=1000000000):PC Tryz.prog 80 [d.v] (.bool (!A1m d)):=by
 have h:=c_validDecl d hB;have ev:d.v=.agg [I64 d.kind,.str d.name,I64 d.value,I64 d.pos]:=rfl;rw [ev] at h ⊢;refine PC.ofT A9 rfl (A0B rfl) (by simp [DV.nlL,DV.nl]) (by simp [DV.nlL,DV.nl]) ?_;repeat' ((with_reducible first|apply wr|refine cpc h ?_|fail)<;>try simp only [go_sem,seval])
 exact A6 rfl
theorem c_V2 (d:Md) (hB:d.sz<=100000000):PC Tryz.prog 83 [d.v] (.bool (!W0 d)):=by
 have h:=c_validMode d hB;have ev:d.v=.agg [.str d.name,I64 d.prio,S2 d.hds,I64 d.pos]:=rfl;rw [ev] at h ⊢;refine PC.ofT A9 rfl (A0B rfl) (by simp [DV.nlL,DV.nl]) (by simp [DV.nlL,DV.nl]) ?_;repeat' ((with_reducible first|apply wr|refine cpc h ?_|fail)<;>try simp only [go_sem,seval])
 exact A6 rfl
theorem c_Valid (r:Ru) (hB:r.sz<=100000000):PC Tryz.prog 40 [r.v] (.bool (R5 r)):=by
 obtain ⟨D,M⟩:=r;have hDs:(D.map Dc.sz).sum+(M.map Md.sz).sum<=100000000:=hB;have hDl:D.length<=(D.map Dc.sz).sum:=H5 fun x _=>by show 1<=1+_;omega
 have hMl:M.length<=(M.map Md.sz).sum:=H5 fun x _=>by show 1<=1+_+_;omega
 have h1:=c_CF_dc (f:=80) (a:=[]) (cs:=[]) (g:=fun e => !A1m e) D (by omega) rfl rfl (fun x hx=>c_V1 x (by
  have:x.sz<=(D.map Dc.sz).sum:=J2 hx;have e:x.sz=1+x.name.length:=rfl;omega))
 have h2:=c_CF_md (f:=83) (a:=[]) (cs:=[]) (g:=fun e => !W0 e) M (by omega) rfl rfl (fun x hx=>c_V2 x (by
  have:x.sz<=(M.map Md.sz).sum:=J2 hx;omega))
 rw [B2t] at h1 h2;refine PC.ofT A9 rfl (A0B rfl) (by simp [Ru.v,DV.nlL,DV.nl,H4,G9]) rfl ?_;dsimp only [Ru.v];unfold R5;dsimp only;have e1:decide (D.length<=128) = !decide ((D.length:Int)>128):=by rw [<- decide_not];exact decide_eq_decide.2 (by omega)
 have e2:decide (M.length<=16) = !decide ((M.length:Int)>16):=by rw [<- decide_not];exact decide_eq_decide.2 (by omega)
 rw [e1,e2];generalize D.all A1m=bD at *;generalize M.all W0=bM at *;repeat' ((with_reducible first|refine wr ?_|refine cpc h1 ?_|refine cpc h2 ?_|refine wb2 ?_ ?_<;>(intro hb;try simp only [hb])|fail)<;>try simp only [go_sem,seval,A0D])
 all_goals (refine A6 (congrArg DV.bool ?_);simp_all)
end Go.Proofs.YtnmkkggfgdfmeaaGreatDoor
set_option maxHeartbeats 4000000
namespace Go.Proofs.YtnmkkggfgdfmeaaGreatDoor
open Go.Eng (IC IOper DReg IFn B8)
open Go.Sym
abbrev x63:XT Tryz.prog 63:=mkF (by unfold B8;conv=>lhs;reduce;simp only [seval,u8n]) (fun h=>by conv=>lhs;cbv)
instance t63:FT Tryz.prog 63 x63.d:=x63.ft
abbrev x62:XT Tryz.prog 62:=mkF (by unfold B8;conv=>lhs;reduce;simp only [seval,u8n]) (fun h=>by conv=>lhs;cbv)
instance t62:FT Tryz.prog 62 x62.d:=x62.ft
abbrev x66:XT Tryz.prog 66:=mkF (by unfold B8;conv=>lhs;reduce;simp only [seval,u8n]) (fun h=>by conv=>lhs;cbv)
instance t66:FT Tryz.prog 66 x66.d:=x66.ft
abbrev x103:XT Tryz.prog 103:=mkF (by unfold B8;conv=>lhs;reduce;simp only [seval,u8n]) (fun h=>by conv=>lhs;cbv)
instance t103:FT Tryz.prog 103 x103.d:=x103.ft
abbrev x102:XT Tryz.prog 102:=mkF (by unfold B8;conv=>lhs;reduce;simp only [seval,u8n]) (fun h=>by conv=>lhs;cbv)
instance t102:FT Tryz.prog 102 x102.d:=x102.ft
abbrev x61:XT Tryz.prog 61:=mkF (by unfold B8;conv=>lhs;reduce;simp only [seval,u8n]) (fun h=>by conv=>lhs;cbv)
instance t61:FT Tryz.prog 61 x61.d:=x61.ft
abbrev x106:XT Tryz.prog 106:=mkF (by unfold B8;conv=>lhs;reduce;simp only [seval,u8n]) (fun h=>by conv=>lhs;cbv)
instance t106:FT Tryz.prog 106 x106.d:=x106.ft
abbrev x68:XT Tryz.prog 68:=mkF (by unfold B8;conv=>lhs;reduce;simp only [seval,u8n]) (fun h=>by conv=>lhs;cbv)
instance t68:FT Tryz.prog 68 x68.d:=x68.ft
abbrev x67:XT Tryz.prog 67:=mkF (by unfold B8;conv=>lhs;reduce;simp only [seval,u8n]) (fun h=>by conv=>lhs;cbv)
instance t67:FT Tryz.prog 67 x67.d:=x67.ft
abbrev x105:XT Tryz.prog 105:=mkF (by unfold B8;conv=>lhs;reduce;simp only [seval,u8n]) (fun h=>by conv=>lhs;cbv)
instance t105:FT Tryz.prog 105 x105.d:=x105.ft
abbrev x65:XT Tryz.prog 65:=mkF (by unfold B8;conv=>lhs;reduce;simp only [seval,u8n]) (fun h=>by conv=>lhs;cbv)
instance t65:FT Tryz.prog 65 x65.d:=x65.ft
abbrev x34:XT Tryz.prog 34:=mkF (by unfold B8;conv=>lhs;reduce;simp only [seval,u8n]) (fun h=>by conv=>lhs;cbv)
instance t34:FT Tryz.prog 34 x34.d:=x34.ft
abbrev x41:XT Tryz.prog 41:=mkF (by unfold B8;conv=>lhs;reduce;simp only [seval,u8n]) (fun h=>by conv=>lhs;cbv)
instance t41:FT Tryz.prog 41 x41.d:=x41.ft
abbrev x85:XT Tryz.prog 85:=mkF (by unfold B8;conv=>lhs;reduce;simp only [seval,u8n]) (fun h=>by conv=>lhs;cbv)
instance t85:FT Tryz.prog 85 x85.d:=x85.ft
abbrev x42:XT Tryz.prog 42:=mkF (by unfold B8;conv=>lhs;reduce;simp only [seval,u8n]) (fun h=>by conv=>lhs;cbv)
instance t42:FT Tryz.prog 42 x42.d:=x42.ft
abbrev x86:XT Tryz.prog 86:=mkF (by unfold B8;conv=>lhs;reduce;simp only [seval,u8n]) (fun h=>by conv=>lhs;cbv)
instance t86:FT Tryz.prog 86 x86.d:=x86.ft
abbrev x47:XT Tryz.prog 47:=mkF (by unfold B8;conv=>lhs;reduce;simp only [seval,u8n]) (fun h=>by conv=>lhs;cbv)
instance t47:FT Tryz.prog 47 x47.d:=x47.ft
abbrev x43:XT Tryz.prog 43:=mkF (by unfold B8;conv=>lhs;reduce;simp only [seval,u8n]) (fun h=>by conv=>lhs;cbv)
instance t43:FT Tryz.prog 43 x43.d:=x43.ft
abbrev x57:XT Tryz.prog 57:=mkF (by unfold B8;conv=>lhs;reduce;simp only [seval,u8n]) (fun h=>by conv=>lhs;cbv)
instance t57:FT Tryz.prog 57 x57.d:=x57.ft
abbrev x48:XT Tryz.prog 48:=mkF (by unfold B8;conv=>lhs;reduce;simp only [seval,u8n]) (fun h=>by conv=>lhs;cbv)
instance t48:FT Tryz.prog 48 x48.d:=x48.ft
abbrev x96:XT Tryz.prog 96:=mkF (by unfold B8;conv=>lhs;reduce;simp only [seval,u8n]) (fun h=>by conv=>lhs;cbv)
instance t96:FT Tryz.prog 96 x96.d:=x96.ft
abbrev x89:XT Tryz.prog 89:=mkF (by unfold B8;conv=>lhs;reduce;simp only [seval,u8n]) (fun h=>by conv=>lhs;cbv)
instance t89:FT Tryz.prog 89 x89.d:=x89.ft
abbrev x44:XT Tryz.prog 44:=mkF (by unfold B8;conv=>lhs;reduce;simp only [seval,u8n]) (fun h=>by conv=>lhs;cbv)
instance t44:FT Tryz.prog 44 x44.d:=x44.ft
abbrev x97:XT Tryz.prog 97:=mkF (by unfold B8;conv=>lhs;reduce;simp only [seval,u8n]) (fun h=>by conv=>lhs;cbv)
instance t97:FT Tryz.prog 97 x97.d:=x97.ft
abbrev x58:XT Tryz.prog 58:=mkF (by unfold B8;conv=>lhs;reduce;simp only [seval,u8n]) (fun h=>by conv=>lhs;cbv)
instance t58:FT Tryz.prog 58 x58.d:=x58.ft
abbrev x87:XT Tryz.prog 87:=mkF (by unfold B8;conv=>lhs;reduce;simp only [seval,u8n]) (fun h=>by conv=>lhs;cbv)
instance t87:FT Tryz.prog 87 x87.d:=x87.ft
abbrev x17:XT Tryz.prog 17:=mkF (by unfold B8;conv=>lhs;reduce;simp only [seval,u8n]) (fun h=>by conv=>lhs;cbv)
instance t17:FT Tryz.prog 17 x17.d:=x17.ft
abbrev x46:XT Tryz.prog 46:=mkF (by unfold B8;conv=>lhs;reduce;simp only [seval,u8n]) (fun h=>by conv=>lhs;cbv)
instance t46:FT Tryz.prog 46 x46.d:=x46.ft
abbrev x28:XT Tryz.prog 28:=mkF (by unfold B8;conv=>lhs;reduce;simp only [seval,u8n]) (fun h=>by conv=>lhs;cbv)
instance t28:FT Tryz.prog 28 x28.d:=x28.ft
abbrev x91:XT Tryz.prog 91:=mkF (by unfold B8;conv=>lhs;reduce;simp only [seval,u8n]) (fun h=>by conv=>lhs;cbv)
instance t91:FT Tryz.prog 91 x91.d:=x91.ft
abbrev x50:XT Tryz.prog 50:=mkF (by unfold B8;conv=>lhs;reduce;simp only [seval,u8n]) (fun h=>by conv=>lhs;cbv)
instance t50:FT Tryz.prog 50 x50.d:=x50.ft
abbrev x21:XT Tryz.prog 21:=mkF (by unfold B8;conv=>lhs;reduce;simp only [seval,u8n]) (fun h=>by conv=>lhs;cbv)
instance t21:FT Tryz.prog 21 x21.d:=x21.ft
end Go.Proofs.YtnmkkggfgdfmeaaGreatDoor
namespace Go.Pb
variable [Go.Sym.Tab]
open Go.Sym
abbrev Er:=Option (Int × Int)
def cnD (l:List Dc) (k:Int):Nat:=l.countP (fun d=>d.kind == k)
def cnR (r:Ru) (k:Int):Nat:=if k=9 then r.modes.length else cnD r.decls k
def lkD (pre:List Dc):List Dc->List UInt8->Option (Int × Int)
 | [],_=>none
 | d :: l,n=>if d.name=n then some (d.kind,if d.kind<6 then d.value else (cnR ⟨pre,[]⟩ d.kind:Int)) else lkD (pre++[d]) l n
def lkM (i:Nat):List Md->List UInt8->Option (Int × Int)
 | [],_=>none
 | m :: l,n=>if m.name=n then some (9,(i:Int)) else lkM (i+1) l n
def K2 (r:Ru) (n:List UInt8):Int × Int:=match lkD [] r.decls n with
 | some q=>q
 | none=>match lkM 0 r.modes n with
  | some q=>q
  | none=>(0,0)
def dnM (r:Ru) (n:List UInt8) (k:Int):Int:=if k=0\/(K2 r n).1=k then 0 else if (K2 r n).1=0 then 8 else 44
def dnE (r:Ru) (n:List UInt8) (k p:Int):Er:=if dnM r n k=0 then none else some (p,dnM r n k)
def kdE (k:Int):Int:=if k=2 then 6 else if k=5 then 1 else if k=6 then 9 else if k=7 then 7 else 0
def kdS (k:Int):Int:=if k=1 then 6 else if k=5\/k=6\/k=7 then 2 else if k=8\/k=9 then 3 else if k=10\/k=11 then 7 else if k=12\/k=13 then 9 else if k=14 then 8 else if k=15 then 4 else if k=16\/k=17 then 5 else 0
def kdH (k:Int):Int:=if k=3\/k=4 then 1 else if k=5 then 7 else if k=6 then 8 else 0
def A3r (k:Int):Int:=if k=1 then 63 else if k=2 then 31 else if k=3\/k=4\/k=5 then 63 else 2147483647
def C1j (k:Int):Bool:=k == 3 || k == 4 || k == 5 || k == 6 || k == 11 || decide (17<=k)
def J1 (k:Int):Int:=if C1j k=true then 2 else 1
def P6 (k:Int) (a:List Ex):Int:=if k=11\/k=23\/k=24 then 2 else if k=21\/k=22 then (match a with
 | []=>1
 | x :: _=>J1 x.kind) else 1
mutual
def erE (r:Ru):Ex->Er
 | .mk k v n a p=>((N2 r a).or (dnE r n (kdE k) p)).or (if a.all (fun x=>J1 x.kind == P6 k a)=true then none else some (p,49))
def N2 (r:Ru):List Ex->Er
 | []=>none
 | x :: l=>(erE r x).or (N2 r l)
end
def tyV (r:Ru) (e:Ex):DV:=match erE r e with
 | some (p,c)=>.tup [I64 0,I64 p,I64 c]
 | none=>.tup [I64 (J1 e.kind),I64 0,I64 0]
def erA (r:Ru) (b:Bool):List Ex->Er
 | []=>none
 | x :: l=>((erE r x).or (if (J1 x.kind == 2)=b then none else some (x.pos,49))).or (erA r b l)
mutual
def erS (r:Ru):St->Er
 | .mk k n t a x y p=>(((dnE r n (kdS k) p).or (erA r (k == 2) a)).or (erB r x)).or (erB r y)
def erB (r:Ru):List St->Er
 | []=>none
 | s :: l=>(erS r s).or (erB r l)
end
def erD (pre:List Dc):List Dc->Er
 | []=>none
 | d :: l=>((if d.value>A3r d.kind then some (d.pos,5) else none:Er).or (if (K2 ⟨pre,[]⟩ d.name).1=0 then none else some (d.pos,7))).or (erD (pre++[d]) l)
def erP (D:List Dc) (pre:List Md):List Md->Er
 | []=>none
 | m :: l=>((if m.prio>99 then some (m.pos,5) else none:Er).or (if (K2 ⟨D,pre⟩ m.name).1=0 then none else some (m.pos,7))).or (erP D (pre++[m]) l)
def A6p (r:Ru):Er:=(erD [] r.decls).or (erP r.decls [] r.modes)
def erH (r:Ru) (pre:List Hd):List Hd->Er
 | []=>none
 | h :: l=>(((dnE r h.name (kdH h.trig) h.pos).or (if pre.any (fun x=>x.trig == h.trig && x.name == h.name)=true then some (h.pos,7) else none)).or (erB r h.body)).or (erH r (pre++[h]) l)
def erM (r:Ru):List Md->Er
 | []=>none
 | m :: l=>(erH r [] m.hds).or (erM r l)
def C1i (r:Ru):Er:=(A6p r).or (erM r r.modes)
def erV:Er->DV
 | some (p,c)=>.tup [I64 p,I64 c]
 | none=>.tup [I64 0,I64 0]
def A9c (r:Ru):DV:=if R5 r=true then erV (C1i r) else .tup [I64 0,I64 1]
mutual
def inE (n:List UInt8):Ex->Bool
 | .mk k v m a p=>(kdE k != 0 && m == n) || C0w n a
def C0w (n:List UInt8):List Ex->Bool
 | []=>false
 | x :: l=>inE n x || C0w n l
end
mutual
def inS (n:List UInt8):St->Bool
 | .mk k m t a x y p=>((m == n || C0w n a) || inB n x) || inB n y
def inB (n:List UInt8):List St->Bool
 | []=>false
 | s :: l=>inS n s || inB n l
end
def C1s (r:Ru) (n:List UInt8):Bool:=r.modes.any fun m=>m.hds.any fun h=>h.name == n || inB n h.body
def D7o (r:Ru):List (List UInt8):=(r.decls.filter fun d => !C1s r d.name).map Dc.name
theorem B7b (e:Er):(erV e).nl=true:=by cases e<;>rfl
theorem D3a (r:Ru) (e:Ex):(tyV r e).nl=true:=by unfold tyV;split<;>rfl
theorem C4x {D:List Dc} {i:Nat} {d:Dc} {n:List UInt8} (h:D[i]? = some d):lkD (D.take i) (D.drop i) n=if d.name=n then some (d.kind,if d.kind<6 then d.value else (cnR ⟨D.take i,[]⟩ d.kind:Int)) else lkD (D.take (i+1)) (D.drop (i+1)) n:=by
 have hlt:=(A0K.1 h).1;rw [A1C hlt,(A0K.1 h).2,lkD,A1B,h];rfl
theorem C4w {M:List Md} {i:Nat} {m:Md} {n:List UInt8} (h:M[i]? = some m):lkM i (M.drop i) n=if m.name=n then some (9,(i:Int)) else lkM (i+1) (M.drop (i+1)) n:=by
 have hlt:=(A0K.1 h).1;rw [A1C hlt,(A0K.1 h).2,lkM]
theorem C1a {r:Ru} {l:List Ex} {i:Nat} {x:Ex} (h:l[i]? = some x):N2 r (l.drop i)=(erE r x).or (N2 r (l.drop (i+1))):=by
 have hlt:=(A0K.1 h).1;rw [A1C hlt,(A0K.1 h).2,N2]
theorem C6i {r:Ru} {b:Bool} {l:List Ex} {i:Nat} {x:Ex} (h:l[i]? = some x):erA r b (l.drop i)=((erE r x).or (if (J1 x.kind == 2)=b then none else some (x.pos,49))).or (erA r b (l.drop (i+1))):=by
 have hlt:=(A0K.1 h).1;rw [A1C hlt,(A0K.1 h).2,erA]
theorem C6h {r:Ru} {l:List St} {i:Nat} {x:St} (h:l[i]? = some x):erB r (l.drop i)=(erS r x).or (erB r (l.drop (i+1))):=by
 have hlt:=(A0K.1 h).1;rw [A1C hlt,(A0K.1 h).2,erB]
theorem C6b {r:Ru} {l:List Md} {i:Nat} {x:Md} (h:l[i]? = some x):erM r (l.drop i)=(erH r [] x.hds).or (erM r (l.drop (i+1))):=by
 have hlt:=(A0K.1 h).1;rw [A1C hlt,(A0K.1 h).2,erM]
theorem S7 {α : Type} {l:List α} {i:Nat} {x : α} (h:l[i]? = some x):l.take i++[x]=l.take (i+1):=by
 rw [A1B,h];rfl
theorem C6g {D:List Dc} {i:Nat} {d:Dc} (h:D[i]? = some d):erD (D.take i) (D.drop i)=((if d.value>A3r d.kind then some (d.pos,5) else none:Er).or (if (K2 ⟨D.take i,[]⟩ d.name).1=0 then none else some (d.pos,7))).or (erD (D.take (i+1)) (D.drop (i+1))):=by
 have hlt:=(A0K.1 h).1;rw [A1C hlt,(A0K.1 h).2,erD,S7 h]
theorem C6a {D:List Dc} {M:List Md} {i:Nat} {m:Md} (h:M[i]? = some m):erP D (M.take i) (M.drop i)=((if m.prio>99 then some (m.pos,5) else none:Er).or (if (K2 ⟨D,M.take i⟩ m.name).1=0 then none else some (m.pos,7))).or (erP D (M.take (i+1)) (M.drop (i+1))):=by
 have hlt:=(A0K.1 h).1;rw [A1C hlt,(A0K.1 h).2,erP,S7 h]
theorem C6e {r:Ru} {l:List Hd} {i:Nat} {h:Hd} (hg:l[i]? = some h):erH r (l.take i) (l.drop i)=(((dnE r h.name (kdH h.trig) h.pos).or (if (l.take i).any (fun x=>x.trig == h.trig && x.name == h.name)=true then some (h.pos,7) else none)).or (erB r h.body)).or (erH r (l.take (i+1)) (l.drop (i+1))):=by
 have hlt:=(A0K.1 hg).1;rw [A1C hlt,(A0K.1 hg).2,erH,S7 hg]
def NzE (e:Er):Prop:=∀ p c,e=some (p,c)->c≠0
theorem NzE.or {a b:Er} (ha:NzE a) (hb:NzE b):NzE (a.or b):=by
 intro p c h;cases a with
 | none=>exact hb p c (by simpa using h)
 | some q=>exact ha p c (by simpa using h)
theorem A0s:NzE none:=fun p c h=>by cases h
theorem B8j {b:Prop} [Decidable b] {p c:Int} (h:c≠0):NzE (if b then none else some (p,c)):=by
 intro p' c' e;split at e
 ·cases e
 ·cases e;exact h
theorem B1u {b:Prop} [Decidable b] {p c:Int} (h:c≠0):NzE (if b then some (p,c) else none):=by
 intro p' c' e;split at e
 ·cases e;exact h
 ·cases e
theorem B0b (r:Ru) (n:List UInt8) (k p:Int):NzE (dnE r n k p):=by
 intro p' c h;unfold dnE at h;split at h
 ·cases h
 ·cases h;assumption
mutual
theorem C4h (r:Ru):∀ e:Ex,NzE (erE r e)
 | .mk k v n a p=>by rw [erE];exact ((B3x r a).or (B0b _ _ _ _)).or (B8j (by decide))
theorem B3x (r:Ru):∀ l:List Ex,NzE (N2 r l)
 | []=>by rw [N2];exact A0s
 | x :: l=>by rw [N2];exact (C4h r x).or (B3x r l)
end
theorem C4i (r:Ru) (b:Bool):∀ l:List Ex,NzE (erA r b l)
 | []=>by rw [erA];exact A0s
 | x :: l=>by rw [erA];exact ((C4h r x).or (B8j (by decide))).or (C4i r b l)
mutual
theorem E2b (r:Ru):∀ e:St,NzE (erS r e)
 | .mk k n t a x y p=>by rw [erS];exact (((B0b _ _ _ _).or (C4i _ _ _)).or (B1v r x)).or (B1v r y)
theorem B1v (r:Ru):∀ l:List St,NzE (erB r l)
 | []=>by rw [erB];exact A0s
 | x :: l=>by rw [erB];exact (E2b r x).or (B1v r l)
end
theorem C8x:∀ (l pre:List Dc),NzE (erD pre l)
 | [],pre=>by rw [erD];exact A0s
 | d :: l,pre=>by rw [erD];exact ((B1u (by decide)).or (B8j (by decide))).or (C8x l _)
theorem D4r (D:List Dc):∀ (l pre:List Md),NzE (erP D pre l)
 | [],pre=>by rw [erP];exact A0s
 | d :: l,pre=>by rw [erP];exact ((B1u (by decide)).or (B8j (by decide))).or (D4r D l _)
theorem C4g (r:Ru):NzE (A6p r):=(C8x _ _).or (D4r _ _ _)
theorem D4s (r:Ru):∀ (l pre:List Hd),NzE (erH r pre l)
 | [],pre=>by rw [erH];exact A0s
 | d :: l,pre=>by rw [erH];exact (((B0b _ _ _ _).or (B1u (by decide))).or (B1v r _)).or (D4s r l _)
theorem D8l (r:Ru):∀ (l:List Md),NzE (erM r l)
 | []=>by rw [erM];exact A0s
 | d :: l=>by rw [erM];exact (D4s r _ _).or (D8l r l)
theorem B8r {k:Int}:∀ {i:Nat} {l:List Ex} {q:Nat × Nat},msL k i l=some q->∀ x∈l, ∃ q,msM x=some q
 | i,[],q,h,x,hx=>by cases hx
 | i,e :: l,q,h,x,hx=>by
  rw [msL] at h;cases he:msM e with
  | none=>rw [he] at h;cases h
  | some q1 =>
   rw [he] at h;dsimp only at h;cases hl:msL k (i+1) l with
   | none=>rw [hl] at h;cases h
   | some q2 =>
    rcases A1D.1 hx with rfl|hx
    ·exact ⟨_,he⟩
    ·exact B8r hl x hx
theorem B2a {e:Ex} {q:Nat × Nat} (h:msM e=some q):∀ x∈e.args, ∃ q,msM x=some q:=by
 cases e with|mk k v n a p =>
 obtain ⟨o,d⟩:=q;obtain ⟨m1,m2,m3,m4,m5,m6⟩:=A5q h;intro x hx;by_cases hc:J6 k=0
 ·have:a=[]:=A1V (by omega);subst this;cases hx
 ·obtain ⟨d',h1, -⟩:=m6 hc;exact B8r h1 x hx
theorem C4p {e:Ex} {q:Nat × Nat} (h:msM e=some q) (hk:e.kind=21\/e.kind=22):e.args.length=2:=by
 cases e with|mk k v n a p =>
 obtain ⟨o,d⟩:=q;obtain ⟨m1,m2,m3,m4,m5,m6⟩:=A5q h;show a.length=2;rw [m2];rcases hk with hk|hk
 all_goals (have hk:k=_:=hk;subst hk;decide)
theorem D2d (r:Ru) (s:St):erS r s=(((dnE r s.name (kdS s.kind) s.pos).or (erA r (s.kind == 2) s.args)).or (erB r s.thn)).or (erB r s.els):=by
 cases s with|mk k n t a x y p=>rw [erS];rfl
theorem A5f {d:Nat}:∀ {l:List St},G7 d l=true->∀ s∈l,R6 d s=true
 | s0 :: l,h,s,hs=>by
  rw [G7,A0G] at h;rcases A1D.1 hs with rfl|hs
  ·exact h.1
  ·exact A5f h.2 s hs
theorem A3h {d:Nat} {s:St} (h:R6 d s=true):(∀ x∈s.args, ∃ q,msM x=some q)/\G7 (d+1) s.thn=true/\G7 (d+1) s.els=true:=by
 cases s with|mk k n t a x y p =>
 rw [R6] at h;simp only [A0G] at h;refine ⟨fun e he=>?_,h.2.1.2,h.2.2.2⟩;have h1:=A0U.1 h.1.1.1.2.2 e he;unfold X5 at h1;cases hm:msM e with
 | none=>rw [hm] at h1;cases h1
 | some q=>exact ⟨q,rfl⟩
theorem A7u {r:Ru} (h:R5 r=true):∀ m∈r.modes, ∀ x∈m.hds,G7 1 x.body=true:=by
 intro m hm x hx;unfold R5 at h;simp only [A0G] at h;have h1:=A0U.1 h.2 m hm;unfold W0 at h1;simp only [A0G] at h1;have h2:=A0U.1 h1.2 x hx;unfold A1h at h2;simp only [A0G] at h2;have h3:=h2.2;unfold N8 at h3;simp only [A0G] at h3;exact h3.2
theorem C2n {r:Ru} {m:Md} (h:m∈r.modes):m.sz<=r.sz:=by
 have:m.sz<=(r.modes.map Md.sz).sum:=J2 h;show _<=(r.decls.map Dc.sz).sum+(r.modes.map Md.sz).sum;omega
theorem C2p {m:Md} {x:Hd} (h:x∈m.hds):x.sz<=m.sz:=by
 have:x.sz<=(m.hds.map Hd.sz).sum:=J2 h;show _<=1+m.name.length+(m.hds.map Hd.sz).sum;omega
theorem A9u (r:Ru):r.decls.length<=r.sz:=by
 have:r.decls.length<=(r.decls.map Dc.sz).sum:=H5 fun x _=>by show 1<=1+_;omega
 show _<=(r.decls.map Dc.sz).sum+(r.modes.map Md.sz).sum;omega
theorem A7z (r:Ru):r.modes.length<=r.sz:=by
 have:r.modes.length<=(r.modes.map Md.sz).sum:=H5 fun x _=>by show 1<=1+_+_;omega
 show _<=(r.decls.map Dc.sz).sum+(r.modes.map Md.sz).sum;omega
theorem C2o (m:Md):m.hds.length<=m.sz:=by
 have:m.hds.length<=(m.hds.map Hd.sz).sum:=H5 fun x _=>by show 1<=1+_+_;omega
 show _<=1+m.name.length+(m.hds.map Hd.sz).sum;omega
theorem A6b {α : Type} (p : α -> Bool) (l:List α) (k:Nat) (x : α) (hx:l[k]? = some x):(l.take (k+1)).any p=((l.take k).any p || p x):=by
 rw [A1B,hx,List.any_append];simp
end Go.Pb
end
