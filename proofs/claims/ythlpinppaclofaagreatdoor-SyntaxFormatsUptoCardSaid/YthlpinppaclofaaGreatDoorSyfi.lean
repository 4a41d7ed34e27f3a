/-
  HELPERS of the claim: part 9 of its texts.
-/
import Derived.Test.YthlpinppaclofaaGreatDoorSyfh
import Derived.Test.YthlpinppaclofaaGreatDoorProg
import Derived.Test.YthlpinppaclofaaGreatDoorRows
noncomputable section
set_option maxHeartbeats 8000000
set_option maxRecDepth 100000
set_option linter.unusedSimpArgs false
set_option linter.unusedVariables false
namespace Go.Proofs.YthlpinppaclofaaGreatDoor
open Go.Eng (IC IOper DReg IFn C2)
open Go.Sym Go.Pb
theorem C4a {X H1:Hp} {o:Option Nat} {c n0:Nat} {b b3 b3':Blk} (hX:∀ j q,X j=some q->j<c) (ho:∀ i,o=some i->X i=none) (hH:∀ j,j<c->H1 j=C5 X o b j) (hn:c<=n0) (hb:b3=b3') :
  Sym.Sub (C5 X (some n0) b3) ((K3 H1 o).upd n0 b3'):=by
 subst hb;intro j q hj;simp only [C5] at hj;by_cases e:j=n0
 ·subst e;rw [A0] at hj ⊢;exact hj
 ·rw [A3 e] at hj ⊢;have h1:=hX j q hj;have h2:∀ i,o=some i->¬ j=i:=fun i hi e2=>by rw [e2,ho i hi] at hj;cases hj
  rw [E0 h2,hH j h1,D2 h2];exact hj
theorem A8w {H:Hp} {i:Nat} (h:H i=none):K3 H (some i)=H:=by
 funext j;rw [P4];split
 ·rename_i e;rw [e,h]
 ·rfl
theorem C1i {X:Hp} {o:Option Nat} {xs:List DV} {u n:Nat} (hno:o=none->xs=[]) (hl:xs.length=n) (hu:∀ x∈xs,x.cells.length=u) :
  ∃ H2,GL (C5 X o ⟨u,true,A4 xs⟩) [B6 o n] H2 [.lst xs]:=by
 cases o with
 | none=>rw [hno rfl];exact A1s
 | some i=>exact J0 (id:=i) A0 rfl hl hu ⟨[],by simp⟩
def wT2 (x y:List UInt8):List Tok:=[A6 x,A6 y]
theorem D6v {x y:List UInt8} {id cc:Nat} {H:Hp} (hb:H id=some ⟨1,true,[.str x,.str y]⟩) (hx:x.length<=1000000000) (hy:y.length<=1000000000) :
  AC Tryz.prog 96 [.slc id 0 2] H cc (fun v H' c'=>v=E4 (wT2 x y)/\H'=K3 H (some id)/\c'=cc):=wd2 hb hx hy
theorem B2c {X:Hp} {i j:Nat} (h:¬ j=i):(X.del i) j=X j:=by rw [show X.del i=K3 X (some i) from rfl,P4,if_neg h]
theorem A4s (l:List Tok):unit 4 (l.map Tok.v)=true:=by unfold unit;rw [A0P];intro d hd;simp [F0 l d hd]
theorem S7 (l:List Tok):(A4 (l.map Tok.v)).length=l.length * 4:=(B5 (u:=4) (F0 _)).trans (by simp)
theorem c_declT (d:Dc) (hn:d.name.length<=1000000000):PC Tryz.prog 94 [d.v] (E4 (dcT d)):=by
 refine PC.ofT B1 rfl (A0B rfl) rfl (N5 _) ?_;obtain ⟨R,hR⟩:∃ R,R=E4 (dcT d):=⟨_,rfl⟩;rw [<- hR];obtain ⟨k,n,v,p⟩:=d;unfold dcT at hR;dsimp only at hR hn ⊢;have hna:=c_named n hn;have hnu:=c_number31 v;have hnn:=c_number31 (-v);by_cases hbk:k<1\/8<k
 ·rw [if_pos hbk] at hR;by_cases h2:k<1
  ·have d2:decide (k<1)=true:=by simpa using h2
   repeat' ((with_reducible first|refine wr ?_|refine A2 ?_ ?_|fail)<;>try simp only [go_sem,seval,d2])
   rw [hR];exact J0 (id:=1) A0 rfl rfl (F0 [M6]) ⟨[],rfl⟩
  ·have d2:decide (k<1)=false:=by simp;omega
   have d3:decide (k>8)=true:=by simp;omega
   repeat' ((with_reducible first|refine wr ?_|refine A2 ?_ ?_|fail)<;>try simp only [go_sem,seval,d2,d3])
   rw [hR];exact J0 (id:=1) A0 rfl rfl (F0 [M6]) ⟨[],rfl⟩
 rw [if_neg hbk] at hR;have e2:decide (k<1)=false:=by simp;omega
 have e3:decide (k>8)=false:=by simp;omega
 try dsimp only at hR
 obtain ⟨j,hj⟩:∃ j:Nat,k=1+(j:Int):=⟨(k-1).toNat,by omega⟩;have hjw:IntKind.i64.wrap (k-1)=(j:Int):=by rw [w64 (by omega) (by omega)];omega
 have hjn:(k-1).toNat=j:=by omega
 rw [hjn] at hR;have hj8:j<8:=by omega
 have hgj:D1[j]? = some (D1.getD j []):=by
  rw [A0T,A0C (show j<D1.length from hj8)];rfl
 have hsl:(D1.getD j []).length<=1000000000:=by
  have:∀ i:Nat,i<8->(D1.getD i []).length<=1000000000:=by decide
  exact this j hj8
 generalize D1.getD j []=S at hR hgj hsl;by_cases h6:6<k
 ·have d6:decide (k>6)=true:=by simpa using h6
  rw [if_pos h6] at hR;repeat' ((first|(with_reducible first|refine wr ?_|refine cpc c_decls31 ?_|refine cpc hna ?_|refine A2 ?_ ?_)|(refine AC.call (wd1 rfl (by first|assumption|decide)) ?_<;>rintro _ _ _ ⟨rfl,rfl,rfl⟩ -)|(refine AC.call (jn2 rfl ?_ ?_) ?_<;>first|(constructor<;>(try simp only [A0A,lw,A5,B4,B2])<;>omega)|rintro _ _ _ ⟨rfl,rfl,rfl⟩ -)|(refine AC.call (jn3 rfl ?_ ?_ ?_) ?_<;>first|(constructor<;>(try simp only [A0A,lw,A5,B4,B2])<;>omega)|rintro _ _ _ ⟨rfl,rfl,rfl⟩ -)|fail)<;>try simp only [go_sem,seval,e2,e3,hjw,hgj,d6])
  exact ⟨_,by rw [hR];exact GL.refl _ _⟩
 rw [if_neg h6] at hR;have d6:decide (k>6)=false:=by simp;omega
 by_cases hm:v<0 /\ -2147483647<=v/\k=6
 ·obtain ⟨m1,m2,hk6⟩:=hm;have x3:(k == 6)=true:=by simpa using hk6
  have x1:decide (v<0)=true:=by simpa using m1
  have x2:decide (v ≥ -2147483647)=true:=by simpa using m2
  have hng:IntKind.i64.wrap (0-v) = -v:=by rw [w64 (by omega) (by omega)];omega
  rw [if_pos ⟨m1,m2,hk6⟩] at hR;repeat' ((first|(with_reducible first|refine wr ?_|refine cpc c_decls31 ?_|refine cpc hna ?_|refine cpc hnn ?_|refine A2 ?_ ?_)|(refine AC.call (wd1 rfl (by first|assumption|decide)) ?_<;>rintro _ _ _ ⟨rfl,rfl,rfl⟩ -)|(refine AC.call (jn2 rfl ?_ ?_) ?_<;>first|(constructor<;>(try simp only [A0A,lw,A5,B4,B2])<;>omega)|rintro _ _ _ ⟨rfl,rfl,rfl⟩ -)|(refine AC.call (jn3 rfl ?_ ?_ ?_) ?_<;>first|(constructor<;>(try simp only [A0A,lw,A5,B4,B2])<;>omega)|rintro _ _ _ ⟨rfl,rfl,rfl⟩ -)|fail)<;>try simp only [go_sem,seval,e2,e3,hjw,hgj,d6,x1,x2,x3,hng])
  exact ⟨_,by rw [hR];exact GL.refl _ _⟩
 rw [if_neg hm] at hR;by_cases m1:v<0
 ·have x1:decide (v<0)=true:=by simpa using m1
  by_cases m2 : -2147483647<=v
  ·have x2:decide (v ≥ -2147483647)=true:=by simpa using m2
   have x3:(k == 6)=false:=by simp;omega
   repeat' ((first|(with_reducible first|refine wr ?_|refine cpc c_decls31 ?_|refine cpc hna ?_|refine cpc hnu ?_|refine A2 ?_ ?_)|(refine AC.call (wd1 rfl (by first|assumption|decide)) ?_<;>rintro _ _ _ ⟨rfl,rfl,rfl⟩ -)|(refine AC.call (jn2 rfl ?_ ?_) ?_<;>first|(constructor<;>(try simp only [A0A,lw,A5,B4,B2])<;>omega)|rintro _ _ _ ⟨rfl,rfl,rfl⟩ -)|(refine AC.call (jn3 rfl ?_ ?_ ?_) ?_<;>first|(constructor<;>(try simp only [A0A,lw,A5,B4,B2])<;>omega)|rintro _ _ _ ⟨rfl,rfl,rfl⟩ -)|fail)<;>try simp only [go_sem,seval,e2,e3,hjw,hgj,d6,x1,x2,x3])
   exact ⟨_,by rw [hR];exact GL.refl _ _⟩
  ·have x2:decide (v ≥ -2147483647)=false:=by simp;omega
   repeat' ((first|(with_reducible first|refine wr ?_|refine cpc c_decls31 ?_|refine cpc hna ?_|refine cpc hnu ?_|refine A2 ?_ ?_)|(refine AC.call (wd1 rfl (by first|assumption|decide)) ?_<;>rintro _ _ _ ⟨rfl,rfl,rfl⟩ -)|(refine AC.call (jn2 rfl ?_ ?_) ?_<;>first|(constructor<;>(try simp only [A0A,lw,A5,B4,B2])<;>omega)|rintro _ _ _ ⟨rfl,rfl,rfl⟩ -)|(refine AC.call (jn3 rfl ?_ ?_ ?_) ?_<;>first|(constructor<;>(try simp only [A0A,lw,A5,B4,B2])<;>omega)|rintro _ _ _ ⟨rfl,rfl,rfl⟩ -)|fail)<;>try simp only [go_sem,seval,e2,e3,hjw,hgj,d6,x1,x2])
   exact ⟨_,by rw [hR];exact GL.refl _ _⟩
 ·have x1:decide (v<0)=false:=by simp;omega
  repeat' ((first|(with_reducible first|refine wr ?_|refine cpc c_decls31 ?_|refine cpc hna ?_|refine cpc hnu ?_|refine A2 ?_ ?_)|(refine AC.call (wd1 rfl (by first|assumption|decide)) ?_<;>rintro _ _ _ ⟨rfl,rfl,rfl⟩ -)|(refine AC.call (jn2 rfl ?_ ?_) ?_<;>first|(constructor<;>(try simp only [A0A,lw,A5,B4,B2])<;>omega)|rintro _ _ _ ⟨rfl,rfl,rfl⟩ -)|(refine AC.call (jn3 rfl ?_ ?_ ?_) ?_<;>first|(constructor<;>(try simp only [A0A,lw,A5,B4,B2])<;>omega)|rintro _ _ _ ⟨rfl,rfl,rfl⟩ -)|fail)<;>try simp only [go_sem,seval,e2,e3,hjw,hgj,d6,x1])
  exact ⟨_,by rw [hR];exact GL.refl _ _⟩
theorem c_rulesT (r:Ru) (hB:r.sz<4000000) (hT:(r.decls.flatMap dcT++r.modes.flatMap mdT).length<=100000000):PC Tryz.prog 55 [r.v] (E4 (ruT r)):=by
 refine PC.ofT B1 rfl (A0B rfl) (by simp [DV.nlL,DV.nl,M8,M7]) (N5 _) ?_;obtain ⟨R,hR⟩:∃ R,R=E4 (ruT r):=⟨_,rfl⟩;rw [<- hR];obtain ⟨D,M⟩:=r;dsimp only at hT;unfold ruT at hR;dsimp only [Ru.v] at hR ⊢;have hDs:(D.map Dc.sz).sum+(M.map Md.sz).sum<4000000:=hB;have hDl:D.length<=(D.map Dc.sz).sum:=H6 fun x _=>by show 1<=1+_;omega
 have hMl:M.length<=(M.map Md.sz).sum:=H6 fun x _=>by show 1<=1+_+_;omega
 repeat' ((with_reducible first|refine wr ?_|refine A2 ?_ ?_|fail)<;>try simp only [go_sem,seval])
 obtain ⟨F,hF⟩:∃ F:Nat->List Tok, ∀ k,F k=(D.take k).flatMap dcT:=⟨_,fun _=>rfl⟩;have hF0:F 0=[]:=by rw [hF];rfl
 have hFl:∀ k,(F k).length<=100000000:=fun k=>by
  have h1:D.flatMap dcT=F k++(D.drop k).flatMap dcT:=by rw [hF, <- A2M,A2S]
  rw [h1] at hT;simp only [A0A] at hT;omega
 refine D8 (fun q:Nat × Option Nat=>[(1,.ptr 0 0),(3,B6 q.2 (F q.1).length),(4,I64 q.1)]) (fun q=>C5 (Sym.nil.upd 0 ⟨0,true,[E8 D,G6 M]⟩) q.2 ⟨4,true,A4 ((F q.1).map Tok.v)⟩)
  (fun q c=>1<=c/\q.1<=D.length/\(q.2=none->F q.1=[])/\(∀ i,q.2=some i->1<=i/\i<c)) (fun q=>D.length-q.1) (0,none)
  (by simp [C9,tm,Tm.upd,B6]) (Sub.refl _) ⟨by omega,A0Y _,fun _=>hF0,(fun i hi=>by cases hi)⟩ ?_
 rintro ⟨k,o⟩ c ⟨hc,hk,hno,ho⟩;dsimp only at hc hk hno ho ⊢;have hbx:C5 (Sym.nil.upd 0 ⟨0,true,[E8 D,G6 M]⟩) o ⟨4,true,A4 ((F k).map Tok.v)⟩ 0=some ⟨0,true,[E8 D,G6 M]⟩:=by rw [D2 (fun i hi=>by have:=ho i hi;omega),A0]
 by_cases hlt:k<D.length
 ·have hd:decide ((k:Int)<(D.length:Int))=true:=by simpa using hlt
  have hg:=A0C hlt;have hsz:=J4 (f:=Dc.sz) (A0S hlt);have hdt:=c_declT D[k] (by have h5:D[k].name.length<Dc.sz D[k]:=(by unfold Dc.sz;omega);omega);have hdl:=B8b D[k];have hw:=w64 (n:=(k:Int)+1) (by omega) (by omega);have e0:F (k+1)=F k++dcT D[k]:=by rw [hF,hF,A1D,hg,A2M];simp
  have hFk:=hFl k;generalize D[k]=x at hg hdt hdl e0;have hun:unit 4 ((dcT x).map Tok.v)=true:=by unfold unit;rw [A0P];intro d hd;simp [F0 (dcT x) d hd]
  have hln:(A4 ((F k).map Tok.v)).length=(F k).length * 4:=(B5 (u:=4) (F0 _)).trans (by simp);repeat' ((with_reducible first|refine wr ?_|refine cpc hdt ?_|refine A2 ?_ ?_|fail)<;>try simp only [go_sem,seval,hd,hg,hw,hbx,T1 hun])
  refine C4 (E6 (cs:=A4 ((F k).map Tok.v)) (fun e=>by rw [hno e];exact ⟨rfl,rfl⟩) (fun i hi=>A0r hi) hln (by omega) (by omega) (by omega)) ?_;simp only [go_sem,seval,hw];repeat' ((with_reducible first|refine wr ?_|refine A2 ?_ ?_|fail)<;>try simp only [go_sem,seval,hw])
  refine ⟨(k+1,some c),by simp [C9,tm,Tm.upd,B6,e0],?_,inv ⟨by omega,by omega,(fun h=>by cases h),(fun i hi=>by cases hi;omega)⟩,by simp only;omega⟩;dsimp only;refine C4a (n0:=c) (c:=c) (fun j q hq=>?_) (fun i hi=>?_) (fun j hj=>rfl) (A0E _) (by rw [e0,A0M,C6])
  ·by_cases e:j=0
   ·omega
   ·rw [A3 e] at hq;cases hq
  ·have:=ho i hi;rw [A3 (by omega)];rfl
 ·have hd:decide ((k:Int)<(D.length:Int))=false:=by simpa using hlt
  repeat' ((with_reducible first|refine wr ?_|refine A2 ?_ ?_|fail)<;>try simp only [go_sem,seval,hd,hbx])
  have hFD:F k=D.flatMap dcT:=by rw [hF,A0I (by omega)]
  have hc0:=hc;obtain ⟨G,hG⟩:∃ G:Nat->List Tok, ∀ k,G k=D.flatMap dcT++(M.take k).flatMap mdT:=⟨_,fun _=>rfl⟩;have hG0:G 0=F k:=by rw [hG,hFD];simp
  have hGl:∀ k,(G k).length<=100000000:=fun k=>by
   have h1:M.flatMap mdT=(M.take k).flatMap mdT++(M.drop k).flatMap mdT:=by rw [<- A2M,A2S]
   rw [h1] at hT;rw [hG];simp only [A0A] at hT ⊢;omega
  refine D8 (fun q:Nat × Option Nat=>[(1,.ptr 0 0),(3,B6 q.2 (G q.1).length),(5,I64 q.1)]) (fun q=>C5 (Sym.nil.upd 0 ⟨0,true,[E8 D,G6 M]⟩) q.2 ⟨4,true,A4 ((G q.1).map Tok.v)⟩)
   (fun q c=>1<=c/\q.1<=M.length/\(q.2=none->G q.1=[])/\(∀ i,q.2=some i->1<=i/\i<c)/\((M.take q.1).any fun m=>m.hds.any T9)=false) (fun q=>M.length-q.1) (0,o)
   (by simp [C9,tm,Tm.upd,hG0]) (by dsimp only;rw [hG0];exact Sub.refl _) ⟨hc,A0Y _,(by dsimp only;rw [hG0];exact hno),ho,rfl⟩ ?_
  clear hbx hno ho hG0 hFD hFl hF0 hF hc hc0 hlt hd hk;rintro ⟨k,o⟩ c ⟨hc,hk,hno,ho,hbad⟩;dsimp only at hc hk hno ho hbad ⊢;have hbx:C5 (Sym.nil.upd 0 ⟨0,true,[E8 D,G6 M]⟩) o ⟨4,true,A4 ((G k).map Tok.v)⟩ 0=some ⟨0,true,[E8 D,G6 M]⟩:=by rw [D2 (fun i hi=>by have:=ho i hi;omega),A0]
  by_cases hlt:k<M.length
  ·have hd:decide ((k:Int)<(M.length:Int))=true:=by simpa using hlt
   have hg:=A0C hlt;have hsz:=J4 (f:=Md.sz) (A0S hlt);have hw:=w64 (n:=(k:Int)+1) (by omega) (by omega);have e0:G (k+1)=G k++mdT M[k]:=by rw [hG,hG,A1D,hg,A2M];simp
   have b0:((M.take (k+1)).any fun m=>m.hds.any T9)=(M[k].hds.any T9):=by rw [A1D,hg,List.any_append,hbad];simp
   have b1:(M[k].hds.any T9)=true->R=E4 [M6]:=fun h=>by rw [hR,if_pos (A3O.2 ⟨_,A0S hlt,h⟩)]
   have hGk:=hGl k;have hGk1:=hGl (k+1);generalize M[k]=m at hg hsz e0 b0 b1;have hln:(A4 ((G k).map Tok.v)).length=(G k).length * 4:=(B5 (u:=4) (F0 _)).trans (by simp);have hnl:m.name.length<=1000000000:=by
    have h5:m.name.length<Md.sz m:=by unfold Md.sz;omega
    omega
   have hna:=c_named m.name hnl;have hnu:=c_number31 m.prio;have hbo:∀ i:Nat,o=some i->C5 (Sym.nil.upd 0 ⟨0,true,[E8 D,G6 M]⟩) o ⟨4,true,A4 ((G k).map Tok.v)⟩ i=some ⟨4,true,A4 ((G k).map Tok.v)⟩:=fun i hi=>by subst hi;exact A0
   have hbn:∀ j:Nat,c<=j->C5 (Sym.nil.upd 0 ⟨0,true,[E8 D,G6 M]⟩) o ⟨4,true,A4 ((G k).map Tok.v)⟩ j=none:=fun j hj=>by rw [D2 (fun i hi=>by have:=ho i hi;omega),A3 (by omega)];rfl
   generalize hHH:C5 (Sym.nil.upd 0 ⟨0,true,[E8 D,G6 M]⟩) o ⟨4,true,A4 ((G k).map Tok.v)⟩=HH at hbx hbo hbn ⊢;have ne0:=P0 0 c (c+1+1) (c+1+9) (c+1+11) (by omega);have hd1:K3 HH (some (c+1+1))=HH:=A8w (hbn _ (by omega));have hd2:K3 HH (some (c+1+9))=HH:=A8w (hbn _ (by omega));have hd3:K3 HH (some (c+1+11))=HH:=A8w (hbn _ (by omega));repeat' ((with_reducible first|refine wr ?_|refine cpc hna ?_|refine cpc hnu ?_|refine A2 ?_ ?_|fail)<;>try simp only [go_sem,seval,hd,hg,hw,hbx,ne0,A0,A1])
   refine AC.call (wd1 (x:=[109,111,100,101]) (by simp [Q6,Hp.upd]) (by decide)) ?_;rintro v H' c2 ⟨rfl,rfl,rfl⟩ -;simp only [go_sem,seval,ne0,A0,A1,hd1,hd2,hd3];repeat' ((with_reducible first|refine wr ?_|refine cpc hna ?_|refine cpc hnu ?_|refine A2 ?_ ?_|fail)<;>try simp only [go_sem,seval,ne0,A0,A1,hd1,hd2,hd3])
   refine ⟨by and_intros<;>(repeat rw [A3 (by omega)])<;>exact hbn _ (by omega),?_⟩;repeat' ((with_reducible first|refine wr ?_|refine cpc hna ?_|refine cpc hnu ?_|refine A2 ?_ ?_|fail)<;>try simp only [go_sem,seval,ne0,A0,A1,hd1,hd2,hd3])
   refine ⟨by and_intros<;>(repeat rw [A3 (by omega)])<;>exact hbn _ (by omega),?_⟩;repeat' ((with_reducible first|refine wr ?_|refine cpc hna ?_|refine cpc hnu ?_|refine A2 ?_ ?_|fail)<;>try simp only [go_sem,seval,ne0,A0,A1,hd1,hd2,hd3])
   refine ⟨by and_intros<;>(repeat rw [A3 (by omega)])<;>exact hbn _ (by omega),?_⟩;repeat' ((with_reducible first|refine wr ?_|refine cpc hna ?_|refine cpc hnu ?_|refine A2 ?_ ?_|fail)<;>try simp only [go_sem,seval,ne0,A0,A1,hd1,hd2,hd3])
   refine AC.call (wd1 (x:=[123]) (by simp [Q6,Hp.upd]) (by decide)) ?_;rintro v H' c2 ⟨rfl,rfl,rfl⟩ -;simp only [go_sem,seval,ne0,A0,A1,hd1,hd2,hd3];refine ⟨by and_intros<;>(repeat rw [A3 (by omega)])<;>exact hbn _ (by omega),?_⟩;repeat' ((with_reducible first|refine wr ?_|refine cpc hna ?_|refine cpc hnu ?_|refine A2 ?_ ?_|fail)<;>try simp only [go_sem,seval,ne0,A0,A1,hd1,hd2,hd3])
   refine AC.call (jn4 A0 (by constructor<;>(try simp only [A0A,lw,A5,B4,B2])<;>omega) (by constructor<;>(try simp only [A0A,lw,A5,B4,B2])<;>omega) (by constructor<;>(try simp only [A0A,lw,A5,B4,B2])<;>omega) (by constructor<;>(try simp only [A0A,lw,A5,B4,B2])<;>omega)) ?_;rintro v H' c2 ⟨rfl,rfl,rfl⟩ -;have hun4:unit 4 ((wT [109,111,100,101]++D4 m.name++P8 m.prio++wT [123]).map Tok.v)=true:=by unfold unit;rw [A0P];intro d hd;simp [F0 _ d hd]
   have hl4:(wT [109,111,100,101]++D4 m.name++P8 m.prio++wT [123]).length=4:=by simp only [A0A,lw,A5,B4]
   have hsrc:A2o (HH.upd c ⟨0,true,[.str m.name,I64 m.prio,T8 m.hds,I64 m.pos]⟩) 4 (E4 (wT [109,111,100,101]++D4 m.name++P8 m.prio++wT [123]))=some (4,A4 ((wT [109,111,100,101]++D4 m.name++P8 m.prio++wT [123]).map Tok.v)):=by
    rw [T1 hun4,A0G,hl4]
   obtain ⟨Q,hQ⟩:∃ Q,Q=wT [109,111,100,101]++D4 m.name++P8 m.prio++wT [123]:=⟨_,rfl⟩;rw [<- hQ] at hsrc ⊢;simp only [go_sem,seval,ne0,A0,A1,hd1,hd2,hd3,hsrc];repeat' ((with_reducible first|refine wr ?_|refine cpc hna ?_|refine cpc hnu ?_|refine A2 ?_ ?_|fail)<;>try simp only [go_sem,seval,ne0,A0,A1,hd1,hd2,hd3,hsrc])
   refine ⟨by rw [A3 (by omega)];exact hbn _ (by omega),?_⟩;rw [E6 (cs:=A4 ((G k).map Tok.v)) (fun e=>by rw [hno e];exact ⟨rfl,rfl⟩) (fun i hi=>by have:=ho i hi;rw [A3 (by omega)];exact hbo i hi) hln (by omega) (by omega) (by omega)];simp only [go_sem,seval,ne0];repeat' ((with_reducible first|refine wr ?_|refine A2 ?_ ?_|fail)<;>try simp only [go_sem,seval,ne0])
   have hQl:Q.length=4:=by rw [hQ];exact hl4
   obtain ⟨K,hK⟩:∃ K:Nat->List Tok, ∀ j,K j=G k++Q++(m.hds.take j).flatMap hdT:=⟨_,fun _=>rfl⟩;have hK0:K 0=G k++Q:=by rw [hK];simp
   have hKl:∀ j,(K j).length<=100000000:=fun j=>by
    have h1:m.hds.flatMap hdT=(m.hds.take j).flatMap hdT++(m.hds.drop j).flatMap hdT:=by rw [<- A2M,A2S]
    have h2:mdT m=Q++m.hds.flatMap hdT++wT [125]:=by rw [hQ];rfl
    rw [e0,h2,h1] at hGk1;rw [hK];simp only [A0A] at hGk1 ⊢;omega
   have hKe:K m.hds.length++wT [125]=G (k+1):=by
    have h2:mdT m=Q++m.hds.flatMap hdT++wT [125]:=by rw [hQ];rfl
    rw [hK,e0,h2,A2Z];simp only [A0V]
   have hhl:m.hds.length<=4000000:=by
    have h5:m.hds.length<=(m.hds.map Hd.sz).sum:=H6 fun x _=>by show 1<=1+_+_;omega
    have h6:(m.hds.map Hd.sz).sum<Md.sz m:=by unfold Md.sz;omega
    omega
   refine D8 (fun q:Nat × Nat=>[(1,.ptr 0 0),(3,.slc q.2 0 (K q.1).length),(5,I64 k),(6,.ptr c 0),(7,I64 q.1)]) (fun q=>((Sym.nil.upd 0 ⟨0,true,[E8 D,G6 M]⟩).upd c ⟨0,true,[.str m.name,I64 m.prio,T8 m.hds,I64 m.pos]⟩).upd q.2 ⟨4,true,A4 ((K q.1).map Tok.v)⟩)
    (fun q n=>c<q.2/\q.2<n/\q.1<=m.hds.length/\((m.hds.take q.1).any T9)=false) (fun q=>m.hds.length-q.1) (0,c+1+15)
    (by simp [C9,tm,Tm.upd,hK0,hQl]) ?_ ⟨by simp only;omega,by simp only;omega,A0Y _,rfl⟩ ?_
   ·dsimp only;rw [hK0,A0M,C6];intro j b hj;by_cases e1:j=c+1+15
    ·subst e1;rw [A0] at hj ⊢;exact hj
    rw [A3 e1] at hj ⊢;rw [E0 (fun i hi=>by
     have h1:=ho i hi;intro e;subst e;rw [A3 (by omega),A3 (by omega)] at hj;cases hj)]
    by_cases e2:j=c
    ·subst e2;rw [A0] at hj ⊢;exact hj
    rw [A3 e2] at hj ⊢;by_cases e3:j=0
    ·subst e3;rw [A0] at hj;rw [hbx];exact hj
    ·rw [A3 e3] at hj;cases hj
   clear hbo hbn hd1 hd2 hd3 hsrc hl4 hun4 hHH hbx hno ho;rintro ⟨j,i⟩ n ⟨hi1,hi2,hj,hbj⟩;dsimp only at hi1 hi2 hj hbj ⊢;by_cases hjl:j<m.hds.length
   ·have hdj:decide ((j:Int)<(m.hds.length:Int))=true:=by simpa using hjl
    have hgj:=A0C hjl;have hwj:=w64 (n:=(j:Int)+1) (by omega) (by omega);have k0:K (j+1)=K j++hdT m.hds[j]:=by rw [hK,hK,A1D,hgj,A2M];simp
    have c0:((m.hds.take (j+1)).any T9)=T9 m.hds[j]:=by rw [A1D,hgj,List.any_append,hbj];simp
    have c1:T9 m.hds[j]=true->R=E4 [M6]:=fun h=>b1 (A3O.2 ⟨_,A0S hjl,h⟩);have hszj:=J4 (f:=Hd.sz) (A0S hjl);have h6:(m.hds.map Hd.sz).sum<Md.sz m:=by unfold Md.sz;omega
    have hKj:=hKl j;have hKj1:=hKl (j+1);generalize m.hds[j]=h at hgj k0 c0 c1 hszj;have ne0:=V4 0 c i n (by omega);have hb9:T9 h=true->∃ H2,GL (((((Sym.nil.upd 0 ⟨0,true,[E8 D,G6 M]⟩).upd c ⟨0,true,[.str m.name,I64 m.prio,T8 m.hds,I64 m.pos]⟩).upd i ⟨4,true,A4 ((K j).map Tok.v)⟩).upd n ⟨0,true,[I64 h.trig,.str h.name,F1 h.body,I64 h.pos]⟩).upd (n+1) ⟨4,true,[I64 0,.str [],I64 0,I64 0]⟩) [.slc (n+1) 0 1] H2 [R]:=fun hb=>by
     rw [c1 hb];exact J0 A0 rfl rfl (F0 [M6]) ⟨[],rfl⟩
    by_cases t1:h.trig<1
    ·have x1:decide (h.trig<1)=true:=by simpa using t1
     repeat' ((with_reducible first|refine wr ?_|refine A2 ?_ ?_|fail)<;>try simp only [go_sem,seval,hdj,hgj,hwj,x1,ne0,A0,A1])
     exact hb9 (by unfold T9;rw [x1];rfl)
    have x1:decide (h.trig<1)=false:=by simpa using t1
    by_cases t2:6<h.trig
    ·have x2:decide (h.trig>6)=true:=by simpa using t2
     have x2':decide (6<h.trig)=true:=by simpa using t2
     repeat' ((with_reducible first|refine wr ?_|refine A2 ?_ ?_|fail)<;>try simp only [go_sem,seval,hdj,hgj,hwj,x1,x2,ne0,A0,A1])
     exact hb9 (by unfold T9;rw [x2',Bool.or_true])
    have x2:decide (h.trig>6)=false:=by simpa using t2
    have x2':decide (6<h.trig)=false:=by simpa using t2
    have c2:T9 h=false:=by unfold T9;rw [x1,x2'];rfl
    clear hb9 c1;obtain ⟨y,hy⟩:∃ y:Nat,h.trig=1+(y:Int):=⟨(h.trig-1).toNat,by omega⟩;have hyw:IntKind.i64.wrap (h.trig-1)=(y:Int):=by rw [w64 (by omega) (by omega)];omega
    have hyn:(h.trig-1).toNat=y:=by omega
    have hy6:y<6:=by omega
    have hgy:D3[y]? = some (D3.getD y []):=by
     rw [A0T,A0C (show y<D3.length from hy6)];rfl
    have hsl:(D3.getD y []).length<=1000000000:=by
     have:∀ i:Nat,i<6->(D3.getD i []).length<=1000000000:=by decide
     exact this y hy6
    have hTT:hdT h=wT2 [111,110] (D3.getD y [])++(if 2<h.trig then D4 h.name else [])++blT h.body:=by unfold hdT;rw [hyn];rfl
    generalize D3.getD y []=S at hgy hsl hTT;have hnh:=c_named h.name (by have h5:h.name.length<Hd.sz h:=(by unfold Hd.sz;omega);omega);have hbb:=c_blkT h.body (by have h5:Pb.St.szs h.body<Hd.sz h:=(by unfold Hd.sz;omega);omega);obtain ⟨bl1, -⟩:=A3o h.body;rw [k0,hTT] at hKj1;simp only [A0A] at hKj1;have hbn:∀ j':Nat,n<=j'->(((Sym.nil.upd 0 ⟨0,true,[E8 D,G6 M]⟩).upd c ⟨0,true,[.str m.name,I64 m.prio,T8 m.hds,I64 m.pos]⟩).upd i ⟨4,true,A4 ((K j).map Tok.v)⟩) j'=none:=fun j' h'=>by rw [A3 (by omega),A3 (by omega),A3 (by omega)];rfl
    have ne0:=P0 0 c i n (n+1+7) (by omega);repeat' ((with_reducible first|refine wr ?_|refine cpc c_trigs31 ?_|refine A2 ?_ ?_|fail)<;>try simp only [go_sem,seval,hdj,hgj,hwj,x1,x2,hyw,hgy,ne0,A0,A1])
    refine ⟨by and_intros<;>(repeat rw [A3 (by omega)])<;>rfl,?_⟩;refine AC.call (D6v A0 (by decide) hsl) ?_;rintro v H' c3 ⟨rfl,rfl,rfl⟩ -;have hw2:(wT2 [111,110] S).length=2:=rfl;have hun:=A4s (wT2 [111,110] S);have hunB:=A4s (blT h.body);have hunN:=A4s (D4 h.name);have hnl1:=A5 h.name;have hlnK:=S7 (K j);simp only [go_sem,seval,ne0,A0,A1,T1 hun];repeat' ((with_reducible first|refine wr ?_|refine A2 ?_ ?_|fail)<;>try simp only [go_sem,seval,ne0,A0,A1,T1 hun])
    refine ⟨by and_intros<;>(repeat rw [A3 (by omega)])<;>rfl,?_⟩;rw [E1 hlnK (by omega) (by omega)];have ne0:=P0 0 c i n (n+1+11) (by omega);simp only [go_sem,seval,ne0,A0,A1];by_cases t3:2<h.trig
    ·have x3:decide (h.trig>2)=true:=by simpa using t3
     rw [if_pos t3] at hTT hKj1;try simp only [A0A] at hKj1
     repeat' ((with_reducible first|refine wr ?_|refine cpc hnh ?_|refine A2 ?_ ?_|fail)<;>try simp only [go_sem,seval,ne0,A0,A1,x3,T1 hunN])
     refine C4 (E1 (by rw [A0A,S7,S7];omega) (by omega) (by omega)) ?_;have ne0:=B1t 0 c i n (n+1+11) (n+1+11+1) (by omega);simp only [go_sem,seval,ne0,A0,A1];repeat' ((with_reducible first|refine wr ?_|refine cpc hbb ?_|refine A2 ?_ ?_|fail)<;>try simp only [go_sem,seval,ne0,A0,A1,T1 hunB])
     refine C4 (E1 (by rw [A0A,A0A,S7,S7,S7];omega) (by omega) (by omega)) ?_;simp only [go_sem,seval,ne0,A0,A1,hwj];repeat' ((with_reducible first|refine wr ?_|refine A2 ?_ ?_|fail)<;>try simp only [go_sem,seval,ne0,A0,A1,hwj])
     refine ⟨(j+1,n+1+11+1+1),by simp [C9,tm,Tm.upd,k0,hTT,hwj,A2U],?_,inv ⟨by simp only;omega,by simp only;omega,by simp only;omega,by rw [c0];exact c2⟩,by simp only;omega⟩;dsimp only;intro j' b' hj';by_cases e1:j'=n+1+11+1+1
     ·subst e1;rw [A0] at hj' ⊢;rw [<- hj',k0,hTT];simp only [A0M,C6,A0V,List.map_nil,List.nil_append];try rfl
     rw [A3 e1] at hj' ⊢;by_cases e2:j'=c
     ·subst e2;rw [A0] at hj'
      repeat (first|rw [A0]|rw [A3 (by omega)]|rw [B2c (by omega)])
      exact hj'
     rw [A3 e2] at hj';by_cases e3:j'=0
     ·subst e3;rw [A0] at hj'
      repeat (first|rw [A0]|rw [A3 (by omega)]|rw [B2c (by omega)])
      exact hj'
     ·rw [A3 e3] at hj';cases hj'
    ·have x3:decide (h.trig>2)=false:=by simpa using t3
     rw [if_neg t3] at hTT hKj1;try simp only [A1C] at hKj1
     repeat' ((with_reducible first|refine wr ?_|refine cpc hbb ?_|refine A2 ?_ ?_|fail)<;>try simp only [go_sem,seval,ne0,A0,A1,x3,T1 hunB])
     refine C4 (E1 (by rw [A0A,S7,S7];omega) (by omega) (by omega)) ?_;have ne0:=B1t 0 c i n (n+1+11) (n+1+11+1) (by omega);simp only [go_sem,seval,ne0,A0,A1,hwj];repeat' ((with_reducible first|refine wr ?_|refine A2 ?_ ?_|fail)<;>try simp only [go_sem,seval,ne0,A0,A1,hwj])
     refine ⟨(j+1,n+1+11+1),by simp [C9,tm,Tm.upd,k0,hTT,hwj,A2U],?_,inv ⟨by simp only;omega,by simp only;omega,by simp only;omega,by rw [c0];exact c2⟩,by simp only;omega⟩;dsimp only;intro j' b' hj';by_cases e1:j'=n+1+11+1
     ·subst e1;rw [A0] at hj' ⊢;rw [<- hj',k0,hTT];simp only [A0M,C6,A0V,List.map_nil,List.nil_append];try rfl
     rw [A3 e1] at hj' ⊢;by_cases e2:j'=c
     ·subst e2;rw [A0] at hj'
      repeat (first|rw [A0]|rw [A3 (by omega)]|rw [B2c (by omega)])
      exact hj'
     rw [A3 e2] at hj';by_cases e3:j'=0
     ·subst e3;rw [A0] at hj'
      repeat (first|rw [A0]|rw [A3 (by omega)]|rw [B2c (by omega)])
      exact hj'
     ·rw [A3 e3] at hj';cases hj'
   ·have hdj:decide ((j:Int)<(m.hds.length:Int))=false:=by simpa using hjl
    have ne0:=V4 0 c i n (by omega);have hjE:j=m.hds.length:=by omega
    subst hjE;rw [A2Z] at hbj;have hlw:=lw [125];have hun:=A4s (wT [125]);have hln2:=S7 (K m.hds.length);have hKm:=hKl m.hds.length;repeat' ((with_reducible first|refine wr ?_|refine A2 ?_ ?_|fail)<;>try simp only [go_sem,seval,hdj,ne0,A0,A1])
    refine AC.call (wd1 A0 (by decide)) ?_;rintro v H' c3 ⟨rfl,rfl,rfl⟩ -;simp only [go_sem,seval,ne0,A0,A1,T1 hun];repeat' ((with_reducible first|refine wr ?_|refine A2 ?_ ?_|fail)<;>try simp only [go_sem,seval,ne0,A0,A1,T1 hun])
    refine C4 (E1 hln2 (by omega) (by omega)) ?_;simp only [go_sem,seval,hw,ne0];repeat' ((with_reducible first|refine wr ?_|refine A2 ?_ ?_|fail)<;>try simp only [go_sem,seval,hw,ne0])
    refine ⟨(k+1,some (n+1)),by simp [C9,tm,Tm.upd,B6, <- hKe,hlw],?_,inv ⟨by omega,by simp only;omega,(fun h=>by cases h),(fun i hi=>by cases hi;omega),by rw [b0];exact hbj⟩,by simp only;omega⟩;dsimp only [C5];rw [<- hKe,A0M,C6];intro j b hj;by_cases e1:j=n+1
    ·subst e1;rw [A0] at hj ⊢;exact hj
    rw [A3 e1] at hj ⊢;by_cases e2:j=0
    ·subst e2;rw [A0] at hj;rw [show ∀ X:Hp,X.del i=K3 X (some i) from fun _=>rfl,P4,if_neg (by omega),A3 (by omega),A3 (by omega),A0];exact hj
    ·rw [A3 e2] at hj;cases hj
  ·have hd:decide ((k:Int)<(M.length:Int))=false:=by simpa using hlt
   rw [A0I (by omega)] at hbad;rw [if_neg (by rw [hbad];decide)] at hR;repeat' ((with_reducible first|refine wr ?_|refine A2 ?_ ?_|fail)<;>try simp only [go_sem,seval,hd,hbx])
   rw [hR,hG,A0I (by omega)];rw [hG,A0I (by omega)] at hno;exact C1i (fun e=>by rw [hno e];rfl) (by simp) (F0 _)
theorem B3z (p:Bool):∀ (l l':List Ex) (k:Nat),l.length=l'.length->(P9 p (l.take k) (l'.take k)=true)->∀ x x',l[k]? = some x->l'[k]? = some x'->P9 p (l.take (k+1)) (l'.take (k+1))=A9m p x x'/\(A9m p x x'=false->P9 p l l'=false)
 | [],_,k,_,_,x,x',h,_=>by simp at h
 | _ :: _,[],k,h,_,_,_,_,_=>by simp at h
 | a :: l,a' :: l',0,_,_,x,x',h,h'=>by
  cases h;cases h';refine ⟨?_,fun e=>?_⟩
  ·simp [P9]
  ·rw [P9,e];rfl
 | a :: l,a' :: l',k+1,hl,he,x,x',h,h'=>by
  rw [A1U,A1U,P9,A0D] at he;have ih:=B3z p l l' k (by simpa using hl) he.2 x x' (by simpa using h) (by simpa using h');refine ⟨?_,fun e=>?_⟩
  ·rw [A1U,A1U,P9,he.1,A1G];exact ih.1
  ·rw [P9,ih.2 e,A3F]
theorem B0n (p:Bool):∀ (l l':List Ex),¬ l.length=l'.length->P9 p l l'=false
 | [],[],h=>absurd rfl h
 | [],_ :: _,_=>rfl
 | _ :: _,[],_=>rfl
 | a :: l,a' :: l',h=>by rw [P9,B0n p l l' (by simpa using h),A3F]
theorem c_sameEs (p:Bool) (l l':List Ex) (hl:l.length<=100000000000) (h:∀ x∈l, ∀ y,PC Tryz.prog 34 [x.v,y.v,.bool p] (.bool (A9m p x y))):PC Tryz.prog 72 [H3 l,H3 l',.bool p] (.bool (P9 p l l')):=by
 refine PC.ofT B1 rfl (A0B rfl) (by simp [DV.nlL,DV.nl,Q5]) rfl ?_;by_cases hlen:l.length=l'.length
 ·have hd0:((l.length:Int) != (l'.length:Int))=false:=by simp [hlen]
  repeat' ((with_reducible first|refine wr ?_|refine A2 ?_ ?_|fail)<;>try simp only [go_sem,seval,hd0,A0G])
  refine D8 (fun k:Nat=>[(0,H3 l),(1,H3 l'),(2,.bool p),(7,I64 k)]) (fun _=>Sym.nil) (fun k c=>k<=l.length/\P9 p (l.take k) (l'.take k)=true) (fun k=>l.length-k) 0 (by simp [C9,tm,Tm.upd]) (Sub.nil _) ⟨A0Y _,rfl⟩ ?_;rintro k c ⟨hk,he⟩;by_cases hlt:k<l.length
  ·have hd:decide ((k:Int)<(l.length:Int))=true:=by simpa using hlt
   have hg:=A0C hlt;have hg':=A0C (l:=l') (i:=k) (by omega);have hw:=w64 (n:=(k:Int)+1) (by omega) (by omega);have hc:=h _ (A0S hlt) (l'[k]'(by omega));obtain ⟨s1,s2⟩:=B3z p l l' k hlen he _ _ hg hg';generalize l[k]=x at hg hc s1 s2;generalize l'[k]'(by omega)=x' at hg' hc s1 s2;rw [Ex.v_w,Ex.v_w] at hc;cases hx:A9m p x x' with
   | true =>
    repeat' ((with_reducible first|refine wr ?_|refine cpc hc ?_|refine A2 ?_ ?_|fail)<;>try simp only [go_sem,seval,hd,hg,hg',hw,hx,Ex.v_w,A0G])
    exact ⟨k+1,by simp [C9,tm,Tm.upd],Sub.nil _,inv ⟨by omega,by rw [s1];exact hx⟩,by omega⟩
   | false =>
    repeat' ((with_reducible first|refine wr ?_|refine cpc hc ?_|refine A2 ?_ ?_|fail)<;>try simp only [go_sem,seval,hd,hg,hg',hw,hx,Ex.v_w,A0G])
    exact ⟨_,by rw [s2 hx];exact GL.refl _ _⟩
  ·have hd:decide ((k:Int)<(l.length:Int))=false:=by simpa using hlt
   rw [A0I (by omega),A0I (by omega)] at he;repeat' ((with_reducible first|refine wr ?_|refine A2 ?_ ?_|fail)<;>try simp only [go_sem,seval,hd,A0G])
   exact ⟨_,by rw [he];exact GL.refl _ _⟩
 ·have hd0:((l.length:Int) != (l'.length:Int))=true:=by simp;omega
  repeat' ((with_reducible first|refine wr ?_|refine A2 ?_ ?_|fail)<;>try simp only [go_sem,seval,hd0,A0G])
  exact ⟨_,by rw [B0n p l l' hlen];exact GL.refl _ _⟩
theorem c_sameE (p:Bool):∀ (m:Nat) (a b:Ex),a.sz<m->a.sz<=100000000000->PC Tryz.prog 34 [a.v,b.v,.bool p] (.bool (A9m p a b)):=by
 intro m
 induction m with
 | zero=>intro a b h;omega
 | succ m ih =>
 intro a b hm hB;have hs:=c_sameEs p a.args b.args (by have:=a.sz_args;omega) (fun x hx y=>ih x y (by have:=Ex.sz_arg hx;omega) (by have:=Ex.sz_arg hx;omega));have e0:A9m p a b=(a.kind == b.kind && (a.value == b.value && (a.name == b.name && ((p || a.pos == b.pos) && P9 p a.args b.args)))):=by
  cases a with|mk k v n l q=>cases b with|mk k' v' n' l' q'=>rw [A9m];rfl
 refine PC.ofT B1 rfl (A0B rfl) (by simp [DV.nlL,DV.nl,Ex.nl]) rfl ?_;rw [Ex.v_w,Ex.v_w,e0];cases h1:a.kind == b.kind with
 | false =>
  repeat' ((with_reducible first|refine wr ?_|refine A2 ?_ ?_|fail)<;>try simp only [go_sem,seval,h1])
  exact ⟨_,GL.refl _ _⟩
 | true =>
  cases h2:a.value == b.value with
  | false =>
   repeat' ((with_reducible first|refine wr ?_|refine A2 ?_ ?_|fail)<;>try simp only [go_sem,seval,h1,h2])
   exact ⟨_,GL.refl _ _⟩
  | true =>
   cases h3:a.name == b.name with
   | false =>
    repeat' ((with_reducible first|refine wr ?_|refine A2 ?_ ?_|fail)<;>try simp only [go_sem,seval,h1,h2,h3])
    exact ⟨_,GL.refl _ _⟩
   | true =>
    cases hp:p with
    | true =>
     subst hp;repeat' ((with_reducible first|refine wr ?_|refine cpc hs ?_|refine A2 ?_ ?_|fail)<;>try simp only [go_sem,seval,h1,h2,h3])
     exact ⟨_,GL.refl _ _⟩
    | false =>
     subst hp;cases h4:a.pos == b.pos with
     | false =>
      repeat' ((with_reducible first|refine wr ?_|refine cpc hs ?_|refine A2 ?_ ?_|fail)<;>try simp only [go_sem,seval,h1,h2,h3,h4])
      exact ⟨_,GL.refl _ _⟩
     | true =>
      repeat' ((with_reducible first|refine wr ?_|refine cpc hs ?_|refine A2 ?_ ?_|fail)<;>try simp only [go_sem,seval,h1,h2,h3,h4])
      exact ⟨_,GL.refl _ _⟩
theorem B2t:∀ (l l':List Pb.St) (k:Nat),l.length=l'.length->(O7 (l.take k) (l'.take k)=true)->∀ x x',l[k]? = some x->l'[k]? = some x'->O7 (l.take (k+1)) (l'.take (k+1))=B4z x x'/\(B4z x x'=false->O7 l l'=false)
 | [],_,k,_,_,x,x',h,_=>by simp at h
 | _ :: _,[],k,h,_,_,_,_,_=>by simp at h
 | a :: l,a' :: l',0,_,_,x,x',h,h'=>by
  cases h;cases h';refine ⟨?_,fun e=>?_⟩
  ·simp [O7]
  ·rw [O7,e];rfl
 | a :: l,a' :: l',k+1,hl,he,x,x',h,h'=>by
  rw [A1U,A1U,O7,A0D] at he;have ih:=B2t l l' k (by simpa using hl) he.2 x x' (by simpa using h) (by simpa using h');refine ⟨?_,fun e=>?_⟩
  ·rw [A1U,A1U,O7,he.1,A1G];exact ih.1
  ·rw [O7,ih.2 e,A3F]
theorem A9r:∀ (l l':List Pb.St),¬ l.length=l'.length->O7 l l'=false
 | [],[],h=>absurd rfl h
 | [],_ :: _,_=>rfl
 | _ :: _,[],_=>rfl
 | a :: l,a' :: l',h=>by rw [O7,A9r l l' (by simpa using h),A3F]
theorem C8x (a b:Pb.St):B4z a b=(a.kind == b.kind && (a.name == b.name && (a.text == b.text && (a.pos == b.pos && (P9 false a.args b.args && (O7 a.thn b.thn && O7 a.els b.els)))))):=by
 cases a with|mk k n t a x y q=>cases b with|mk k' n' t' a' x' y' q'=>rw [B4z];rfl
theorem c_sameS:∀ (m:Nat) (l l':List Pb.St),Pb.St.szs l<m->Pb.St.szs l<=100000000000->PC Tryz.prog 74 [F1 l,F1 l'] (.bool (O7 l l')):=by
 intro m
 induction m with
 | zero=>intro a b h;omega
 | succ m ih =>
 intro l l' hm hB;have hl:=Pb.St.szs_len l;refine PC.ofT B1 rfl (A0B rfl) (by simp [DV.nlL,DV.nl,O5]) rfl ?_;by_cases hlen:l.length=l'.length
 ·have hd0:((l.length:Int) != (l'.length:Int))=false:=by simp [hlen]
  repeat' ((with_reducible first|refine wr ?_|refine A2 ?_ ?_|fail)<;>try simp only [go_sem,seval,hd0,A0G])
  refine D8 (fun k:Nat=>[(0,F1 l),(1,F1 l'),(5,I64 k)]) (fun _=>Sym.nil) (fun k c=>k<=l.length/\O7 (l.take k) (l'.take k)=true) (fun k=>l.length-k) 0 (by simp [C9,tm,Tm.upd]) (Sub.nil _) ⟨A0Y _,rfl⟩ ?_;rintro k c ⟨hk,he⟩;by_cases hlt:k<l.length
  ·have hd:decide ((k:Int)<(l.length:Int))=true:=by simpa using hlt
   have hg:=A0C hlt;have hg':=A0C (l:=l') (i:=k) (by omega);have hw:=w64 (n:=(k:Int)+1) (by omega) (by omega);obtain ⟨s1,s2⟩:=B2t l l' k hlen he _ _ hg hg';have hsx:=Pb.St.szs_mem (A0S hlt);generalize l[k]=x at hg hsx s1 s2;generalize l'[k]'(by omega)=x' at hg' s1 s2;have ht:=x.sz_thn;have hy:=x.sz_els;have hargs:∀ y∈x.args,y.sz<x.sz:=fun y hy=>Pb.St.sz_arg hy;have hal:=x.sz_args;have ca:=c_sameEs false x.args x'.args (by omega) (fun y hy z=>c_sameE false (y.sz+1) y z (by omega) (by have:=hargs y hy;omega));have ct:=ih x.thn x'.thn (by omega) (by omega);have cy:=ih x.els x'.els (by omega) (by omega);rw [C8x] at s1 s2;have ne0:=A2i (c+8) (c+9) (by omega);have hn8:∀ i:Nat,Sym.nil (c+i)=none:=fun _=>rfl;repeat' ((with_reducible first|refine wr ?_|refine A2 ?_ ?_|fail)<;>try simp only [go_sem,seval,hd,hg,hg',Pb.St.v_w,A0G,ne0,A0,A1])
   refine ⟨by and_intros<;>(repeat rw [A3 (by omega)])<;>rfl,?_⟩;repeat' ((with_reducible first|refine F9 (p:=IW _ _ (pz Tryz.prog 74 (.o (.i (.o (.i .h))))) _ _) ?_|refine wr ?_|refine A2 ?_ ?_|fail)<;>try simp only [go_sem,seval,ne0,A0,A1])
   unfold X3;clear hd hg hg';cases h1:x.kind == x'.kind with
   | false =>
    have n1:(x.kind != x'.kind)=true:=by rw [bne,h1];rfl
    repeat' ((with_reducible first|refine wr ?_|refine cpc ca ?_|refine cpc ct ?_|refine cpc cy ?_|refine A2 ?_ ?_|fail)<;>try simp only [go_sem,seval,hw,ne0,A0,A1,n1])
    exact ⟨_,by rw [s2 (by rw [h1];rfl)];exact GL.refl _ _⟩
   | true =>
    have n1:(x.kind != x'.kind)=false:=by rw [bne,h1];rfl
    cases h2:x.name == x'.name with
    | false =>
     repeat' ((with_reducible first|refine wr ?_|refine cpc ca ?_|refine cpc ct ?_|refine cpc cy ?_|refine A2 ?_ ?_|fail)<;>try simp only [go_sem,seval,hw,ne0,A0,A1,n1,h2])
     exact ⟨_,by rw [s2 (by rw [h1,h2];rfl)];exact GL.refl _ _⟩
    | true =>
     cases h3:x.text == x'.text with
     | false =>
      repeat' ((with_reducible first|refine wr ?_|refine cpc ca ?_|refine cpc ct ?_|refine cpc cy ?_|refine A2 ?_ ?_|fail)<;>try simp only [go_sem,seval,hw,ne0,A0,A1,n1,h2,h3])
      exact ⟨_,by rw [s2 (by rw [h1,h2,h3];rfl)];exact GL.refl _ _⟩
     | true =>
      cases h4:x.pos == x'.pos with
      | false =>
       have n4:(x.pos != x'.pos)=true:=by rw [bne,h4];rfl
       repeat' ((with_reducible first|refine wr ?_|refine cpc ca ?_|refine cpc ct ?_|refine cpc cy ?_|refine A2 ?_ ?_|fail)<;>try simp only [go_sem,seval,hw,ne0,A0,A1,n1,h2,h3,n4])
       exact ⟨_,by rw [s2 (by rw [h1,h2,h3,h4];rfl)];exact GL.refl _ _⟩
      | true =>
       have n4:(x.pos != x'.pos)=false:=by rw [bne,h4];rfl
       cases h5:P9 false x.args x'.args with
       | false =>
        repeat' ((with_reducible first|refine wr ?_|refine cpc ca ?_|refine cpc ct ?_|refine cpc cy ?_|refine A2 ?_ ?_|fail)<;>try simp only [go_sem,seval,hw,ne0,A0,A1,n1,h2,h3,n4,h5])
        exact ⟨_,by rw [s2 (by rw [h1,h2,h3,h4,h5];rfl)];exact GL.refl _ _⟩
       | true =>
        cases h6:O7 x.thn x'.thn with
        | false =>
         repeat' ((with_reducible first|refine wr ?_|refine cpc ca ?_|refine cpc ct ?_|refine cpc cy ?_|refine A2 ?_ ?_|fail)<;>try simp only [go_sem,seval,hw,ne0,A0,A1,n1,h2,h3,n4,h5,h6])
         exact ⟨_,by rw [s2 (by rw [h1,h2,h3,h4,h5,h6];rfl)];exact GL.refl _ _⟩
        | true =>
         cases h7:O7 x.els x'.els with
         | false =>
          repeat' ((with_reducible first|refine wr ?_|refine cpc ca ?_|refine cpc ct ?_|refine cpc cy ?_|refine A2 ?_ ?_|fail)<;>try simp only [go_sem,seval,hw,ne0,A0,A1,n1,h2,h3,n4,h5,h6,h7])
          exact ⟨_,by rw [s2 (by rw [h1,h2,h3,h4,h5,h6,h7];rfl)];exact GL.refl _ _⟩
         | true =>
          repeat' ((with_reducible first|refine wr ?_|refine cpc ca ?_|refine cpc ct ?_|refine cpc cy ?_|refine A2 ?_ ?_|fail)<;>try simp only [go_sem,seval,hw,ne0,A0,A1,n1,h2,h3,n4,h5,h6,h7])
          exact ⟨k+1,by simp [C9,tm,Tm.upd],Sub.nil _,inv ⟨by omega,by rw [s1,h1,h2,h3,h4,h5,h6,h7];rfl⟩,by omega⟩
  ·have hd:decide ((k:Int)<(l.length:Int))=false:=by simpa using hlt
   rw [A0I (by omega),A0I (by omega)] at he;repeat' ((with_reducible first|refine wr ?_|refine A2 ?_ ?_|fail)<;>try simp only [go_sem,seval,hd,A0G])
   exact ⟨_,by rw [he];exact GL.refl _ _⟩
 ·have hd0:((l.length:Int) != (l'.length:Int))=true:=by simp;omega
  repeat' ((with_reducible first|refine wr ?_|refine A2 ?_ ?_|fail)<;>try simp only [go_sem,seval,hd0,A0G])
  exact ⟨_,by rw [A9r l l' hlen];exact GL.refl _ _⟩
def B5e (a b:Ru):Bool:=@decide (a=b) (Classical.propDecidable _)
theorem C0m {a b:Ru} (h:a=b):B5e a b=true:=by unfold B5e;exact @decide_eq_true _ (_) h
theorem C9f {a b:Ru} (h:¬ a=b):B5e a b=false:=by unfold B5e;exact @decide_eq_false _ (_) h
theorem B1b {α : Type} {l l':List α} {k:Nat} {x x' : α} (h:l.take k=l'.take k) (hx:l[k]? = some x) (hx':l'[k]? = some x') (e:x=x'):l.take (k+1)=l'.take (k+1):=by
 rw [A1D,A1D,h,hx,hx',e]
theorem Q2 {α : Type} {l l':List α} {k:Nat} {x x' : α} (hx:l[k]? = some x) (hx':l'[k]? = some x') (e:¬ x=x'):¬ l=l':=by
 rintro rfl;rw [hx] at hx';exact e (Option.some.inj hx')
theorem B6x {H H':Hp} {c:Nat} (h1:∀ j b,H j=some b->j<c) (h2:∀ j,j<c->H' j=H j):Sym.Sub H H':=fun j b hj=>by rw [h2 j (h1 j b hj)];exact hj
theorem c_Same31 (a b:Ru) (hB:a.sz<=100000000000):PC Tryz.prog 37 [a.v,b.v] (.bool (B5e a b)):=by
 refine PC.ofT B1 rfl (A0B rfl) (by simp [DV.nlL,DV.nl,M8,M7]) rfl ?_;obtain ⟨R,hR⟩:∃ R,R=B5e a b:=⟨_,rfl⟩;rw [<- hR];obtain ⟨D,M⟩:=a;obtain ⟨D',M'⟩:=b;have hF:(¬ D=D'\/¬ M=M')->R=false:=fun h=>by
  rw [hR];exact C9f fun e=>by cases e;exact h.elim (· rfl) (· rfl)
 have hT:D=D'->M=M'->R=true:=fun h1 h2=>by rw [hR];exact C0m (by rw [h1,h2])
 clear hR;have hDs:(D.map Dc.sz).sum+(M.map Md.sz).sum<=100000000000:=hB;have hDl:D.length<=(D.map Dc.sz).sum:=H6 fun x _=>by show 1<=1+_;omega
 have hMl:M.length<=(M.map Md.sz).sum:=H6 fun x _=>by show 1<=1+_+_;omega
 dsimp only [Ru.v];by_cases l1:D.length=D'.length
 case neg =>
  have f1:((D.length:Int) != (D'.length:Int))=true:=by simp;omega
  repeat' ((with_reducible first|refine wr ?_|refine A2 ?_ ?_|fail)<;>try simp only [go_sem,seval,f1,A0G])
  exact ⟨_,by rw [hF (.inl fun e=>l1 (by rw [e]))];exact GL.refl _ _⟩
 have f1:((D.length:Int) != (D'.length:Int))=false:=by simp [l1]
 by_cases l2:M.length=M'.length
 case neg =>
  have f2:((M.length:Int) != (M'.length:Int))=true:=by simp;omega
  repeat' ((with_reducible first|refine wr ?_|refine A2 ?_ ?_|fail)<;>try simp only [go_sem,seval,f1,f2,A0G])
  exact ⟨_,by rw [hF (.inr fun e=>l2 (by rw [e]))];exact GL.refl _ _⟩
 have f2:((M.length:Int) != (M'.length:Int))=false:=by simp [l2]
 repeat' ((with_reducible first|refine wr ?_|refine A2 ?_ ?_|fail)<;>try simp only [go_sem,seval,f1,f2,A0G])
 refine D8 (fun k:Nat=>[(2,.ptr 0 0),(3,.ptr 1 0),(5,I64 k)]) (fun _=>(Sym.nil.upd 0 ⟨0,true,[E8 D,G6 M]⟩).upd 1 ⟨0,true,[E8 D',G6 M']⟩) (fun k c=>2<=c/\k<=D.length/\D.take k=D'.take k) (fun k=>D.length-k) 0 (by simp [C9,tm,Tm.upd]) (Sub.refl _) ⟨by omega,A0Y _,rfl⟩ ?_;rintro k c ⟨hc,hk,he⟩;by_cases hlt:k<D.length
 ·have hd:decide ((k:Int)<(D.length:Int))=true:=by simpa using hlt
  have hg:=A0C hlt;have hg':=A0C (l:=D') (i:=k) (by omega);have hw:=w64 (n:=(k:Int)+1) (by omega) (by omega);generalize D[k]=x at hg;generalize D'[k]'(by omega)=x' at hg';have hq:(x.kind == x'.kind && (x.name == x'.name && (x.value == x'.value && x.pos == x'.pos)))=true↔x=x':=by
   cases x;cases x';simp only [A0D,A1F,Dc.mk.injEq]
  by_cases hx:x=x'
  ·have hqt:(true != (x.kind == x'.kind && (x.name == x'.name && (x.value == x'.value && x.pos == x'.pos))))=false:=by rw [hq.2 hx];rfl
   repeat' ((with_reducible first|refine wr ?_|refine A2 ?_ ?_|fail)<;>try simp only [go_sem,seval,hd,hg,hg',hw,C7w,hqt,A0G])
   exact ⟨k+1,by simp [C9,tm,Tm.upd],Sub.refl _,inv ⟨by omega,by omega,B1b he hg hg' hx⟩,by omega⟩
  ·have hqf:(true != (x.kind == x'.kind && (x.name == x'.name && (x.value == x'.value && x.pos == x'.pos))))=true:=by
    rw [show (x.kind == x'.kind && (x.name == x'.name && (x.value == x'.value && x.pos == x'.pos)))=false from by
     cases hz:(x.kind == x'.kind && (x.name == x'.name && (x.value == x'.value && x.pos == x'.pos))) with
     | false=>rfl
     | true=>exact absurd (hq.1 hz) hx]
    rfl
   repeat' ((with_reducible first|refine wr ?_|refine A2 ?_ ?_|fail)<;>try simp only [go_sem,seval,hd,hg,hg',hw,C7w,hqf,A0G])
   exact ⟨_,by rw [hF (.inl (Q2 hg hg' hx))];exact GL.refl _ _⟩
 ·have hd:decide ((k:Int)<(D.length:Int))=false:=by simpa using hlt
  rw [A0I (by omega),A0I (by omega)] at he;repeat' ((with_reducible first|refine wr ?_|refine A2 ?_ ?_|fail)<;>try simp only [go_sem,seval,hd,A0G])
  have hDD:=he;clear hd hlt he hk;refine D8 (fun k:Nat=>[(2,.ptr 0 0),(3,.ptr 1 0),(6,I64 k)]) (fun _=>(Sym.nil.upd 0 ⟨0,true,[E8 D,G6 M]⟩).upd 1 ⟨0,true,[E8 D',G6 M']⟩) (fun k c=>2<=c/\k<=M.length/\M.take k=M'.take k) (fun k=>M.length-k) 0 (by simp [C9,tm,Tm.upd]) (Sub.refl _) ⟨hc,A0Y _,rfl⟩ ?_;clear hc k c;rintro k c ⟨hc,hk,he⟩;by_cases hlt:k<M.length
  ·have hd:decide ((k:Int)<(M.length:Int))=true:=by simpa using hlt
   have hg:=A0C hlt;have hg':=A0C (l:=M') (i:=k) (by omega);have hw:=w64 (n:=(k:Int)+1) (by omega) (by omega);have hsx:=J4 (f:=Md.sz) (A0S hlt);generalize M[k]=x at hg hsx;generalize M'[k]'(by omega)=x' at hg';have hxs:(x.hds.map Hd.sz).sum<Md.sz x:=by unfold Md.sz;omega
   have hxl:x.hds.length<=(x.hds.map Hd.sz).sum:=H6 fun x _=>by show 1<=1+_+_;omega
   have ne0:=V4 0 1 (c+10) (c+11) (by omega);repeat' ((with_reducible first|refine wr ?_|refine A2 ?_ ?_|fail)<;>try simp only [go_sem,seval,hd,hg,hg',ne0,A0,A1,A0G])
   refine ⟨by and_intros<;>(repeat rw [A3 (by omega)])<;>rfl,?_⟩;repeat' ((with_reducible first|refine F9 (p:=IW _ _ (pz Tryz.prog 37 (.i (.i (.i (.i (.o .h)))))) _ _) ?_|refine wr ?_|refine A2 ?_ ?_|fail)<;>try simp only [go_sem,seval,ne0,A0,A1])
   unfold X3;clear hd;by_cases h1:x.name=x'.name
   case neg =>
    have nh1:(x.name == x'.name)=false:=by simpa using h1
    repeat' ((with_reducible first|refine wr ?_|refine A2 ?_ ?_|fail)<;>try simp only [go_sem,seval,ne0,A0,A1,A0G,nh1])
    exact ⟨_,by rw [hF (.inr (Q2 hg hg' fun e=>h1 (by rw [e])))];exact GL.refl _ _⟩
   case pos =>
    have nh1:(x.name == x'.name)=true:=by simpa using h1
    by_cases h2:x.prio=x'.prio
    case neg =>
     have nh2:(x.prio != x'.prio)=true:=by simpa using h2
     repeat' ((with_reducible first|refine wr ?_|refine A2 ?_ ?_|fail)<;>try simp only [go_sem,seval,ne0,A0,A1,A0G,nh1,nh2])
     exact ⟨_,by rw [hF (.inr (Q2 hg hg' fun e=>h2 (by rw [e])))];exact GL.refl _ _⟩
    case pos =>
     have nh2:(x.prio != x'.prio)=false:=by simpa using h2
     by_cases h3:x.pos=x'.pos
     case neg =>
      have nh3:(x.pos != x'.pos)=true:=by simpa using h3
      repeat' ((with_reducible first|refine wr ?_|refine A2 ?_ ?_|fail)<;>try simp only [go_sem,seval,ne0,A0,A1,A0G,nh1,nh2,nh3])
      exact ⟨_,by rw [hF (.inr (Q2 hg hg' fun e=>h3 (by rw [e])))];exact GL.refl _ _⟩
     case pos =>
      have nh3:(x.pos != x'.pos)=false:=by simpa using h3
      by_cases h4:x.hds.length=x'.hds.length
      case neg =>
       have nh4:((x.hds.length:Int) != (x'.hds.length:Int))=true:=by simp;omega
       repeat' ((with_reducible first|refine wr ?_|refine A2 ?_ ?_|fail)<;>try simp only [go_sem,seval,ne0,A0,A1,A0G,nh1,nh2,nh3,nh4])
       exact ⟨_,by rw [hF (.inr (Q2 hg hg' fun e=>h4 (by rw [e])))];exact GL.refl _ _⟩
      case pos =>
       have nh4:((x.hds.length:Int) != (x'.hds.length:Int))=false:=by simp [h4]
       repeat' ((with_reducible first|refine wr ?_|refine A2 ?_ ?_|fail)<;>try simp only [go_sem,seval,ne0,A0,A1,A0G,nh1,nh2,nh3,nh4])
       refine D8 (fun j:Nat=>[(2,.ptr 0 0),(3,.ptr 1 0),(6,I64 k),(7,.ptr (c+10) 0),(8,.ptr (c+11) 0),(9,I64 j)]) (fun _=>(((Sym.nil.upd 0 ⟨0,true,[E8 D,G6 M]⟩).upd 1 ⟨0,true,[E8 D',G6 M']⟩).upd (c+10) ⟨0,true,[.str x.name,I64 x.prio,T8 x.hds,I64 x.pos]⟩).upd (c+11) ⟨0,true,[.str x'.name,I64 x'.prio,T8 x'.hds,I64 x'.pos]⟩) (fun j n=>c+12<=n/\j<=x.hds.length/\x.hds.take j=x'.hds.take j) (fun j=>x.hds.length-j) 0 (by simp [C9,tm,Tm.upd]) ?_ ⟨by omega,A0Y _,rfl⟩ ?_
       ·intro j b hj;by_cases e1:j=c+11
        ·subst e1;rw [A0] at hj ⊢;exact hj
        rw [A3 e1] at hj ⊢;by_cases e2:j=c+10
        ·subst e2;rw [A0] at hj ⊢;exact hj
        rw [A3 e2] at hj ⊢
        repeat rw [A3 (by omega)]
        exact hj
       rintro j n ⟨hn,hj,hej⟩;by_cases hjl:j<x.hds.length
       ·have hdj:decide ((j:Int)<(x.hds.length:Int))=true:=by simpa using hjl
        have gj:=A0C hjl;have gj':=A0C (l:=x'.hds) (i:=j) (by omega);have hwj:=w64 (n:=(j:Int)+1) (by omega) (by omega);have hsj:=J4 (f:=Hd.sz) (A0S hjl);generalize x.hds[j]=y at gj hsj;generalize x'.hds[j]'(by omega)=y' at gj';have hbs:Pb.St.szs y.body<Hd.sz y:=by unfold Hd.sz;omega
        have cs:=c_sameS (Pb.St.szs y.body+1) y.body y'.body (by omega) (by omega);have ne0:=B1t 0 1 (c+10) (c+11) (n+10) (n+11) (by omega);repeat' ((with_reducible first|refine wr ?_|refine A2 ?_ ?_|fail)<;>try simp only [go_sem,seval,hdj,gj,gj',ne0,A0,A1,A0G])
        refine ⟨by and_intros<;>(repeat rw [A3 (by omega)])<;>rfl,?_⟩;repeat' ((with_reducible first|refine F9 (p:=IW _ _ (pz Tryz.prog 37 (.i (.o (.i (.o (.o (.o .h))))))) _ _) ?_|refine wr ?_|refine A2 ?_ ?_|fail)<;>try simp only [go_sem,seval,ne0,A0,A1])
        unfold X3;clear hdj;by_cases q1:y.trig=y'.trig
        case neg =>
         have nq1:(y.trig != y'.trig)=true:=by simpa using q1
         repeat' ((with_reducible first|refine wr ?_|refine cpc cs ?_|refine A2 ?_ ?_|fail)<;>try simp only [go_sem,seval,hwj,ne0,A0,A1,nq1])
         exact ⟨_,by rw [hF (.inr (Q2 hg hg' fun e=>Q2 gj gj' (fun e2=>by exact q1 (by rw [e2])) (by rw [e])))];exact GL.refl _ _⟩
        case pos =>
         have nq1:(y.trig != y'.trig)=false:=by simpa using q1
         by_cases q2:y.name=y'.name
         case neg =>
          have nq2:(y.name == y'.name)=false:=by simpa using q2
          repeat' ((with_reducible first|refine wr ?_|refine cpc cs ?_|refine A2 ?_ ?_|fail)<;>try simp only [go_sem,seval,hwj,ne0,A0,A1,nq1,nq2])
          exact ⟨_,by rw [hF (.inr (Q2 hg hg' fun e=>Q2 gj gj' (fun e2=>by exact q2 (by rw [e2])) (by rw [e])))];exact GL.refl _ _⟩
         case pos =>
          have nq2:(y.name == y'.name)=true:=by simpa using q2
          by_cases q3:y.pos=y'.pos
          case neg =>
           have nq3:(y.pos != y'.pos)=true:=by simpa using q3
           repeat' ((with_reducible first|refine wr ?_|refine cpc cs ?_|refine A2 ?_ ?_|fail)<;>try simp only [go_sem,seval,hwj,ne0,A0,A1,nq1,nq2,nq3])
           exact ⟨_,by rw [hF (.inr (Q2 hg hg' fun e=>Q2 gj gj' (fun e2=>by exact q3 (by rw [e2])) (by rw [e])))];exact GL.refl _ _⟩
          case pos =>
           have nq3:(y.pos != y'.pos)=false:=by simpa using q3
           cases q4:O7 y.body y'.body with
           | false =>
            repeat' ((with_reducible first|refine wr ?_|refine cpc cs ?_|refine A2 ?_ ?_|fail)<;>try simp only [go_sem,seval,hwj,ne0,A0,A1,nq1,nq2,nq3,q4])
            exact ⟨_,by rw [hF (.inr (Q2 hg hg' fun e=>Q2 gj gj' (fun e2=>by rw [e2,(A0y _ _).2 rfl] at q4;cases q4) (by rw [e])))];exact GL.refl _ _⟩
           | true =>
            repeat' ((with_reducible first|refine wr ?_|refine cpc cs ?_|refine A2 ?_ ?_|fail)<;>try simp only [go_sem,seval,hwj,ne0,A0,A1,nq1,nq2,nq3,q4])
            exact ⟨j+1,by simp [C9,tm,Tm.upd],(B6x (c:=n) (fun j0 b0 h0=>by by_cases a1:j0=c+11;omega;rw [A3 a1] at h0;by_cases a2:j0=c+10;omega;rw [A3 a2] at h0;by_cases a3:j0=1;omega;rw [A3 a3] at h0;by_cases a4:j0=0;omega;rw [A3 a4] at h0;cases h0) (fun j0 h0=>by repeat rw [A3 (by omega)])),inv ⟨by omega,by omega,B1b hej gj gj' (by cases y;cases y';simp only [Hd.mk.injEq] at *;exact ⟨q1,q2,(A0y _ _).1 q4,q3⟩)⟩,by omega⟩
       ·have hdj:decide ((j:Int)<(x.hds.length:Int))=false:=by simpa using hjl
        rw [A0I (by omega),A0I (by omega)] at hej;have ne0:=V4 0 1 (c+10) (c+11) (by omega);repeat' ((with_reducible first|refine wr ?_|refine A2 ?_ ?_|fail)<;>try simp only [go_sem,seval,hdj,hw,ne0,A0,A1,A0G])
        exact ⟨k+1,by simp [C9,tm,Tm.upd],(B6x (c:=c) (fun j0 b0 h0=>by by_cases a3:j0=1;omega;rw [A3 a3] at h0;by_cases a4:j0=0;omega;rw [A3 a4] at h0;cases h0) (fun j0 h0=>by repeat rw [A3 (by omega)])),inv ⟨by omega,by omega,B1b he hg hg' (by cases x;cases x';simp only [Md.mk.injEq] at *;exact ⟨h1,h2,hej,h3⟩)⟩,by omega⟩
  ·have hd:decide ((k:Int)<(M.length:Int))=false:=by simpa using hlt
   rw [A0I (by omega),A0I (by omega)] at he;repeat' ((with_reducible first|refine wr ?_|refine A2 ?_ ?_|fail)<;>try simp only [go_sem,seval,hd,A0G])
   exact ⟨_,by rw [hT hDD he];exact GL.refl _ _⟩
theorem c_plainE:∀ (m:Nat) (l:List Ex),Ex.szs l<m->Ex.szs l<=100000000000->PC Tryz.prog 130 [H3 l] (H3 (l.map Ex.plain)):=by
 intro m
 induction m with
 | zero=>intro l h;omega
 | succ m ih =>
 intro l hm hB;have hl:=Ex.szs_len l;refine PC.ofT B1 rfl (A0B rfl) (by simp [DV.nlL,DV.nl,Q5]) (Q5 _) ?_;repeat' ((with_reducible first|refine wr ?_|refine A2 ?_ ?_|fail)<;>try simp only [go_sem,seval])
 obtain ⟨F,hF⟩:∃ F:Nat->List Ex, ∀ k,F k=(l.take k).map Ex.plain:=⟨_,fun _=>rfl⟩;have hF0:F 0=[]:=by rw [hF];rfl
 have hFl:∀ k,(F k).length<=l.length:=fun k=>by rw [hF,A0G,A1B];omega
 refine D8 (fun q:Nat × Option Nat=>[(0,H3 l),(3,B6 q.2 (F q.1).length),(4,I64 q.1)]) (fun q=>C5 Sym.nil q.2 ⟨5,true,A4 ((F q.1).map Ex.v)⟩)
  (fun q c=>q.1<=l.length/\(q.2=none->F q.1=[])/\(∀ i,q.2=some i->i<c)) (fun q=>l.length-q.1) (0,none)
  (by simp [C9,tm,Tm.upd,B6]) (Sub.nil _) ⟨A0Y _,fun _=>hF0,(fun i hi=>by cases hi)⟩ ?_
 rintro ⟨k,o⟩ c ⟨hk,hno,ho⟩;dsimp only at hk hno ho ⊢;by_cases hlt:k<l.length
 ·have hd:decide ((k:Int)<(l.length:Int))=true:=by simpa using hlt
  have hg:=A0C hlt;have hsx:=Ex.szs_mem (A0S hlt);have hw:=w64 (n:=(k:Int)+1) (by omega) (by omega);have e0:F (k+1)=F k++[l[k].plain]:=by rw [hF,hF,A1D,hg,A0M];rfl
  have hFk:=hFl k;generalize l[k]=x at hg hsx e0;have hax:Ex.szs x.args<x.sz:=by cases x with|mk k v n a p=>rw [Ex.sz];show Ex.szs a<_;omega
  have hc:=ih x.args (by omega) (by omega);have hln:(A4 ((F k).map Ex.v)).length=(F k).length * 5:=(B5 (u:=5) (W0 _)).trans (by simp);have ne0:=O0 c (c+1) (c+2) (by omega);repeat' ((with_reducible first|refine wr ?_|refine cpc hc ?_|refine A2 ?_ ?_|fail)<;>try simp only [go_sem,seval,hd,hg,hw,Ex.v_w,ne0,A0,A1])
  refine C4 (E6 (cs:=A4 ((F k).map Ex.v)) (fun e=>by rw [hno e];exact ⟨rfl,rfl⟩) (fun i hi=>by have:=ho i hi;rw [A3 (by omega),A3 (by omega)];exact A0r hi) hln (by omega) (by omega) (by omega)) ?_;simp only [go_sem,seval,hw];repeat' ((with_reducible first|refine wr ?_|refine A2 ?_ ?_|fail)<;>try simp only [go_sem,seval,hw])
  refine ⟨(k+1,some (c+1+1)),by simp [C9,tm,Tm.upd,B6,e0],?_,inv ⟨by omega,(fun h=>by cases h),(fun i hi=>by cases hi;omega)⟩,by simp only;omega⟩;dsimp only [C5];rw [e0,A0M,C6];refine J5 ?_;cases x with|mk kk v n a p=>simp only [Ex.plain,Ex.plains_map,Ex.kind,Ex.value,Ex.name,Ex.args,Ex.pos,V2]
 ·have hd:decide ((k:Int)<(l.length:Int))=false:=by simpa using hlt
  repeat' ((with_reducible first|refine wr ?_|refine A2 ?_ ?_|fail)<;>try simp only [go_sem,seval,hd])
  rw [hF,A0I (by omega)];exact A4z (fun e=>by have:=hno e;rw [hF,A0I (by omega)] at this;rw [this];rfl) (by simp) (W0 _)
theorem c_plainS:∀ (m:Nat) (l:List Pb.St),Pb.St.szs l<m->Pb.St.szs l<=100000000000->PC Tryz.prog 80 [F1 l] (F1 (l.map Pb.St.plain)):=by
 intro m
 induction m with
 | zero=>intro l h;omega
 | succ m ih =>
 intro l hm hB;have hl:=Pb.St.szs_len l;refine PC.ofT B1 rfl (A0B rfl) (by simp [DV.nlL,DV.nl,O5]) (O5 _) ?_;repeat' ((with_reducible first|refine wr ?_|refine A2 ?_ ?_|fail)<;>try simp only [go_sem,seval])
 obtain ⟨F,hF⟩:∃ F:Nat->List Pb.St, ∀ k,F k=(l.take k).map Pb.St.plain:=⟨_,fun _=>rfl⟩;have hF0:F 0=[]:=by rw [hF];rfl
 have hFl:∀ k,(F k).length<=l.length:=fun k=>by rw [hF,A0G,A1B];omega
 refine D8 (fun q:Nat × Option Nat=>[(0,F1 l),(3,B6 q.2 (F q.1).length),(4,I64 q.1)]) (fun q=>C5 Sym.nil q.2 ⟨7,true,A4 ((F q.1).map Pb.St.v)⟩)
  (fun q c=>q.1<=l.length/\(q.2=none->F q.1=[])/\(∀ i,q.2=some i->i<c)) (fun q=>l.length-q.1) (0,none)
  (by simp [C9,tm,Tm.upd,B6]) (Sub.nil _) ⟨A0Y _,fun _=>hF0,(fun i hi=>by cases hi)⟩ ?_
 rintro ⟨k,o⟩ c ⟨hk,hno,ho⟩;dsimp only at hk hno ho ⊢;by_cases hlt:k<l.length
 ·have hd:decide ((k:Int)<(l.length:Int))=true:=by simpa using hlt
  have hg:=A0C hlt;have hsx:=Pb.St.szs_mem (A0S hlt);have hw:=w64 (n:=(k:Int)+1) (by omega) (by omega);have e0:F (k+1)=F k++[l[k].plain]:=by rw [hF,hF,A1D,hg,A0M];rfl
  have hFk:=hFl k;generalize l[k]=x at hg hsx e0;have hax:Ex.szs x.args<x.sz:=by cases x with|mk k n t a x y p=>rw [Pb.St.sz];show Ex.szs a<_;omega
  have htx:=x.sz_thn;have hyx:=x.sz_els;have hc:=c_plainE (Ex.szs x.args+1) x.args (by omega) (by omega);have hct:=ih x.thn (by omega) (by omega);have hcy:=ih x.els (by omega) (by omega);have hln:(A4 ((F k).map Pb.St.v)).length=(F k).length * 7:=(B5 (u:=7) (X5 _)).trans (by simp);have hbn:∀ j:Nat,c<=j->C5 Sym.nil o ⟨7,true,A4 ((F k).map Pb.St.v)⟩ j=none:=fun j hj=>by rw [D2 (fun i hi=>by have:=ho i hi;omega)];rfl
  have ne0:=O0 c (c+1) (c+2) (by omega);repeat' ((with_reducible first|refine wr ?_|refine cpc hc ?_|refine cpc hct ?_|refine cpc hcy ?_|refine A2 ?_ ?_|fail)<;>try simp only [go_sem,seval,hd,hg,hw,Pb.St.v_w,ne0,A0,A1])
  refine ⟨by and_intros<;>(repeat rw [A3 (by omega)])<;>exact hbn _ (by omega),?_⟩;repeat' ((with_reducible first|refine wr ?_|refine cpc hc ?_|refine cpc hct ?_|refine cpc hcy ?_|refine A2 ?_ ?_|fail)<;>try simp only [go_sem,seval,Pb.St.v_w,ne0,A0,A1])
  refine ⟨by and_intros<;>(repeat rw [A3 (by omega)])<;>exact hbn _ (by omega),?_⟩;repeat' ((with_reducible first|refine wr ?_|refine cpc hc ?_|refine cpc hct ?_|refine cpc hcy ?_|refine A2 ?_ ?_|fail)<;>try simp only [go_sem,seval,Pb.St.v_w,ne0,A0,A1])
  refine ⟨by and_intros<;>(repeat rw [A3 (by omega)])<;>exact hbn _ (by omega),?_⟩;repeat' ((with_reducible first|refine wr ?_|refine cpc hc ?_|refine cpc hct ?_|refine cpc hcy ?_|refine A2 ?_ ?_|fail)<;>try simp only [go_sem,seval,Pb.St.v_w,ne0,A0,A1])
  refine C4 (E6 (cs:=A4 ((F k).map Pb.St.v)) (fun e=>by rw [hno e];exact ⟨rfl,rfl⟩) (fun i hi=>by have:=ho i hi;rw [A3 (by omega),A3 (by omega)];exact A0r hi) hln (by omega) (by omega) (by omega)) ?_;simp only [go_sem,seval,hw];repeat' ((with_reducible first|refine wr ?_|refine A2 ?_ ?_|fail)<;>try simp only [go_sem,seval,hw])
  refine ⟨(k+1,some (c+1+17+1)),by simp [C9,tm,Tm.upd,B6,e0],?_,inv ⟨by omega,(fun h=>by cases h),(fun i hi=>by cases hi;omega)⟩,by simp only;omega⟩;dsimp only [C5];rw [e0,A0M,C6];refine J5 ?_;cases x with|mk kk n t a x y p=>simp only [Pb.St.plain,Ex.plains_map,Pb.St.plains_map,Pb.St.kind,Pb.St.name,Pb.St.text,Pb.St.args,Pb.St.thn,Pb.St.els,Pb.St.pos,B2v]
 ·have hd:decide ((k:Int)<(l.length:Int))=false:=by simpa using hlt
  repeat' ((with_reducible first|refine wr ?_|refine A2 ?_ ?_|fail)<;>try simp only [go_sem,seval,hd])
  rw [hF,A0I (by omega)];exact A4z (fun e=>by have:=hno e;rw [hF,A0I (by omega)] at this;rw [this];rfl) (by simp) (X5 _)
theorem c_Plain31 (r:Ru) (hB:r.sz<=100000000000):PC Tryz.prog 40 [r.v] r.plain.v:=by
 refine PC.ofT B1 rfl (A0B rfl) (by simp [DV.nlL,DV.nl,M8,M7]) (Ru.nl _) ?_;obtain ⟨D,M⟩:=r;have hDs:(D.map Dc.sz).sum+(M.map Md.sz).sum<=100000000000:=hB;have hDl:D.length<=(D.map Dc.sz).sum:=H6 fun x _=>by show 1<=1+_;omega
 have hMl:M.length<=(M.map Md.sz).sum:=H6 fun x _=>by show 1<=1+_+_;omega
 dsimp only [Ru.v,Ru.plain];repeat' ((with_reducible first|refine wr ?_|refine A2 ?_ ?_|fail)<;>try simp only [go_sem,seval])
 obtain ⟨F,hF⟩:∃ F:Nat->List Dc, ∀ k,F k=(D.take k).map Dc.plain:=⟨_,fun _=>rfl⟩;have hF0:F 0=[]:=by rw [hF];rfl
 have hFl:∀ k,(F k).length<=D.length:=fun k=>by rw [hF,A0G,A1B];omega
 refine D8 (fun q:Nat × Option Nat=>[(1,.ptr 0 0),(2,.ptr 1 0),(3,.ptr 2 0),(4,I64 q.1)]) (fun q=>C5 (((Sym.nil.upd 0 ⟨0,true,[E8 D,G6 M]⟩).upd 1 ⟨0,true,[.snil,.snil]⟩).upd 2 ⟨0,true,[B6 q.2 (F q.1).length,.snil]⟩) q.2 ⟨4,true,A4 ((F q.1).map Dc.v)⟩)
  (fun q c=>3<=c/\q.1<=D.length/\(q.2=none->F q.1=[])/\(∀ i,q.2=some i->3<=i/\i<c)) (fun q=>D.length-q.1) (0,none)
  (by simp [C9,tm,Tm.upd]) (Sub.refl _) ⟨by omega,A0Y _,fun _=>hF0,(fun i hi=>by cases hi)⟩ ?_
 rintro ⟨k,o⟩ c ⟨hc,hk,hno,ho⟩;dsimp only at hc hk hno ho ⊢;have hbr:C5 (((Sym.nil.upd 0 ⟨0,true,[E8 D,G6 M]⟩).upd 1 ⟨0,true,[.snil,.snil]⟩).upd 2 ⟨0,true,[B6 o (F k).length,.snil]⟩) o ⟨4,true,A4 ((F k).map Dc.v)⟩ 0=some ⟨0,true,[E8 D,G6 M]⟩:=by rw [D2 (fun i hi=>by have:=ho i hi;omega),A3 (by omega),A3 (by omega),A0]
 by_cases hlt:k<D.length
 ·have hd:decide ((k:Int)<(D.length:Int))=true:=by simpa using hlt
  have hg:=A0C hlt;have hw:=w64 (n:=(k:Int)+1) (by omega) (by omega);have e0:F (k+1)=F k++[D[k].plain]:=by rw [hF,hF,A1D,hg,A0M];rfl
  have hFk:=hFl k;generalize D[k]=x at hg e0;have hln:(A4 ((F k).map Dc.v)).length=(F k).length * 4:=(B5 (u:=4) (W1 _)).trans (by simp);have hbx:C5 (((Sym.nil.upd 0 ⟨0,true,[E8 D,G6 M]⟩).upd 1 ⟨0,true,[.snil,.snil]⟩).upd 2 ⟨0,true,[B6 o (F k).length,.snil]⟩) o ⟨4,true,A4 ((F k).map Dc.v)⟩ 2=some ⟨0,true,[B6 o (F k).length,.snil]⟩:=by rw [D2 (fun i hi=>by have:=ho i hi;omega),A0]
  have hb1:C5 (((Sym.nil.upd 0 ⟨0,true,[E8 D,G6 M]⟩).upd 1 ⟨0,true,[.snil,.snil]⟩).upd 2 ⟨0,true,[B6 o (F k).length,.snil]⟩) o ⟨4,true,A4 ((F k).map Dc.v)⟩ 1=some ⟨0,true,[.snil,.snil]⟩:=by rw [D2 (fun i hi=>by have:=ho i hi;omega),A3 (by omega),A0]
  have hbo:∀ i:Nat,o=some i->C5 (((Sym.nil.upd 0 ⟨0,true,[E8 D,G6 M]⟩).upd 1 ⟨0,true,[.snil,.snil]⟩).upd 2 ⟨0,true,[B6 o (F k).length,.snil]⟩) o ⟨4,true,A4 ((F k).map Dc.v)⟩ i=some ⟨4,true,A4 ((F k).map Dc.v)⟩:=fun i hi=>by subst hi;exact A0
  have hdx:∀ X:Hp,K3 X o 2=X 2:=fun X=>E0 (fun i hi=>by have:=ho i hi;omega);generalize hHH:C5 (((Sym.nil.upd 0 ⟨0,true,[E8 D,G6 M]⟩).upd 1 ⟨0,true,[.snil,.snil]⟩).upd 2 ⟨0,true,[B6 o (F k).length,.snil]⟩) o ⟨4,true,A4 ((F k).map Dc.v)⟩=HH at hbr hbx hbo hb1 ⊢;have ne0:=B1t 0 1 2 c (c+1) (c+1+1) (by omega);repeat' ((with_reducible first|refine wr ?_|refine A2 ?_ ?_|fail)<;>try simp only [go_sem,seval,hd,hg,hw,hbr,hbx,ne0,A0,A1])
  refine C4 (E6 (cs:=A4 ((F k).map Dc.v)) (fun e=>by rw [hno e];exact ⟨rfl,rfl⟩) (fun i hi=>by have:=ho i hi;rw [A3 (by omega),A3 (by omega)];exact hbo i hi) hln (by omega) (by omega) (by omega)) ?_;simp only [go_sem,seval,hw,ne0,A0,A1,hdx,hbx];repeat' ((with_reducible first|refine wr ?_|refine A2 ?_ ?_|fail)<;>try simp only [go_sem,seval,hw,ne0,A0,A1,hdx,hbx])
  refine ⟨(k+1,some (c+1+1)),by simp [C9,tm,Tm.upd],?_,inv ⟨by omega,by omega,(fun h=>by cases h),(fun i hi=>by cases hi;omega)⟩,by simp only;omega⟩;dsimp only [C5,B6];rw [e0,A0M,C6,A0A,A0F];intro j b hj;by_cases e1:j=c+1+1
  ·subst e1;rw [A0] at hj;rw [A3 (by omega),A0, <- hj];rfl
  rw [A3 e1] at hj;by_cases e2:j=2
  ·subst e2;rw [A0] at hj ⊢;exact hj
  rw [A3 e2] at hj ⊢;rw [A3 e1];by_cases e3:j=1
  ·subst e3;rw [A0] at hj;rw [E0 (fun i hi=>by have:=ho i hi;omega),A3 (by omega),A3 (by omega),hb1];exact hj
  rw [A3 e3] at hj;by_cases e4:j=0
  ·subst e4;rw [A0] at hj;rw [E0 (fun i hi=>by have:=ho i hi;omega),A3 (by omega),A3 (by omega),hbr];exact hj
  ·rw [A3 e4] at hj;cases hj
 ·have hd:decide ((k:Int)<(D.length:Int))=false:=by simpa using hlt
  repeat' ((with_reducible first|refine wr ?_|refine A2 ?_ ?_|fail)<;>try simp only [go_sem,seval,hd,hbr])
  refine IW.keep [1,2,3,6] [.ptr 0 0,.ptr 1 0,.ptr 2 0,I64 0] (B7z (Hb:=((Sym.nil.upd 0 ⟨0,true,[E8 D,G6 M]⟩).upd 1 ⟨0,true,[.snil,.snil]⟩)) (ci:=2) (u:=4) (pre:=[]) (suf:=[.snil]) (xs:=(F k).map Dc.v) (by simp [DV.one]) (fun h=>by rw [hno h];rfl) (fun i hi=>by have:=ho i hi;exact ⟨by omega,by rw [A3 (by omega),A3 (by omega)];rfl⟩) (by simp) (W1 _)) ?_;have hFD:F k=D.map Dc.plain:=by rw [hF,A0I (by omega)]
  rw [hFD];clear hno ho hbr hFD hlt hd hFl hF0 hF hk;obtain ⟨G,hG⟩:∃ G:Nat->List Md, ∀ k,G k=(M.take k).map Md.plain:=⟨_,fun _=>rfl⟩;have hG0:G 0=[]:=by rw [hG];rfl
  have hGl:∀ k,(G k).length<=M.length:=fun k=>by rw [hG,A0G,A1B];omega
  refine D8 (fun q:Nat × Option Nat=>[(1,.ptr 0 0),(2,.ptr 1 0),(3,.ptr 2 0),(6,I64 q.1)]) (fun q=>C5 (((Sym.nil.upd 0 ⟨0,true,[E8 D,G6 M]⟩).upd 1 ⟨0,true,[.snil,.snil]⟩).upd 2 ⟨0,true,[E8 (D.map Dc.plain),B6 q.2 (G q.1).length]⟩) q.2 ⟨4,true,A4 ((G q.1).map Md.v)⟩)
   (fun q c=>3<=c/\q.1<=M.length/\(q.2=none->G q.1=[])/\(∀ i,q.2=some i->3<=i/\i<c)) (fun q=>M.length-q.1) (0,none)
   (by simp [C9,tm,Tm.upd]) (by rw [hG0];exact Sub.refl _) ⟨hc,A0Y _,fun _=>hG0,(fun i hi=>by cases hi)⟩ ?_
  clear hc k c o;rintro ⟨k,o⟩ c ⟨hc,hk,hno,ho⟩;dsimp only at hc hk hno ho ⊢;have hGk:=hGl k;have hbr:C5 (((Sym.nil.upd 0 ⟨0,true,[E8 D,G6 M]⟩).upd 1 ⟨0,true,[.snil,.snil]⟩).upd 2 ⟨0,true,[E8 (D.map Dc.plain),B6 o (G k).length]⟩) o ⟨4,true,A4 ((G k).map Md.v)⟩ 0=some ⟨0,true,[E8 D,G6 M]⟩:=by rw [D2 (fun i hi=>by have:=ho i hi;omega),A3 (by omega),A3 (by omega),A0]
  have hbx:C5 (((Sym.nil.upd 0 ⟨0,true,[E8 D,G6 M]⟩).upd 1 ⟨0,true,[.snil,.snil]⟩).upd 2 ⟨0,true,[E8 (D.map Dc.plain),B6 o (G k).length]⟩) o ⟨4,true,A4 ((G k).map Md.v)⟩ 2=some ⟨0,true,[E8 (D.map Dc.plain),B6 o (G k).length]⟩:=by rw [D2 (fun i hi=>by have:=ho i hi;omega),A0]
  have hb1:C5 (((Sym.nil.upd 0 ⟨0,true,[E8 D,G6 M]⟩).upd 1 ⟨0,true,[.snil,.snil]⟩).upd 2 ⟨0,true,[E8 (D.map Dc.plain),B6 o (G k).length]⟩) o ⟨4,true,A4 ((G k).map Md.v)⟩ 1=some ⟨0,true,[.snil,.snil]⟩:=by rw [D2 (fun i hi=>by have:=ho i hi;omega),A3 (by omega),A0]
  have hbo:∀ i:Nat,o=some i->C5 (((Sym.nil.upd 0 ⟨0,true,[E8 D,G6 M]⟩).upd 1 ⟨0,true,[.snil,.snil]⟩).upd 2 ⟨0,true,[E8 (D.map Dc.plain),B6 o (G k).length]⟩) o ⟨4,true,A4 ((G k).map Md.v)⟩ i=some ⟨4,true,A4 ((G k).map Md.v)⟩:=fun i hi=>by subst hi;exact A0
  have hbn:∀ j:Nat,c<=j->C5 (((Sym.nil.upd 0 ⟨0,true,[E8 D,G6 M]⟩).upd 1 ⟨0,true,[.snil,.snil]⟩).upd 2 ⟨0,true,[E8 (D.map Dc.plain),B6 o (G k).length]⟩) o ⟨4,true,A4 ((G k).map Md.v)⟩ j=none:=fun j hj=>by rw [D2 (fun i hi=>by have:=ho i hi;omega),A3 (by omega),A3 (by omega),A3 (by omega)];rfl
  have hT:(B6 o (G k).length).one=true:=by cases o<;>rfl
  have hdx:∀ X:Hp,K3 X o 2=X 2:=fun X=>E0 (fun i hi=>by have:=ho i hi;omega);by_cases hlt:k<M.length
  ·have hd:decide ((k:Int)<(M.length:Int))=true:=by simpa using hlt
   have hg:=A0C hlt;have hw:=w64 (n:=(k:Int)+1) (by omega) (by omega);have e0:G (k+1)=G k++[M[k].plain]:=by rw [hG,hG,A1D,hg,A0M];rfl
   have hsx:=J4 (f:=Md.sz) (A0S hlt);generalize M[k]=x at hg hsx e0;have hxs:(x.hds.map Hd.sz).sum<Md.sz x:=by unfold Md.sz;omega
   have hxl:x.hds.length<=(x.hds.map Hd.sz).sum:=H6 fun x _=>by show 1<=1+_+_;omega
   have hln:(A4 ((G k).map Md.v)).length=(G k).length * 4:=(B5 (u:=4) (A0g _)).trans (by simp);generalize hHH:C5 (((Sym.nil.upd 0 ⟨0,true,[E8 D,G6 M]⟩).upd 1 ⟨0,true,[.snil,.snil]⟩).upd 2 ⟨0,true,[E8 (D.map Dc.plain),B6 o (G k).length]⟩) o ⟨4,true,A4 ((G k).map Md.v)⟩=HH at hbr hbx hbo hb1 hbn ⊢;have ne0:=V4 0 1 2 (c+13) (by omega);repeat' ((with_reducible first|refine wr ?_|refine A2 ?_ ?_|fail)<;>try simp only [go_sem,seval,hd,hg,hw,hbr,hbx,ne0,A0,A1])
   obtain ⟨K,hK⟩:∃ K:Nat->List Hd, ∀ j,K j=(x.hds.take j).map Hd.plain:=⟨_,fun _=>rfl⟩;have hK0:K 0=[]:=by rw [hK];rfl
   have hKl:∀ j,(K j).length<=x.hds.length:=fun j=>by rw [hK,A0G,A1B];omega
   refine D8 (fun q:Nat × Option Nat=>[(1,.ptr 0 0),(2,.ptr 1 0),(3,.ptr 2 0),(6,I64 k),(7,.ptr (c+13) 0),(8,I64 q.1)]) (fun q=>C5 (HH.upd (c+13) ⟨0,true,[.str x.name,I64 x.prio,B6 q.2 (K q.1).length,I64 0]⟩) q.2 ⟨4,true,A4 ((K q.1).map Hd.v)⟩)
    (fun q n=>c+15<=n/\q.1<=x.hds.length/\(q.2=none->K q.1=[])/\(∀ i,q.2=some i->c+15<=i/\i<n)) (fun q=>x.hds.length-q.1) (0,none)
    (by simp [C9,tm,Tm.upd]) (by rw [hK0];exact Sub.refl _) ⟨A0E _,A0Y _,fun _=>hK0,(fun i hi=>by cases hi)⟩ ?_
   rintro ⟨j,o2⟩ n ⟨hn,hj,hno2,ho2⟩;dsimp only at hn hj hno2 ho2 ⊢;have hKj:=hKl j;have h2r:C5 (HH.upd (c+13) ⟨0,true,[.str x.name,I64 x.prio,B6 o2 (K j).length,I64 0]⟩) o2 ⟨4,true,A4 ((K j).map Hd.v)⟩ 0=some ⟨0,true,[E8 D,G6 M]⟩:=by rw [D2 (fun i hi=>by have:=ho2 i hi;omega),A3 (by omega),hbr]
   have h2b:C5 (HH.upd (c+13) ⟨0,true,[.str x.name,I64 x.prio,B6 o2 (K j).length,I64 0]⟩) o2 ⟨4,true,A4 ((K j).map Hd.v)⟩ (c+13)=some ⟨0,true,[.str x.name,I64 x.prio,B6 o2 (K j).length,I64 0]⟩:=by rw [D2 (fun i hi=>by have:=ho2 i hi;omega),A0]
   have h2o:∀ i:Nat,o2=some i->C5 (HH.upd (c+13) ⟨0,true,[.str x.name,I64 x.prio,B6 o2 (K j).length,I64 0]⟩) o2 ⟨4,true,A4 ((K j).map Hd.v)⟩ i=some ⟨4,true,A4 ((K j).map Hd.v)⟩:=fun i hi=>by subst hi;exact A0
   have h2n:∀ i:Nat,n<=i->C5 (HH.upd (c+13) ⟨0,true,[.str x.name,I64 x.prio,B6 o2 (K j).length,I64 0]⟩) o2 ⟨4,true,A4 ((K j).map Hd.v)⟩ i=none:=fun i hi=>by rw [D2 (fun i hi=>by have:=ho2 i hi;omega),A3 (by omega)];exact hbn _ (by omega)
   have h2j:∀ i:Nat,i<c+13->C5 (HH.upd (c+13) ⟨0,true,[.str x.name,I64 x.prio,B6 o2 (K j).length,I64 0]⟩) o2 ⟨4,true,A4 ((K j).map Hd.v)⟩ i=HH i:=fun i hi=>by rw [D2 (fun i hi=>by have:=ho2 i hi;omega),A3 (by omega)]
   have hT2:(B6 o2 (K j).length).one=true:=by cases o2<;>rfl
   have hdx2:∀ X:Hp,K3 X o2 (c+13)=X (c+13):=fun X=>E0 (fun i hi=>by have:=ho2 i hi;omega);by_cases hjl:j<x.hds.length
   ·have hdj:decide ((j:Int)<(x.hds.length:Int))=true:=by simpa using hjl
    have hgj:=A0C hjl;have hwj:=w64 (n:=(j:Int)+1) (by omega) (by omega);have k0:K (j+1)=K j++[x.hds[j].plain]:=by rw [hK,hK,A1D,hgj,A0M];rfl
    have hsj:=J4 (f:=Hd.sz) (A0S hjl);generalize x.hds[j]=y at hgj hsj k0;have hbs:Pb.St.szs y.body<Hd.sz y:=by unfold Hd.sz;omega
    have cb:=c_plainS (Pb.St.szs y.body+1) y.body (by omega) (by omega);have hlj:(A4 ((K j).map Hd.v)).length=(K j).length * 4:=(B5 (u:=4) (V9 _)).trans (by simp);generalize hH2:C5 (HH.upd (c+13) ⟨0,true,[.str x.name,I64 x.prio,B6 o2 (K j).length,I64 0]⟩) o2 ⟨4,true,A4 ((K j).map Hd.v)⟩=H2 at h2r h2b h2o h2n h2j ⊢;have ne0:=P0 0 1 2 (c+13) n (by omega);repeat' ((with_reducible first|refine wr ?_|refine cpc cb ?_|refine A2 ?_ ?_|fail)<;>try simp only [go_sem,seval,hdj,hg,hgj,hwj,h2r,h2b,ne0,A0,A1])
    refine ⟨by and_intros<;>(repeat rw [A3 (by omega)])<;>exact h2n _ (by omega),?_⟩;rw [E6 (cs:=A4 ((K j).map Hd.v)) (fun e=>by rw [hno2 e];exact ⟨rfl,rfl⟩) (fun i hi=>by have:=ho2 i hi;rw [A3 (by omega),A3 (by omega)];exact h2o i hi) hlj (by omega) (by omega) (by omega)];have ne0:=D0l 0 1 2 (c+13) n (n+1+10) (n+1+14) (by omega);simp only [go_sem,seval,ne0,A0,A1,hdx2,h2b,hwj];repeat' ((with_reducible first|refine wr ?_|refine A2 ?_ ?_|fail)<;>try simp only [go_sem,seval,ne0,A0,A1,hdx2,h2b,hwj])
    refine ⟨(j+1,some (n+1+14)),by simp,?_,inv ⟨by omega,by omega,(fun h=>by cases h),(fun i hi=>by cases hi;omega)⟩,by simp only;omega⟩;dsimp only [C5,B6];rw [k0,A0M,C6,A0A,A0F];intro i b hi;by_cases e1:i=n+1+14
    ·subst e1;rw [A0] at hi;rw [A3 (by omega),A0, <- hi];simp only [Hd.plain,Pb.St.plains_map];rfl
    rw [A3 e1] at hi;by_cases e2:i=c+13
    ·subst e2;rw [A0] at hi ⊢;exact hi
    rw [A3 e2] at hi ⊢;rw [A3 e1];have hic:i<c:=Classical.byContradiction fun h=>by rw [hbn i (by omega)] at hi;cases hi
    rw [E0 (fun i' hi'=>by have:=ho2 i' hi';omega),A3 (by omega),A3 (by omega),h2j i (by omega)];exact hi
   ·have hdj:decide ((j:Int)<(x.hds.length:Int))=false:=by simpa using hjl
    have ne0:=P0 0 1 2 (c+13) n (by omega);repeat' ((with_reducible first|refine F9 (p:=IW _ _ (pz Tryz.prog 40 (.o (.o (.o (.i (.i .h)))))) _ _) ?_|refine wr ?_|refine A2 ?_ ?_|fail)<;>try simp only [go_sem,seval,hdj,hg,h2r,h2b,ne0,A0,A1])
    unfold X3;have hKM:K j=x.hds.map Hd.plain:=by rw [hK,A0I (by omega)]
    refine IW.keep [1,2,3,6,7] [.ptr 0 0,.ptr 1 0,.ptr 2 0,I64 k,.ptr (c+13) 0] (B7z (Hb:=HH) (ci:=c+13) (u:=4) (pre:=[.str x.name,I64 x.prio]) (suf:=[I64 0]) (xs:=(K j).map Hd.v) (by simp [DV.one]) (fun h=>by rw [hno2 h];rfl) (fun i hi=>by have:=ho2 i hi;exact ⟨by omega,hbn _ (by omega)⟩) (by simp) (V9 _)) ?_;rw [hKM];dsimp only [List.cons_append,List.nil_append];show IW Tryz.prog _ _ ⟨tm [(1,.ptr 0 0),(2,.ptr 1 0),(3,.ptr 2 0),(6,I64 k),(7,.ptr (c+13) 0)],_,_⟩ _;have ne0:=B1t 0 1 2 (c+13) n (n+1) (by omega);repeat' ((with_reducible first|refine wr ?_|refine A2 ?_ ?_|fail)<;>try simp only [go_sem,seval,hbx,hbr,ne0,A0,A1])
    refine C4 (E6 (cs:=A4 ((G k).map Md.v)) (fun e=>by rw [hno e];exact ⟨rfl,rfl⟩) (fun i hi=>by have:=ho i hi;rw [A3 (by omega),A3 (by omega)];exact hbo i hi) hln (by omega) (by omega) (by omega)) ?_;simp only [go_sem,seval,hw,ne0,A0,A1,hdx,hbx];repeat' ((with_reducible first|refine wr ?_|refine A2 ?_ ?_|fail)<;>try simp only [go_sem,seval,hw,ne0,A0,A1,hdx,hbx])
    refine ⟨(k+1,some (n+1)),by simp [C9,tm,Tm.upd],?_,inv ⟨by omega,by omega,(fun h=>by cases h),(fun i hi=>by cases hi;omega)⟩,by simp only;omega⟩;dsimp only [C5,B6];rw [e0,A0M,C6,A0A,A0F];intro i b hi;by_cases e1:i=n+1
    ·subst e1;rw [A0] at hi;rw [A3 (by omega),A0, <- hi];rfl
    rw [A3 e1] at hi;by_cases e2:i=2
    ·subst e2;rw [A0] at hi ⊢;exact hi
    rw [A3 e2] at hi ⊢;rw [A3 e1];by_cases e3:i=1
    ·subst e3;rw [A0] at hi;rw [E0 (fun i hi=>by have:=ho i hi;omega),A3 (by omega),A3 (by omega),hb1];exact hi
    rw [A3 e3] at hi;by_cases e4:i=0
    ·subst e4;rw [A0] at hi;rw [E0 (fun i hi=>by have:=ho i hi;omega),A3 (by omega),A3 (by omega),hbr];exact hi
    ·rw [A3 e4] at hi;cases hi
  ·have hd:decide ((k:Int)<(M.length:Int))=false:=by simpa using hlt
   generalize hHH:C5 (((Sym.nil.upd 0 ⟨0,true,[E8 D,G6 M]⟩).upd 1 ⟨0,true,[.snil,.snil]⟩).upd 2 ⟨0,true,[E8 (D.map Dc.plain),B6 o (G k).length]⟩) o ⟨4,true,A4 ((G k).map Md.v)⟩=HH at hbr hbx hbo hb1 hbn ⊢;have ne0:=O0 0 1 2 (by omega);repeat' ((with_reducible first|refine wr ?_|refine A2 ?_ ?_|fail)<;>try simp only [go_sem,seval,hd,hbr,hbx,hb1,ne0,A0,A1,hT])
   refine C4 (A5n (by rfl) (by decide) (by cases o<;>rfl)) ?_;simp only [go_sem,seval,ne0,A0];repeat' ((with_reducible first|refine wr ?_|refine A2 ?_ ?_|fail)<;>try simp only [go_sem,seval,ne0,A0])
   rw [D9 (rv2 rfl rfl)];have hGM:M.map Md.plain=G k:=by rw [hG,A0I (by omega)]
   rw [hGM];exact ⟨Sym.nil,C2n (cc:=0) (G k) (fun _ _=>rfl) (fun _ _=>A0Y _) hno (fun i hi=>by have:=ho i hi;show (HH.upd 1 _) i=_;rw [A3 (by omega)];exact hbo i hi) (fun j hj=>by omega)⟩
end Go.Proofs.YthlpinppaclofaaGreatDoor
set_option linter.unusedSectionVars false
namespace Go.Pb
variable [Go.Sym.Tab]
open Go.Sym
def B8f (t:Tok):Prop:=J3 t/\0<=t.value/\t.value<=2147483647
abbrev E3 (l:List Tok):Prop:=∀ t∈l,B8f t
theorem A2t:B8f M6:=⟨⟨fun h=>by simp [M6] at h,fun h=>by simp [M6] at h,fun h=>by simp [M6] at h⟩,by simp [M6],by simp [M6]⟩
theorem V1 (s:List UInt8):B8f (A6 s):=by
 refine ⟨⟨fun h=>?_,fun h=>?_,fun h=>?_⟩,by simp [A6],by simp [A6]⟩;all_goals simp only [A6] at h ⊢
 all_goals (by_cases h1:F6 s=true)
 all_goals (by_cases h2:C8 s=true)
 all_goals (simp_all)
theorem A1e (s:List UInt8):E3 (D4 s):=by
 intro t ht;unfold D4 at ht;split at ht
 ·rw [A0N] at ht;subst ht;exact A2t
 ·rename_i h;rw [A0N] at ht;subst ht;exact ⟨⟨fun _=>by simpa using h,fun h=>by simp at h,fun h=>by simp at h⟩,by simp,by simp⟩
theorem B7y (n:Int):E3 (P8 n):=by
 intro t ht;unfold P8 at ht;split at ht
 ·rw [A0N] at ht;subst ht;exact A2t
 ·rename_i h;rw [A0N] at ht;subst ht;refine ⟨⟨fun h=>by simp at h,fun _=>?_,fun h=>by simp at h⟩,?_,?_⟩<;>simp only<;>omega
theorem D5a (s:List UInt8):E3 (S8 s):=by
 intro t ht;unfold S8 at ht;split at ht
 ·rw [A0N] at ht;subst ht;exact A2t
 ·rename_i h;rw [A0N] at ht;subst ht;refine ⟨⟨fun h=>by simp at h,fun h=>by simp at h,fun _=>?_⟩,by simp,by simp⟩;simp only [R0,A0D,A0H];refine ⟨?_,by omega⟩;cases hz:s.all txB with
  | true=>rfl
  | false=>exact absurd (.inl hz) h
theorem E3.app {a b:List Tok} (ha:E3 a) (hb:E3 b):E3 (a++b):=fun t ht=>(A1T.1 ht).elim (ha t) (hb t)
theorem E3.one {t:Tok} (h:B8f t):E3 [t]:=fun x hx=>by rw [A0N] at hx;subst hx;exact h
theorem E3.nil:E3 []:=fun x hx=>by cases hx
theorem E3.flat {α : Type} {f : α -> List Tok} {l:List α} (h:∀ x∈l,E3 (f x)):E3 (l.flatMap f):=fun t ht=>by
 obtain ⟨x,hx,h2⟩:=List.mem_flatMap.1 ht;exact h x hx t h2
theorem C2m {q:Int × List Tok} (n:Int) (h:E3 q.2):E3 (E5 q n):=by
 unfold E5;split
 ·exact ((E3.one (V1 _)).app h).app (E3.one (V1 _))
 ·exact h
theorem D5b {k v:Int} {n:List UInt8} {as1:List (Int × List Tok)} (h:∀ q∈as1,E3 q.2):E3 (G1 k v n as1):=by
 unfold G1;dsimp only;by_cases h1:k=1
 ·rw [if_pos h1];exact B7y _
 rw [if_neg h1];by_cases h2:k=2
 ·rw [if_pos h2];exact A1e _
 rw [if_neg h2];by_cases h3:k=3
 ·rw [if_pos h3];exact E3.one (V1 _)
 rw [if_neg h3];by_cases h4:k=4
 ·rw [if_pos h4];exact E3.one (V1 _)
 rw [if_neg h4];by_cases h8:k=8
 ·rw [if_pos h8];exact E3.one (V1 _)
 rw [if_neg h8];by_cases h9:k=9
 ·rw [if_pos h9];exact E3.one (V1 _)
 rw [if_neg h9];by_cases h5:k=5
 ·rw [if_pos h5];exact (E3.one (V1 _)).app (A1e _)
 rw [if_neg h5];by_cases h6:k=6
 ·rw [if_pos h6];exact (E3.one (V1 _)).app (A1e _)
 rw [if_neg h6];by_cases h7:k=7
 ·rw [if_pos h7];exact (E3.one (V1 _)).app (A1e _)
 rw [if_neg h7]
 match as1,h with
 | [],_=>exact E3.one A2t
 | [q],h =>
  dsimp only;split
  ·exact (E3.one (V1 _)).app (C2m _ (h q A0K))
  ·exact E3.one A2t
 | [q,r],h =>
  dsimp only;split
  ·exact ((C2m _ (h q A0K)).app (E3.one (V1 _))).app (C2m _ (h r (A0J _ A0K)))
  ·exact E3.one A2t
 | _ :: _ :: _ :: _,_=>exact E3.one A2t
theorem C7u:∀ e:Ex,E3 (exT e)
 | .mk k v n a p=>by
  have ih:∀ x∈a,E3 (exT x):=fun x hx=>C7u x;rw [exT,A2u];exact D5b fun q hq=>by
   obtain ⟨x,hx,rfl⟩:=A1M.1 hq;exact ih x hx
theorem A8o (l:List Ex) (i:Nat):E3 (agT l i):=by
 unfold agT;cases h:l[i]? with
 | none=>exact E3.one A2t
 | some e=>exact C7u e
mutual
theorem C2k:∀ s:St,E3 (stT s)
 | .mk k n t a x y p=>by
  have hx:=A7n x;have hy:∀ l,l=y->E3 (O8 l):=fun l h=>by subst h;exact A7n l
  have hq:∀ q,y=[q]->E3 (stT q):=fun q h=>by subst h;exact C2k q
  have w:∀ s,E3 [A6 s]:=fun s=>E3.one (V1 s);unfold stT;split
  ·exact (((A1e _).app (w _)).app (A8o _ _)).app (w _)
  split
  ·exact E3.one A2t
  dsimp only;split
  ·have ho:E3 ([A6 (B7.getD (k-2).toNat [])]++agT a 0++([A6 [123]]++O8 x++[A6 [125]])):=((w _).app (A8o _ _)).app (((w _).app hx).app (w _))
   match y,hy,hq with
   | [],_,_=>exact ho
   | [q],_,hq =>
    dsimp only;split
    ·exact (ho.app (w _)).app (hq q rfl)
    ·exact (ho.app (w _)).app (((w _).app (hq q rfl)).app (w _))
   | q :: q2 :: r,hy,_=>exact (ho.app (w _)).app (((w _).app (hy _ rfl)).app (w _))
  split
  ·exact ((w _).app (A8o _ _)).app (w _)
  split
  ·exact ((((w _).app (D5a _)).app (w _)).app (A8o _ _)).app (w _)
  split
  ·exact (((w _).app (A1e _)).app (A8o _ _)).app (w _)
  split
  ·exact (((((w _).app (A1e _)).app (A8o _ _)).app (w _)).app (A8o _ _)).app (w _)
  split
  ·exact (w _).app (w _)
  ·exact ((w _).app (A1e _)).app (w _)
theorem A7n:∀ l:List St,E3 (O8 l)
 | []=>by rw [O8];exact E3.nil
 | s :: l=>by rw [O8];exact (C2k s).app (A7n l)
end
theorem D1n (l:List St):E3 (blT l):=((E3.one (V1 _)).app (A7n l)).app (E3.one (V1 _))
theorem D1m (d:Dc):E3 (dcT d):=by
 have w:∀ s,E3 [A6 s]:=fun s=>E3.one (V1 s);unfold dcT;split
 ·exact E3.one A2t
 ·dsimp only;refine E3.app ?_ (w _);split
  ·exact (w _).app (A1e _)
  split
  ·exact (((w _).app (A1e _)).app (w _)).app (B7y _)
  ·exact ((w _).app (A1e _)).app (B7y _)
theorem D1l (h:Hd):E3 (hdT h):=by
 unfold hdT;refine E3.app (E3.app ?_ ?_) (D1n _)
 ·exact (E3.one (V1 _)).app (E3.one (V1 _))
 ·split
  ·exact A1e _
  ·exact E3.nil
theorem D1k (m:Md):E3 (mdT m):=by
 have w:∀ s,E3 [A6 s]:=fun s=>E3.one (V1 s);unfold mdT;exact (((((w _).app (A1e _)).app (B7y _)).app (w _)).app (E3.flat fun x _=>D1l x)).app (w _)
theorem C2l (r:Ru):E3 (ruT r):=by
 unfold ruT;split
 ·exact E3.one A2t
 ·exact (E3.flat fun x _=>D1m x).app (E3.flat fun x _=>D1k x)
section
variable {L:List Tok} {E:Int}
theorem B7q {s:List UInt8} (h:C8 s=true):s.length<=12:=by
 unfold C8 at h;simp only [A0D,A0H] at h;exact h.1.1.1.2
theorem A3d (hG:∀ t∈L,J3 t) {s:Rd}:(A9 L E s 1).1.text.length<=12:=by
 cases h:G7 L E s 1 with
 | false=>unfold A9;rw [if_pos h];exact A0Y _
 | true =>
  unfold A9;rw [if_neg (by rw [h];decide)];exact B7q ((hG _ (I0 (by decide) (I2 h).2).1).1 (I2 h).2)
theorem C3v (hG:∀ t∈L,J3 t) {s:Rd}:(A9 L E s 4).1.text.length<=32:=by
 cases h:G7 L E s 4 with
 | false=>unfold A9;rw [if_pos h];exact A0Y _
 | true =>
  unfold A9;rw [if_neg (by rw [h];decide)];have:=(hG _ (I0 (by decide) (I2 h).2).1).2.2 (I2 h).2;unfold R0 at this;simp only [A0D,A0H] at this;exact this.2
theorem C4u (hG:∀ t∈L,J3 t) {s:Rd}:(H9 L E s).1.sz+13 * s.i<=13 * (H9 L E s).2.i+1:=by
 have hge:=B7m (L:=L) (E:=E) (s:=s);have h2:(C7 L E { s with ops:=s.ops+1 } (s.ops+1) 32 9).i=s.i:=G9;unfold H9 at hge ⊢;dsimp only at hge ⊢;split
 ·rename_i hc;rw [if_pos hc] at hge;show 1+0+0+_<=_;have:s.i<=(O3 L E s).i:=hge;show 1+0+0+13 * s.i<=13 * (O3 L E s).i+1;omega
 ·rename_i hc;rw [if_neg hc] at hge;split
  ·show 1+0+0+13 * s.i<=13 * (C7 L E { s with ops:=s.ops+1 } (s.ops+1) 32 9).i+1;omega
  ·have h3:(A8 (C7 L E { s with ops:=s.ops+1 } (s.ops+1) 32 9)).i=s.i+1:=by show (C7 L E { s with ops:=s.ops+1 } (s.ops+1) 32 9).i+1=_;rw [h2]
   generalize A8 (C7 L E { s with ops:=s.ops+1 } (s.ops+1) 32 9)=s3 at h3;have h4:=K4 (L:=L) (E:=E) (s:=s3) (x:=1);have h5:=A3d (L:=L) (E:=E) hG (s:=s3);split
   ·split
    ·show 1+(A9 L E s3 1).1.text.length+0+13 * s.i<=13 * (A9 L E s3 1).2.i+1;omega
    ·show 1+0+0+13 * s.i<=13 * s3.i+1;omega
   ·rename_i hk;split
    ·show 1+0+0+13 * s.i<=13 * s3.i+1;omega
    ·rename_i hk3;have h1k:G7 L E s 1=true:=by
      cases hz:G7 L E s 1 with
      | true=>rfl
      | false =>
       refine absurd ⟨by omega,?_,hz⟩ hc;cases hy:G7 L E s 3 with
       | false=>rfl
       | true=>exact absurd (I2 hy).2 hk3
     have:=B7q ((hG _ (I0 (by decide) (I2 h1k).2).1).1 (I2 h1k).2);show 1+(A7 L E s).text.length+0+13 * s.i<=13 * s3.i+1;omega
theorem EZ.all (hG:∀ t∈L,J3 t):∀ f:Nat,(∀ n s r,F5 L E f n s=some r->r.1.sz+13 * s.i<=13 * r.2.i+1)/\(∀ n e s r,K2 L E f n e s=some r->r.1.sz+13 * s.i<=13 * r.2.i+e.sz)/\(∀ s r,K8 L E f s=some r->r.1.sz+13 * s.i<=13 * r.2.i+1)
 | 0=>⟨fun n s r h=>by simp [F5] at h,fun n e s r h=>by simp [K2] at h,fun s r h=>by simp [K8] at h⟩
 | f+1=>by
  obtain ⟨i1,i2,i3⟩:=EZ.all hG f;refine ⟨fun n s r h=>?_,fun n e s r h=>?_,fun s r h=>?_⟩
  ·unfold F5 at h;split at h
   ·exact i3 _ _ h
   ·split at h
    ·cases h
    ·rename_i hb;have h1:=i1 _ _ _ hb;have h2:=i2 _ _ _ _ h;dsimp only at h1;omega
  ·unfold K2 at h;dsimp only at h;split at h
   ·cases h;dsimp only;omega
   ·split at h
    ·cases h
    ·rename_i x s1 hb;have h1:=i1 _ _ _ hb;have h1:x.sz+13 * (s.i+1)<=13 * s1.i+1:=h1;have h3:(Ex.mk (12+B9 L E s C3) 0 [] [e,x] (A7 L E s).pos).sz=1+e.sz+x.sz:=by rw [Ex.sz,Ex.szs,Ex.szs,Ex.szs];simp;omega
     split at h
     ·cases h;rw [h3];show 1+e.sz+x.sz+13 * s.i<=13 * s1.i+e.sz;omega
     ·have h2:=i2 _ _ _ _ h;rw [h3] at h2;omega
  ·unfold K8 at h;dsimp only at h;split at h
   ·cases h;exact C4u hG
   ·split at h
    ·cases h;show 1+0+0+13 * s.i<=13 * (C7 L E s (s.par+1) 16 50).i+1;rw [G9];omega
    ·rename_i hl;have hl:okR (C7 L E s (s.par+1) 16 50)=true:=by simpa using hl
     obtain ⟨-, -,h3⟩:=I1 (by decide) hl;rw [h3] at h;split at h
     ·split at h
      ·cases h
      ·rename_i e s3 hb;cases h;have h1:=i1 _ _ _ hb;have h1:e.sz+13 * (s.i+1)<=13 * s3.i+1:=h1;have h2:=F3 (L:=L) (E:=E) (s:=s3) (x:=[41]);show e.sz+13 * s.i<=13 * (D6 L E s3 [41]).i+1;omega
     ·split at h
      ·cases h
      ·rename_i e s3 hb;cases h;have h1:=i3 _ _ hb;have h1:e.sz+13 * (s.i+1)<=13 * s3.i+1:=h1;have h4:(Ex.mk (10+B9 L E s N9) 0 [] [e] (A7 L E s).pos).sz=1+e.sz:=by rw [Ex.sz,Ex.szs,Ex.szs];simp
       rw [h4];show 1+e.sz+13 * s.i<=13 * s3.i+1;omega
theorem A3l (hG:∀ t∈L,J3 t) {f:Nat} {s:Rd} {r:Ex × Rd} (h:H4 L E f s=some r):r.1.sz+13 * s.i<=13 * r.2.i+1:=(EZ.all hG f).1 1 { s with ops:=0,par:=0 } r h
theorem A3t (k p:Int) (n t:List UInt8) (a:List Ex) (x y:List St):(St.mk k n t a x y p).sz=1+n.length+t.length+Ex.szs a+St.szs x+St.szs y:=by rw [St.sz]
theorem C3x (hG:∀ t∈L,J3 t) {f:Nat} {k p:Int} {s:Rd} {r:St × Rd} (h:N1 L E f k p s=some r):r.1.sz+100 * s.i<=100 * r.2.i+40:=by
 have t1:=A3d (L:=L) (E:=E) hG (s:=s);have t4:=C3v (L:=L) (E:=E) hG (s:=s);have g1:=K4 (L:=L) (E:=E) (s:=s) (x:=1);have g4:=K4 (L:=L) (E:=E) (s:=s) (x:=4);unfold N1 at h;dsimp only at h;split at h
 ·split at h
  ·cases h
  ·rename_i e s1 he;cases h;have h1:=A3l hG he;have h2:=F3 (L:=L) (E:=E) (s:=s1) (x:=[59]);rw [A3t,Ex.szs,Ex.szs,St.szs];simp only [A1C] at h1 ⊢;omega
 split at h
 ·split at h
  ·cases h
  ·rename_i e s1 he;cases h;have h1:=A3l hG he;have h2:=F3 (L:=L) (E:=E) (s:=s1) (x:=[59]);have h3:=F3 (L:=L) (E:=E) (s:=(A9 L E s 4).2) (x:=[44]);rw [A3t,Ex.szs,Ex.szs,St.szs];simp only [A1C] at h1 ⊢;omega
 split at h
 ·cases h;have h2:=F3 (L:=L) (E:=E) (s:=s) (x:=[59]);rw [A3t,Ex.szs,St.szs];simp only [A1C];omega
 split at h
 ·split at h
  ·cases h
  ·rename_i e s1 he;have h1:=A3l hG he;split at h
   ·split at h
    ·cases h
    ·rename_i e2 s2 he2;cases h;have h4:=A3l hG he2;have h2:=F3 (L:=L) (E:=E) (s:=s2) (x:=[59]);have h3:=F3 (L:=L) (E:=E) (s:=s1) (x:=[44]);rw [A3t,Ex.szs,Ex.szs,Ex.szs,St.szs];simp only [A1C] at h1 h4 ⊢;omega
   ·cases h;have h2:=F3 (L:=L) (E:=E) (s:=s1) (x:=[59]);rw [A3t,Ex.szs,Ex.szs,St.szs];simp only [A1C] at h1 ⊢;omega
 ·cases h;have h2:=F3 (L:=L) (E:=E) (s:=(A9 L E s 1).2) (x:=[59]);rw [A3t,Ex.szs,St.szs];simp only [A1C];omega
theorem B6v:∀ (l:List St) (x:St),St.szs (l++[x])=St.szs l+x.sz
 | [],x=>by simp [St.szs]
 | a :: l,x=>by rw [List.cons_append,St.szs,St.szs,B6v l x];omega
theorem SZ.all (hG:∀ t∈L,J3 t):∀ f:Nat,(∀ d s r,G4 L E f d s=some r->St.szs r.1+100 * s.i<=100 * r.2.i+40) /\
  (∀ d l s r,K6 L E f d l s=some r->St.szs r.1+100 * s.i<=100 * r.2.i+St.szs l+40/\(okR s=false->St.szs r.1<=St.szs l)) /\
  (∀ d s r,J6 L E f d s=some r->r.1.sz+100 * s.i<=100 * r.2.i+40/\(r.1.sz+100 * s.i<=100 * r.2.i\/okR r.2=false/\r.1.sz<=40)/\s.i<=r.2.i) /\
  (∀ d s r,N4 L E f d s=some r->St.szs r.1+100 * s.i<=100 * r.2.i+40)
 | 0=>⟨fun d s r h=>by simp [G4] at h,fun d l s r h=>by simp [K6] at h,fun d s r h=>by simp [J6] at h,fun d s r h=>by simp [N4] at h⟩
 | f+1=>by
  obtain ⟨i1,i2,i3,i4⟩:=SZ.all hG f;refine ⟨fun d s r h=>?_,fun d l s r h=>?_,fun d s r h=>?_,fun d s r h=>?_⟩
  ·unfold G4 at h;have h1:=(i2 _ _ _ _ h).1;have h2:=F3 (L:=L) (E:=E) (s:=s) (x:=[123]);rw [St.szs] at h1;omega
  ·unfold K6 at h;split at h
   ·rename_i hc;refine ⟨?_,fun h0=>by rw [h0] at hc;cases hc.1⟩;split at h
    ·cases h;show St.szs []+100 * s.i<=100 * (O3 L E s).i+St.szs l+40;rw [W6,St.szs];omega
    ·split at h
     ·cases h
     ·rename_i x s1 he;obtain ⟨h1,h2⟩:=i2 _ _ _ _ h;obtain ⟨h3,h4,h5⟩:=i3 _ _ _ he;rw [G9] at h3 h4 h5;rw [B6v] at h1 h2;dsimp only at h3 h4 h5;rcases h4 with h4|⟨h4,h6⟩
      ·omega
      ·have h7:=h2 h4;have h8:s1.i<=r.2.i:=by
        obtain ⟨N,hN⟩:=(ST.all (L:=L) (E:=E) _).2 d (l++[x]) s1 (A0E _);obtain ⟨⟨M,hM⟩,hg⟩:=hN;have h9:okR s1=false:=h4;have hfr:A0w L E d (l++[x]) s1 (l++[x],D6 L E s1 [125]):=A0w.stop (by rw [h9];simp);cases f with
        | zero=>simp [K6] at h
        | succ f =>
         rw [K6,if_neg (by rw [h9];simp)] at h;cases h;exact F3
       omega
   ·rename_i hc;cases h;have h2:=F3 (L:=L) (E:=E) (s:=s) (x:=[125]);exact ⟨by dsimp only;omega,fun _=>A0E _⟩
  ·have hst:=(ST.all (L:=L) (E:=E) (L.length-s.i)).1 d s (A0E _);unfold J6 at h;dsimp only at h;split at h
   ·rename_i hl;cases h;have e1:St0.sz=1:=by unfold St0;rw [A3t,Ex.szs,St.szs];rfl
    refine ⟨?_,.inr ⟨hl,by show St0.sz<=40;omega⟩,?_⟩
    ·show St0.sz+100 * s.i<=100 * (C7 L E s d 8 50).i+40;rw [G9];omega
    ·show s.i<=(C7 L E s d 8 50).i;rw [G9];exact A0E _
   rename_i hl;have hl:okR (C7 L E s d 8 50)=true:=by simpa using hl
   obtain ⟨hs,hd,hle⟩:=I1 (by decide) hl;rw [hle] at h;split at h
   ·split at h
    ·cases h
    ·rename_i e s1 he;cases h;have h1:=A3l hG he;have h2:=F3 (L:=L) (E:=E) (s:=s1) (x:=[59]);have h3:=F3 (L:=L) (E:=E) (s:=(A9 L E s 1).2) (x:=[61]);have h4:=K4 (L:=L) (E:=E) (s:=s) (x:=1);have h5:=A3d (L:=L) (E:=E) hG (s:=s);have hsz:(St.mk 1 (A9 L E s 1).1.text [] [e] [] [] (A7 L E s).pos).sz=1+(A9 L E s 1).1.text.length+e.sz:=by
      rw [A3t,Ex.szs,Ex.szs,St.szs];simp
     rw [hsz];dsimp only at h1 ⊢;refine ⟨by omega,?_,by omega⟩;by_cases ht:G7 L E s 1=true
     ·have h6:(A9 L E s 1).2.i=s.i+1:=by unfold A9;rw [if_neg (by rw [ht];decide)];rfl
      exact .inl (by omega)
     ·have ht:G7 L E s 1=false:=by simpa using ht
      have h6:(A9 L E s 1).2=O3 L E s:=by unfold A9;rw [if_pos ht]
      by_cases hp:1<=(D6 L E s1 [59]).i-s.i
      ·exact .inl (by omega)
      ·refine .inr ⟨?_,by omega⟩;cases hz:okR (D6 L E s1 [59]) with
       | false=>rfl
       | true =>
        have h7:=(A6d hz).2;have h8:(D6 L E s1 [59]).i=s1.i+1:=by rw [h7];rfl
        omega
   ·rename_i hk;obtain ⟨-,hi, -,hk18⟩:=H8 (show 0<=B9 L E s B7 by omega);have hn:(A8 s).i=s.i+1:=rfl;split at h
    ·split at h
     ·cases h
     ·rename_i e s2 he;split at h
      ·cases h
      ·rename_i t s3 ht;have h1:=A3l hG he;have h2:=i1 _ _ _ ht;rw [hn] at h1;dsimp only at h1 h2;split at h
       ·split at h
        ·cases h
        ·rename_i o s4 ho;cases h;have h3:=i4 _ _ _ ho;have h3:St.szs o+100 * (s3.i+1)<=100 * s4.i+40:=h3;have hsz:(St.mk 2 [] [] [e] t o (A7 L E s).pos).sz=1+e.sz+St.szs t+St.szs o:=by
          rw [A3t,Ex.szs,Ex.szs];simp
         rw [hsz];dsimp only;exact ⟨by omega,.inl (by omega),by omega⟩
       ·cases h;have hsz:(St.mk (2+B9 L E s B7) [] [] [e] t [] (A7 L E s).pos).sz=1+e.sz+St.szs t:=by
         rw [A3t,Ex.szs,Ex.szs,St.szs];simp
        rw [hsz];dsimp only;exact ⟨by omega,.inl (by omega),by omega⟩
    ·have h1:=C3x hG h;rw [hn] at h1;exact ⟨by omega,.inl (by omega),by omega⟩
  ·unfold N4 at h;split at h
   ·split at h
    ·cases h
    ·rename_i x s1 he;cases h;have h1:=(i3 _ _ _ he).1;rw [St.szs,St.szs];dsimp only at h1 ⊢;omega
   ·exact i1 _ _ _ h
end
end Go.Pb
namespace Go.Pb
variable [Go.Sym.Tab]
open Go.Sym
section
variable {L:List Tok} {E:Int}
theorem D1z (hG:∀ t∈L,J3 t) {k:Int} {s:Rd}:(Q9 L E k s).1.sz<=13:=by
 have h:=A3d (L:=L) (E:=E) hG (s:=A8 s);unfold Q9 Dc.sz;dsimp only;split
 ·dsimp only;omega
 ·dsimp only;omega
theorem B1d {α : Type} (f : α -> Nat) (l:List α) (x : α):((l++[x]).map f).sum=(l.map f).sum+f x:=by simp
theorem C1w (hG:∀ t∈L,J3 t):∀ (f:Nat) (l:List Hd) (s:Rd) (r:List Hd × Rd),N6 L E f l s=some r->(r.1.map Hd.sz).sum+100 * s.i<=100 * r.2.i+(l.map Hd.sz).sum
 | 0,l,s,r,h=>by simp [N6] at h
 | f+1,l,s,r,h=>by
  unfold N6 at h;dsimp only at h;split at h
  ·split at h
   ·cases h;show (l.map Hd.sz).sum+100 * s.i<=100 * (O3 L E s).i+_;rw [W6];omega
   ·have h1:(C7 L E s ((l.length:Int)+1) 32 9).i=s.i:=G9;generalize C7 L E s ((l.length:Int)+1) 32 9=s1 at h h1;split at h
    ·cases h;have h2:=F3 (L:=L) (E:=E) (s:=s1) (x:=[111,110]);show (l.map Hd.sz).sum+100 * s.i<=100 * (O3 L E (D6 L E s1 [111,110])).i+_;rw [W6];omega
    ·rename_i hk;obtain ⟨hok,hi, -⟩:=H8 (show 0<=B9 L E (D6 L E s1 [111,110]) D3 by omega);have h3:(D6 L E s1 [111,110]).i=s1.i+1:=by rw [(A6d hok).2];rfl
     generalize D6 L E s1 [111,110]=s2 at h hk h3;have h4:=K4 (L:=L) (E:=E) (s:=A8 s2) (x:=1);have h5:=A3d (L:=L) (E:=E) hG (s:=A8 s2);have h6:(A8 s2).i=s2.i+1:=rfl;split at h
     ·cases h
     ·rename_i b s5 hb;have h7:=(SZ.all hG f).1 _ _ _ hb;have h8:=C1w hG f _ _ _ h;rw [B1d] at h8;have h9:s2.i+1<=(if 2<=B9 L E s2 D3 then (A9 L E (A8 s2) 1).2 else A8 s2).i:=by
       split
       ·omega
       ·omega
      have h10:(if 2<=B9 L E s2 D3 then (A9 L E (A8 s2) 1).1.text else []).length<=12:=by
       split
       ·exact h5
       ·exact A0Y _
      have h11:Hd.sz ⟨1+B9 L E s2 D3,if 2<=B9 L E s2 D3 then (A9 L E (A8 s2) 1).1.text else [],b,(A7 L E s1).pos⟩<=13+St.szs b:=by
       unfold Hd.sz;dsimp only;omega
      dsimp only at h7 h8;omega
  ·cases h;have h2:=F3 (L:=L) (E:=E) (s:=s) (x:=[125]);dsimp only;omega
theorem D0q (hG:∀ t∈L,J3 t) {f:Nat} {s:Rd} {r:Md × Rd} (h:A0s L E f s=some r) (hm:isR L E s [109,111,100,101]=true):r.1.sz+100 * s.i<=100 * r.2.i:=by
 unfold A0s at h;dsimp only at h;split at h
 ·cases h
 ·rename_i l s3 hml;cases h;have h1:=C1w hG _ _ _ _ hml;have h2:(D6 L E s [109,111,100,101]).i=s.i+1:=by unfold D6;rw [if_neg (by rw [hm];decide)];rfl
  generalize D6 L E s [109,111,100,101]=s1 at h1 h2 ⊢;have h3:=A3d (L:=L) (E:=E) hG (s:=s1);have h4:=K4 (L:=L) (E:=E) (s:=s1) (x:=1);have h5:=K4 (L:=L) (E:=E) (s:=(A9 L E s1 1).2) (x:=3);have h6:=F3 (L:=L) (E:=E) (s:=(A9 L E (A9 L E s1 1).2 3).2) (x:=[123]);unfold Md.sz;dsimp only at h1 ⊢;simp only [List.map_nil,A2V] at h1;omega
theorem B5g (hG:∀ t∈L,J3 t):∀ (f:Nat) (l:List Dc) (s:Rd) (r:List Dc × Rd),P3 L E f l s=some r->(r.1.map Dc.sz).sum+100 * s.i<=100 * r.2.i+(l.map Dc.sz).sum
 | 0,l,s,r,h=>by simp [P3] at h
 | f+1,l,s,r,h=>by
  unfold P3 at h;dsimp only at h;split at h
  ·cases h;dsimp only;omega
  ·have h1:(C7 L E s ((l.length:Int)+1) 128 9).i=s.i:=G9;split at h
   ·have h2:=B5g hG f _ _ _ h;rw [B1d] at h2;have h3:=D1z (L:=L) (E:=E) hG (k:=B9 L E s D1) (s:=C7 L E s ((l.length:Int)+1) 128 9);have h4:=C3f (L:=L) (E:=E) (k:=B9 L E s D1) (s:=C7 L E s ((l.length:Int)+1) 128 9);omega
   ·have h2:=B5g hG f _ _ _ h;omega
theorem B5f (hG:∀ t∈L,J3 t):∀ (f:Nat) (l:List Md) (s:Rd) (r:List Md × Rd),N2 L E f l s=some r->(r.1.map Md.sz).sum+100 * s.i<=100 * r.2.i+(l.map Md.sz).sum
 | 0,l,s,r,h=>by simp [N2] at h
 | f+1,l,s,r,h=>by
  unfold N2 at h;dsimp only at h;split at h
  ·split at h
   ·cases h;show (l.map Md.sz).sum+100 * s.i<=100 * (O3 L E s).i+_;rw [W6];omega
   ·rename_i hm;have hm:isR L E s [109,111,100,101]=true:=by simpa using hm
    split at h
    ·rename_i hl;have e0:=(I1 (by decide) hl).2.2;rw [e0] at h;split at h
     ·cases h
     ·rename_i m s2 hmd;have h1:=D0q hG hmd hm;have h2:=B5f hG f _ _ _ h;rw [B1d] at h2;dsimp only at h1;omega
    ·have h1:(C7 L E s ((l.length:Int)+1) 16 9).i=s.i:=G9;have h2:=B5f hG f _ _ _ h;omega
  ·cases h;dsimp only;omega
theorem C9d (hG:∀ t∈L,J3 t) {f:Nat} {s:Rd} {r:Ru × Rd} (h:A2e L E f s=some r) (hi:s.i<=L.length):r.1.sz<=100 * L.length:=by
 unfold A2e at h;split at h
 ·cases h
 ·rename_i d s1 hd;split at h
  ·cases h
  ·rename_i m s2 hm;cases h;have h1:=B5g hG _ _ _ _ hd;have h2:=B5f hG _ _ _ _ hm;have h3:=C0n _ _ _ _ hm (C0o _ _ _ _ hd hi);unfold Ru.sz;simp only [List.map_nil,A2V] at h1 h2 h3 ⊢;omega
end
theorem C4k {L:List Tok} {E:Int} (hG:∀ t∈L,J3 t):(A0a L E).1.sz<=100 * L.length:=by
 obtain ⟨f,hf⟩:=(A5s L E).get;exact C9d hG hf (A0Y _)
mutual
theorem Ex.plain_sz:∀ e:Ex,e.plain.sz=e.sz
 | .mk k v n a p=>by rw [Ex.plain,Ex.sz,Ex.sz,Ex.plains_sz a]
theorem Ex.plains_sz:∀ l:List Ex,Ex.szs (Ex.plains l)=Ex.szs l
 | []=>rfl
 | e :: l=>by rw [Ex.plains,Ex.szs,Ex.szs,Ex.plain_sz e,Ex.plains_sz l]
end
mutual
theorem St.plain_sz:∀ e:St,e.plain.sz=e.sz
 | .mk k n t a x y p=>by rw [St.plain,St.sz,St.sz,Ex.plains_sz a,St.plains_sz x,St.plains_sz y]
theorem St.plains_sz:∀ l:List St,St.szs (St.plains l)=St.szs l
 | []=>rfl
 | e :: l=>by rw [St.plains,St.szs,St.szs,St.plain_sz e,St.plains_sz l]
end
theorem Md.plain_sz (m:Md):m.plain.sz=m.sz:=by
 unfold Md.sz Md.plain;dsimp only;rw [A3H]
 congr 2
 refine A3P fun h _=>?_;show Hd.sz h.plain=Hd.sz h;unfold Hd.sz Hd.plain;dsimp only;rw [St.plains_sz]
theorem Ru.plain_sz (r:Ru):r.plain.sz=r.sz:=by
 unfold Ru.sz Ru.plain;dsimp only;rw [A3H,A3H]
 congr 2
 exact A3P fun m _=>Md.plain_sz m
def B8j (r:Ru):Bool:=okR (A0a (ruT r) 0).2 && @decide ((A0a (ruT r) 0).1.plain=r.plain) (Classical.propDecidable _)
end Go.Pb
namespace Go.Proofs.YthlpinppaclofaaGreatDoor
open Go.Eng (IC IOper DReg IFn C2)
open Go.Sym Go.Pb
theorem c_ValidR31 (r:Ru) (hB:r.sz<4000000):PC Tryz.prog 24 [r.v] (.bool (B8j r)):=by
 refine PC.ofT B1 rfl (A0B rfl) (by simp [DV.nlL,DV.nl,M8,M7]) rfl ?_;have hg:=C2l r;have hGT:∀ t∈ruT r,J3 t:=fun t ht=>(hg t ht).1;have hval:∀ t∈ruT r,0<=t.value/\t.value<=9223372036854775807:=fun t ht=>by have:=(hg t ht).2;omega
 obtain ⟨l1,l2⟩:=B1g r;have hsz:=C4k (E:=0) hGT;have ht:=c_rulesT r hB (by omega);have hp:=c_Plain31 r (by omega);obtain ⟨f,hf⟩:=(A5s (ruT r) 0).get;have hr:=c_rules (ruT r) 0 (by omega) hval f rd0 _ hf (A0Y _);have hv:B8j r=(okR (A0a (ruT r) 0).2 && B5e (A0a (ruT r) 0).1.plain r.plain):=rfl;rw [hv];have hpo:=c_Plain31 (A0a (ruT r) 0).1 (by omega);have hps:(A0a (ruT r) 0).1.plain.sz<=100000000000:=by rw [Ru.plain_sz];omega
 have hsm:=c_Same31 (A0a (ruT r) 0).1.plain r.plain hps;generalize A0a (ruT r) 0=w at hr hpo hsm hsz ⊢;generalize hL:ruT r=L at ht hr;repeat' ((with_reducible first|refine wr ?_|refine cpc ht ?_|refine A2 ?_ ?_|fail)<;>try simp only [go_sem,seval])
 refine AC.call (hr _ _ 1 rfl (by decide)) ?_;rintro v H' c2 ⟨rfl,rfl⟩ hc2;dsimp only at hc2 ⊢;have ne0:=O0 0 1 c2 (by omega);simp only [go_sem,seval,ne0,A0,A1];repeat' ((with_reducible first|refine wr ?_|refine A2 ?_ ?_|fail)<;>try simp only [go_sem,seval,ne0,A0,A1])
 refine AC.call (c_rdok L 0 w.2 _ _ 1 (by rw [A3 (by omega)];exact A0) (by omega)) ?_;rintro v H' c3 ⟨rfl,rfl⟩ hc3;cases hok:okR w.2 with
 | false =>
  simp only [go_sem,seval,hok,ne0,A0,A1];repeat' ((with_reducible first|refine wr ?_|refine A2 ?_ ?_|fail)<;>try simp only [go_sem,seval,hok,ne0,A0,A1])
  refine ⟨by repeat rw [A3 (by omega)]<;>rfl,?_⟩;repeat' ((with_reducible first|refine wr ?_|refine A2 ?_ ?_|fail)<;>try simp only [go_sem,seval,hok,ne0,A0,A1])
  exact ⟨_,GL.refl _ _⟩
 | true =>
  simp only [go_sem,seval,hok,ne0,A0,A1];repeat' ((with_reducible first|refine wr ?_|refine cpc hpo ?_|refine cpc hp ?_|refine cpc hsm ?_|refine A2 ?_ ?_|fail)<;>try simp only [go_sem,seval,hok,ne0,A0,A1])
  refine ⟨by and_intros<;>(repeat rw [A3 (by omega)])<;>rfl,?_⟩;repeat' ((with_reducible first|refine wr ?_|refine cpc hpo ?_|refine cpc hp ?_|refine cpc hsm ?_|refine A2 ?_ ?_|fail)<;>try simp only [go_sem,seval,hok,ne0,A0,A1])
  exact ⟨_,GL.refl _ _⟩
end Go.Proofs.YthlpinppaclofaaGreatDoor
set_option maxHeartbeats 4000000
namespace Go.Proofs.YthlpinppaclofaaGreatDoor
open Go.Eng (IC IOper DReg IFn C2)
open Go.Sym
abbrev x66:XT Tryz.prog 66:=mkF (by unfold C2;conv=>lhs;reduce;simp only [seval,u8n]) (fun h=>by conv=>lhs;cbv)
instance t66:FT Tryz.prog 66 x66.d:=x66.ft
abbrev x30:XT Tryz.prog 30:=mkF (by unfold C2;conv=>lhs;reduce;simp only [seval,u8n]) (fun h=>by conv=>lhs;cbv)
instance t30:FT Tryz.prog 30 x30.d:=x30.ft
abbrev x116:XT Tryz.prog 116:=mkF (by unfold C2;conv=>lhs;reduce;simp only [seval,u8n]) (fun h=>by conv=>lhs;cbv)
instance t116:FT Tryz.prog 116 x116.d:=x116.ft
abbrev x112:XT Tryz.prog 112:=mkF (by unfold C2;conv=>lhs;reduce;simp only [seval,u8n]) (fun h=>by conv=>lhs;cbv)
instance t112:FT Tryz.prog 112 x112.d:=x112.ft
abbrev x111:XT Tryz.prog 111:=mkF (by unfold C2;conv=>lhs;reduce;simp only [seval,u8n]) (fun h=>by conv=>lhs;cbv)
instance t111:FT Tryz.prog 111 x111.d:=x111.ft
abbrev x153:XT Tryz.prog 153:=mkF (by unfold C2;conv=>lhs;reduce;simp only [seval,u8n]) (fun h=>by conv=>lhs;cbv)
instance t153:FT Tryz.prog 153 x153.d:=x153.ft
abbrev x180:XT Tryz.prog 180:=mkF (by unfold C2;conv=>lhs;reduce;simp only [seval,u8n]) (fun h=>by conv=>lhs;cbv)
instance t180:FT Tryz.prog 180 x180.d:=x180.ft
abbrev x93:XT Tryz.prog 93:=mkF (by unfold C2;conv=>lhs;reduce;simp only [seval,u8n]) (fun h=>by conv=>lhs;cbv)
instance t93:FT Tryz.prog 93 x93.d:=x93.ft
abbrev x147:XT Tryz.prog 147:=mkF (by unfold C2;conv=>lhs;reduce;simp only [seval,u8n]) (fun h=>by conv=>lhs;cbv)
instance t147:FT Tryz.prog 147 x147.d:=x147.ft
abbrev x148:XT Tryz.prog 148:=mkF (by unfold C2;conv=>lhs;reduce;simp only [seval,u8n]) (fun h=>by conv=>lhs;cbv)
instance t148:FT Tryz.prog 148 x148.d:=x148.ft
abbrev x179:XT Tryz.prog 179:=mkF (by unfold C2;conv=>lhs;reduce;simp only [seval,u8n]) (fun h=>by conv=>lhs;cbv)
instance t179:FT Tryz.prog 179 x179.d:=x179.ft
abbrev x51:XT Tryz.prog 51:=mkF (by unfold C2;conv=>lhs;reduce;simp only [seval,u8n]) (fun h=>by conv=>lhs;cbv)
instance t51:FT Tryz.prog 51 x51.d:=x51.ft
abbrev x54:XT Tryz.prog 54:=mkF (by unfold C2;conv=>lhs;reduce;simp only [seval,u8n]) (fun h=>by conv=>lhs;cbv)
instance t54:FT Tryz.prog 54 x54.d:=x54.ft
abbrev x23:XT Tryz.prog 23:=mkF (by unfold C2;conv=>lhs;reduce;simp only [seval,u8n]) (fun h=>by conv=>lhs;cbv)
instance t23:FT Tryz.prog 23 x23.d:=x23.ft
abbrev x50:XT Tryz.prog 50:=mkF (by unfold C2;conv=>lhs;reduce;simp only [seval,u8n]) (fun h=>by conv=>lhs;cbv)
instance t50:FT Tryz.prog 50 x50.d:=x50.ft
abbrev x53:XT Tryz.prog 53:=mkF (by unfold C2;conv=>lhs;reduce;simp only [seval,u8n]) (fun h=>by conv=>lhs;cbv)
instance t53:FT Tryz.prog 53 x53.d:=x53.ft
abbrev x49:XT Tryz.prog 49:=mkF (by unfold C2;conv=>lhs;reduce;simp only [seval,u8n]) (fun h=>by conv=>lhs;cbv)
instance t49:FT Tryz.prog 49 x49.d:=x49.ft
abbrev x90:XT Tryz.prog 90:=mkF (by unfold C2;conv=>lhs;reduce;simp only [seval,u8n]) (fun h=>by conv=>lhs;cbv)
instance t90:FT Tryz.prog 90 x90.d:=x90.ft
abbrev x52:XT Tryz.prog 52:=mkF (by unfold C2;conv=>lhs;reduce;simp only [seval,u8n]) (fun h=>by conv=>lhs;cbv)
instance t52:FT Tryz.prog 52 x52.d:=x52.ft
abbrev x92:XT Tryz.prog 92:=mkF (by unfold C2;conv=>lhs;reduce;simp only [seval,u8n]) (fun h=>by conv=>lhs;cbv)
instance t92:FT Tryz.prog 92 x92.d:=x92.ft
abbrev x146:XT Tryz.prog 146:=mkF (by unfold C2;conv=>lhs;reduce;simp only [seval,u8n]) (fun h=>by conv=>lhs;cbv)
instance t146:FT Tryz.prog 146 x146.d:=x146.ft
abbrev x177:XT Tryz.prog 177:=mkF (by unfold C2;conv=>lhs;reduce;simp only [seval,u8n]) (fun h=>by conv=>lhs;cbv)
instance t177:FT Tryz.prog 177 x177.d:=x177.ft
abbrev x178:XT Tryz.prog 178:=mkF (by unfold C2;conv=>lhs;reduce;simp only [seval,u8n]) (fun h=>by conv=>lhs;cbv)
instance t178:FT Tryz.prog 178 x178.d:=x178.ft
abbrev x200:XT Tryz.prog 200:=mkF (by unfold C2;conv=>lhs;reduce;simp only [seval,u8n]) (fun h=>by conv=>lhs;cbv)
instance t200:FT Tryz.prog 200 x200.d:=x200.ft
end Go.Proofs.YthlpinppaclofaaGreatDoor
namespace Go.Pb
variable [Go.Sym.Tab]
open Go.Sym
def S4 (t:Tok):Bool:=t.kind == 5 || t.kind == 2
def ixA:Nat->List (List UInt8)->List UInt8->Int
 | _,[],_ => -1
 | k,t :: l,x=>if x == t then (k:Int) else ixA (k+1) l x
def amT (t:Tok) (l:List (List UInt8)):Int:=if S4 t=true then ixA 0 l t.text else -1
def hd0 (E:Int) (ts:List Tok):Tok:=ts.headD ⟨0,[],0,E⟩
def S3 (t:Tok):Int:=if amT t C3<0 then 0 else B8 (12+amT t C3)
abbrev lvo (E:Int) (ts:List Tok):Int:=S3 (hd0 E ts)
section
variable {L:List Tok} {E:Int}
theorem A7i (s:Rd):A7 L E s=hd0 E (L.drop s.i):=by
 unfold A7 hd0;rw [A0T, <- List.head?_drop];cases L.drop s.i<;>rfl
theorem D7 {s:Rd} {t:Tok} {ts:List Tok} (h:L.drop s.i=t :: ts):A7 L E s=t:=by rw [A7i,h];rfl
theorem F7 {s:Rd} {t:Tok} {ts:List Tok} (h:L.drop s.i=t :: ts):L.drop (s.i+1)=ts:=by
 rw [<- A3V,h];rfl
theorem I3 {i:Nat} {a b:List Tok} (h:L.drop i=a++b):L.drop (i+a.length)=b:=by
 rw [<- A3V,h,List.drop_left]
theorem C8a {s:Rd} (hok:okR s=true):∀ (l:List (List UInt8)) (k:Nat),Y2 L E s k l=if S4 (A7 L E s)=true then ixA k l (A7 L E s).text else -1
 | [],k=>by simp [Y2,ixA]
 | t :: l,k=>by
  have ih:=C8a hok l (k+1);have hi:isR L E s t=(S4 (A7 L E s) && (A7 L E s).text == t):=by unfold isR S4;rw [hok,A1G]
  rw [Y2,ixA,ih,hi];by_cases hs:S4 (A7 L E s)=true
  ·rw [hs,if_pos rfl,A1G,if_pos rfl]
  ·have hs:S4 (A7 L E s)=false:=by simpa using hs
   rw [hs,A3E,if_neg (by decide),if_neg (by decide),if_neg (by decide)]
theorem W9 {s:Rd} (hok:okR s=true) (l:List (List UInt8)):B9 L E s l=amT (A7 L E s) l:=C8a hok l 0
theorem A3r {s:Rd} (hok:okR s=true) (t:List UInt8):isR L E s t=(S4 (A7 L E s) && (A7 L E s).text == t):=by unfold isR S4;rw [hok,A1G]
theorem B0k {s:Rd} (hok:okR s=true) (k:Int):G7 L E s k=((A7 L E s).kind == k):=by unfold G7;rw [hok,A1G]
theorem C7v {s:Rd} {t:List UInt8} (hok:okR s=true) (h1:S4 (A7 L E s)=true) (h2:(A7 L E s).text=t):D6 L E s t=A8 s:=by
 unfold D6;rw [A3r hok,h1,h2,if_neg (by simp)]
theorem B1c {s:Rd} {k:Int} (hok:okR s=true) (h1:(A7 L E s).kind=k):A9 L E s k=(A7 L E s,A8 s):=by
 unfold A9;rw [B0k hok,if_neg (by simp [h1])]
def adv (s:Rd) (k:Nat) (o:Nat):Rd:={ s with i:=s.i+k,ops:=s.ops+(o:Int) }
theorem A3a {s:Rd} {k o:Nat} (h:okR s=true):okR (adv s k o)=true:=h
theorem Z1 {n:Int} {e:Ex} {s:Rd} (hok:okR s=true) (hn:1<=n) (h:lvo E (L.drop s.i)≠n):Lop L E n e s (e,s):=by
 refine Lop.stop ?_;rw [W9 hok,A7i];unfold lvo S3 at h;by_cases hk:amT (hd0 E (L.drop s.i)) C3<0
 ·exact .inl hk
 ·rw [if_neg hk] at h;exact .inr h
theorem A9a {s s1:Rd} {e:Ex} (hok:okR s1=true):∀ (j:Nat) {m n:Int} {r:Ex × Rd},m-n<=j->Bin L E m s (e,s1)->1<=n->n<m->m<=6->lvo E (L.drop s1.i)<=n->Lop L E n e s1 r->Bin L E n s r
 | 0,m,n,r,hj,h,h1,h2,h3,h4,hr=>by omega
 | j+1,m,n,r,hj,h,h1,h2,h3,h4,hr=>by
  by_cases he:n+1=m
  ·exact Bin.go (by omega) (by rw [he];exact h) hr
  ·refine Bin.go (by omega) ?_ hr;exact A9a hok j (m:=m) (n:=n+1) (by omega) h (by omega) (by omega) h3 (by omega) (Z1 hok (by omega) (by omega))
theorem B0y {s s1:Rd} {e:Ex} {n:Int} {r:Ex × Rd} (hok:okR s1=true) (h:Un L E s (e,s1)) (h1:1<=n) (h2:n<=5) (h4:lvo E (L.drop s1.i)<=n) (hr:Lop L E n e s1 r):Bin L E n s r :=
 A9a hok 6 (m:=6) (by omega) (Bin.un (by decide) h) h1 (by omega) (by omega) h4 hr
theorem C8j {s s1:Rd} {e:Ex} {n:Int} (hok:okR s1=true) (h:Un L E s (e,s1)) (h1:1<=n) (h2:n<=5) (h4:lvo E (L.drop s1.i)<n):Bin L E n s (e,s1) :=
 B0y hok h h1 h2 (by omega) (Z1 hok h1 (by omega))
theorem B8d {t:Tok} (l:List (List UInt8)) (h:S4 t=false):amT t l = -1:=by unfold amT;rw [if_neg (by rw [h];decide)]
theorem C1d {s:Rd} {v:Int} {ts:List Tok} (hok:okR s=true) (h:L.drop s.i=⟨3,[],v,0⟩ :: ts) (ho:s.ops+1<=32):Un L E s (.mk 1 v [] [] 0,adv s 1 1):=by
 have hp:=D7 (E:=E) h;have ha:∀ l,B9 L E s l = -1:=fun l=>by rw [W9 hok,hp];exact B8d l rfl
 have h1:=Un.prim (L:=L) (E:=E) (s:=s) (by rw [ha];decide);have h2:H9 L E s=(.mk 1 v [] [] 0,adv s 1 1):=by
  unfold H9;dsimp only;rw [ha,hp,B0k hok,B0k hok,hp,if_neg (by simp),show C7 L E { s with ops:=s.ops+1 } (s.ops+1) 32 9 = { s with ops:=s.ops+1 } from if_neg (by omega),if_neg (by show ¬ okR s=false;rw [hok];decide),if_neg (by decide),if_pos rfl];rfl
 rw [h2] at h1;exact h1
theorem C1c {s:Rd} {n:List UInt8} {ts:List Tok} (hok:okR s=true) (h:L.drop s.i=⟨1,n,0,0⟩ :: ts) (ho:s.ops+1<=32):Un L E s (.mk 2 0 n [] 0,adv s 1 1):=by
 have hp:=D7 (E:=E) h;have ha:∀ l,B9 L E s l = -1:=fun l=>by rw [W9 hok,hp];exact B8d l rfl
 have h1:=Un.prim (L:=L) (E:=E) (s:=s) (by rw [ha];decide);have h2:H9 L E s=(.mk 2 0 n [] 0,adv s 1 1):=by
  unfold H9;dsimp only;rw [ha,hp,B0k hok,B0k hok,hp,if_neg (by simp),show C7 L E { s with ops:=s.ops+1 } (s.ops+1) 32 9 = { s with ops:=s.ops+1 } from if_neg (by omega),if_neg (by show ¬ okR s=false;rw [hok];decide),if_neg (by decide),if_neg (by show ¬ (1:Int)=3;decide)];rfl
 rw [h2] at h1;exact h1
theorem A3g {s:Rd} {w:List UInt8} {ts:List Tok} {j:Nat} (hok:okR s=true) (h:L.drop s.i=A6 w :: ts) (ho:s.ops+1<=32) (hj:j<4) (hi:amT (A6 w) G0=(j:Int)) (hpre:amT (A6 w) N9<0) :
  Un L E s (.mk (I7.getD j 0) 0 [] [] 0,adv s 1 1):=by
 have hp:=D7 (E:=E) h;have h1:=Un.prim (L:=L) (E:=E) (s:=s) (by rw [W9 hok,hp];exact hpre);have ha:B9 L E s G0=(j:Int):=by rw [W9 hok,hp];exact hi
 have h2:H9 L E s=(.mk (I7.getD j 0) 0 [] [] 0,adv s 1 1):=by
  unfold H9;dsimp only;rw [ha,hp,if_neg (by omega),show C7 L E { s with ops:=s.ops+1 } (s.ops+1) 32 9 = { s with ops:=s.ops+1 } from if_neg (by omega),if_neg (by show ¬ okR s=false;rw [hok];decide),if_pos (by omega),if_neg (by omega)];rfl
 rw [h2] at h1;exact h1
theorem A5w {s:Rd} {w n:List UInt8} {ts:List Tok} {j:Nat} (hok:okR s=true) (h:L.drop s.i=A6 w :: ⟨1,n,0,0⟩ :: ts) (ho:s.ops+1<=32) (hj4:4<=j) (hj:j<7) (hi:amT (A6 w) G0=(j:Int)) (hpre:amT (A6 w) N9<0) :
  Un L E s (.mk (I7.getD j 0) 0 n [] 0,adv s 2 1):=by
 have hp:=D7 (E:=E) h;have hd:=F7 h;have h1:=Un.prim (L:=L) (E:=E) (s:=s) (by rw [W9 hok,hp];exact hpre);have ha:B9 L E s G0=(j:Int):=by rw [W9 hok,hp];exact hi
 have hp2:A7 L E (A8 { s with ops:=s.ops+1 })=⟨1,n,0,0⟩:=D7 hd;have ht:A9 L E (A8 { s with ops:=s.ops+1 }) 1=(⟨1,n,0,0⟩,A8 (A8 { s with ops:=s.ops+1 })):=by
  rw [B1c (show okR (A8 { s with ops:=s.ops+1 })=true from hok) (by rw [hp2]),hp2]
 have h2:H9 L E s=(.mk (I7.getD j 0) 0 n [] 0,adv s 2 1):=by
  unfold H9;dsimp only;rw [ha,hp,if_neg (by omega),show C7 L E { s with ops:=s.ops+1 } (s.ops+1) 32 9 = { s with ops:=s.ops+1 } from if_neg (by omega),if_neg (by show ¬ okR s=false;rw [hok];decide),if_pos (by omega),if_pos (by omega),ht];rfl
 rw [h2] at h1;exact h1
def CE (L:List Tok) (E:Int) (e:Ex):Prop:=∀ o d,msM e=some (o,d)->∀ (s:Rd) (post:List Tok),L.drop s.i=exT e++post->okR s=true->s.ops+(o:Int)<=32->s.par+(d:Int)<=16 ->
 ∃ e',e'.plain=e.plain/\(6<=B8 e.kind->Un L E s (e',adv s (exT e).length o)) /\
  (∀ n,1<=n->n<=5->n<=B8 e.kind->lvo E post<=n->(n=3->lvo E post≠3)->∀ r,Lop L E n e' (adv s (exT e).length o) r->Bin L E n s r)
theorem D2g:amT (A6 [40]) N9=2:=by decide +kernel
theorem C3j:amT (A6 [45]) N9=0:=by decide +kernel
theorem C7b:amT (A6 [33]) N9=1:=by decide +kernel
theorem B7s:S3 (A6 [41])=0:=by decide +kernel
theorem C4j:S4 (A6 [41])=true:=by decide +kernel
theorem A4i {s:Rd} {n m e:Int} (h:n<=m):C7 L E s n m e=s:=if_neg (by omega)
theorem C7k {x:Ex} (hx:CE L E x) {o d:Nat} (hm:msM x=some (o,d)) {s:Rd} {post:List Tok} (h:L.drop s.i=[A6 [40]]++exT x++[A6 [41]]++post) (hok:okR s=true) (ho:s.ops+(o:Int)<=32) (hp:s.par+((d+1:Nat):Int)<=16) :
  ∃ x',x'.plain=x.plain/\Un L E s (x',adv s ([A6 [40]]++exT x++[A6 [41]]).length o):=by
 have h0:L.drop s.i=A6 [40] :: (exT x++([A6 [41]]++post)):=by rw [h];simp
 have h1:=F7 h0;have hpk:=D7 (E:=E) h0;obtain ⟨x',e1, -,e3⟩:=hx o d hm { s with i:=s.i+1,par:=s.par+1 } ([A6 [41]]++post) h1 hok ho (by show s.par+1+(d:Int)<=16;omega);have hd2:L.drop (s.i+1+(exT x).length)=A6 [41] :: post:=I3 h1;have hb:=e3 1 (by decide) (by decide) (by have:=V5 x.kind;omega) (by show S3 (A6 [41])<=1;rw [B7s];decide) (fun h=>absurd h (by decide)) _ (Z1 (show okR s=true from hok) (by decide) (by show S3 (hd0 E (L.drop (s.i+1+(exT x).length)))≠1;rw [hd2];show S3 (A6 [41])≠1;rw [B7s];decide));have hu:=Un.par (by rw [W9 hok,hpk];exact D2g) (by rw [A4i (by omega)];exact hok) hb;refine ⟨x',e1,?_⟩;have hpk2:A7 L E (adv { s with i:=s.i+1,par:=s.par+1 } (exT x).length o)=A6 [41]:=D7 hd2;rw [C7v (show okR (adv { s with i:=s.i+1,par:=s.par+1 } (exT x).length o)=true from hok) (by rw [hpk2];exact C4j) (by rw [hpk2];rfl)] at hu;have e4:({ A8 (adv { s with i:=s.i+1,par:=s.par+1 } (exT x).length o) with par:=(A8 (adv { s with i:=s.i+1,par:=s.par+1 } (exT x).length o)).par-1 }:Rd)=adv s ([A6 [40]]++exT x++[A6 [41]]).length o:=by
  have a1:s.i+1+(exT x).length+1=s.i+([A6 [40]]++exT x++[A6 [41]]).length:=by simp;omega
  have a2:s.par+1-1=s.par:=by omega
  show Rd.mk (s.i+1+(exT x).length+1) s.e s.pos (s.ops+(o:Int)) (s.par+1-1)=Rd.mk (s.i+([A6 [40]]++exT x++[A6 [41]]).length) s.e s.pos (s.ops+(o:Int)) s.par;rw [a1,a2]
 rw [e4] at hu;exact hu
theorem B1p {x:Ex} (hx:CE L E x) {o d:Nat} {least:Int} (hm:msM x=some (o,d)) {s:Rd} {post:List Tok} (h:L.drop s.i=E5 (x.kind,exT x) least++post) (hok:okR s=true) (ho:s.ops+(o:Int)<=32) (hp:s.par+((if B8 x.kind<least then d+1 else d:Nat):Int)<=16) (h1:1<=least) (h6:least<=6) (hl:lvo E post<least) :
  ∃ x',x'.plain=x.plain/\(least<=5->Bin L E least s (x',adv s (E5 (x.kind,exT x) least).length o))/\(least=6->Un L E s (x',adv s (E5 (x.kind,exT x) least).length o)):=by
 have hdp:=I3 h;unfold E5 at h hdp ⊢;dsimp only at h hdp ⊢;by_cases hlt:B8 x.kind<least
 ·rw [if_pos hlt] at h hp hdp ⊢;obtain ⟨x',e1,e2⟩:=C7k hx hm h hok ho hp;exact ⟨x',e1,fun h5=>C8j (A3a hok) e2 h1 h5 (by show lvo E (L.drop (s.i+_))<least;rw [hdp];exact hl),fun _=>e2⟩
 ·rw [if_neg hlt] at h hp hdp ⊢;obtain ⟨x',e1,e2,e3⟩:=hx o d hm s post h hok ho hp;refine ⟨x',e1,fun h5=>?_,fun h=>e2 (by omega)⟩;refine e3 least h1 h5 (by omega) (by omega) (by omega) _ (Z1 (A3a hok) h1 ?_);show lvo E (L.drop (s.i+_))≠least;rw [hdp];omega
theorem C5t {x:Ex} (hx:CE L E x) {o d:Nat} {q:Int} (hm:msM x=some (o,d)) {s:Rd} {post:List Tok} (h:L.drop s.i=E5 (x.kind,exT x) (if q=3 then 4 else q)++post) (hok:okR s=true) (ho:s.ops+(o:Int)<=32) (hp:s.par+((if B8 x.kind<(if q=3 then 4 else q) then d+1 else d:Nat):Int)<=16) (h1:1<=q) (h5:q<=5) (hl:lvo E post=q) :
  ∃ x',x'.plain=x.plain/\∀ r,Lop L E q x' (adv s (E5 (x.kind,exT x) (if q=3 then 4 else q)).length o) r->Bin L E q s r:=by
 have hdp:=I3 h;by_cases h3:q=3
 ·subst h3;rw [if_pos rfl] at h hp hdp ⊢;obtain ⟨x',e1,e2, -⟩:=B1p hx hm h hok ho hp (by decide) (by decide) (by omega);exact ⟨x',e1,fun r hr=>Bin.go (by decide) (e2 (by decide)) hr⟩
 ·rw [if_neg h3] at h hp hdp ⊢;unfold E5 at h hdp ⊢;dsimp only at h hdp ⊢;by_cases hlt:B8 x.kind<q
  ·rw [if_pos hlt] at h hp hdp ⊢;obtain ⟨x',e1,e2⟩:=C7k hx hm h hok ho hp;exact ⟨x',e1,fun r hr=>B0y (A3a hok) e2 h1 h5 (by show lvo E (L.drop (s.i+_))<=q;rw [hdp];omega) hr⟩
  ·rw [if_neg hlt] at h hp hdp ⊢;obtain ⟨x',e1,e2,e3⟩:=hx o d hm s post h hok ho hp;exact ⟨x',e1,e3 q h1 h5 (by omega) (by omega) (fun h=>absurd h h3)⟩
theorem B5t {k v:Int} {n:List UInt8} {a:List Ex} {p:Int} {o d:Nat} (h:msM (.mk k v n a p)=some (o,d)) :
  kOk k=true/\a.length=J9 k/\A0b k n=true/\A0o k v=true/\(J9 k=0->o=1/\d=0)/\(J9 k≠0->∃ d',msL k 0 a=some (o,d')/\d=if J9 k=1 then d'+1 else d'):=by
 unfold msM at h;split at h
 ·cases h
 ·rename_i hc;have h1:kOk k=true:=by cases hz:kOk k with|true=>rfl|false=>exact absurd (.inl hz) hc
  have h2:a.length=J9 k:=Classical.byContradiction fun hz=>hc (.inr (.inl hz));have h3:A0b k n=true:=by cases hz:A0b k n with|true=>rfl|false=>exact absurd (.inr (.inr (.inl hz))) hc
  have h4:A0o k v=true:=by cases hz:A0o k v with|true=>rfl|false=>exact absurd (.inr (.inr (.inr hz))) hc
  refine ⟨h1,h2,h3,h4,?_,?_⟩
  ·intro h0;rw [if_pos h0] at h;cases h;exact ⟨rfl,rfl⟩
  ·intro h0;rw [if_neg h0] at h;split at h
   ·cases h
   ·rename_i o' d' hm;cases h;exact ⟨d',hm,rfl⟩
theorem C0i:∀ j:Nat,j<13->amT (A6 (C3.getD j [])) C3=(j:Int)/\S4 (A6 (C3.getD j []))=true:=by decide +kernel
theorem nm0 {k:Int} {n:List UInt8} (h:A0b k n=true) (h2:k≠2) (h5:A1b k=false):n=[]:=by
 unfold A0b at h;rw [if_neg (by rw [h5];simp [h2])] at h;simpa using h
theorem vl0 {k v:Int} (h:A0o k v=true) (h1:k≠1):v=0:=by
 unfold A0o at h;simp only [A0X,A0D,A1F,A0H] at h;rcases h with h|h
 ·exact h
 ·exact absurd h.1 h1
theorem B7v {α : Type} {l:List α} (h:l.length=2):∃ x y,l=[x,y]:=by
 match l,h with
 | [x,y],_=>exact ⟨x,y,rfl⟩
theorem B4a:∀ (m:Nat) (e:Ex),e.sz<m->CE L E e:=by
 intro m
 induction m with
 | zero=>intro e h;omega
 | succ m ih =>
 intro e hm o d hms s post h hok ho hp;cases e with|mk k v n a p =>
 obtain ⟨h1,h2,h3,h4,h5,h6⟩:=B5t hms;have hlr:=V5 k
 have viaUn:∀ e':Ex,e'.plain=(Ex.mk k v n a p).plain->Un L E s (e',adv s (exT (.mk k v n a p)).length o) ->
   ∃ e',e'.plain=(Ex.mk k v n a p).plain/\(6<=B8 k->Un L E s (e',adv s (exT (.mk k v n a p)).length o)) /\
    (∀ n',1<=n'->n'<=5->n'<=B8 k->lvo E post<=n'->(n'=3->lvo E post≠3)->∀ r,Lop L E n' e' (adv s (exT (.mk k v n a p)).length o) r->Bin L E n' s r):=fun e' he hu =>
  ⟨e',he,fun _=>hu,fun n' q1 q2 _ q4 _ r hr=>B0y (A3a hok) hu q1 q2 (by show lvo E (L.drop (s.i+_))<=n';rw [I3 h];exact q4) hr⟩
 by_cases hc0:J9 k=0
 ·obtain ⟨rfl,rfl⟩:=h5 hc0;have ha:a=[]:=A1N (by omega);subst ha;have hl7:B8 k=7:=by
   unfold J9 at hc0;split at hc0
   ·omega
   ·split at hc0<;>omega
  have hk9:1<=k/\k<=9:=by
   unfold kOk at h1;simp only [A0X,A0D,A0H] at h1;have hk24:1<=k/\k<=24:=by omega
   refine ⟨hk24.1,?_⟩;apply Classical.byContradiction;intro hc;unfold B8 at hl7;repeat' split at hl7
   all_goals omega
  refine (show ∃ e',_ from ?_);have hT:exT (.mk k v n [] p)=G1 k v n []:=by rw [exT,A6x]
  rw [hT] at h viaUn ⊢;have ho1:s.ops+1<=32:=ho;have:k=1\/k=2\/k=3\/k=4\/k=5\/k=6\/k=7\/k=8\/k=9:=by omega
  rcases this with rfl|rfl|rfl|rfl|rfl|rfl|rfl|rfl|rfl
  ·have hn:=nm0 h3 (by decide) (by decide);subst hn;have hv:¬ (v<0\/2147483647<v):=by
    unfold A0o at h4;simp only [A0X,A0D,A1F,A0H] at h4;omega
   have hb:G1 1 v [] []=[⟨3,[],v,0⟩]:=by unfold G1;dsimp only;rw [if_pos rfl];unfold P8;rw [if_neg hv]
   rw [hb] at h viaUn ⊢;exact viaUn (.mk 1 v [] [] 0) rfl (C1d hok h ho1)
  ·have hv:=vl0 h4 (by decide);subst hv;have hn:C8 n=true:=h3;have hb:G1 2 0 n []=[⟨1,n,0,0⟩]:=by unfold G1;dsimp only;rw [if_neg (by decide),if_pos rfl];unfold D4;rw [if_neg (by rw [hn];decide)]
   rw [hb] at h viaUn ⊢;exact viaUn (.mk 2 0 n [] 0) rfl (C1c hok h ho1)
  ·have hv:=vl0 h4 (by decide);have hn:=nm0 h3 (by decide) (by decide);subst hv hn;have hb:G1 3 0 [] []=[A6 [116,114,117,101]]:=rfl;rw [hb] at h viaUn ⊢;exact viaUn (.mk 3 0 [] [] 0) rfl (A3g (j:=0) hok h ho1 (by decide) (by decide +kernel) (by decide +kernel))
  ·have hv:=vl0 h4 (by decide);have hn:=nm0 h3 (by decide) (by decide);subst hv hn;have hb:G1 4 0 [] []=[A6 [102,97,108,115,101]]:=rfl;rw [hb] at h viaUn ⊢;exact viaUn (.mk 4 0 [] [] 0) rfl (A3g (j:=1) hok h ho1 (by decide) (by decide +kernel) (by decide +kernel))
  ·have hv:=vl0 h4 (by decide);subst hv;have hn:C8 n=true:=h3;have hb:G1 5 0 n []=[A6 [99,108,111,115,101,100],⟨1,n,0,0⟩]:=by
    show [A6 [99,108,111,115,101,100]]++D4 n=_;unfold D4;rw [if_neg (by rw [hn];decide)];rfl
   rw [hb] at h viaUn ⊢;exact viaUn (.mk 5 0 n [] 0) rfl (A5w (j:=4) hok h ho1 (by decide) (by decide) (by decide +kernel) (by decide +kernel))
  ·have hv:=vl0 h4 (by decide);subst hv;have hn:C8 n=true:=h3;have hb:G1 6 0 n []=[A6 [97,99,116,105,118,101],⟨1,n,0,0⟩]:=by
    show [A6 [97,99,116,105,118,101]]++D4 n=_;unfold D4;rw [if_neg (by rw [hn];decide)];rfl
   rw [hb] at h viaUn ⊢;exact viaUn (.mk 6 0 n [] 0) rfl (A5w (j:=5) hok h ho1 (by decide) (by decide) (by decide +kernel) (by decide +kernel))
  ·have hv:=vl0 h4 (by decide);subst hv;have hn:C8 n=true:=h3;have hb:G1 7 0 n []=[A6 [108,101,102,116],⟨1,n,0,0⟩]:=by
    show [A6 [108,101,102,116]]++D4 n=_;unfold D4;rw [if_neg (by rw [hn];decide)];rfl
   rw [hb] at h viaUn ⊢;exact viaUn (.mk 7 0 n [] 0) rfl (A5w (j:=6) hok h ho1 (by decide) (by decide) (by decide +kernel) (by decide +kernel))
  ·have hv:=vl0 h4 (by decide);have hn:=nm0 h3 (by decide) (by decide);subst hv hn;have hb:G1 8 0 [] []=[A6 [112,108,97,121,101,114]]:=rfl;rw [hb] at h viaUn ⊢;exact viaUn (.mk 8 0 [] [] 0) rfl (A3g (j:=2) hok h ho1 (by decide) (by decide +kernel) (by decide +kernel))
  ·have hv:=vl0 h4 (by decide);have hn:=nm0 h3 (by decide) (by decide);subst hv hn;have hb:G1 9 0 [] []=[A6 [98,97,108,108]]:=rfl;rw [hb] at h viaUn ⊢;exact viaUn (.mk 9 0 [] [] 0) rfl (A3g (j:=3) hok h ho1 (by decide) (by decide +kernel) (by decide +kernel))
 obtain ⟨d',hl,hd'⟩:=h6 hc0;clear h5 h6;have hv:=vl0 h4 (by rintro rfl;exact hc0 rfl);have hn:=nm0 h3 (by rintro rfl;exact hc0 rfl) (by
  cases hz:A1b k with
  | false=>rfl
  | true =>
   unfold A1b at hz;simp only [A0X,A1F] at hz;rcases hz with rfl|rfl|rfl<;>exact absurd rfl hc0)
 subst hv hn;by_cases hl6:B8 k=6
 ·
  have hk:k=10\/k=11:=by
   unfold B8 at hl6;repeat' split at hl6
   all_goals omega
  have hc1:J9 k=1:=by unfold J9;rw [if_pos hl6]
  rw [hc1] at h2 hd';rw [if_pos rfl] at hd';obtain ⟨x,rfl⟩:∃ x,a=[x]:=A2K.1 h2;have hxc:=ih x (by rw [Ex.sz,Ex.szs,Ex.szs] at hm;omega);unfold msL at hl;cases hx:msM x with
  | none=>rw [hx] at hl;cases hl
  | some q =>
   obtain ⟨o1,d1⟩:=q;rw [hx] at hl;dsimp only at hl;unfold msL at hl;dsimp only at hl;simp only [Option.some.injEq,Prod.mk.injEq,A3A,Nat.max_zero] at hl;obtain ⟨rfl,hd1⟩:=hl;have hwr:R4 k x.kind 0=decide (B8 x.kind<6):=by
    unfold R4;rw [hl6];simp
   rw [hwr] at hd1;have hT:exT (.mk k 0 [] [x] p)=[A6 (if k=10 then [45] else [33])]++E5 (x.kind,exT x) 6:=by
    rw [exT,A6x,A6x];rcases hk with rfl|rfl<;>rfl
   rw [hT] at h viaUn ⊢;have h0:L.drop s.i=A6 (if k=10 then [45] else [33]) :: (E5 (x.kind,exT x) 6++post):=by rw [h];simp
   have hdn:=F7 h0;have hpk:=D7 (E:=E) h0;have ham:B9 L E s N9=k-10:=by
    rw [W9 hok,hpk];rcases hk with rfl|rfl
    ·exact C3j
    ·exact C7b
   have hlt6:lvo E post<6:=by
    unfold lvo S3;split
    ·decide
    ·rename_i hz;have:=V5 (12+amT (hd0 E post) C3);have h13:amT (hd0 E post) C3<13:=by
      have gen:∀ (l:List (List UInt8)) (j:Nat) (w:List UInt8),ixA j l w<((j+l.length:Nat):Int):=by
       intro l
       induction l with
       | nil=>intro j w;simp [ixA];omega
       | cons a l ih =>
        intro j w;have:=ih (j+1) w;simp only [ixA,A0U];split<;>omega
      unfold amT;split
      ·exact gen C3 0 _
      ·decide
     exact C5s (by omega) h13
   obtain ⟨x',e1, -,e3⟩:=B1p (least:=6) hxc hx (s:={ s with i:=s.i+1,par:=s.par+1 }) hdn hok ho (by
    show s.par+1+_<=16;have:((if B8 x.kind<6 then d1+1 else d1:Nat):Int)=(d':Int):=by
     rw [<- hd1];by_cases hz:B8 x.kind<6
     ·rw [if_pos hz,if_pos (by simpa using hz)]
     ·rw [if_neg hz,if_neg (by simpa using hz)]
    rw [this];omega) (by decide) (by decide) hlt6
   have hu:=Un.pre (L:=L) (E:=E) (s:=s) (by rw [ham];omega) (by rw [ham];omega) (by rw [A4i (by omega)];exact hok) (e3 rfl);rw [ham,hpk] at hu;have e4:({ adv { s with i:=s.i+1,par:=s.par+1 } (E5 (x.kind,exT x) 6).length o1 with par:=(adv { s with i:=s.i+1,par:=s.par+1 } (E5 (x.kind,exT x) 6).length o1).par-1 }:Rd)=adv s ([A6 (if k=10 then [45] else [33])]++E5 (x.kind,exT x) 6).length o1:=by
    have a1:s.i+1+(E5 (x.kind,exT x) 6).length=s.i+([A6 (if k=10 then [45] else [33])]++E5 (x.kind,exT x) 6).length:=by simp;omega
    have a2:s.par+1-1=s.par:=by omega
    show Rd.mk (s.i+1+(E5 (x.kind,exT x) 6).length) s.e s.pos (s.ops+(o1:Int)) (s.par+1-1)=Rd.mk (s.i+_) s.e s.pos (s.ops+(o1:Int)) s.par;rw [a1,a2]
   rw [e4] at hu;refine viaUn _ ?_ hu;rw [Ex.plain,Ex.plain,Ex.plains,Ex.plains,Ex.plains,Ex.plains,e1]
   congr 1
   omega
 ·
  have hl5:B8 k<=5:=by
   unfold J9 at hc0;rw [if_neg hl6] at hc0;split at hc0
   ·omega
   ·exact absurd rfl hc0
  have hc2:J9 k=2:=by unfold J9;rw [if_neg hl6,if_pos (by omega)]
  rw [hc2] at h2 hd';rw [if_neg (by decide)] at hd';subst hd';obtain ⟨x,y,rfl⟩:∃ x y,a=[x,y]:=B7v h2;have hxc:=ih x (by rw [Ex.sz,Ex.szs,Ex.szs] at hm;omega);have hyc:=ih y (by rw [Ex.sz,Ex.szs,Ex.szs,Ex.szs] at hm;omega);unfold msL at hl;cases hx:msM x with
  | none=>rw [hx] at hl;cases hl
  | some q =>
   obtain ⟨o1,d1⟩:=q;rw [hx] at hl;dsimp only at hl;unfold msL at hl;cases hy:msM y with
   | none=>rw [hy] at hl;cases hl
   | some q2 =>
    obtain ⟨o2,d2⟩:=q2;rw [hy] at hl;dsimp only at hl;unfold msL at hl;dsimp only at hl;simp only [Option.some.injEq,Prod.mk.injEq,A3A,Nat.max_zero] at hl;obtain ⟨rfl,hdd⟩:=hl;have hlk:=B1w (k:=k) (by omega);have hk12:12<=k:=by
     apply Classical.byContradiction;intro hc;have:k=10\/k=11:=by omega
     exact hl6 (A0h this)
    obtain ⟨j,hj⟩:∃ j:Nat,k=12+(j:Int):=⟨(k-12).toNat,by omega⟩;have hj13:j<13:=by omega
    have hjn:(k-12).toNat=j:=by omega
    obtain ⟨hs1,hs2⟩:=C0i j hj13;have hT:exT (.mk k 0 [] [x,y] p)=E5 (x.kind,exT x) (if B8 k=3 then 4 else B8 k)++[A6 (C3.getD j [])]++E5 (y.kind,exT y) (B8 k+1):=by
     rw [exT,A6x,A6x,A6x];unfold G1;dsimp only;rw [if_neg (by omega),if_neg (by omega),if_neg (by omega),if_neg (by omega),if_neg (by omega),if_neg (by omega),if_neg (by omega),if_neg (by omega),if_neg (by omega),if_pos (by omega),hjn]
    rw [hT] at h ⊢;generalize A6 (C3.getD j [])=sg at hs1 hs2 hT h ⊢;have hsl:S3 sg=B8 k:=by unfold S3;rw [hs1,if_neg (by omega), <- hj]
    have hdx:((if B8 x.kind<(if B8 k=3 then 4 else B8 k) then d1+1 else d1:Nat):Int)<=(d:Int):=by
     have hwr:(R4 k x.kind 0=true)↔B8 x.kind<(if B8 k=3 then 4 else B8 k):=by
      unfold R4;simp only [A0X,A0D,A0H,A1F];by_cases h3:B8 k=3
      ·rw [if_pos h3];omega
      ·rw [if_neg h3];omega
     by_cases hz:B8 x.kind<(if B8 k=3 then 4 else B8 k)
     ·rw [if_pos hz];rw [if_pos (hwr.2 hz)] at hdd;omega
     ·rw [if_neg hz];rw [if_neg (fun h=>hz (hwr.1 h))] at hdd;omega
    have hdy:((if B8 y.kind<B8 k+1 then d2+1 else d2:Nat):Int)<=(d:Int):=by
     have hwr:(R4 k y.kind (0+1)=true)↔B8 y.kind<B8 k+1:=by
      unfold R4;rw [show ((0+1:Nat) == 1)=true from rfl,Bool.true_or,A1W];simp only [A0X,A0H,A1F];omega
     by_cases hz:B8 y.kind<B8 k+1
     ·rw [if_pos hz];rw [if_pos (hwr.2 hz)] at hdd;omega
     ·rw [if_neg hz];rw [if_neg (fun h=>hz (hwr.1 h))] at hdd;omega
    have h0:L.drop s.i=E5 (x.kind,exT x) (if B8 k=3 then 4 else B8 k)++(sg :: (E5 (y.kind,exT y) (B8 k+1)++post)):=by rw [h];simp
    obtain ⟨x',e1,e2⟩:=C5t hxc hx h0 hok (by omega) (by omega) hlr.1 hl5 (by show S3 sg=B8 k;exact hsl);have hd1:=I3 h0;have hpk:A7 L E (adv s (E5 (x.kind,exT x) (if B8 k=3 then 4 else B8 k)).length o1)=sg:=D7 hd1;have hd2:=F7 (s:=adv s (E5 (x.kind,exT x) (if B8 k=3 then 4 else B8 k)).length o1) hd1;have ham:B9 L E (adv s (E5 (x.kind,exT x) (if B8 k=3 then 4 else B8 k)).length o1) C3=(j:Int):=by rw [W9 (A3a hok),hpk];exact hs1
    have hfin:s.i+(E5 (x.kind,exT x) (if B8 k=3 then 4 else B8 k)).length+1+(E5 (y.kind,exT y) (B8 k+1)).length=s.i+(E5 (x.kind,exT x) (if B8 k=3 then 4 else B8 k)++[sg]++E5 (y.kind,exT y) (B8 k+1)).length:=by simp only [A0A,A0F];omega
    have hadv:adv (A8 (adv s (E5 (x.kind,exT x) (if B8 k=3 then 4 else B8 k)).length o1)) (E5 (y.kind,exT y) (B8 k+1)).length o2=adv s (E5 (x.kind,exT x) (if B8 k=3 then 4 else B8 k)++[sg]++E5 (y.kind,exT y) (B8 k+1)).length (o1+o2):=by
     have a2:s.ops+(o1:Int)+(o2:Int)=s.ops+((o1+o2:Nat):Int):=by omega
     show Rd.mk (s.i+_+1+_) s.e s.pos (s.ops+(o1:Int)+(o2:Int)) s.par=Rd.mk (s.i+_) s.e s.pos (s.ops+((o1+o2:Nat):Int)) s.par;rw [hfin,a2]
    have hdr:=I3 h;have main:lvo E post<=B8 k->∃ y',y'.plain=y.plain/\Bin L E (B8 k+1) (A8 (adv s (E5 (x.kind,exT x) (if B8 k=3 then 4 else B8 k)).length o1)) (y',adv s (E5 (x.kind,exT x) (if B8 k=3 then 4 else B8 k)++[sg]++E5 (y.kind,exT y) (B8 k+1)).length (o1+o2)):=by
     intro hlv;obtain ⟨y',f1,f2,f3⟩:=B1p (least:=B8 k+1) hyc hy (s:=A8 (adv s (E5 (x.kind,exT x) (if B8 k=3 then 4 else B8 k)).length o1)) hd2 hok (by show s.ops+(o1:Int)+(o2:Int)<=32;omega) (by show s.par+_<=16;omega) (by omega) (by omega) (by omega);rw [hadv] at f2 f3;refine ⟨y',f1,?_⟩;by_cases h5':B8 k+1<=5
     ·exact f2 h5'
     ·exact Bin.un (by omega) (f3 (by omega))
    by_cases hlv:lvo E post<=B8 k
    ·obtain ⟨y',f1,f2⟩:=main hlv;refine ⟨.mk k 0 [] [x',y'] sg.pos,?_,fun h=>absurd h (by show ¬ 6<=B8 k;omega),?_⟩
     ·rw [Ex.plain,Ex.plain,Ex.plains,Ex.plains,Ex.plains,Ex.plains,Ex.plains,Ex.plains,e1,f1]
     ·intro n' q1 q2 q3 q4 q5 r hr;have q3:n'<=B8 k:=q3;have key:∀ r',Lop L E (B8 k) (.mk k 0 [] [x',y'] sg.pos) (adv s (E5 (x.kind,exT x) (if B8 k=3 then 4 else B8 k)++[sg]++E5 (y.kind,exT y) (B8 k+1)).length (o1+o2)) r'->(B8 k=3->lvo E post≠3)->Bin L E (B8 k) s r':=by
       intro r' hr' h33;refine e2 r' ?_;by_cases h3:B8 k=3
       ·have hst:=Z1 (L:=L) (E:=E) (n:=B8 k) (e:=.mk k 0 [] [x',y'] sg.pos) (s:=adv s (E5 (x.kind,exT x) (if B8 k=3 then 4 else B8 k)++[sg]++E5 (y.kind,exT y) (B8 k+1)).length (o1+o2)) (A3a hok) hlr.1 (by show lvo E (L.drop (s.i+_))≠B8 k;rw [hdr,h3];exact h33 h3);have:=Evt.uniq hr' hst;rw [this];have ht:=Lop.three (L:=L) (E:=E) (n:=B8 k) (e:=x') (x:=y') (s:=adv s (E5 (x.kind,exT x) (if B8 k=3 then 4 else B8 k)).length o1) (by rw [ham];omega) (by rw [ham, <- hj]) h3 f2;rw [ham, <- hj,hpk] at ht;exact ht
       ·refine Lop.more (by rw [ham];omega) (by rw [ham, <- hj]) h3 f2 ?_;rw [ham, <- hj,hpk];exact hr'
      by_cases hnq:n'=B8 k
      ·subst hnq;exact key r hr q5
      ·refine A9a (A3a hok) 6 (m:=B8 k) (by omega) (key _ (Z1 (A3a hok) hlr.1 ?_) (by omega)) q1 (by omega) (by omega) ?_ hr
       ·show lvo E (L.drop (s.i+_))≠B8 k;rw [hdr];omega
       ·show lvo E (L.drop (s.i+_))<=n';rw [hdr];exact q4
    ·refine ⟨.mk k 0 [] [x,y] p,rfl,fun h=>absurd h (by show ¬ 6<=B8 k;omega),?_⟩;intro n' q1 q2 q3 q4 q5 r hr;have q3:n'<=B8 k:=q3;omega
theorem O2 {e:Ex} (hv:X1 e=true) {s:Rd} {post:List Tok} (h:L.drop s.i=exT e++post) (hok:okR s=true) (hl:lvo E post=0) :
  ∃ e' s',e'.plain=e.plain/\Xpn L E s (e',s')/\s'.i=s.i+(exT e).length/\okR s'=true:=by
 unfold X1 at hv;cases hms:msM e with
 | none=>rw [hms] at hv;cases hv
 | some q =>
  obtain ⟨o,d⟩:=q;rw [hms] at hv;simp only [A0D,A0H] at hv;obtain ⟨e',e1, -,e3⟩:=B4a (L:=L) (E:=E) (e.sz+1) e (by omega) o d hms { s with ops:=0,par:=0 } post h hok (by show (0:Int)+(o:Int)<=32;omega) (by show (0:Int)+(d:Int)<=16;omega);refine ⟨e',adv { s with ops:=0,par:=0 } (exT e).length o,e1,?_,rfl,hok⟩;refine e3 1 (by decide) (by decide) (V5 _).1 (by omega) (fun h=>absurd h (by decide)) _ (Z1 (show okR s=true from hok) (by decide) ?_);show lvo E (L.drop (s.i+_))≠1;rw [I3 h];omega
end
end Go.Pb
namespace Go.Pb
variable [Go.Sym.Tab]
open Go.Sym
section
variable {L:List Tok} {E:Int}
theorem U2 {s:Rd} {w:List UInt8} {ts:List Tok} (h:L.drop s.i=A6 w :: ts) (hok:okR s=true) (hs:S4 (A6 w)=true):D6 L E s w=A8 s :=
 C7v hok (by rw [D7 h];exact hs) (by rw [D7 h];rfl)
theorem A4a {s:Rd} {n:List UInt8} {ts:List Tok} (h:L.drop s.i=D4 n++ts) (hok:okR s=true) (hn:C8 n=true):A9 L E s 1=(⟨1,n,0,0⟩,A8 s):=by
 have h0:L.drop s.i=⟨1,n,0,0⟩ :: ts:=by rw [h];unfold D4;rw [if_neg (by rw [hn];decide)];rfl
 rw [B1c hok (by rw [D7 h0]),D7 h0]
theorem B1a {s:Rd} {v:Int} {ts:List Tok} (h:L.drop s.i=P8 v++ts) (hok:okR s=true) (h0:0<=v) (h1:v<=2147483647):A9 L E s 3=(⟨3,[],v,0⟩,A8 s):=by
 have h2:L.drop s.i=⟨3,[],v,0⟩ :: ts:=by rw [h];unfold P8;rw [if_neg (by omega)];rfl
 rw [B1c hok (by rw [D7 h2]),D7 h2]
theorem C3w {s:Rd} {t:List UInt8} {ts:List Tok} (h:L.drop s.i=S8 t++ts) (hok:okR s=true) (ht:R0 t=true):A9 L E s 4=(⟨4,t,0,0⟩,A8 s):=by
 unfold R0 at ht;simp only [A0D,A0H] at ht;have h0:L.drop s.i=⟨4,t,0,0⟩ :: ts:=by rw [h];unfold S8;rw [if_neg (by rw [ht.1];simp;omega)];rfl
 rw [B1c hok (by rw [D7 h0]),D7 h0]
theorem Z7 {s:Rd} {a ts:List Tok} (h:L.drop s.i=a++ts) (ha:a.length=1):L.drop (s.i+1)=ts:=by
 rw [<- ha];exact I3 h
def C6n (E:Int) (ts:List Tok):Bool:=S4 (hd0 E ts) && (hd0 E ts).text == [101,108,115,101]
theorem B4y:∀ j:Nat,j<18->amT (A6 (B7.getD j [])) B7=(j:Int)/\S4 (A6 (B7.getD j []))=true/\(A6 (B7.getD j [])).text≠[125]/\(A6 (B7.getD j [])).text≠[101,108,115,101]:=by decide +kernel
theorem w61:S4 (A6 [61])=true:=by decide +kernel
theorem w59:S4 (A6 [59])=true/\S3 (A6 [59])=0:=by decide +kernel
theorem w44:S4 (A6 [44])=true/\S3 (A6 [44])=0:=by decide +kernel
theorem w123:S4 (A6 [123])=true/\S3 (A6 [123])=0/\(A6 [123]).text≠[105,102]:=by decide +kernel
theorem w125:S4 (A6 [125])=true/\(A6 [125]).text≠[101,108,115,101]:=by decide +kernel
theorem C8h:S4 (A6 [101,108,115,101])=true:=by decide +kernel
def HdS (t:Tok):Prop:=t.kind=1\/∃ j,j<18/\t=A6 (B7.getD j [])
theorem HdS.facts {t:Tok} (h:HdS t):(S4 t && t.text == [125])=false/\(S4 t && t.text == [101,108,115,101])=false/\(0<=amT t B7\/t.kind=1):=by
 rcases h with h|⟨j,hj,rfl⟩
 ·have:S4 t=false:=by unfold S4;rw [h];rfl
  exact ⟨by rw [this];rfl,by rw [this];rfl,.inr h⟩
 ·obtain ⟨h1,h2,h3,h4⟩:=B4y j hj;refine ⟨?_,?_,.inl (by omega)⟩
  ·rw [h2,A1G];simpa using h3
  ·rw [h2,A1G];simpa using h4
theorem B9t {d:Nat} {k p:Int} {n t:List UInt8} {a:List Ex} {x y:List St} (h:S5 d (.mk k n t a x y p)=true) :
  (1<=k/\k<=19)/\(a.length=(I4 k).args/\a.all X1=true)/\((if (I4 k).name=true then C8 n else n == [])=true/\(if (I4 k).text=true then R0 t else t == [])=true) /\
   (((I4 k).thn=true\/x=[])/\((I4 k).els=true\/y=[]))/\R1 x (d+1)=true/\R1 y (d+1)=true:=by
 unfold S5 at h;simp only [A0D,A0H,A1F,A0X,A3Z] at h;obtain ⟨⟨⟨⟨⟨h1,h2⟩,h3,h4⟩,h5,h6⟩,h7,h8⟩,h9,h10⟩:=h;refine ⟨⟨h1,h2⟩,⟨h3,h4⟩,⟨h5,h6⟩,⟨h7,h8⟩,?_,?_⟩
 ·unfold R1;simp only [A0D,A0H,A0X,A3Z];exact h9
 ·unfold R1;simp only [A0D,A0H,A0X,A3Z];exact h10
theorem B6y {d:Nat} {x:St} (h:S5 d x=true):∃ t ts,stT x=t :: ts/\HdS t:=by
 cases x with|mk k n t a x y p =>
 obtain ⟨⟨k1,k2⟩, -,⟨hn, -⟩, -⟩:=B9t h;unfold stT;by_cases h1:k=1
 ·subst h1;rw [if_pos rfl];have hn:C8 n=true:=hn;refine ⟨⟨1,n,0,0⟩,[A6 [61]]++agT a 0++[A6 [59]],?_,.inl rfl⟩;unfold D4;rw [if_neg (by rw [hn];decide)];simp
 rw [if_neg h1,if_neg (by omega)];dsimp only;have hw:HdS (A6 (B7.getD (k-2).toNat [])):=.inr ⟨(k-2).toNat,by omega,rfl⟩;generalize A6 (B7.getD (k-2).toNat [])=w at hw;by_cases h23:k=2\/k=3
 ·rw [if_pos h23]
  match y with
  | []=>exact ⟨w,_,rfl,hw⟩
  | [q] =>
   dsimp only;split
   ·exact ⟨w,_,rfl,hw⟩
   ·exact ⟨w,_,rfl,hw⟩
  | q :: q2 :: l=>exact ⟨w,_,rfl,hw⟩
 rw [if_neg h23];repeat' split
 all_goals exact ⟨w,_,rfl,hw⟩
def CSt (L:List Tok) (E:Int) (x:St):Prop:=∀ (d:Nat) (s:Rd) (post:List Tok),S5 d x=true->d<=8->L.drop s.i=stT x++post->okR s=true->C6n E post=false ->
 ∃ x' s',x'.plain=x.plain/\U7 L E d s (x',s')/\s'.i=s.i+(stT x).length/\okR s'=true
theorem A3v:∀ (l:List St),(∀ x∈l,CSt L E x)->∀ (acc:List St) (d:Nat) (s:Rd) (post:List Tok),M5 d l=true->acc.length+l.length<=64->(l=[]\/d<=8)->L.drop s.i=O8 l++([A6 [125]]++post)->okR s=true ->
  ∃ l' s',St.plains l'=St.plains l/\A0w L E d acc s (acc++l',s')/\s'.i=s.i+(O8 l).length+1/\okR s'=true
 | [],_,acc,d,s,post,hv,hl,hd,h,hok=>by
  have h0:L.drop s.i=A6 [125] :: post:=by rw [h];rfl
  have hi:isR L E s [125]=true:=by rw [A3r hok,D7 h0,w125.1];rfl
  have hb:=A0w.stop (L:=L) (E:=E) (d:=d) (l:=acc) (s:=s) (by rw [hi];simp);rw [U2 h0 hok w125.1] at hb;exact ⟨[],A8 s,rfl,by rw [A1J];exact hb,rfl,hok⟩
 | x :: l,hx,acc,d,s,post,hv,hl,hd,h,hok=>by
  rw [M5,A0D] at hv;have hd8:d<=8:=hd.resolve_left (by simp);obtain ⟨t,ts,e1,e2⟩:=B6y hv.1;obtain ⟨f1,f2,f3⟩:=e2.facts;have h0:L.drop s.i=stT x++(O8 l++([A6 [125]]++post)):=by rw [h,O8,A0V]
  have hp:A7 L E s=t:=D7 (ts:=ts++(O8 l++([A6 [125]]++post))) (by rw [h0,e1];rfl);have hels:C6n E (O8 l++([A6 [125]]++post))=false:=by
   unfold C6n;cases l with
   | nil =>
    show (S4 (A6 [125]) && (A6 [125]).text == [101,108,115,101])=false;rw [w125.1,A1G];simpa using w125.2
   | cons y l =>
    have hv2:=hv.2;rw [M5,A0D] at hv2;obtain ⟨u,us,g1,g2⟩:=B6y hv2.1;rw [O8,g1];exact g2.facts.2.1
  obtain ⟨x',s1,p1,p2,p3,p4⟩:=hx x A0K d s _ hv.1 hd8 h0 hok hels;have hdr:L.drop s1.i=O8 l++([A6 [125]]++post):=by rw [p3];exact I3 h0
  obtain ⟨l',s',q1,q2,q3,q4⟩:=A3v l (fun y hy=>hx y (A0J _ hy)) (acc++[x']) d s1 post hv.2 (by simp only [A0A,A0U,A1C] at hl ⊢;omega) (.inr hd8) hdr p4;refine ⟨x' :: l',s',by rw [St.plains,St.plains,p1,q1],?_,by rw [q3,p3,O8,A0A];omega,q4⟩;refine A0w.more (s1:=s1) (x:=x') ⟨hok,by rw [A3r hok,hp];exact f1⟩ ?_ ?_ (by rw [A0V] at q2;exact q2)
  ·rintro ⟨g1,g2⟩;rw [W9 hok,hp] at g1;rw [B0k hok,hp] at g2;rcases f3 with f3|f3
   ·omega
   ·rw [f3] at g2;simp at g2
  ·rw [A4i (by simp only [A0U] at hl;omega)];exact p2
theorem U5 {l:List St} (hx:∀ x∈l,CSt L E x) {d:Nat} {s:Rd} {post:List Tok} (hv:R1 l d=true) (h:L.drop s.i=blT l++post) (hok:okR s=true) :
  ∃ l' s',St.plains l'=St.plains l/\A7b L E d s (l',s')/\s'.i=s.i+(blT l).length/\okR s'=true:=by
 unfold R1 at hv;simp only [A0D,A0H,A0X,A3Z] at hv;have h0:L.drop s.i=A6 [123] :: (O8 l++([A6 [125]]++post)):=by rw [h];unfold blT;simp
 have he:=U2 (E:=E) h0 hok w123.1;obtain ⟨l',s',q1,q2,q3,q4⟩:=A3v l hx [] d (A8 s) post hv.2 (by simp only [A1C];omega) hv.1.2 (F7 h0) hok;refine ⟨l',s',q1,A7b.mk (by rw [he];exact q2),?_,q4⟩;rw [q3];unfold blT;simp only [A0A,A0F];show s.i+1+_+1=_;omega
theorem A5o {a:List Ex} (h:a.length=1) (hv:a.all X1=true):∃ e,a=[e]/\X1 e=true:=by
 obtain ⟨e,rfl⟩:=A2K.1 h;exact ⟨e,rfl,by simpa using hv⟩
theorem ag0 (e:Ex) (l:List Ex):agT (e :: l) 0=exT e:=rfl
theorem ag1 (e e2:Ex) (l:List Ex):agT (e :: e2 :: l) 1=exT e2:=rfl
theorem B8m {k:Int} (h1:k≠1) (h2:k≠2) (h3:k≠3) (h4:k≠4) (h8:k≠8) (h9:k≠9) (h10:k≠10) (h18:k≠18) (h19:k≠19):I4 k=⟨true,false,0,false,false⟩:=by
 unfold I4;rw [if_neg (by omega),if_neg h9,if_neg h2,if_neg h3,if_neg h4,if_neg h18,if_neg h19]
def B7h:List St->List Tok
 | []=>[]
 | [q]=>if q.kind=2 then [A6 [101,108,115,101]]++stT q else [A6 [101,108,115,101]]++blT [q]
 | q :: q2 :: r=>[A6 [101,108,115,101]]++blT (q :: q2 :: r)
theorem B2u:∀ (m:Nat) (x:St),x.sz<m->CSt L E x:=by
 intro m
 induction m with
 | zero=>intro x h;omega
 | succ m ih =>
 intro x hm d s post hv hd h hok hels;cases x with|mk k n t a x y p =>
 obtain ⟨⟨k1,k2⟩,⟨ha,hav⟩,⟨hn,ht⟩,⟨hx,hy⟩,hbx,hby⟩:=B9t hv;have hcx:∀ q∈x,CSt L E q:=fun q hq=>ih q (by rw [St.sz] at hm;have:=St.szs_mem hq;omega);have hcy:∀ q∈y,CSt L E q:=fun q hq=>ih q (by rw [St.sz] at hm;have:=St.szs_mem hq;omega);have hlim:okR (C7 L E s (d:Int) 8 50)=true:=by rw [A4i (by omega)];exact hok
 have hcast:((d+1:Nat):Int)=(d:Int)+1:=by omega
 by_cases hk1:k=1
 ·
  subst hk1;have hn:C8 n=true:=hn;have ht:t=[]:=by have h':(t == [])=true:=ht;simpa using h'
  have hx:x=[]:=hx.resolve_left (by decide);have hy:y=[]:=hy.resolve_left (by decide);subst ht hx hy;obtain ⟨e,rfl,he⟩:=A5o ha hav;have hT:stT (.mk 1 n [] [e] [] [] p)=D4 n++[A6 [61]]++exT e++[A6 [59]]:=by unfold stT;rw [if_pos rfl,ag0]
  rw [hT] at h ⊢;have h0:L.drop s.i=D4 n++(A6 [61] :: (exT e++(A6 [59] :: post))):=by rw [h];simp
  have h1:=Z7 h0 (A5 n);have hpk:A7 L E s=⟨1,n,0,0⟩:=D7 (ts:=A6 [61] :: (exT e++(A6 [59] :: post))) (by rw [h0];unfold D4;rw [if_neg (by rw [hn];decide)];rfl);have htk:=A4a (E:=E) h0 hok hn;have h2:=F7 (s:=A8 s) h1;have he1:=U2 (E:=E) (s:=A8 s) h1 hok w61;obtain ⟨e',s1,p1,p2,p3,p4⟩:=O2 (L:=L) (E:=E) he (s:=A8 (A8 s)) h2 hok (by show S3 (A6 [59])=0;exact w59.2);have h3:L.drop s1.i=A6 [59] :: post:=by rw [p3];exact I3 h2
  have hst:=U7.set (L:=L) (E:=E) (d:=d) (s:=s) (s1:=s1) (e:=e') hlim (by rw [W9 hok,hpk];exact (by decide:(-1:Int)<0)) (by rw [htk,he1];exact p2);rw [htk,U2 h3 p4 w59.1] at hst;refine ⟨_,_,?_,hst,?_,p4⟩
  ·rw [St.plain,St.plain,Ex.plains,Ex.plains,Ex.plains,Ex.plains,p1]
  ·show s1.i+1=_;rw [p3];simp only [A0A,A0F,A5];show s.i+1+1+_+1=_;omega
 obtain ⟨j,hj⟩:∃ j:Nat,k=2+(j:Int):=⟨(k-2).toNat,by omega⟩;have hj18:j<18:=by omega
 have hjn:(k-2).toNat=j:=by omega
 obtain ⟨a1,a2, -, -⟩:=B4y j hj18;by_cases h23:k=2\/k=3
 ·
  have hsh:(I4 k).args=1/\(I4 k).name=false/\(I4 k).text=false/\(k=3->(I4 k).els=false):=by
   rcases h23 with rfl|rfl
   ·exact ⟨rfl,rfl,rfl,fun h=>absurd h (by decide)⟩
   ·exact ⟨rfl,rfl,rfl,fun _=>rfl⟩
  rw [hsh.1] at ha;rw [hsh.2.1] at hn;rw [hsh.2.2.1] at ht;have hn:n=[]:=by have h':(n == [])=true:=hn;simpa using h'
  have ht:t=[]:=by have h':(t == [])=true:=ht;simpa using h'
  subst hn ht;have hy3:k=3->y=[]:=fun h=>hy.resolve_left (by rw [hsh.2.2.2 h];decide);obtain ⟨e,rfl,he⟩:=A5o ha hav;obtain ⟨rest,hrest,hT⟩:∃ rest,rest=B7h y/\stT (.mk k [] [] [e] x y p)=[A6 (B7.getD j [])]++exT e++blT x++rest:=by
   refine ⟨_,rfl,?_⟩;clear hy hy3 hv hm h hby hcy;rw [stT,if_neg hk1,if_neg (by omega)];dsimp only;rw [if_pos h23,hjn,ag0]
   match y with
   | []=>simp [blT,B7h]
   | [q] =>
    unfold B7h;dsimp only;split
    ·simp [blT]
    ·simp [blT,O8]
   | q :: q2 :: r=>simp [blT,B7h]
  rw [hT] at h ⊢;generalize A6 (B7.getD j [])=w at a1 a2 h hT ⊢;have h0:L.drop s.i=w :: (exT e++(blT x++(rest++post))):=by rw [h];simp
  have hpk:=D7 (E:=E) h0;have ham:B9 L E s B7=(j:Int):=by rw [W9 hok,hpk];exact a1
  have h1:=F7 h0;obtain ⟨e',s2,p1,p2,p3,p4⟩:=O2 (L:=L) (E:=E) he (s:=A8 s) h1 hok (by unfold blT;show S3 (A6 [123])=0;exact w123.2.1);have h2:L.drop s2.i=blT x++(rest++post):=by rw [p3];exact I3 h1
  obtain ⟨t',s3,b1,b2,b3,b4⟩:=U5 hcx hbx h2 p4;rw [hcast] at b2;have h3:L.drop s3.i=rest++post:=by rw [b3];exact I3 h2
  have hi3:s3.i=s.i+1+(exT e).length+(blT x).length:=by rw [b3,p3];rfl
  have blkCase:¬ (B9 L E s B7=0/\isR L E s3 [101,108,115,101]=true)->y=[]->rest=[]->∃ x' s',x'.plain=(St.mk k [] [] [e] x y p).plain/\U7 L E d s (x',s')/\s'.i=s.i+([w]++exT e++blT x++rest).length/\okR s'=true:=by
   intro hc hy0 hr0;subst hy0 hr0;have hst:=U7.blk (L:=L) (E:=E) (d:=d) (s:=s) hlim (by rw [ham];omega) p2 b2 hc;refine ⟨_,_,?_,hst,?_,b4⟩
   ·rw [ham, <- hj,St.plain,St.plain,Ex.plains,Ex.plains,Ex.plains,Ex.plains,p1,b1]
   ·rw [hi3];simp only [A0A,A0F,A1C];omega
  by_cases hk3:k=3
  ·have hy0:=hy3 hk3;subst hy0;exact blkCase (by rw [ham];omega) rfl hrest
  ·have hk2:k=2:=by omega
   have hj0:j=0:=by omega
   have hd1:y≠[]->d+1<=8:=fun hne=>by
    unfold R1 at hby;simp only [A0D,A0H,A0X,A3Z] at hby;exact hby.1.2.resolve_left hne
   have elsCase:∀ (o':List St) (s4:Rd),St.plains o'=St.plains y->A7a L E d (A8 s3) (o',s4)->isR L E s3 [101,108,115,101]=true->s4.i=s3.i+rest.length->okR s4=true->∃ x' s',x'.plain=(St.mk k [] [] [e] x y p).plain/\U7 L E d s (x',s')/\s'.i=s.i+([w]++exT e++blT x++rest).length/\okR s'=true:=by
    intro o' s4 c1 c2 c3 c4 c5;have hst:=U7.els (L:=L) (E:=E) (d:=d) (s:=s) hlim (by rw [ham,hj0];rfl) p2 b2 c3 c2;refine ⟨_,_,?_,hst,?_,c5⟩
    ·rw [hk2,St.plain,St.plain,Ex.plains,Ex.plains,Ex.plains,Ex.plains,p1,b1,c1]
    ·rw [c4,hi3];simp only [A0A,A0F];omega
   clear hy hy3 hv hm hT h h0
   match y,hcy,hby,hd1,hrest,blkCase,elsCase with
   | [],_,_,_,hrest,blkCase,_ =>
    refine blkCase ?_ rfl hrest;rintro ⟨-,g⟩;rw [hrest] at h3;rw [A3r b4,A7i,h3] at g;have g:C6n E post=true:=g;rw [hels] at g;cases g
   | [q],hcy,hby,hd1,hrest,_,elsCase =>
    have hrest:rest=if q.kind=2 then [A6 [101,108,115,101]]++stT q else [A6 [101,108,115,101]]++blT [q]:=hrest
    have hd1:=hd1 (by simp);by_cases hq2:q.kind=2
    ·rw [if_pos hq2] at hrest;subst hrest;have h4:L.drop s3.i=A6 [101,108,115,101] :: (stT q++post):=by rw [h3];simp
     have hi:isR L E s3 [101,108,115,101]=true:=by rw [A3r b4,D7 h4,C8h];rfl
     have hvq:S5 (d+1) q=true:=by
      unfold R1 at hby;simp only [A0D] at hby;have:=hby.2;rw [M5,A0D] at this;exact this.1
     obtain ⟨q',s4,c1,c2,c3,c4⟩:=hcy q A0K (d+1) (A8 s3) post hvq hd1 (F7 h4) b4 hels;rw [hcast] at c2;have hif:isR L E (A8 s3) [105,102]=true:=by
      have h5:=F7 h4;have:∃ ts,stT q=A6 (B7.getD 0 []) :: ts:=by
       cases q with|mk kq nq tq aq xq yq pq =>
       have hq2:kq=2:=hq2;subst hq2;unfold stT;rw [if_neg (by decide),if_neg (by decide)];dsimp only;rw [if_pos (.inl rfl)]
       match yq with
       | []=>exact ⟨_,rfl⟩
       | [q3] =>
        dsimp only;split
        ·exact ⟨_,rfl⟩
        ·exact ⟨_,rfl⟩
       | _ :: _ :: _=>exact ⟨_,rfl⟩
      obtain ⟨ts,hts⟩:=this;rw [A3r (show okR (A8 s3)=true from b4),D7 (s:=A8 s3) (t:=A6 (B7.getD 0 [])) (ts:=ts++post) (by show L.drop (s3.i+1)=_;rw [h5,hts];rfl),(B4y 0 (by decide)).2.1];rfl
     refine elsCase [q'] s4 (by rw [St.plains,St.plains,St.plains,St.plains,c1]) (A7a.iff hif c2) hi ?_ c4;rw [c3];simp only [A0A,A0F];show s3.i+1+_=_;omega
    ·rw [if_neg hq2] at hrest;subst hrest;have h4:L.drop s3.i=A6 [101,108,115,101] :: (blT [q]++post):=by rw [h3];simp
     have hi:isR L E s3 [101,108,115,101]=true:=by rw [A3r b4,D7 h4,C8h];rfl
     obtain ⟨o',s4,c1,c2,c3,c4⟩:=U5 hcy hby (s:=A8 s3) (F7 h4) b4;rw [hcast] at c2;have hif:isR L E (A8 s3) [105,102]=false:=by
      rw [A3r (show okR (A8 s3)=true from b4),D7 (s:=A8 s3) (t:=A6 [123]) (ts:=O8 [q]++[A6 [125]]++post) (by show L.drop (s3.i+1)=_;rw [F7 h4];unfold blT;simp),w123.1,A1G];simpa using w123.2.2
     refine elsCase o' s4 c1 (A7a.blk hif c2) hi ?_ c4;rw [c3];simp only [A0A,A0F];show s3.i+1+_=_;omega
   | q :: q2 :: r,hcy,hby,hd1,hrest,_,elsCase =>
    have hrest:rest=[A6 [101,108,115,101]]++blT (q :: q2 :: r):=hrest;subst hrest;have h4:L.drop s3.i=A6 [101,108,115,101] :: (blT (q :: q2 :: r)++post):=by rw [h3];simp
    have hi:isR L E s3 [101,108,115,101]=true:=by rw [A3r b4,D7 h4,C8h];rfl
    obtain ⟨o',s4,c1,c2,c3,c4⟩:=U5 hcy hby (s:=A8 s3) (F7 h4) b4;rw [hcast] at c2;have hif:isR L E (A8 s3) [105,102]=false:=by
     rw [A3r (show okR (A8 s3)=true from b4),D7 (s:=A8 s3) (t:=A6 [123]) (ts:=O8 (q :: q2 :: r)++[A6 [125]]++post) (by show L.drop (s3.i+1)=_;rw [F7 h4];unfold blT;simp),w123.1,A1G];simpa using w123.2.2
    refine elsCase o' s4 c1 (A7a.blk hif c2) hi ?_ c4;rw [c3];simp only [A0A,A0F];show s3.i+1+_=_;omega
 have hshx:(I4 k).thn=false/\(I4 k).els=false:=by
  unfold I4;repeat' split
  all_goals first|exact ⟨rfl,rfl⟩|omega
 have hx:x=[]:=hx.resolve_left (by rw [hshx.1];decide);have hy:y=[]:=hy.resolve_left (by rw [hshx.2];decide);subst hx hy;have tailGo:∀ (toks:List Tok) (n' t':List UInt8) (a':List Ex) (s':Rd),stT (.mk k n t a [] [] p)=[A6 (B7.getD j [])]++toks->n'=n->t'=t->Ex.plains a'=Ex.plains a->s'.i=s.i+1+toks.length->okR s'=true ->
   (L.drop (s.i+1)=toks++post->Evt (fun f=>N1 L E f k (A7 L E s).pos (A8 s)) (.mk k n' t' a' [] [] (A7 L E s).pos,s'))->∃ x' s',x'.plain=(St.mk k n t a [] [] p).plain/\U7 L E d s (x',s')/\s'.i=s.i+(stT (.mk k n t a [] [] p)).length/\okR s'=true:=by
  intro toks n' t' a' s' c1 c2 c3 c4 c5 c6 c7;subst c2 c3;rw [c1] at h ⊢;have h0:L.drop s.i=A6 (B7.getD j []) :: (toks++post):=by rw [h];simp
  have hpk:=D7 (E:=E) h0;have ham:B9 L E s B7=(j:Int):=by rw [W9 hok,hpk];exact a1
  have hst:=U7.tail (L:=L) (E:=E) (d:=d) (s:=s) hlim (by rw [ham];omega) (by rw [ham, <- hj];exact c7 (F7 h0));refine ⟨_,_,?_,hst,?_,c6⟩
  ·rw [St.plain,St.plain,c4]
  ·rw [c5];simp only [A0A,A0F];omega
 have hT:stT (.mk k n t a [] [] p)=[A6 (B7.getD j [])]++(if k=4 then agT a 0++[A6 [59]] else if k=18 then S8 t++[A6 [44]]++agT a 0++[A6 [59]] else if k=8\/k=10 then D4 n++agT a 0++[A6 [59]] else if k=9 then D4 n++agT a 0++[A6 [44]]++agT a 1++[A6 [59]] else if k=19 then [A6 [59]] else D4 n++[A6 [59]]):=by
  unfold stT;rw [if_neg hk1,if_neg (by omega)];dsimp only;rw [if_neg h23,hjn];repeat' split
  all_goals simp
 by_cases h4:k=4
 ·subst h4;have hn:n=[]:=by have h':(n == [])=true:=hn;simpa using h'
  have ht:t=[]:=by have h':(t == [])=true:=ht;simpa using h'
  subst hn ht;obtain ⟨e,rfl,he⟩:=A5o ha hav;rw [if_pos rfl,ag0] at hT;have h0:L.drop (s.i+1)=exT e++(A6 [59] :: post):=by
   rw [hT] at h;have:L.drop s.i=A6 (B7.getD j []) :: (exT e++(A6 [59] :: post)):=by rw [h];simp
   exact F7 this
  obtain ⟨e',s1,p1,p2,p3,p4⟩:=O2 (L:=L) (E:=E) he (s:=A8 s) h0 hok (by show S3 (A6 [59])=0;exact w59.2);have h3:L.drop s1.i=A6 [59] :: post:=by rw [p3];exact I3 h0
  refine tailGo _ [] [] [e'] (A8 s1) hT rfl rfl (by rw [Ex.plains,Ex.plains,Ex.plains,Ex.plains,p1]) (by show s1.i+1=_;rw [p3];simp only [A0A,A0F];show s.i+1+_+1=_;omega) p4 (fun _=>p2.map fun f hf=>?_);unfold N1;rw [if_pos rfl,hf];dsimp only;rw [U2 h3 p4 w59.1]
 rw [if_neg h4] at hT;by_cases h18:k=18
 ·subst h18;have hn:n=[]:=by have h':(n == [])=true:=hn;simpa using h'
  have ht:R0 t=true:=ht;subst hn;obtain ⟨e,rfl,he⟩:=A5o ha hav;rw [if_pos rfl,ag0] at hT;have h0:L.drop (s.i+1)=S8 t++(A6 [44] :: (exT e++(A6 [59] :: post))):=by
   rw [hT] at h;have:L.drop s.i=A6 (B7.getD j []) :: (S8 t++(A6 [44] :: (exT e++(A6 [59] :: post)))):=by rw [h];simp
   exact F7 this
  have htk:=C3w (E:=E) (s:=A8 s) h0 hok ht;have h1:=Z7 (s:=A8 s) h0 (B2 t);have he1:=U2 (E:=E) (s:=A8 (A8 s)) h1 hok w44.1;have h2:=F7 (s:=A8 (A8 s)) h1;obtain ⟨e',s1,p1,p2,p3,p4⟩:=O2 (L:=L) (E:=E) he (s:=A8 (A8 (A8 s))) h2 hok (by show S3 (A6 [59])=0;exact w59.2);have h3:L.drop s1.i=A6 [59] :: post:=by rw [p3];exact I3 h2
  refine tailGo _ [] t [e'] (A8 s1) hT rfl rfl (by rw [Ex.plains,Ex.plains,Ex.plains,Ex.plains,p1]) (by show s1.i+1=_;rw [p3];simp only [A0A,A0F,B2];show s.i+1+1+1+_+1=_;omega) p4 (fun _=>p2.map fun f hf=>?_);unfold N1;rw [if_neg (by decide),if_pos rfl,htk,he1,hf];dsimp only;rw [U2 h3 p4 w59.1]
 rw [if_neg h18] at hT;by_cases h8:k=8\/k=10
 ·have hsh:I4 k=⟨true,false,1,false,false⟩:=by rcases h8 with rfl|rfl<;>rfl
  rw [hsh] at ha hn ht;have hn:C8 n=true:=hn;have ht:t=[]:=by have h':(t == [])=true:=ht;simpa using h'
  subst ht;obtain ⟨e,rfl,he⟩:=A5o ha hav;rw [if_pos h8,ag0] at hT;have h0:L.drop (s.i+1)=D4 n++(exT e++(A6 [59] :: post)):=by
   rw [hT] at h;have:L.drop s.i=A6 (B7.getD j []) :: (D4 n++(exT e++(A6 [59] :: post))):=by rw [h];simp
   exact F7 this
  have htk:=A4a (E:=E) (s:=A8 s) h0 hok hn;have h1:=Z7 (s:=A8 s) h0 (A5 n);obtain ⟨e',s1,p1,p2,p3,p4⟩:=O2 (L:=L) (E:=E) he (s:=A8 (A8 s)) h1 hok (by show S3 (A6 [59])=0;exact w59.2);have h3:L.drop s1.i=A6 [59] :: post:=by rw [p3];exact I3 h1
  refine tailGo _ n [] [e'] (A8 s1) hT rfl rfl (by rw [Ex.plains,Ex.plains,Ex.plains,Ex.plains,p1]) (by show s1.i+1=_;rw [p3];simp only [A0A,A0F,A5];show s.i+1+1+_+1=_;omega) p4 (fun _=>p2.map fun f hf=>?_);unfold N1;rw [if_neg h4,if_neg h18,if_neg (by omega)];dsimp only;rw [if_pos (by omega),htk];dsimp only;rw [hf];dsimp only;rw [if_neg (by omega),U2 h3 p4 w59.1]
 rw [if_neg h8] at hT;by_cases h9:k=9
 ·subst h9;have hn:C8 n=true:=hn;have ht:t=[]:=by have h':(t == [])=true:=ht;simpa using h'
  subst ht;obtain ⟨e,e2,rfl⟩:=B7v ha;simp only [A2P,List.all_nil,A1W,A0D] at hav;rw [if_pos rfl,ag0,ag1] at hT;have h0:L.drop (s.i+1)=D4 n++(exT e++(A6 [44] :: (exT e2++(A6 [59] :: post)))):=by
   rw [hT] at h;have:L.drop s.i=A6 (B7.getD j []) :: (D4 n++(exT e++(A6 [44] :: (exT e2++(A6 [59] :: post))))):=by rw [h];simp
   exact F7 this
  have htk:=A4a (E:=E) (s:=A8 s) h0 hok hn;have h1:=Z7 (s:=A8 s) h0 (A5 n);obtain ⟨e',s1,p1,p2,p3,p4⟩:=O2 (L:=L) (E:=E) hav.1 (s:=A8 (A8 s)) h1 hok (by show S3 (A6 [44])=0;exact w44.2);have h3:L.drop s1.i=A6 [44] :: (exT e2++(A6 [59] :: post)):=by rw [p3];exact I3 h1
  have hx1:=U2 (E:=E) h3 p4 w44.1;obtain ⟨e2',s2,r1,r2,r3,r4⟩:=O2 (L:=L) (E:=E) hav.2 (s:=A8 s1) (F7 h3) p4 (by show S3 (A6 [59])=0;exact w59.2);have h5:L.drop s2.i=A6 [59] :: post:=by rw [r3];exact I3 (F7 h3)
  refine tailGo _ n [] [e',e2'] (A8 s2) hT rfl rfl (by rw [Ex.plains,Ex.plains,Ex.plains,Ex.plains,Ex.plains,Ex.plains,p1,r1]) (by show s2.i+1=_;rw [r3];show s1.i+1+_+1=_;rw [p3];simp only [A0A,A0F,A5];show s.i+1+1+_+1+_+1=_;omega) r4 (fun _=>p2.map2 r2 fun f hf hf2=>?_);unfold N1;rw [if_neg h4,if_neg h18,if_neg (by decide)];dsimp only;rw [if_pos (by decide),htk];dsimp only;rw [hf];dsimp only;rw [if_pos rfl,hx1,hf2];dsimp only;rw [U2 h5 r4 w59.1]
 rw [if_neg h9] at hT;by_cases h19:k=19
 ·subst h19;have hn:n=[]:=by have h':(n == [])=true:=hn;simpa using h'
  have ht:t=[]:=by have h':(t == [])=true:=ht;simpa using h'
  have ha:a=[]:=A1N ha;subst hn ht ha;rw [if_pos rfl] at hT;have h0:L.drop (s.i+1)=A6 [59] :: post:=by
   rw [hT] at h;have:L.drop s.i=A6 (B7.getD j []) :: (A6 [59] :: post):=by rw [h];simp
   exact F7 this
  refine tailGo _ [] [] [] (A8 (A8 s)) hT rfl rfl rfl rfl hok (fun _=>Evt.one fun f=>?_);unfold N1;rw [if_neg (by decide),if_neg (by decide),if_pos rfl,U2 (s:=A8 s) h0 hok w59.1]
 rw [if_neg h19] at hT;have hsh:=B8m hk1 (fun h=>h23 (.inl h)) (fun h=>h23 (.inr h)) h4 (fun h=>h8 (.inl h)) h9 (fun h=>h8 (.inr h)) h18 h19;rw [hsh] at ha hn ht;have hn:C8 n=true:=hn;have ht:t=[]:=by have h':(t == [])=true:=ht;simpa using h'
 have ha:a=[]:=A1N ha;subst ht ha;have h0:L.drop (s.i+1)=D4 n++(A6 [59] :: post):=by
  rw [hT] at h;have:L.drop s.i=A6 (B7.getD j []) :: (D4 n++(A6 [59] :: post)):=by rw [h];simp
  exact F7 this
 have htk:=A4a (E:=E) (s:=A8 s) h0 hok hn;have h1:=Z7 (s:=A8 s) h0 (A5 n);refine tailGo _ n [] [] (A8 (A8 (A8 s))) hT rfl rfl rfl (by simp only [A0A,A0F,A5];show s.i+1+1+1=_;omega) hok (fun _=>Evt.one fun f=>?_);unfold N1;rw [if_neg h4,if_neg h18,if_neg h19];dsimp only;rw [if_neg (by omega),htk];dsimp only;rw [U2 (s:=A8 (A8 s)) h1 hok w59.1]
theorem B2e {l:List St} {d:Nat} {s:Rd} {post:List Tok} (hv:R1 l d=true) (h:L.drop s.i=blT l++post) (hok:okR s=true) :
  ∃ l' s',St.plains l'=St.plains l/\A7b L E d s (l',s')/\s'.i=s.i+(blT l).length/\okR s'=true :=
 U5 (fun x hx=>B2u (x.sz+1) x (by omega)) hv h hok
end
end Go.Pb
namespace Go.Pb
variable [Go.Sym.Tab]
open Go.Sym
section
variable {L:List Tok} {E:Int}
theorem D2a:∀ j:Nat,j<8->amT (A6 (D1.getD j [])) D1=(j:Int):=by decide +kernel
theorem C8o:∀ j:Nat,j<6->amT (A6 (D3.getD j [])) D3=(j:Int):=by decide +kernel
theorem B9r:S4 (A6 [109,111,100,101])=true/\amT (A6 [109,111,100,101]) D1 = -1:=by decide +kernel
theorem won:S4 (A6 [111,110])=true/\(A6 [111,110]).text≠[125]:=by decide +kernel
theorem D6u:S4 (A6 [45])=true:=by decide +kernel
theorem B6j {d:Dc} {k v:Int} {n:List UInt8} (h1:k=d.kind) (h2:n=d.name) (h3:v=d.value) {p:Int}:Dc.plain ⟨k,n,v,p⟩=d.plain:=by
 subst h1 h2 h3;rfl
theorem B2d {d:Dc} (hv:A0p d=true) {s:Rd} {post:List Tok} (h:L.drop s.i=dcT d++post) (hok:okR s=true) :
  B9 L E s D1=d.kind-1/\(Q9 L E (d.kind-1) s).1.plain=d.plain/\(Q9 L E (d.kind-1) s).2.i=s.i+(dcT d).length/\okR (Q9 L E (d.kind-1) s).2=true:=by
 unfold A0p at hv;simp only [A0D,A0H] at hv;obtain ⟨⟨⟨⟨k1,k8⟩,hn⟩,v0⟩,v1⟩:=hv;obtain ⟨j,hj⟩:∃ j:Nat,d.kind=1+(j:Int):=⟨(d.kind-1).toNat,by omega⟩;have hj8:j<8:=by omega
 have hjn:(d.kind-1).toNat=j:=by omega
 have a1:=D2a j hj8;have hT:dcT d=[A6 (D1.getD j [])]++D4 d.name++(if 6<d.kind then [] else if d.value<0 then [A6 [45]]++P8 (-d.value) else P8 d.value)++[A6 [59]]:=by
  unfold dcT;rw [if_neg (by omega)];dsimp only;rw [hjn];by_cases h6:6<d.kind
  ·rw [if_pos h6,if_pos h6];simp
  ·rw [if_neg h6,if_neg h6];by_cases hneg:d.value<0
   ·have hk6:d.kind=6:=by
     by_cases hz:d.kind=6
     ·exact hz
     ·rw [if_neg hz] at v0;omega
    rw [if_pos hk6] at v0;rw [if_pos ⟨hneg,v0,hk6⟩,if_pos hneg];simp
   ·rw [if_neg (fun h=>hneg h.1),if_neg hneg]
 rw [hT] at h ⊢;have h0:L.drop s.i=A6 (D1.getD j []) :: (D4 d.name++((if 6<d.kind then [] else if d.value<0 then [A6 [45]]++P8 (-d.value) else P8 d.value)++(A6 [59] :: post))):=by rw [h];simp
 have hpk:=D7 (E:=E) h0;have h1:=F7 h0;have htk:=A4a (E:=E) (s:=A8 s) h1 hok hn;have h2:=Z7 (s:=A8 s) h1 (A5 d.name);refine ⟨by rw [W9 hok,hpk,a1];omega,?_⟩;unfold Q9;dsimp only;rw [htk];dsimp only;by_cases h6:6<d.kind
 ·rw [if_pos h6] at h2 ⊢;rw [if_neg (by omega)];have h2:L.drop (A8 (A8 s)).i=A6 [59] :: post:=h2;rw [U2 h2 hok w59.1];refine ⟨B6j (by omega) rfl ?_,?_,hok⟩
  ·rw [if_neg (by omega)] at v0;rw [if_pos (by omega)] at v1;omega
  ·simp only [A0A,A0F,A5,A1C];show s.i+1+1+1=_;omega
 ·rw [if_neg h6] at h2 ⊢;rw [if_pos (by omega)];rw [if_neg (by omega)] at v1;by_cases hneg:d.value<0
  ·have hk6:d.kind=6:=by
    by_cases hz:d.kind=6
    ·exact hz
    ·rw [if_neg hz] at v0;omega
   rw [if_pos hk6] at v0;rw [if_pos hneg] at h2 ⊢;have h3:L.drop (A8 (A8 s)).i=A6 [45] :: (P8 (-d.value)++(A6 [59] :: post)):=by rw [show L.drop (A8 (A8 s)).i=_ from h2];simp
   have hm:(d.kind-1+1 == 6 && isR L E (A8 (A8 s)) [45])=true:=by
    rw [A3r (show okR (A8 (A8 s))=true from hok),D7 h3,D6u,hk6];rfl
   rw [if_pos hm,if_pos hm];have h4:=F7 h3;have htk2:=B1a (E:=E) (s:=A8 (A8 (A8 s))) h4 hok (by omega) (by omega);rw [htk2];have h5:=Z7 (s:=A8 (A8 (A8 s))) h4 (B4 _);have h5:L.drop (A8 (A8 (A8 (A8 s)))).i=A6 [59] :: post:=h5;dsimp only;rw [U2 h5 hok w59.1];refine ⟨B6j (by omega) rfl (by omega),?_,hok⟩;simp only [A0A,A0F,A5,B4];show s.i+1+1+1+1+1=_;omega
  ·rw [if_neg hneg] at h2 ⊢;have h3:L.drop (A8 (A8 s)).i=P8 d.value++(A6 [59] :: post):=h2;have hp3:A7 L E (A8 (A8 s))=⟨3,[],d.value,0⟩:=D7 (ts:=A6 [59] :: post) (by rw [h3];unfold P8;rw [if_neg (by omega)];rfl);have hm:(d.kind-1+1 == 6 && isR L E (A8 (A8 s)) [45])=false:=by
    rw [A3r (show okR (A8 (A8 s))=true from hok),hp3];simp [S4]
   rw [hm];simp only [A1I,if_false];have htk2:=B1a (E:=E) (s:=A8 (A8 s)) h3 hok (by omega) (by omega);rw [htk2];have h5:=Z7 (s:=A8 (A8 s)) h3 (B4 _);have h5:L.drop (A8 (A8 (A8 s))).i=A6 [59] :: post:=h5;dsimp only;rw [U2 h5 hok w59.1];refine ⟨B6j (by omega) rfl rfl,?_,hok⟩;simp only [A0A,A0F,A5,B4];show s.i+1+1+1+1=_;omega
theorem A4w:∀ (l acc:List Dc) (s:Rd) (post:List Tok),l.all A0p=true->acc.length+l.length<=128->amT (hd0 E post) D1<0->L.drop s.i=l.flatMap dcT++post->okR s=true ->
  ∃ l' s',l'.map Dc.plain=l.map Dc.plain/\Evt (fun f=>P3 L E f acc s) (acc++l',s')/\L.drop s'.i=post/\okR s'=true
 | [],acc,s,post,hv,hl,hp,h,hok=>by
  have h:L.drop s.i=post:=h;refine ⟨[],s,rfl,Evt.one fun f=>?_,h,hok⟩;rw [P3];dsimp only;rw [W9 hok,A7i,h,if_pos hp,A1J]
 | d :: l,acc,s,post,hv,hl,hp,h,hok=>by
  simp only [A2P,A0D] at hv;have h0:L.drop s.i=dcT d++(l.flatMap dcT++post):=by rw [h,A1E,A0V]
  obtain ⟨e1,e2,e3,e4⟩:=B2d (E:=E) hv.1 h0 hok;have hk1:1<=d.kind:=by
   have:=hv.1;unfold A0p at this;simp only [A0D,A0H] at this;omega
  obtain ⟨l',s',q1,q2,q3,q4⟩:=A4w l (acc++[(Q9 L E (d.kind-1) s).1]) (Q9 L E (d.kind-1) s).2 post hv.2 (by simp only [A0A,A0U,A1C] at hl ⊢;omega) hp (by rw [e3];exact I3 h0) e4;refine ⟨(Q9 L E (d.kind-1) s).1 :: l',s',by rw [A0O,A0O,e2,q1],?_,q3,q4⟩;rw [A0V] at q2;refine q2.ext fun f hf=>?_;rw [P3];dsimp only;rw [e1,if_neg (by omega),A4i (by simp only [A0U] at hl;omega),if_pos hok];exact hf
theorem hdp {h:Hd} {b:List St} (hb:St.plains b=St.plains h.body) {k:Int} {n:List UInt8} {p:Int} (hk:k=h.trig) (hn:n=h.name):Hd.plain ⟨k,n,b,p⟩=h.plain:=by
 unfold Hd.plain;dsimp only;rw [hb,hk,hn]
theorem A5a:∀ (l acc:List Hd) (s:Rd) (post:List Tok),l.all X4=true->acc.length+l.length<=32->L.drop s.i=l.flatMap hdT++([A6 [125]]++post)->okR s=true ->
  ∃ l' s',l'.map Hd.plain=l.map Hd.plain/\Evt (fun f=>N6 L E f acc s) (acc++l',s')/\L.drop s'.i=post/\okR s'=true
 | [],acc,s,post,hv,hl,h,hok=>by
  have h:L.drop s.i=A6 [125] :: post:=h;have hi:isR L E s [125]=true:=by rw [A3r hok,D7 h,w125.1];rfl
  refine ⟨[],A8 s,rfl,Evt.one fun f=>?_,F7 h,hok⟩;rw [N6,if_neg (by rw [hi];simp),U2 h hok w125.1,A1J]
 | x :: l,acc,s,post,hv,hl,h,hok=>by
  simp only [A2P,A0D] at hv;have hx:=hv.1;unfold X4 at hx;simp only [A0D,A0H] at hx;obtain ⟨⟨⟨t1,t6⟩,hn⟩,hb⟩:=hx;obtain ⟨j,hj⟩:∃ j:Nat,x.trig=1+(j:Int):=⟨(x.trig-1).toNat,by omega⟩;have hj6:j<6:=by omega
  have hjn:(x.trig-1).toNat=j:=by omega
  have h0:L.drop s.i=A6 [111,110] :: (A6 (D3.getD j []) :: ((if 2<x.trig then D4 x.name else [])++(blT x.body++(l.flatMap hdT++([A6 [125]]++post))))):=by
   rw [h,A1E];unfold hdT;rw [hjn];simp
  have hpk:=D7 (E:=E) h0;have hi:isR L E s [125]=false:=by rw [A3r hok,hpk,won.1,A1G];simpa using won.2
  have hon:isR L E s [111,110]=true:=by rw [A3r hok,hpk,won.1];rfl
  have he:=U2 (E:=E) h0 hok won.1;have h1:=F7 h0;have h1:L.drop (A8 s).i=_:=h1;have ham:B9 L E (A8 s) D3=(j:Int):=by rw [W9 (show okR (A8 s)=true from hok),D7 h1];exact C8o j hj6
  have h2:=F7 h1;have h2:L.drop (A8 (A8 s)).i=_:=h2;have key:∃ s4,s4=(if 2<=(j:Int) then (A9 L E (A8 (A8 s)) 1).2 else A8 (A8 s))/\okR s4=true/\(if 2<=(j:Int) then (A9 L E (A8 (A8 s)) 1).1.text else [])=x.name/\L.drop s4.i=blT x.body++(l.flatMap hdT++([A6 [125]]++post)):=by
   refine ⟨_,rfl,?_⟩;by_cases h2j:2<=(j:Int)
   ·rw [if_pos h2j,if_pos h2j];rw [if_pos (by omega)] at hn h2;rw [A4a (E:=E) h2 hok hn];exact ⟨hok,rfl,Z7 (s:=A8 (A8 s)) h2 (A5 _)⟩
   ·rw [if_neg h2j,if_neg h2j];rw [if_neg (by omega)] at hn h2;exact ⟨hok,by have:x.name=[]:=(by simpa using hn);rw [this],h2⟩
  obtain ⟨s4,k1,k2,k3,k4⟩:=key;obtain ⟨b',s5,b1,b2,b3,b4⟩:=B2e (L:=L) (E:=E) (d:=1) hb k4 k2;obtain ⟨l',s',q1,q2,q3,q4⟩:=A5a l (acc++[⟨1+(j:Int),x.name,b',(A7 L E s).pos⟩]) s5 post hv.2 (by simp only [A0A,A0U,A1C] at hl ⊢;omega) (by rw [b3];exact I3 k4) b4;refine ⟨⟨1+(j:Int),x.name,b',(A7 L E s).pos⟩ :: l',s',by rw [A0O,A0O,hdp b1 hj.symm rfl,q1],?_,q3,q4⟩;rw [A0V] at q2;refine Evt.ext2 b2 q2 fun f hf hf2=>?_;rw [N6,if_pos ⟨hok,hi⟩,if_neg (by rw [hon];decide)];dsimp only;rw [A4i (by simp only [A0U] at hl;omega),he,ham,if_neg (by omega), <- k1,k3];rw [show ((1:Nat):Int)=1 from rfl] at hf;rw [hf];exact hf2
theorem B1u {m:Md} (hv:U8 m=true) {s:Rd} {post:List Tok} (h:L.drop s.i=mdT m++post) (hok:okR s=true) :
  isR L E s [109,111,100,101]=true/\∃ m' s',m'.plain=m.plain/\Evt (fun f=>A0s L E f s) (m',s')/\L.drop s'.i=post/\okR s'=true:=by
 unfold U8 at hv;simp only [A0D,A0H] at hv;obtain ⟨⟨⟨⟨hn,p0⟩,p1⟩,hl⟩,hh⟩:=hv;have h0:L.drop s.i=A6 [109,111,100,101] :: (D4 m.name++(P8 m.prio++(A6 [123] :: (m.hds.flatMap hdT++([A6 [125]]++post))))):=by
  rw [h];unfold mdT;simp
 have hpk:=D7 (E:=E) h0;have he:=U2 (E:=E) h0 hok B9r.1;have h1:L.drop (A8 s).i=_:=F7 h0;have htk:=A4a (E:=E) h1 hok hn;have h2:L.drop (A8 (A8 s)).i=_:=Z7 (s:=A8 s) h1 (A5 _);have htk2:=B1a (E:=E) h2 hok p0 p1;have h3:L.drop (A8 (A8 (A8 s))).i=_:=Z7 (s:=A8 (A8 s)) h2 (B4 _);have he3:=U2 (E:=E) h3 hok w123.1;have h4:L.drop (A8 (A8 (A8 (A8 s)))).i=_:=F7 h3;obtain ⟨l',s',q1,q2,q3,q4⟩:=A5a (L:=L) (E:=E) m.hds [] _ post hh (by simp only [A1C];omega) h4 hok;refine ⟨by rw [A3r hok,hpk,B9r.1];rfl,⟨m.name,m.prio,l',(A7 L E s).pos⟩,s',?_,q2.map fun f hf=>?_,q3,q4⟩
 ·unfold Md.plain;dsimp only;rw [q1]
 ·unfold A0s;dsimp only;rw [he,htk];dsimp only;rw [htk2];dsimp only;rw [he3,hf];rfl
theorem A4v:∀ (l acc:List Md) (s:Rd),l.all U8=true->acc.length+l.length<=16->L.drop s.i=l.flatMap mdT->okR s=true ->
  ∃ l' s',l'.map Md.plain=l.map Md.plain/\Evt (fun f=>N2 L E f acc s) (acc++l',s')/\okR s'=true
 | [],acc,s,hv,hl,h,hok=>by
  have hi:¬ s.i<L.length:=fun hlt=>by
   have:=List.drop_eq_nil_iff.1 (show L.drop s.i=[] from h);omega
  refine ⟨[],s,rfl,Evt.one fun f=>?_,hok⟩;rw [N2,if_neg (fun h=>hi h.2),A1J]
 | m :: l,acc,s,hv,hl,h,hok=>by
  simp only [A2P,A0D] at hv;have h0:L.drop s.i=mdT m++l.flatMap mdT:=by rw [h,A1E]
  obtain ⟨hm,m',s1,e1,e2,e3,e4⟩:=B1u (E:=E) hv.1 h0 hok;obtain ⟨l',s',q1,q2,q4⟩:=A4v l (acc++[m']) s1 hv.2 (by simp only [A0A,A0U,A1C] at hl ⊢;omega) e3 e4;refine ⟨m' :: l',s',by rw [A0O,A0O,e1,q1],?_,q4⟩;rw [A0V] at q2;refine Evt.ext2 e2 q2 fun f hf hf2=>?_;rw [N2,if_pos ⟨hok,(Z3 hm).2⟩,if_neg (by rw [hm];decide)];dsimp only;rw [A4i (by simp only [A0U] at hl;omega),if_pos hok,hf];exact hf2
end
theorem C6f {h:Hd} (hv:X4 h=true):T9 h=false:=by
 unfold X4 at hv;simp only [A0D,A0H] at hv;unfold T9;simp only [A3M,A2B];omega
theorem B3d {r:Ru} (hv:Y5 r=true) (E:Int):okR (A0a (ruT r) E).2=true/\(A0a (ruT r) E).1.plain=r.plain:=by
 unfold Y5 at hv;simp only [A0D,A0H] at hv;obtain ⟨⟨⟨h1,h2⟩,h3⟩,h4⟩:=hv;have hbad:(r.modes.any fun m=>m.hds.any T9)=false:=by
  rw [List.any_eq_false];intro m hm;have:=A0P.1 h4 m hm;unfold U8 at this;simp only [A0D] at this;rw [Bool.not_eq_true,List.any_eq_false];intro h hh;rw [C6f (A0P.1 this.2 h hh)];decide
 have hT:ruT r=r.decls.flatMap dcT++r.modes.flatMap mdT:=by unfold ruT;rw [if_neg (by rw [hbad];decide)]
 have hp:amT (hd0 E (r.modes.flatMap mdT)) D1<0:=by
  cases hm:r.modes with
  | nil=>exact (by decide:(-1:Int)<0)
  | cons m l =>
   have:hd0 E ((m :: l).flatMap mdT)=A6 [109,111,100,101]:=by rw [A1E];unfold mdT;rfl
   rw [this,B9r.2];decide
 obtain ⟨ld,s1,a1,a2,a3,a4⟩:=A4w (L:=ruT r) (E:=E) r.decls [] rd0 (r.modes.flatMap mdT) h3 (by simpa using h1) hp (by rw [hT];rfl) rfl;obtain ⟨lm,s2,b1,b2,b4⟩:=A4v (L:=ruT r) (E:=E) r.modes [] s1 h4 (by simpa using h2) a3 a4;have hr:Evt (fun f=>A2e (ruT r) E f rd0) (⟨ld,lm⟩,s2):=a2.map2 b2 fun f h1 h2=>by
  unfold A2e;rw [h1];dsimp only;rw [h2];rfl
 rw [(A5s (ruT r) E).uniq hr];refine ⟨b4,?_⟩;unfold Ru.plain;dsimp only;rw [a1,b1]
mutual
theorem B0d:∀ e:Ex,msM e.plain=msM e
 | .mk k v n a p=>by
  rw [Ex.plain,msM,msM,B0e k 0 a,Ex.plains_map,A0G]
theorem B0e:∀ (k:Int) (i:Nat) (l:List Ex),msL k i (Ex.plains l)=msL k i l
 | k,i,[]=>rfl
 | k,i,e :: l=>by
  have hk:e.plain.kind=e.kind:=by cases e;rfl
  rw [Ex.plains,msL,msL,B0d e,B0e k (i+1) l,hk]
end
theorem B4q (e:Ex):X1 e.plain=X1 e:=by unfold X1;rw [B0d]
theorem A4g {l:List St}:(St.plains l).isEmpty=l.isEmpty:=by cases l<;>rfl
theorem A4h (l:List St):(St.plains l).length=l.length:=by rw [St.plains_map,A0G]
mutual
theorem B4n:∀ (d:Nat) (s:St),S5 d s.plain=S5 d s
 | d,.mk k n t a x y p=>by
  have ha:(Ex.plains a).all X1=a.all X1:=by
   rw [Ex.plains_map,List.all_map]
   congr 1
   funext e
   exact B4q e
  rw [St.plain,S5,S5,A0e (d+1) x,A0e (d+1) y,ha,Ex.plains_map,A0G,A4g,A4g,A4h,A4h]
theorem A0e:∀ (d:Nat) (l:List St),M5 d (St.plains l)=M5 d l
 | d,[]=>rfl
 | d,s :: l=>by rw [St.plains,M5,M5,B4n d s,A0e d l]
end
theorem B4p (h:Hd):X4 h.plain=X4 h:=by
 unfold X4 Hd.plain R1;dsimp only;rw [A0e,A4h,A4g]
theorem B4o (m:Md):U8 m.plain=U8 m:=by
 unfold U8 Md.plain;dsimp only;rw [A0G,List.all_map]
 congr 2
 funext h
 exact B4p h
theorem A7t (r:Ru):Y5 r.plain=Y5 r:=by
 unfold Y5 Ru.plain;dsimp only;rw [A0G,A0G,List.all_map,List.all_map]
 congr 2
 funext m
 exact B4o m
theorem B6s (r:Ru):B8j r=Y5 r:=by
 cases hv:Y5 r with
 | true =>
  obtain ⟨h1,h2⟩:=B3d hv 0;unfold B8j;rw [h1,A1G];exact @decide_eq_true _ (_) h2
 | false =>
  cases hd:B8j r with
  | false=>rfl
  | true =>
   unfold B8j at hd;rw [A0D] at hd;have h2:=@of_decide_eq_true _ (_) hd.2;obtain ⟨f,hf⟩:=(A5s (ruT r) 0).get;have h3:=B8o (fun t ht=>(C2l r t ht).1) hf hd.1;rw [<- A7t,h2,A7t,hv] at h3;cases h3
end Go.Pb
set_option maxHeartbeats 8000000
namespace Go.Proofs.YthlpinppaclofaaGreatDoor
open Go.Eng (IC IOper DReg IFn C2)
open Go.Sym Go.Pb
theorem c_IF_dc {g:Dc->Bool} {f:Nat} {a cs:List DV} (xs:List (Dc)) (hx:xs.length<=9223372036854775807) (na:DV.nlL a=true) (ncs:DV.nlL cs=true) (hf:∀ x∈xs,PC Tryz.prog f (a++[Dc.v x]++cs) (.bool (g x))) :
  PC Tryz.prog 90 [E8 xs,.func f a cs] (I64 (A1d g xs 0)):=by
 refine PC.ofT B1 rfl (A0B rfl) (by simp [DV.nlL,DV.nl,M8,na,ncs]) rfl ?_;repeat' ((with_reducible first|refine wr ?_|refine A2 ?_ ?_|fail)<;>try simp only [go_sem,seval,A0G])
 refine D8 (fun k:Nat=>[(0,E8 xs),(1,.func f a cs),(7,I64 xs.length),(8,I64 k)]) (fun _=>nil) (fun k _=>k<=xs.length/\A1d g xs 0=A1d g (xs.drop k) k) (fun k=>xs.length-k) 0 (by simp [C9,tm,Tm.upd]) (Sub.nil _) (by simp) ?_;rintro k c ⟨hk,he⟩;by_cases hlt:k<xs.length
 ·have hd:decide ((k:Int)<xs.length)=true:=by simpa using hlt
  have hg:=A0C hlt;have hw:=w64 (n:=(k:Int)+1) (by omega) (by omega);have hst:=A3j (g:=g) hg;have hc:=hf xs[k] (A0S hlt);repeat' ((with_reducible first|refine wr ?_|refine cpc hc ?_|refine A2 ?_ ?_|refine wb2 ?_ ?_<;>(intro hb;try simp only [hb])|fail)<;>try simp only [go_sem,seval,hd,hg,hw])
  ·refine B3 ?_;rw [he,hst,hb];rfl
  ·exact ⟨k+1,rfl,Sub.refl _,inv ⟨by omega,by rw [he,hst,hb];rfl⟩,by omega⟩
 ·have hd:decide ((k:Int)<xs.length)=false:=by simpa using hlt
  repeat' ((with_reducible first|refine wr ?_|refine A2 ?_ ?_|fail)<;>try simp only [go_sem,seval,hd])
  refine B3 ?_;rw [he,A5d (by omega)]
theorem c_CF_dc {g:Dc->Bool} {f:Nat} {a cs:List DV} (xs:List (Dc)) (hx:xs.length<=9223372036854775807) (na:DV.nlL a=true) (ncs:DV.nlL cs=true) (hf:∀ x∈xs,PC Tryz.prog f (a++[Dc.v x]++cs) (.bool (g x))) :
  PC Tryz.prog 49 [E8 xs,.func f a cs] (.bool (xs.any g)):=by
 refine PC.ofT B1 rfl (A0B rfl) (by simp [DV.nlL,DV.nl,M8,na,ncs]) rfl ?_;have hc:=c_IF_dc xs hx na ncs hf;repeat' ((with_reducible first|refine wr ?_|refine cpc hc ?_|refine A2 ?_ ?_|fail)<;>try simp only [go_sem,seval])
 refine B3 ?_;rw [A5e]
theorem c_IF_md {g:Md->Bool} {f:Nat} {a cs:List DV} (xs:List (Md)) (hx:xs.length<=9223372036854775807) (na:DV.nlL a=true) (ncs:DV.nlL cs=true) (hf:∀ x∈xs,PC Tryz.prog f (a++[Md.v x]++cs) (.bool (g x))) :
  PC Tryz.prog 92 [G6 xs,.func f a cs] (I64 (A1d g xs 0)):=by
 refine PC.ofT B1 rfl (A0B rfl) (by simp [DV.nlL,DV.nl,M7,na,ncs]) rfl ?_;repeat' ((with_reducible first|refine wr ?_|refine A2 ?_ ?_|fail)<;>try simp only [go_sem,seval,A0G])
 refine D8 (fun k:Nat=>[(0,G6 xs),(1,.func f a cs),(7,I64 xs.length),(8,I64 k)]) (fun _=>nil) (fun k _=>k<=xs.length/\A1d g xs 0=A1d g (xs.drop k) k) (fun k=>xs.length-k) 0 (by simp [C9,tm,Tm.upd]) (Sub.nil _) (by simp) ?_;rintro k c ⟨hk,he⟩;by_cases hlt:k<xs.length
 ·have hd:decide ((k:Int)<xs.length)=true:=by simpa using hlt
  have hg:=A0C hlt;have hw:=w64 (n:=(k:Int)+1) (by omega) (by omega);have hst:=A3j (g:=g) hg;have hc:=hf xs[k] (A0S hlt);repeat' ((with_reducible first|refine wr ?_|refine cpc hc ?_|refine A2 ?_ ?_|refine wb2 ?_ ?_<;>(intro hb;try simp only [hb])|fail)<;>try simp only [go_sem,seval,hd,hg,hw])
  ·refine B3 ?_;rw [he,hst,hb];rfl
  ·exact ⟨k+1,rfl,Sub.refl _,inv ⟨by omega,by rw [he,hst,hb];rfl⟩,by omega⟩
 ·have hd:decide ((k:Int)<xs.length)=false:=by simpa using hlt
  repeat' ((with_reducible first|refine wr ?_|refine A2 ?_ ?_|fail)<;>try simp only [go_sem,seval,hd])
  refine B3 ?_;rw [he,A5d (by omega)]
theorem c_CF_md {g:Md->Bool} {f:Nat} {a cs:List DV} (xs:List (Md)) (hx:xs.length<=9223372036854775807) (na:DV.nlL a=true) (ncs:DV.nlL cs=true) (hf:∀ x∈xs,PC Tryz.prog f (a++[Md.v x]++cs) (.bool (g x))) :
  PC Tryz.prog 52 [G6 xs,.func f a cs] (.bool (xs.any g)):=by
 refine PC.ofT B1 rfl (A0B rfl) (by simp [DV.nlL,DV.nl,M7,na,ncs]) rfl ?_;have hc:=c_IF_md xs hx na ncs hf;repeat' ((with_reducible first|refine wr ?_|refine cpc hc ?_|refine A2 ?_ ?_|fail)<;>try simp only [go_sem,seval])
 refine B3 ?_;rw [A5e]
theorem c_IF_st {g:Pb.St->Bool} {f:Nat} {a cs:List DV} (xs:List (Pb.St)) (hx:xs.length<=9223372036854775807) (na:DV.nlL a=true) (ncs:DV.nlL cs=true) (hf:∀ x∈xs,PC Tryz.prog f (a++[Pb.St.v x]++cs) (.bool (g x))) :
  PC Tryz.prog 177 [F1 xs,.func f a cs] (I64 (A1d g xs 0)):=by
 refine PC.ofT B1 rfl (A0B rfl) (by simp [DV.nlL,DV.nl,O5,na,ncs]) rfl ?_;repeat' ((with_reducible first|refine wr ?_|refine A2 ?_ ?_|fail)<;>try simp only [go_sem,seval,A0G])
 refine D8 (fun k:Nat=>[(0,F1 xs),(1,.func f a cs),(7,I64 xs.length),(8,I64 k)]) (fun _=>nil) (fun k _=>k<=xs.length/\A1d g xs 0=A1d g (xs.drop k) k) (fun k=>xs.length-k) 0 (by simp [C9,tm,Tm.upd]) (Sub.nil _) (by simp) ?_;rintro k c ⟨hk,he⟩;by_cases hlt:k<xs.length
 ·have hd:decide ((k:Int)<xs.length)=true:=by simpa using hlt
  have hg:=A0C hlt;have hw:=w64 (n:=(k:Int)+1) (by omega) (by omega);have hst:=A3j (g:=g) hg;have hc:=hf xs[k] (A0S hlt);rw [Pb.St.v_w] at hc;repeat' ((with_reducible first|refine wr ?_|refine cpc hc ?_|refine A2 ?_ ?_|refine wb2 ?_ ?_<;>(intro hb;try simp only [hb])|fail)<;>try simp only [go_sem,seval,hd,hg,hw,Pb.St.v_w])
  ·refine B3 ?_;rw [he,hst,hb];rfl
  ·exact ⟨k+1,rfl,Sub.refl _,inv ⟨by omega,by rw [he,hst,hb];rfl⟩,by omega⟩
 ·have hd:decide ((k:Int)<xs.length)=false:=by simpa using hlt
  repeat' ((with_reducible first|refine wr ?_|refine A2 ?_ ?_|fail)<;>try simp only [go_sem,seval,hd])
  refine B3 ?_;rw [he,A5d (by omega)]
theorem c_CF_st {g:Pb.St->Bool} {f:Nat} {a cs:List DV} (xs:List (Pb.St)) (hx:xs.length<=9223372036854775807) (na:DV.nlL a=true) (ncs:DV.nlL cs=true) (hf:∀ x∈xs,PC Tryz.prog f (a++[Pb.St.v x]++cs) (.bool (g x))) :
  PC Tryz.prog 146 [F1 xs,.func f a cs] (.bool (xs.any g)):=by
 refine PC.ofT B1 rfl (A0B rfl) (by simp [DV.nlL,DV.nl,O5,na,ncs]) rfl ?_;have hc:=c_IF_st xs hx na ncs hf;repeat' ((with_reducible first|refine wr ?_|refine cpc hc ?_|refine A2 ?_ ?_|fail)<;>try simp only [go_sem,seval])
 refine B3 ?_;rw [A5e]
theorem c_IF_ex {g:Ex->Bool} {f:Nat} {a cs:List DV} (xs:List (Ex)) (hx:xs.length<=9223372036854775807) (na:DV.nlL a=true) (ncs:DV.nlL cs=true) (hf:∀ x∈xs,PC Tryz.prog f (a++[Ex.v x]++cs) (.bool (g x))) :
  PC Tryz.prog 200 [H3 xs,.func f a cs] (I64 (A1d g xs 0)):=by
 refine PC.ofT B1 rfl (A0B rfl) (by simp [DV.nlL,DV.nl,Q5,na,ncs]) rfl ?_;repeat' ((with_reducible first|refine wr ?_|refine A2 ?_ ?_|fail)<;>try simp only [go_sem,seval,A0G])
 refine D8 (fun k:Nat=>[(0,H3 xs),(1,.func f a cs),(7,I64 xs.length),(8,I64 k)]) (fun _=>nil) (fun k _=>k<=xs.length/\A1d g xs 0=A1d g (xs.drop k) k) (fun k=>xs.length-k) 0 (by simp [C9,tm,Tm.upd]) (Sub.nil _) (by simp) ?_;rintro k c ⟨hk,he⟩;by_cases hlt:k<xs.length
 ·have hd:decide ((k:Int)<xs.length)=true:=by simpa using hlt
  have hg:=A0C hlt;have hw:=w64 (n:=(k:Int)+1) (by omega) (by omega);have hst:=A3j (g:=g) hg;have hc:=hf xs[k] (A0S hlt);rw [Ex.v_w] at hc;repeat' ((with_reducible first|refine wr ?_|refine cpc hc ?_|refine A2 ?_ ?_|refine wb2 ?_ ?_<;>(intro hb;try simp only [hb])|fail)<;>try simp only [go_sem,seval,hd,hg,hw,Ex.v_w])
  ·refine B3 ?_;rw [he,hst,hb];rfl
  ·exact ⟨k+1,rfl,Sub.refl _,inv ⟨by omega,by rw [he,hst,hb];rfl⟩,by omega⟩
 ·have hd:decide ((k:Int)<xs.length)=false:=by simpa using hlt
  repeat' ((with_reducible first|refine wr ?_|refine A2 ?_ ?_|fail)<;>try simp only [go_sem,seval,hd])
  refine B3 ?_;rw [he,A5d (by omega)]
theorem c_CF_ex {g:Ex->Bool} {f:Nat} {a cs:List DV} (xs:List (Ex)) (hx:xs.length<=9223372036854775807) (na:DV.nlL a=true) (ncs:DV.nlL cs=true) (hf:∀ x∈xs,PC Tryz.prog f (a++[Ex.v x]++cs) (.bool (g x))) :
  PC Tryz.prog 178 [H3 xs,.func f a cs] (.bool (xs.any g)):=by
 refine PC.ofT B1 rfl (A0B rfl) (by simp [DV.nlL,DV.nl,Q5,na,ncs]) rfl ?_;have hc:=c_IF_ex xs hx na ncs hf;repeat' ((with_reducible first|refine wr ?_|refine cpc hc ?_|refine A2 ?_ ?_|fail)<;>try simp only [go_sem,seval])
 refine B3 ?_;rw [A5e]
end Go.Proofs.YthlpinppaclofaaGreatDoor
namespace Go.Pb
variable [Go.Sym.Tab]
open Go.Sym
mutual
theorem C7n:∀ (e:Ex) (o d:Nat),msM e=some (o,d)->o<=e.sz/\d+1<=2 * e.sz
 | .mk k v n a p,o,d,h=>by
  have hs:(Ex.mk k v n a p).sz=1+n.length+Ex.szs a:=by rw [Ex.sz]
  obtain ⟨h1,h2,h3,h4,h5,h6⟩:=B5t h;by_cases hc:J9 k=0
  ·obtain ⟨rfl,rfl⟩:=h5 hc;omega
  ·obtain ⟨d',hl,hd⟩:=h6 hc;have:=B5u k 0 a o d' hl;rw [hd];split<;>omega
theorem B5u:∀ (k:Int) (i:Nat) (l:List Ex) (o d:Nat),msL k i l=some (o,d)->o<=Ex.szs l/\d<=2 * Ex.szs l
 | k,i,[],o,d,h=>by simp [msL] at h;omega
 | k,i,e :: l,o,d,h=>by
  rw [msL] at h;have hs:Ex.szs (e :: l)=e.sz+Ex.szs l:=by rw [Ex.szs]
  have hp:=e.sz_pos;cases he:msM e with
  | none=>rw [he] at h;cases h
  | some q =>
   obtain ⟨o1,d1⟩:=q;have h1:=C7n e o1 d1 he;rw [he] at h;dsimp only at h;cases hl:msL k (i+1) l with
   | none=>rw [hl] at h;cases h
   | some q2 =>
    obtain ⟨o2,d2⟩:=q2;have h2:=B5u k (i+1) l o2 d2 hl;rw [hl] at h;dsimp only at h;have h3:=Option.some.inj h;have h4:o1+o2=o:=congrArg Prod.fst h3;have h5:max (if R4 k e.kind i=true then d1+1 else d1) d2=d:=congrArg Prod.snd h3;rw [hs];split at h5<;>omega
end
def msV:Option (Nat × Nat)->DV
 | none=>.tup [I64 0,I64 0,.bool false]
 | some (o,d)=>.tup [I64 o,I64 d,.bool true]
theorem D0p (q:Option (Nat × Nat)):(msV q).nl=true:=by cases q<;>rfl
theorem C1t {k:Int} {a:List Ex} {i:Nat} {x:Ex} (h:a[i]? = some x):msL k i (a.drop i)=match msM x with
  | none=>none
  | some (o,d)=>match msL k (i+1) (a.drop (i+1)) with
   | none=>none
   | some (o2,d2)=>some (o+o2,max (if R4 k x.kind i=true then d+1 else d) d2):=by
 have hlt:=(A0L.1 h).1;rw [A0Z hlt,(A0L.1 h).2,msL];try rfl
end Go.Pb
namespace Go.Proofs.YthlpinppaclofaaGreatDoor
open Go.Eng (IC IOper DReg IFn C2)
open Go.Sym Go.Pb
theorem C4x {H:Hp} {a b:Bool} (h:a=b):∃ H2,GL H [.bool a] H2 [.bool b]:=⟨H,by rw [h];exact GL.refl _ _⟩
theorem B2s {b1 b2 b3:Blk} {cc:Nat} (u:Unit) (h:1<=cc):Sym.Sub (Sym.nil.upd 0 b1) (((Sym.nil.upd 0 b1).upd cc b2).upd cc b3):=by
 intro j b hj;simp only [Hp.upd,Sym.nil] at hj ⊢;split at hj
 ·rename_i h0;rw [if_neg (by omega),if_neg (by omega),if_pos h0];exact hj
 ·cases hj
theorem c_levS (k:Int):PC Tryz.prog 112 [I64 k] (I64 (B8 k)):=by
 refine PC.ofT B1 rfl (A0B rfl) (by simp [DV.nlL,DV.nl]) (by simp [DV.nlL,DV.nl]) ?_;repeat' ((with_reducible first|refine wr ?_|refine A2 ?_ ?_|refine wb2 ?_ ?_<;>(intro hb;try simp only [hb])|fail)<;>try simp only [go_sem,seval])
 all_goals refine B3 (congrArg I64 ?_)
 all_goals simp_all [B8]
 all_goals omega
theorem c_namedS (k:Int):PC Tryz.prog 116 [I64 k] (.bool (A1b k)):=by
 refine PC.ofT B1 rfl (A0B rfl) (by simp [DV.nlL,DV.nl]) (by simp [DV.nlL,DV.nl]) ?_;repeat' ((with_reducible first|refine wr ?_|refine A2 ?_ ?_|refine wb2 ?_ ?_<;>(intro hb;try simp only [hb])|fail)<;>try simp only [go_sem,seval])
 all_goals refine B3 (congrArg DV.bool ?_)
 all_goals (cases h5:k == 5<;>cases h6:k == 6<;>cases h7:k == 7<;>simp_all [A1b])
theorem c_wrapped (e x:Ex) (i:Nat) (h:e.args[i]? = some x) (hi:i<=1):PC Tryz.prog 111 [e.v,I64 i] (.bool (R4 e.kind x.kind i)):=by
 refine PC.ofT B1 rfl (A0B rfl) (by simp [DV.nlL,DV.nl,Ex.nl]) rfl ?_;rw [Ex.v_w];have h1:=c_levS e.kind;have h2:=c_levS x.kind;repeat' ((with_reducible first|refine wr ?_|refine cpc h1 ?_|refine cpc h2 ?_|refine A2 ?_ ?_|refine wb2 ?_ ?_<;>(intro hb;try simp only [hb])|fail)<;>try simp only [go_sem,seval,h,Ex.v_w])
 all_goals refine C4x ?_
 all_goals unfold R4
 all_goals (cases hi1:i == 1<;>cases h3:B8 e.kind == 3<;>simp_all)
 all_goals omega
theorem c_measure:∀ (m:Nat) (e:Ex),e.sz<m->e.sz<=100000000->PC Tryz.prog 66 [e.v] (msV (msM e)):=by
 intro m
 induction m with
 | zero=>intro e h;omega
 | succ m ih =>
 intro e hm hB;have hnl:=e.sz_name;have hx:∀ x∈e.args,PC Tryz.prog 66 [x.v] (msV (msM x)):=fun x hx=>ih x (by have:=Ex.sz_arg hx;omega) (by have:=Ex.sz_arg hx;omega);have hwr:∀ (x:Ex) (i:Nat),e.args[i]? = some x->i<=1->PC Tryz.prog 111 [e.w,I64 i] (.bool (R4 e.kind x.kind i)):=fun x i h hi=>by have:=c_wrapped e x i h hi;rwa [Ex.v_w] at this
 refine PC.ofT B1 rfl (A0B rfl) (by simp [DV.nlL,DV.nl,Ex.nl]) (D0p _) ?_;rw [Ex.v_w];obtain ⟨R,hR⟩:∃ R,R=msV (msM e):=⟨_,rfl⟩;rw [<- hR];have hle:=B5u e.kind 0 e.args;have hal:Ex.szs e.args<e.sz:=by cases e with|mk k v n a p=>rw [Ex.sz];show Ex.szs a<_;omega
 have hargs:∀ x∈e.args,x.sz<=Ex.szs e.args:=fun x hx=>Ex.szs_mem hx;cases e with|mk k v n a p =>
 rw [msM] at hR;dsimp only [Ex.w,Ex.kind,Ex.value,Ex.name,Ex.args,Ex.pos] at hx hwr hle hal hargs hnl ⊢;have hl:=c_levS k;have hnk:=c_namedS k;have hin:=c_IsName n (by omega);have none0:kOk k=false\/a.length≠J9 k\/A0b k n=false\/A0o k v=false->R=.tup [I64 0,I64 0,.bool false]:=fun h=>by rw [hR,if_pos h];rfl
 have ci:((J9 k:Nat):Int)<=2:=by unfold J9;(repeat' split)<;>decide
 have kA:∀ nm vl:Bool,A0b k n=nm->A0o k v=vl->kOk k=true->IW Tryz.prog 113 (pz Tryz.prog 66 (.o (.i (.o (.o (.o .h)))))) ⟨tm [(1,.ptr 0 0),(2,I64 0),(3,I64 0),(5,I64 (J9 k)),(7,.bool nm),(8,.bool vl)],Sym.nil.upd 0 ⟨0,true,[I64 k,I64 v,.str n,H3 a,I64 p]⟩,1⟩ (rt [.tmp 2,.tmp 3,.tmp 4] fun v H' x => ∃ H2,GL H' [v] H2 [R]):=by
  intro nm vl hnm hvl hkk;by_cases hlen:a.length=J9 k
  ·have d0:((a.length:Int) != (J9 k:Int))=false:=by simp [hlen]
   cases nm with
   | false =>
    repeat' ((with_reducible first|refine wr ?_|refine A2 ?_ ?_|fail)<;>try simp only [go_sem,seval,d0])
    exact B3 (none0 (.inr (.inr (.inl hnm)))).symm
   | true =>
    cases vl with
    | false =>
     repeat' ((with_reducible first|refine wr ?_|refine A2 ?_ ?_|fail)<;>try simp only [go_sem,seval,d0])
     exact B3 (none0 (.inr (.inr (.inr hvl)))).symm
    | true =>
     rw [if_neg (by simp [hkk,hnm,hvl,hlen])] at hR;by_cases hc0:J9 k=0
     ·have d1:((J9 k:Int) == 0)=true:=by simp [hc0]
      rw [if_pos hc0] at hR;repeat' ((with_reducible first|refine wr ?_|refine A2 ?_ ?_|fail)<;>try simp only [go_sem,seval,d0,d1])
      exact B3 hR.symm
     ·have d1:((J9 k:Int) == 0)=false:=by simp [hc0]
      rw [if_neg hc0] at hR;repeat' ((with_reducible first|refine wr ?_|refine A2 ?_ ?_|fail)<;>try simp only [go_sem,seval,d0,d1])
      have hl2:a.length<=2:=by omega
      refine D8 (fun q:Nat × Nat × Nat=>[(1,.ptr 0 0),(5,I64 (J9 k)),(80,H3 a),(81,I64 a.length),(82,I64 q.1),(2,I64 q.2.1),(3,I64 q.2.2)]) (fun _=>Sym.nil.upd 0 ⟨0,true,[I64 k,I64 v,.str n,H3 a,I64 p]⟩)
       (fun q cc=>1<=cc/\q.1<=a.length/\q.2.1<=q.1 * 1000000000/\q.2.2<=1000000000/\msL k 0 a=(match msL k q.1 (a.drop q.1) with
        | none=>none
        | some (o2,d2)=>some (q.2.1+o2,max q.2.2 d2))) (fun q=>a.length-q.1) (0,0,0) (by simp [C9,tm,Tm.upd]) (Sub.refl _)
       ⟨A0E _,A0Y _,A0Y _,A0Y _,by
        rw [A3L];cases msL k 0 a with
        | none=>rfl
        | some q=>obtain ⟨o2,d2⟩:=q;simp⟩ ?_
      rintro ⟨i,o,d⟩ cc ⟨h1c,hk,ho,hd3,he⟩;dsimp only at hk ho hd3 he ⊢;by_cases hlt:i<a.length
      ·have hd:decide ((i:Int)<a.length)=true:=by simpa using hlt
       have hg:=A0C hlt;have hw:=w64 (n:=(i:Int)+1) (by omega) (by omega);rw [C1t hg] at he;have hmx:=hx _ (A0S hlt);have hax:=hargs _ (A0S hlt);have hwx:=hwr _ i hg (by omega);have hms:=C7n a[i];generalize a[i]=x at hg he hmx hax hwx hms;rw [Ex.v_w] at hmx;have hwx:PC Tryz.prog 111 [DV.agg [I64 k,I64 v,DV.str n,H3 a,I64 p],I64 i] (.bool (R4 k x.kind i)):=hwx;have ne0:=A2i 0 cc (by omega);cases hq:msM x with
       | none =>
        rw [hq] at he hmx;dsimp only [msV] at he hmx;rw [he] at hR;repeat' ((with_reducible first|refine wr ?_|refine cpc hmx ?_|refine cpc hwx ?_|refine A2 ?_ ?_|fail)<;>try simp only [go_sem,seval,hd,hg,hw,Ex.v_w,ne0])
        exact B3 hR.symm
       | some qq =>
        obtain ⟨o1,d1'⟩:=qq;rw [hq] at he hmx;dsimp only [msV] at he hmx;have:=hms o1 d1' hq;have w1:=w64 (n:=(o:Int)+(o1:Int)) (by omega) (by omega);have w2:=w64 (n:=(d1':Int)+1) (by omega) (by omega);cases hwb:R4 k x.kind i with
        | true =>
         rw [hwb] at he;repeat' ((with_reducible first|refine wr ?_|refine cpc hmx ?_|refine cpc hwx ?_|refine A2 ?_ ?_|fail)<;>try simp only [go_sem,seval,hd,hg,hw,Ex.v_w,ne0,hwb,w1,w2])
         all_goals (refine ⟨(i+1,o+o1,max d (d1'+1)),⟨by simp,by simp,?_⟩,?_,inv ⟨by omega,by simp only;omega,by simp only;omega,by simp only;omega,?_⟩,by simp only;omega⟩)
         all_goals first
          | (refine congrArg I64 ?_;dsimp only;split<;>omega)
          | exact B2s () h1c
          | (rw [he];dsimp only;cases msL k (i+1) (a.drop (i+1)) with
           | none=>rfl
           | some q=>obtain ⟨o2,d2⟩:=q;simp [A2U,Nat.max_assoc])
        | false =>
         rw [hwb] at he;repeat' ((with_reducible first|refine wr ?_|refine cpc hmx ?_|refine cpc hwx ?_|refine A2 ?_ ?_|fail)<;>try simp only [go_sem,seval,hd,hg,hw,Ex.v_w,ne0,hwb,w1,w2])
         all_goals (refine ⟨(i+1,o+o1,max d (d1')),⟨by simp,by simp,?_⟩,?_,inv ⟨by omega,by simp only;omega,by simp only;omega,by simp only;omega,?_⟩,by simp only;omega⟩)
         all_goals first
          | (refine congrArg I64 ?_;dsimp only;split<;>omega)
          | exact B2s () h1c
          | (rw [he];dsimp only;cases msL k (i+1) (a.drop (i+1)) with
           | none=>rfl
           | some q=>obtain ⟨o2,d2⟩:=q;simp [A2U,Nat.max_assoc])
      ·have hd:decide ((i:Int)<a.length)=false:=by simpa using hlt
       rw [List.drop_of_length_le (by omega)] at he;have w1:=w64 (n:=(d:Int)+1) (by omega) (by omega);by_cases hc1:J9 k=1
       ·have e1:((J9 k:Int) == 1)=true:=by simp [hc1]
        rw [he,hc1] at hR;repeat' ((with_reducible first|refine wr ?_|refine A2 ?_ ?_|fail)<;>try simp only [go_sem,seval,hd,e1,w1])
        refine B3 ?_;rw [hR];simp [msV,msL]
       ·have e1:((J9 k:Int) == 1)=false:=by simp;omega
        rw [he] at hR;simp only [if_neg hc1] at hR;repeat' ((with_reducible first|refine wr ?_|refine A2 ?_ ?_|fail)<;>try simp only [go_sem,seval,hd,e1,w1])
        refine B3 ?_;rw [hR];simp [msV,msL]
  ·have d0:((a.length:Int) != (J9 k:Int))=true:=by simp;omega
   repeat' ((with_reducible first|refine wr ?_|refine A2 ?_ ?_|fail)<;>try simp only [go_sem,seval,d0])
   exact B3 (none0 (.inr (.inl hlen))).symm
 have kB:∀ nm:Bool,A0b k n=nm->kOk k=true->IW Tryz.prog 113 (pz Tryz.prog 66 (.o (.o (.o (.o (.o .h)))))) ⟨tm [(1,.ptr 0 0),(2,I64 0),(3,I64 0),(5,I64 (J9 k)),(7,.bool nm)],Sym.nil.upd 0 ⟨0,true,[I64 k,I64 v,.str n,H3 a,I64 p]⟩,1⟩ (rt [.tmp 2,.tmp 3,.tmp 4] fun v H' x => ∃ H2,GL H' [v] H2 [R]):=by
  intro nm hnm hkk;repeat' ((with_reducible first|refine F9 (p:=IW _ _ (pz Tryz.prog 66 (.o (.i (.o (.o (.o .h)))))) _ _) ?_|refine wr ?_|refine A2 ?_ ?_|refine wb2 ?_ ?_<;>(intro hb;try simp only [hb])|fail)<;>try simp only [go_sem,seval])
  all_goals refine IW.stage (L:=[(1,.ptr 0 0),(2,I64 0),(3,I64 0),(5,I64 (J9 k)),(7,.bool nm),(8,.bool (A0o k v))]) ?_ (kA nm _ hnm rfl hkk)
  all_goals simp_all [C9,tm,Tm.upd,A0o]
  all_goals omega
 have kC:kOk k=true->IW Tryz.prog 113 (pz Tryz.prog 66 (.o (.o (.o (.i .h))))) ⟨tm [(1,.ptr 0 0),(2,I64 0),(3,I64 0),(5,I64 (J9 k))],Sym.nil.upd 0 ⟨0,true,[I64 k,I64 v,.str n,H3 a,I64 p]⟩,1⟩ (rt [.tmp 2,.tmp 3,.tmp 4] fun v H' x => ∃ H2,GL H' [v] H2 [R]):=by
  intro hkk;repeat' ((with_reducible first|refine F9 (p:=IW _ _ (pz Tryz.prog 66 (.o (.o (.o (.o (.o .h)))))) _ _) ?_|refine wr ?_|refine cpc hnk ?_|refine cpc hin ?_|refine A2 ?_ ?_|refine wb2 ?_ ?_<;>(intro hb;try simp only [hb])|fail)<;>try simp only [go_sem,seval])
  all_goals refine IW.stage (L:=[(1,.ptr 0 0),(2,I64 0),(3,I64 0),(5,I64 (J9 k)),(7,.bool (A0b k n))]) ?_ (kB _ rfl hkk)
  all_goals simp_all [C9,tm,Tm.upd,A0b]
 by_cases l6:B8 k=6
 ·have m6:(B8 k == 6)=true:=by simpa using l6
  repeat' ((with_reducible first|refine F9 (p:=IW _ _ (pz Tryz.prog 66 (.o (.o (.o (.i .h))))) _ _) ?_|refine wr ?_|refine cpc hl ?_|refine A2 ?_ ?_|fail)<;>try simp only [go_sem,seval,m6])
  refine IW.stage ?_ (kC (by simp [kOk];left;omega));simp [C9,tm,Tm.upd,J9,l6]
 have m6:(B8 k == 6)=false:=by simpa using l6
 by_cases l5:B8 k<6
 ·have m5:decide (B8 k<6)=true:=by simpa using l5
  repeat' ((with_reducible first|refine F9 (p:=IW _ _ (pz Tryz.prog 66 (.o (.o (.o (.i .h))))) _ _) ?_|refine wr ?_|refine cpc hl ?_|refine A2 ?_ ?_|fail)<;>try simp only [go_sem,seval,m6,m5])
  refine IW.stage ?_ (kC (by simp [kOk];left;omega));simp [C9,tm,Tm.upd,J9,l6,l5]
 have m5:decide (B8 k<6)=false:=by simpa using l5
 repeat' ((with_reducible first|refine F9 (p:=IW _ _ (pz Tryz.prog 66 (.o (.o (.o (.i .h))))) _ _) ?_|refine wr ?_|refine cpc hl ?_|refine A2 ?_ ?_|refine wb2 ?_ ?_<;>(intro hb;try simp only [hb])|fail)<;>try simp only [go_sem,seval,m6,m5])
 all_goals first
  | (refine IW.stage ?_ (kC (by simp_all [kOk]<;>omega));simp [C9,tm,Tm.upd,J9,l6,l5];done)
  | (refine B3 (none0 (.inl ?_)).symm;simp_all [kOk]<;>omega)
theorem c_ValidExpr (e:Ex) (hB:e.sz<=100000000):PC Tryz.prog 30 [e.v] (.bool (X1 e)):=by
 refine PC.ofT B1 rfl (A0B rfl) (by simp [DV.nlL,DV.nl]) (by simp [DV.nlL,DV.nl]) ?_;have hm:=c_measure _ e (A2R _) hB;unfold X1;rw [Ex.v_w] at hm ⊢;cases hq:msM e with
 | none =>
  rw [hq] at hm;dsimp only [msV] at hm;repeat' ((with_reducible first|refine wr ?_|refine cpc hm ?_|refine A2 ?_ ?_|fail)<;>try simp only [go_sem,seval])
  all_goals exact B3 rfl
 | some q =>
  obtain ⟨o,d⟩:=q;rw [hq] at hm;dsimp only [msV] at hm;repeat' ((with_reducible first|refine wr ?_|refine cpc hm ?_|refine A2 ?_ ?_|refine wb2 ?_ ?_<;>(intro hb;try simp only [hb])|fail)<;>try simp only [go_sem,seval])
  all_goals (refine B3 (congrArg DV.bool ?_);by_cases h1:o<=32<;>by_cases h2:d<=16<;>simp_all<;>omega)
end Go.Proofs.YthlpinppaclofaaGreatDoor
namespace Go.Pb
open Go.Sym
def Shp.v (s:Shp):DV:=.agg [.bool s.name,.bool s.text,I64 s.args,.bool s.thn,.bool s.els]
end Go.Pb
namespace Go.Proofs.YthlpinppaclofaaGreatDoor
open Go.Eng (IC IOper DReg IFn C2)
open Go.Sym Go.Pb
def C2d (k:Int):Bool:=decide (1<=k) && decide (k<=19)
theorem c_shapeOf (k:Int):PC Tryz.prog 153 [I64 k] (.tup [(I4 k).v,.bool (C2d k)]):=by
 refine PC.ofT B1 rfl (A0B rfl) (by simp [DV.nlL,DV.nl]) rfl ?_;repeat' ((with_reducible first|refine wr ?_|refine A2 ?_ ?_|refine wb2 ?_ ?_<;>(intro hb;try simp only [hb])|fail)<;>try simp only [go_sem,seval])
 all_goals refine B3 ?_
 all_goals simp_all [I4,C2d,Shp.v,tm,Tm.upd]
 all_goals omega
theorem c_isText (s:List UInt8) (hs:s.length<=1000000000):PC Tryz.prog 180 [.str s] (.bool (R0 s)):=by
 refine PC.ofT B1 rfl (A0B rfl) (by simp [DV.nlL,DV.nl]) (by simp [DV.nlL,DV.nl]) ?_;repeat' ((with_reducible first|refine wr ?_|refine A2 ?_ ?_|fail)<;>try simp only [go_sem,seval])
 refine D8 (fun k:Nat=>[(0,.str s),(3,I64 k)]) (fun _=>Sym.nil) (fun k _=>k<=s.length/\(s.take k).all txB=true) (fun k=>s.length-k) 0 (by simp [C9,tm,Tm.upd]) (Sub.refl _) ⟨A0Y _,rfl⟩ ?_;rintro k cc ⟨hk,he⟩;by_cases hlt:k<s.length
 ·have hd:decide ((k:Int)<s.length)=true:=by simpa using hlt
  have hg:=A0C hlt;have hw:=w64 (n:=(k:Int)+1) (by omega) (by omega);generalize s[k]=x at hg;have hx:txB x=(decide (32<=x.toNat) && decide (x.toNat<=126)):=rfl;repeat' ((with_reducible first|refine wr ?_|refine A2 ?_ ?_|refine wb2 ?_ ?_<;>(intro hb;try simp only [hb])|fail)<;>try simp only [go_sem,seval,hd,hg,hw])
  ·refine B3 (congrArg DV.bool ?_);have:=A9f txB s k _ hg (by simp_all<;>omega);simp [R0,this]
  ·refine B3 (congrArg DV.bool ?_);have:=A9f txB s k _ hg (by simp_all<;>omega);simp [R0,this]
  ·exact ⟨k+1,rfl,Sub.refl _,inv ⟨by omega,by rw [B0v txB s k _ hg,he];simp_all<;>omega⟩,by omega⟩
 have hd:decide ((k:Int)<s.length)=false:=by simpa using hlt
 have hall:=B4j txB s k (by omega) he;repeat' ((with_reducible first|refine wr ?_|refine A2 ?_ ?_|fail)<;>try simp only [go_sem,seval,hd])
 refine B3 (congrArg DV.bool ?_);simp [R0,hall];omega
theorem c_validDecl (d:Dc) (hB:d.name.length<=1000000000):PC Tryz.prog 51 [d.v] (.bool (A0p d)):=by
 refine PC.ofT B1 rfl (A0B rfl) (by simp [DV.nlL,DV.nl]) (by simp [DV.nlL,DV.nl]) ?_;have hn:=c_IsName d.name hB;repeat' ((with_reducible first|refine wr ?_|refine cpc hn ?_|refine A2 ?_ ?_|refine wb2 ?_ ?_<;>(intro hb;try simp only [hb])|fail)<;>try simp only [go_sem,seval])
 all_goals (refine B3 (congrArg DV.bool ?_);simp_all [A0p]<;>omega)
theorem c_vS1 (e:Ex) (hB:e.sz<=100000000):PC Tryz.prog 179 [e.v] (.bool (!X1 e)):=by
 refine PC.ofT B1 rfl (A0B rfl) (by simp [DV.nlL,DV.nl]) (by simp [DV.nlL,DV.nl]) ?_;have h:=c_ValidExpr e hB;rw [Ex.v_w] at h ⊢;repeat' ((with_reducible first|refine wr ?_|refine cpc h ?_|refine A2 ?_ ?_|fail)<;>try simp only [go_sem,seval])
 exact B3 rfl
theorem C8i (d:Nat) (s:Pb.St):S5 d s=(C2d s.kind && (s.args.length == (I4 s.kind).args && s.args.all X1) &&
   ((if (I4 s.kind).name=true then C8 s.name else s.name == []) && (if (I4 s.kind).text=true then R0 s.text else s.text == [])) &&
   (((I4 s.kind).thn || s.thn.isEmpty) && ((I4 s.kind).els || s.els.isEmpty)) && (R1 s.thn (d+1) && R1 s.els (d+1))):=by
 cases s with|mk k n t a x y p=>rw [S5];rfl
theorem B2f {α : Type} (g : α -> Bool) (l:List α):l.any (fun x => !g x) = !l.all g:=by
 induction l with
 | nil=>rfl
 | cons x l ih=>rw [List.any_cons,A2P,ih,Bool.not_and]
theorem c_vSt (s:Pb.St) (d:Nat) (hd:d<=1000000000) (hB:s.sz<=100000000) (hX:PC Tryz.prog 93 [F1 s.thn,I64 (d+1:Nat)] (.bool (R1 s.thn (d+1)))) (hY:PC Tryz.prog 93 [F1 s.els,I64 (d+1:Nat)] (.bool (R1 s.els (d+1)))) :
  PC Tryz.prog 148 [s.v,I64 d] (.bool (S5 d s)):=by
 rw [C8i];have hsa:Ex.szs s.args<s.sz:=by cases s with|mk k n t a x y p=>rw [Pb.St.sz];show Ex.szs a<_;omega
 have hal:=Ex.szs_len s.args;have hxl:=Pb.St.szs_len s.thn;have hyl:=Pb.St.szs_len s.els;have hxs:=s.sz_thn;have hys:=s.sz_els;have hnl:=s.sz_name;have htl:=s.sz_text;have hn:=c_IsName s.name (by omega);have ht:=c_isText s.text (by omega);have hsh:=c_shapeOf s.kind;have hca:=c_CF_ex (f:=179) (a:=[]) (cs:=[]) (g:=fun e => !X1 e) s.args (by omega) rfl rfl (fun x hx=>c_vS1 x (by have:=Ex.szs_mem hx;omega));rw [B2f] at hca;have hw:=w64 (n:=(d:Int)+1) (by omega) (by omega);refine PC.ofT B1 rfl (A0B rfl) (by rw [Pb.St.v_w];simp [DV.nlL,DV.nl,Q5,O5]) rfl ?_;cases s with|mk k n t a x y p =>
 dsimp only [Pb.St.kind,Pb.St.name,Pb.St.text,Pb.St.args,Pb.St.thn,Pb.St.els,Pb.St.pos] at *;have hX:PC Tryz.prog 93 [F1 x,I64 ((d:Int)+1)] (.bool (R1 x (d+1))):=hX;have hY:PC Tryz.prog 93 [F1 y,I64 ((d:Int)+1)] (.bool (R1 y (d+1))):=hY;have ev:(Pb.St.mk k n t a x y p).v=.agg [I64 k,.str n,.str t,H3 a,F1 x,F1 y,I64 p]:=Pb.St.v_w _;rw [ev];generalize R1 x (d+1)=bx at *;generalize R1 y (d+1)=bY at *;generalize C2d k=kb at *;obtain ⟨nb,tb,ar,xb,yb,hs⟩:∃ nb tb ar xb yb,I4 k=⟨nb,tb,ar,xb,yb⟩:=⟨_,_,_,_,_,rfl⟩;simp only [hs,Shp.v] at hsh ⊢;have kA:∀ (cc:Nat) (nm tx:Bool),IW Tryz.prog 86 (pz Tryz.prog 148 (.i (.i (.o (.i .h))))) ⟨tm [(1,I64 d),(2,.ptr 0 0),(5,.ptr 1 0),(7,.bool nm),(8,.bool tx)],(Sym.nil.upd 0 ⟨0,true,[I64 k,.str n,.str t,H3 a,F1 x,F1 y,I64 p]⟩).upd 1 ⟨0,true,[.bool nb,.bool tb,I64 ar,.bool xb,.bool yb]⟩,cc⟩ (rt [.tmp 4] fun v H' c => ∃ H2,GL H' [v] H2 [.bool ((nm && tx) && ((xb || x.isEmpty) && (yb || y.isEmpty)) && (bx && bY))]):=by
  intro cc nm tx;have ex:x.isEmpty = !decide ((x.length:Int)>0):=by cases x<;>simp
  have ey:y.isEmpty = !decide ((y.length:Int)>0):=by cases y<;>simp
  rw [ex,ey];cases nm with
  | false =>
   repeat' ((with_reducible first|refine wr ?_|refine A2 ?_ ?_|fail)<;>try simp only [go_sem,seval])
   exact B3 (by simp)
  | true =>
  cases tx with
  | false =>
   repeat' ((with_reducible first|refine wr ?_|refine A2 ?_ ?_|fail)<;>try simp only [go_sem,seval])
   exact B3 (by simp)
  | true =>
  generalize hlx:decide ((x.length:Int)>0)=lx at *;generalize hly:decide ((y.length:Int)>0)=ly at *;cases bx<;>cases bY<;>cases xb<;>cases lx<;>cases yb<;>cases ly;all_goals (repeat' ((with_reducible first|refine wr ?_|refine cpc hX ?_|refine cpc hY ?_|refine A2 ?_ ?_|fail)<;>try simp only [go_sem,seval,hlx,hly,hw,A0G]))
  all_goals exact B3 rfl
 have kB:∀ cc:Nat,IW Tryz.prog 86 (pz Tryz.prog 148 (.i (.i (.i .h)))) ⟨tm [(1,I64 d),(2,.ptr 0 0),(5,.ptr 1 0),(7,.bool (n == [])),(8,.bool (t == []))],(Sym.nil.upd 0 ⟨0,true,[I64 k,.str n,.str t,H3 a,F1 x,F1 y,I64 p]⟩).upd 1 ⟨0,true,[.bool nb,.bool tb,I64 ar,.bool xb,.bool yb]⟩,cc⟩ (rt [.tmp 4] fun v H' c => ∃ H2,GL H' [v] H2 [.bool (((if nb=true then C8 n else n == []) && (if tb=true then R0 t else t == [])) && ((xb || x.isEmpty) && (yb || y.isEmpty)) && (bx && bY))]):=by
  intro cc;cases nb<;>cases tb;all_goals (repeat' ((with_reducible first|refine F9 (p:=IW _ _ (pz Tryz.prog 148 (.i (.i (.o (.i .h))))) _ _) ?_|refine wr ?_|refine cpc hn ?_|refine cpc ht ?_|refine A2 ?_ ?_|fail)<;>try simp only [go_sem,seval]))
  all_goals (refine IW.stage ?_ (kA _ _ _);simp [C9,tm,Tm.upd])
 cases kb with
 | false =>
  repeat' ((with_reducible first|refine wr ?_|refine cpc hsh ?_|refine A2 ?_ ?_|fail)<;>try simp only [go_sem,seval])
  exact B3 (by simp)
 | true =>
 by_cases hal2:a.length=ar
 ·have d0:((a.length:Int) != (ar:Int))=false:=by simp [hal2]
  cases hall:a.all X1 with
  | false =>
   rw [hall] at hca;repeat' ((with_reducible first|refine wr ?_|refine cpc hsh ?_|refine cpc hca ?_|refine A2 ?_ ?_|fail)<;>try simp only [go_sem,seval,d0,A0G])
   exact B3 (by simp)
  | true =>
   rw [hall] at hca;have e1:(a.length == ar)=true:=by simpa using hal2
   rw [e1];simp only [A1G];repeat' ((with_reducible first|refine F9 (p:=IW _ _ (pz Tryz.prog 148 (.i (.i (.i .h)))) _ _) ?_|refine wr ?_|refine cpc hsh ?_|refine cpc hca ?_|refine A2 ?_ ?_|fail)<;>try simp only [go_sem,seval,d0,A0G,A1])
   refine IW.stage (L:=[(1,I64 d),(2,.ptr 0 0),(5,.ptr 1 0),(7,.bool (n == [])),(8,.bool (t == []))]) ?_ (kB _);simp [C9,tm,Tm.upd]
 ·have d0:((a.length:Int) != (ar:Int))=true:=by simp;omega
  repeat' ((with_reducible first|refine wr ?_|refine cpc hsh ?_|refine A2 ?_ ?_|fail)<;>try simp only [go_sem,seval,d0,A0G])
  exact B3 (by simp;omega)
theorem c_vB1 (s:Pb.St) (d:Nat) (h:PC Tryz.prog 148 [s.v,I64 d] (.bool (S5 d s))):PC Tryz.prog 147 [s.v,.fptr [I64 d]] (.bool (!S5 d s)):=by
 rw [Pb.St.v_w] at h ⊢;refine PC.ofT B1 rfl (A0B rfl) (by simp [DV.nlL,DV.nl]) (by simp [DV.nlL,DV.nl]) ?_;repeat' ((with_reducible first|refine wr ?_|refine cpc h ?_|refine A2 ?_ ?_|fail)<;>try simp only [go_sem,seval])
 exact B3 rfl
theorem A9o (d:Nat):∀ l:List Pb.St,M5 d l=l.all (S5 d)
 | []=>by rw [M5];rfl
 | s :: l=>by rw [M5,A9o d l];rfl
theorem c_validBlock:∀ (m:Nat) (l:List Pb.St) (d:Nat),Pb.St.szs l<m->Pb.St.szs l<=100000000->d+Pb.St.szs l<=1000000000->PC Tryz.prog 93 [F1 l,I64 d] (.bool (R1 l d)):=by
 intro m
 induction m with
 | zero=>intro l d h;omega
 | succ m ih =>
 intro l d hm hB hd;have hl:=Pb.St.szs_len l;have hcf:=c_CF_st (f:=147) (a:=[]) (cs:=[.fptr [I64 d]]) (g:=fun s => !S5 d s) l (by omega) rfl rfl (fun s hs=>by
  have h1:=Pb.St.szs_mem hs;have h2:=s.sz_thn;have h3:=s.sz_els;exact c_vB1 s d (c_vSt s d (by omega) (by omega) (ih _ _ (by omega) (by omega) (by omega)) (ih _ _ (by omega) (by omega) (by omega))))
 rw [B2f, <- A9o] at hcf;refine PC.ofT B1 rfl (A0B rfl) (by simp [DV.nlL,DV.nl,O5]) rfl ?_;have el:l.isEmpty = !decide ((l.length:Int)>0):=by cases l<;>simp
 have e64:decide (l.length<=64) = !decide ((l.length:Int)>64):=by rw [<- decide_not];exact decide_eq_decide.2 (by omega)
 have e8:decide (d<=8) = !decide ((d:Int)>8):=by rw [<- decide_not];exact decide_eq_decide.2 (by omega)
 unfold R1;rw [el,e64,e8];repeat' ((first|(with_reducible first|refine wr ?_|refine A2 ?_ ?_)|(with_reducible refine wb2 ?_ ?_<;>(intro hb;try simp only [hb]))|(refine AC.call (hcf.lend rfl (GL.one (id:=0) (b:=⟨0,true,[I64 d]⟩) rfl rfl (.cons _ _ _ _ (.same _) (.cons _ _ _ _ (.func _ _ _ _ _ .nil (.cons _ _ _ _ (.ptr 0 _ (A0Y _) rfl) .nil)) .nil)))) ?_<;>rintro v H' c' ⟨rfl,rfl,rfl⟩ hcc)|fail)<;>try simp only [go_sem,seval,A0G])
 all_goals (refine B3 (congrArg DV.bool ?_);simp_all)
theorem c_validHd (h:Hd) (hB:Pb.St.szs h.body<=100000000):PC Tryz.prog 93 [F1 h.body,I64 1] (.bool (R1 h.body 1)) :=
 c_validBlock _ h.body 1 (A2R _) hB (by omega)
theorem D4x (h:Hd):h.v=.agg [I64 h.trig,.str h.name,F1 h.body,I64 h.pos]:=rfl
theorem c_validMode (d:Md) (hB:d.sz<=100000000):PC Tryz.prog 54 [d.v] (.bool (U8 d)):=by
 have hsz:d.sz=1+d.name.length+(d.hds.map Hd.sz).sum:=rfl;have hhl:d.hds.length<=(d.hds.map Hd.sz).sum:=H6 fun x _=>by show 1<=1+_+_;omega
 have hn:=c_IsName d.name (by omega);refine PC.ofT B1 rfl (A0B rfl) (by simp [Md.v,DV.nlL,DV.nl,A7j]) rfl ?_;have ev:d.v=.agg [.str d.name,I64 d.prio,T8 d.hds,I64 d.pos]:=rfl;rw [ev];cases hnm:C8 d.name with
 | false =>
  rw [hnm] at hn;repeat' ((with_reducible first|refine wr ?_|refine cpc hn ?_|refine A2 ?_ ?_|fail)<;>try simp only [go_sem,seval])
  exact B3 (by simp [U8,hnm])
 | true =>
 rw [hnm] at hn;by_cases p0:d.prio<0
 ·have q0:decide (d.prio<0)=true:=by simpa using p0
  repeat' ((with_reducible first|refine wr ?_|refine cpc hn ?_|refine A2 ?_ ?_|fail)<;>try simp only [go_sem,seval,q0])
  exact B3 (by simp [U8,hnm];omega)
 have q0:decide (d.prio<0)=false:=by simpa using p0
 by_cases p1:d.prio>2147483647
 ·have q1:decide (d.prio>2147483647)=true:=by simpa using p1
  repeat' ((with_reducible first|refine wr ?_|refine cpc hn ?_|refine A2 ?_ ?_|fail)<;>try simp only [go_sem,seval,q0,q1])
  exact B3 (by simp [U8,hnm];omega)
 have q1:decide (d.prio>2147483647)=false:=by simpa using p1
 by_cases p2:d.hds.length>32
 ·have q2:decide ((d.hds.length:Int)>32)=true:=by simp;omega
  repeat' ((with_reducible first|refine wr ?_|refine cpc hn ?_|refine A2 ?_ ?_|fail)<;>try simp only [go_sem,seval,q0,q1,q2,A0G])
  exact B3 (by simp [U8,hnm];omega)
 have q2:decide ((d.hds.length:Int)>32)=false:=by simp;omega
 have er:U8 d=d.hds.all X4:=by
  unfold U8;rw [hnm,show decide (0<=d.prio)=true by simp;omega,show decide (d.prio<=2147483647)=true by simp;omega,show decide (d.hds.length<=32)=true by simp;omega];rfl
 rw [er];repeat' ((with_reducible first|refine wr ?_|refine cpc hn ?_|refine A2 ?_ ?_|fail)<;>try simp only [go_sem,seval,q0,q1,q2,A0G])
 refine D8 (fun k:Nat=>[(27,T8 d.hds),(28,I64 d.hds.length),(29,I64 k)]) (fun _=>Sym.nil) (fun k _=>k<=d.hds.length/\(d.hds.take k).all X4=true) (fun k=>d.hds.length-k) 0 (by simp [C9,tm,Tm.upd]) (Sub.nil _) ⟨A0Y _,rfl⟩ ?_;rintro k cc ⟨hk,he⟩;by_cases hlt:k<d.hds.length
 ·have hd:decide ((k:Int)<d.hds.length)=true:=by simpa using hlt
  have hg:=A0C hlt;have hw:=w64 (n:=(k:Int)+1) (by omega) (by omega);have hs:d.hds[k].sz<=(d.hds.map Hd.sz).sum:=J4 (A0S hlt);generalize d.hds[k]=h at hg hs;have hhs:h.sz=1+h.name.length+Pb.St.szs h.body:=rfl;have hn2:=c_IsName h.name (by omega);have hb2:=c_validHd h (by omega);have hf:=A9f X4 d.hds k _ hg;have ht:=B0v X4 d.hds k _ hg;have eh:X4 h=(decide (1<=h.trig) && decide (h.trig<=6) && (if 3<=h.trig then C8 h.name else h.name == []) && R1 h.body 1):=rfl;by_cases t3:3<=h.trig
  ·have u3:decide (h.trig≥3)=true:=by simpa using t3
   rw [if_pos t3] at eh;repeat' ((with_reducible first|refine wr ?_|refine cpc hn2 ?_|refine cpc hb2 ?_|refine A2 ?_ ?_|refine wb2 ?_ ?_<;>(intro hb;try simp only [hb])|fail)<;>try simp only [go_sem,seval,hd,hg,hw,u3,D4x,A0,A1])
   all_goals first
    | (refine B3 (congrArg DV.bool (hf ?_).symm);rw [eh];clear hf ht eh er;simp_all<;>omega)
    | (refine ⟨k+1,rfl,Sub.nil _,inv ⟨by omega,?_⟩,by omega⟩;rw [ht,he,eh];clear hf ht eh er;simp_all<;>omega)
  ·have u3:decide (h.trig≥3)=false:=by simpa using t3
   rw [if_neg t3] at eh;repeat' ((with_reducible first|refine wr ?_|refine cpc hn2 ?_|refine cpc hb2 ?_|refine A2 ?_ ?_|refine wb2 ?_ ?_<;>(intro hb;try simp only [hb])|fail)<;>try simp only [go_sem,seval,hd,hg,hw,u3,D4x,A0,A1])
   all_goals first
    | (refine B3 (congrArg DV.bool (hf ?_).symm);rw [eh];clear hf ht eh er;simp_all<;>omega)
    | (refine ⟨k+1,rfl,Sub.nil _,inv ⟨by omega,?_⟩,by omega⟩;rw [ht,he,eh];clear hf ht eh er;simp_all<;>omega)
 have hd:decide ((k:Int)<d.hds.length)=false:=by simpa using hlt
 have hall:=B4j X4 d.hds k (by omega) he;repeat' ((with_reducible first|refine wr ?_|refine A2 ?_ ?_|fail)<;>try simp only [go_sem,seval,hd])
 exact B3 (by rw [hall])
theorem c_V1 (d:Dc) (hB:d.name.length<=1000000000):PC Tryz.prog 50 [d.v] (.bool (!A0p d)):=by
 have h:=c_validDecl d hB;have ev:d.v=.agg [I64 d.kind,.str d.name,I64 d.value,I64 d.pos]:=rfl;rw [ev] at h ⊢;refine PC.ofT B1 rfl (A0B rfl) (by simp [DV.nlL,DV.nl]) (by simp [DV.nlL,DV.nl]) ?_;repeat' ((with_reducible first|refine wr ?_|refine cpc h ?_|refine A2 ?_ ?_|fail)<;>try simp only [go_sem,seval])
 exact B3 rfl
theorem c_V2 (d:Md) (hB:d.sz<=100000000):PC Tryz.prog 53 [d.v] (.bool (!U8 d)):=by
 have h:=c_validMode d hB;have ev:d.v=.agg [.str d.name,I64 d.prio,T8 d.hds,I64 d.pos]:=rfl;rw [ev] at h ⊢;refine PC.ofT B1 rfl (A0B rfl) (by simp [DV.nlL,DV.nl]) (by simp [DV.nlL,DV.nl]) ?_;repeat' ((with_reducible first|refine wr ?_|refine cpc h ?_|refine A2 ?_ ?_|fail)<;>try simp only [go_sem,seval])
 exact B3 rfl
theorem c_Valid (r:Ru) (hB:r.sz<=100000000):PC Tryz.prog 23 [r.v] (.bool (Y5 r)):=by
 obtain ⟨D,M⟩:=r;have hDs:(D.map Dc.sz).sum+(M.map Md.sz).sum<=100000000:=hB;have hDl:D.length<=(D.map Dc.sz).sum:=H6 fun x _=>by show 1<=1+_;omega
 have hMl:M.length<=(M.map Md.sz).sum:=H6 fun x _=>by show 1<=1+_+_;omega
 have h1:=c_CF_dc (f:=50) (a:=[]) (cs:=[]) (g:=fun e => !A0p e) D (by omega) rfl rfl (fun x hx=>c_V1 x (by
  have:x.sz<=(D.map Dc.sz).sum:=J4 hx;have e:x.sz=1+x.name.length:=rfl;omega))
 have h2:=c_CF_md (f:=53) (a:=[]) (cs:=[]) (g:=fun e => !U8 e) M (by omega) rfl rfl (fun x hx=>c_V2 x (by
  have:x.sz<=(M.map Md.sz).sum:=J4 hx;omega))
 rw [B2f] at h1 h2;refine PC.ofT B1 rfl (A0B rfl) (by simp [Ru.v,DV.nlL,DV.nl,M8,M7]) rfl ?_;dsimp only [Ru.v];unfold Y5;dsimp only;have e1:decide (D.length<=128) = !decide ((D.length:Int)>128):=by rw [<- decide_not];exact decide_eq_decide.2 (by omega)
 have e2:decide (M.length<=16) = !decide ((M.length:Int)>16):=by rw [<- decide_not];exact decide_eq_decide.2 (by omega)
 rw [e1,e2];generalize D.all A0p=bD at *;generalize M.all U8=bM at *;repeat' ((with_reducible first|refine wr ?_|refine cpc h1 ?_|refine cpc h2 ?_|refine A2 ?_ ?_|refine wb2 ?_ ?_<;>(intro hb;try simp only [hb])|fail)<;>try simp only [go_sem,seval,A0G])
 all_goals (refine B3 (congrArg DV.bool ?_);simp_all)
open Go.Sym Go.Pb Go.RowKit
section
variable {H:Type} {enc:TypeId × Value->H} {W:World} {hT:TabOk W}
theorem A7u:∀ l:List (DataW H),Rows.uptoBulkAll l=(l.map Rows.uptoBulk).sum
 | []=>by simp [Rows.uptoBulkAll]
 | d :: l=>by rw [Rows.uptoBulkAll,A7u l];simp
theorem G8:Bulky (Rows.uptoBulk (H:=H)) where
 pos:=fun d=>by
  cases d with
  | lit l=>cases l<;>simp [Rows.uptoBulk]
  | nil=>simp [Rows.uptoBulk]
  | ptr d=>simp [Rows.uptoBulk]
  | slice elems spare=>simp [Rows.uptoBulk]
  | agg parts=>simp [Rows.uptoBulk]
  | iface t d=>simp [Rows.uptoBulk]
  | map entries=>simp [Rows.uptoBulk]
  | held h=>simp [Rows.uptoBulk]
 str:=fun l=>by simp [Rows.uptoBulk]
 slc:=fun xs ys=>by simp only [Rows.uptoBulk,A7u];omega
 agg:=fun xs=>by simp only [Rows.uptoBulk,A7u]
abbrev RB (enc:TypeId × Value->H) (W:World) (hT:TabOk W) (t:TypeId) (N:Nat) {α : Type} (G : α -> DV) (sz : α -> Nat):Prop:=ReadsB enc Tryz.prog W hT (Rows.uptoBulk (H:=H)) t N G sz
theorem rbI (N:Nat):RB enc W hT 3 N I64 (fun _=>1):=C9i G8 Tryz.underlying3
theorem rbS (N:Nat):RB enc W hT 9 N DV.str (fun s=>s.length+1):=C9h G8 Tryz.underlying9
theorem B8t {fs:Array Field} {k:Nat} (hk:fs.size=k) (h0:((fs.toList.map (·.offset)) == List.range k && fs.toList.all fun f=>Tryz.prog.cellsOf f.type == 1)=true):∀ (j:Nat) f,fs[j]? = some f->f.offset=j/\Tryz.prog.cellsOf f.type=1:=by
 have h:(fs.toList.map (·.offset))=List.range k/\∀ f∈fs.toList,Tryz.prog.cellsOf f.type=1:=by
  rw [A0D] at h0;exact ⟨by simpa using h0.1,fun f hf=>by simpa using A0P.1 h0.2 f hf⟩
 intro j f hf;have hf':fs.toList[j]? = some f:=by simpa using hf
 refine ⟨?_,h.2 f (A0W hf')⟩;have e:(fs.toList.map (·.offset))[j]? = some f.offset:=by simp [hf']
 rw [h.1] at e;have:=(A0L.1 e);obtain ⟨h1,h2⟩:=this;rw [List.getElem_range] at h2;exact h2.symm
theorem D0w {α : Type} {l:List α} (h:l.length=4):∃ a b c d,l=[a,b,c,d]:=by
 match l,h with
 | [a,b,c,d],_=>exact ⟨a,b,c,d,rfl⟩
theorem D7q {α : Type} {l:List α} (h:l.length=5):∃ a b c d e,l=[a,b,c,d,e]:=by
 match l,h with
 | [a,b,c,d,e],_=>exact ⟨a,b,c,d,e,rfl⟩
theorem D7p {α : Type} {l:List α} (h:l.length=7):∃ a b c d e f g,l=[a,b,c,d,e,f,g]:=by
 match l,h with
 | [a,b,c,d,e,f,g],_=>exact ⟨a,b,c,d,e,f,g,rfl⟩
theorem D7r {α : Type} {l:List α} (h:l.length=2):∃ a b,l=[a,b]:=by
 match l,h with
 | [a,b],_=>exact ⟨a,b,rfl⟩
theorem RB.val {t:TypeId} {N n:Nat} {α : Type} {G : α -> DV} {sz : α -> Nat} {y:Value × DataW H × List MemPlace} (h:RB enc W hT t N G sz) (hn:DataW.trod enc Tryz.prog W 0 (fun _=>true) true n t [y.1]=some y.2) (hb:Rows.uptoBulk y.2.1<=N) (hG:∀ a,(G a).cells=[G a]) :
  ∃ a,sz a<=Rows.uptoBulk y.2.1/\VRel (topR W hT) (G a) y.1:=by
 obtain ⟨a,r,q⟩:=h n _ _ hn hb;rw [hG] at q;exact ⟨a,r,q.2 0 _ _ rfl rfl⟩
theorem C7h {N:Nat} (h:RB enc W hT 55 N Ex.v Ex.sz):RB enc W hT 50 (N+1) (fun l:List Ex=>H3 l) (fun l=>(l.map Ex.sz).sum) :=
 A2p G8 (u:=5) (by omega) Tryz.underlying50 (by kernel_rfl) (fun a=>by rw [Ex.v_w];rfl) (fun a d hd=>by
  rw [Ex.v_w] at hd;have hd:d∈[I64 a.kind,I64 a.value,.str a.name,H3 a.args,I64 a.pos]:=hd;simp at hd;rcases hd with rfl|rfl|rfl|rfl|rfl<;>rfl) h
theorem D2x:∀ N,RB enc W hT 55 N Ex.v Ex.sz
 | 0=>fun n cs x h hx=>by have:=G8.pos x.1;omega
 | N+1=>fun n cs x h hx=>by
  obtain ⟨m,ys,rfl,hl,hb,hp⟩:=A1a G8 Tryz.underlying55 rfl (B8t rfl (by kernel_rfl)) (by kernel_rfl) h;obtain ⟨y0,y1,y2,y3,y4,rfl⟩:=D7q hl;simp only [A0O,List.map_nil,A2F,A2V] at hb;obtain ⟨a0, -,r0⟩:=(rbI _).val (hp 0 _ y0 rfl rfl) (A0E _) (fun _=>rfl);obtain ⟨a1, -,r1⟩:=(rbI _).val (hp 1 _ y1 rfl rfl) (A0E _) (fun _=>rfl);obtain ⟨a2,s2,r2⟩:=(rbS _).val (hp 2 _ y2 rfl rfl) (A0E _) (fun _=>rfl);obtain ⟨a3,s3,r3⟩:=(C7h (D2x N)).val (hp 3 _ y3 rfl rfl) (by omega) (fun _=>rfl);obtain ⟨a4, -,r4⟩:=(rbI _).val (hp 4 _ y4 rfl rfl) (A0E _) (fun _=>rfl);refine ⟨.mk a0 a1 a2 a3 a4,?_,?_⟩
  ·rw [Ex.sz,Ex.szs_map];omega
  ·rw [Ex.v_w];exact .cons r0 (.cons r1 (.cons r2 (.cons r3 (.cons r4 .nil))))
theorem C0p {N:Nat} (h:RB enc W hT 52 N Pb.St.v Pb.St.sz):RB enc W hT 46 (N+1) (fun l:List Pb.St=>F1 l) (fun l=>(l.map Pb.St.sz).sum) :=
 A2p G8 (u:=7) (by omega) Tryz.underlying46 (by kernel_rfl) (fun a=>by rw [Pb.St.v_w];rfl) (fun a d hd=>by
  rw [Pb.St.v_w] at hd;have hd:d∈[I64 a.kind,.str a.name,.str a.text,H3 a.args,F1 a.thn,F1 a.els,I64 a.pos]:=hd;simp at hd;rcases hd with rfl|rfl|rfl|rfl|rfl|rfl|rfl<;>rfl) h
theorem C9j:∀ N,RB enc W hT 52 N Pb.St.v Pb.St.sz
 | 0=>fun n cs x h hx=>by have:=G8.pos x.1;omega
 | N+1=>fun n cs x h hx=>by
  obtain ⟨m,ys,rfl,hl,hb,hp⟩:=A1a G8 Tryz.underlying52 rfl (B8t rfl (by kernel_rfl)) (by kernel_rfl) h;obtain ⟨y0,y1,y2,y3,y4,y5,y6,rfl⟩:=D7p hl;simp only [A0O,List.map_nil,A2F,A2V] at hb;obtain ⟨a0, -,r0⟩:=(rbI _).val (hp 0 _ y0 rfl rfl) (A0E _) (fun _=>rfl);obtain ⟨a1,s1,r1⟩:=(rbS _).val (hp 1 _ y1 rfl rfl) (A0E _) (fun _=>rfl);obtain ⟨a2,s2,r2⟩:=(rbS _).val (hp 2 _ y2 rfl rfl) (A0E _) (fun _=>rfl);obtain ⟨a3,s3,r3⟩:=(C7h (D2x N)).val (hp 3 _ y3 rfl rfl) (by omega) (fun _=>rfl);obtain ⟨a4,s4,r4⟩:=(C0p (C9j N)).val (hp 4 _ y4 rfl rfl) (by omega) (fun _=>rfl);obtain ⟨a5,s5,r5⟩:=(C0p (C9j N)).val (hp 5 _ y5 rfl rfl) (by omega) (fun _=>rfl);obtain ⟨a6, -,r6⟩:=(rbI _).val (hp 6 _ y6 rfl rfl) (A0E _) (fun _=>rfl);refine ⟨.mk a0 a1 a2 a3 a4 a5 a6,?_,?_⟩
  ·rw [Pb.St.sz,Ex.szs_map,Pb.St.szs_map,Pb.St.szs_map];omega
  ·rw [Pb.St.v_w];exact .cons r0 (.cons r1 (.cons r2 (.cons r3 (.cons r4 (.cons r5 (.cons r6 .nil))))))
theorem D7d (N:Nat):RB enc W hT 84 N Dc.v Dc.sz:=fun n cs x h hx=>by
 obtain ⟨m,ys,rfl,hl,hb,hp⟩:=A1a G8 Tryz.underlying84 rfl (B8t rfl (by kernel_rfl)) (by kernel_rfl) h;obtain ⟨y0,y1,y2,y3,rfl⟩:=D0w hl;simp only [A0O,List.map_nil,A2F,A2V] at hb;obtain ⟨a0, -,r0⟩:=(rbI _).val (hp 0 _ y0 rfl rfl) (A0E _) (fun _=>rfl);obtain ⟨a1,s1,r1⟩:=(rbS _).val (hp 1 _ y1 rfl rfl) (A0E _) (fun _=>rfl);obtain ⟨a2, -,r2⟩:=(rbI _).val (hp 2 _ y2 rfl rfl) (A0E _) (fun _=>rfl);obtain ⟨a3, -,r3⟩:=(rbI _).val (hp 3 _ y3 rfl rfl) (A0E _) (fun _=>rfl);exact ⟨⟨a0,a1,a2,a3⟩,by unfold Dc.sz;show 1+a1.length<=_;omega,.cons r0 (.cons r1 (.cons r2 (.cons r3 .nil)))⟩
theorem D2y (N:Nat):RB enc W hT 36 (N+1) (fun l:List Dc=>E8 l) (fun l=>(l.map Dc.sz).sum) :=
 A2p G8 (u:=4) (by omega) Tryz.underlying36 (by kernel_rfl) (fun a=>rfl) (fun a d hd=>by
  have hd:d∈[I64 a.kind,.str a.name,I64 a.value,I64 a.pos]:=hd;simp at hd;rcases hd with rfl|rfl|rfl|rfl<;>rfl) (D7d N)
theorem D7c (N:Nat):RB enc W hT 48 N Hd.v Hd.sz:=fun n cs x h hx=>by
 obtain ⟨m,ys,rfl,hl,hb,hp⟩:=A1a G8 Tryz.underlying48 rfl (B8t rfl (by kernel_rfl)) (by kernel_rfl) h;obtain ⟨y0,y1,y2,y3,rfl⟩:=D0w hl;simp only [A0O,List.map_nil,A2F,A2V] at hb;obtain ⟨a0, -,r0⟩:=(rbI _).val (hp 0 _ y0 rfl rfl) (A0E _) (fun _=>rfl);obtain ⟨a1,s1,r1⟩:=(rbS _).val (hp 1 _ y1 rfl rfl) (A0E _) (fun _=>rfl);obtain ⟨a2,s2,r2⟩:=(C0p (C9j N)).val (hp 2 _ y2 rfl rfl) (by omega) (fun _=>rfl);obtain ⟨a3, -,r3⟩:=(rbI _).val (hp 3 _ y3 rfl rfl) (A0E _) (fun _=>rfl);exact ⟨⟨a0,a1,a2,a3⟩,by unfold Hd.sz;rw [Pb.St.szs_map];show 1+a1.length+(a2.map Pb.St.sz).sum<=_;omega,.cons r0 (.cons r1 (.cons r2 (.cons r3 .nil)))⟩
theorem D2w (N:Nat):RB enc W hT 43 (N+1) (fun l:List Hd=>T8 l) (fun l=>(l.map Hd.sz).sum) :=
 A2p G8 (u:=4) (by omega) Tryz.underlying43 (by kernel_rfl) (fun a=>rfl) (fun a d hd=>by
  have hd:d∈[I64 a.trig,.str a.name,F1 a.body,I64 a.pos]:=hd;simp at hd;rcases hd with rfl|rfl|rfl|rfl<;>rfl) (D7c N)
theorem D7b (N:Nat):RB enc W hT 45 N Md.v Md.sz:=fun n cs x h hx=>by
 obtain ⟨m,ys,rfl,hl,hb,hp⟩:=A1a G8 Tryz.underlying45 rfl (B8t rfl (by kernel_rfl)) (by kernel_rfl) h;obtain ⟨y0,y1,y2,y3,rfl⟩:=D0w hl;simp only [A0O,List.map_nil,A2F,A2V] at hb;obtain ⟨a0,s0,r0⟩:=(rbS _).val (hp 0 _ y0 rfl rfl) (A0E _) (fun _=>rfl);obtain ⟨a1, -,r1⟩:=(rbI _).val (hp 1 _ y1 rfl rfl) (A0E _) (fun _=>rfl);obtain ⟨a2,s2,r2⟩:=(D2w N).val (hp 2 _ y2 rfl rfl) (by omega) (fun _=>rfl);obtain ⟨a3, -,r3⟩:=(rbI _).val (hp 3 _ y3 rfl rfl) (A0E _) (fun _=>rfl);exact ⟨⟨a0,a1,a2,a3⟩,by unfold Md.sz;show 1+a0.length+(a2.map Hd.sz).sum<=_;omega,.cons r0 (.cons r1 (.cons r2 (.cons r3 .nil)))⟩
theorem D2v (N:Nat):RB enc W hT 37 (N+1) (fun l:List Md=>G6 l) (fun l=>(l.map Md.sz).sum) :=
 A2p G8 (u:=4) (by omega) Tryz.underlying37 (by kernel_rfl) (fun a=>rfl) (fun a d hd=>by
  have hd:d∈[.str a.name,I64 a.prio,T8 a.hds,I64 a.pos]:=hd;simp at hd;rcases hd with rfl|rfl|rfl|rfl<;>rfl) (D7b N)
theorem D7a (N:Nat):RB enc W hT 39 N Ru.v Ru.sz:=fun n cs x h hx=>by
 obtain ⟨m,ys,rfl,hl,hb,hp⟩:=A1a G8 Tryz.underlying39 rfl (B8t rfl (by kernel_rfl)) (by kernel_rfl) h;obtain ⟨y0,y1,rfl⟩:=D7r hl;simp only [A0O,List.map_nil,A2F,A2V] at hb;obtain ⟨a0,s0,r0⟩:=(D2y N).val (hp 0 _ y0 rfl rfl) (by omega) (fun _=>rfl);obtain ⟨a1,s1,r1⟩:=(D2v N).val (hp 1 _ y1 rfl rfl) (by omega) (fun _=>rfl);exact ⟨⟨a0,a1⟩,by unfold Ru.sz;show (a0.map Dc.sz).sum+(a1.map Md.sz).sum<=_;omega,.cons r0 (.cons r1 .nil)⟩
theorem B2i {l:List (DataW H)} (hk:Rows.uptoSmall H l=true) {d:DataW H} (h:d∈l):Rows.uptoBulk d<=1048576:=by
 have hk:Rows.uptoBulkAll l<=1048576:=by simpa [Rows.uptoSmall] using hk
 have:∀ {l:List (DataW H)},d∈l->Rows.uptoBulk d<=Rows.uptoBulkAll l:=by
  intro l h
  induction l with
  | nil=>cases h
  | cons x r ih =>
   simp only [Rows.uptoBulkAll];rcases A1S.1 h with rfl|e
   ·omega
   ·have:=ih e;omega
 exact A2A (this h) hk
end
end Go.Proofs.YthlpinppaclofaaGreatDoor
set_option maxHeartbeats 4000000
namespace Go.Proofs.YthlpinppaclofaaGreatDoor
open Go.Eng (IC IOper DReg IFn C2)
open Go.Sym
abbrev x167:XT Tryz.prog 167:=mkF (by unfold C2;conv=>lhs;reduce;simp only [seval,u8n]) (fun h=>by conv=>lhs;cbv)
instance t167:FT Tryz.prog 167 x167.d:=x167.ft
abbrev x124:XT Tryz.prog 124:=mkF (by unfold C2;conv=>lhs;reduce;simp only [seval,u8n]) (fun h=>by conv=>lhs;cbv)
instance t124:FT Tryz.prog 124 x124.d:=x124.ft
abbrev x71:XT Tryz.prog 71:=mkF (by unfold C2;conv=>lhs;reduce;simp only [seval,u8n]) (fun h=>by conv=>lhs;cbv)
instance t71:FT Tryz.prog 71 x71.d:=x71.ft
abbrev x125:XT Tryz.prog 125:=mkF (by unfold C2;conv=>lhs;reduce;simp only [seval,u8n]) (fun h=>by conv=>lhs;cbv)
instance t125:FT Tryz.prog 125 x125.d:=x125.ft
abbrev x171:XT Tryz.prog 171:=mkF (by unfold C2;conv=>lhs;reduce;simp only [seval,u8n]) (fun h=>by conv=>lhs;cbv)
instance t171:FT Tryz.prog 171 x171.d:=x171.ft
abbrev x169:XT Tryz.prog 169:=mkF (by unfold C2;conv=>lhs;reduce;simp only [seval,u8n]) (fun h=>by conv=>lhs;cbv)
instance t169:FT Tryz.prog 169 x169.d:=x169.ft
abbrev x168:XT Tryz.prog 168:=mkF (by unfold C2;conv=>lhs;reduce;simp only [seval,u8n]) (fun h=>by conv=>lhs;cbv)
instance t168:FT Tryz.prog 168 x168.d:=x168.ft
abbrev x170:XT Tryz.prog 170:=mkF (by unfold C2;conv=>lhs;reduce;simp only [seval,u8n]) (fun h=>by conv=>lhs;cbv)
instance t170:FT Tryz.prog 170 x170.d:=x170.ft
abbrev x70:XT Tryz.prog 70:=mkF (by unfold C2;conv=>lhs;reduce;simp only [seval,u8n]) (fun h=>by conv=>lhs;cbv)
instance t70:FT Tryz.prog 70 x70.d:=x70.ft
abbrev x56:XT Tryz.prog 56:=mkF (by unfold C2;conv=>lhs;reduce;simp only [seval,u8n]) (fun h=>by conv=>lhs;cbv)
instance t56:FT Tryz.prog 56 x56.d:=x56.ft
abbrev x58:XT Tryz.prog 58:=mkF (by unfold C2;conv=>lhs;reduce;simp only [seval,u8n]) (fun h=>by conv=>lhs;cbv)
instance t58:FT Tryz.prog 58 x58.d:=x58.ft
abbrev x188:XT Tryz.prog 188:=mkF (by unfold C2;conv=>lhs;reduce;simp only [seval,u8n]) (fun h=>by conv=>lhs;cbv)
instance t188:FT Tryz.prog 188 x188.d:=x188.ft
abbrev x159:XT Tryz.prog 159:=mkF (by unfold C2;conv=>lhs;reduce;simp only [seval,u8n]) (fun h=>by conv=>lhs;cbv)
instance t159:FT Tryz.prog 159 x159.d:=x159.ft
abbrev x115:XT Tryz.prog 115:=mkF (by unfold C2;conv=>lhs;reduce;simp only [seval,u8n]) (fun h=>by conv=>lhs;cbv)
instance t115:FT Tryz.prog 115 x115.d:=x115.ft
abbrev x69:XT Tryz.prog 69:=mkF (by unfold C2;conv=>lhs;reduce;simp only [seval,u8n]) (fun h=>by conv=>lhs;cbv)
instance t69:FT Tryz.prog 69 x69.d:=x69.ft
abbrev x123:XT Tryz.prog 123:=mkF (by unfold C2;conv=>lhs;reduce;simp only [seval,u8n]) (fun h=>by conv=>lhs;cbv)
instance t123:FT Tryz.prog 123 x123.d:=x123.ft
abbrev x166:XT Tryz.prog 166:=mkF (by unfold C2;conv=>lhs;reduce;simp only [seval,u8n]) (fun h=>by conv=>lhs;cbv)
instance t166:FT Tryz.prog 166 x166.d:=x166.ft
abbrev x197:XT Tryz.prog 197:=mkF (by unfold C2;conv=>lhs;reduce;simp only [seval,u8n]) (fun h=>by conv=>lhs;cbv)
instance t197:FT Tryz.prog 197 x197.d:=x197.ft
abbrev x196:XT Tryz.prog 196:=mkF (by unfold C2;conv=>lhs;reduce;simp only [seval,u8n]) (fun h=>by conv=>lhs;cbv)
instance t196:FT Tryz.prog 196 x196.d:=x196.ft
abbrev x210:XT Tryz.prog 210:=mkF (by unfold C2;conv=>lhs;reduce;simp only [seval,u8n]) (fun h=>by conv=>lhs;cbv)
instance t210:FT Tryz.prog 210 x210.d:=x210.ft
abbrev x198:XT Tryz.prog 198:=mkF (by unfold C2;conv=>lhs;reduce;simp only [seval,u8n]) (fun h=>by conv=>lhs;cbv)
instance t198:FT Tryz.prog 198 x198.d:=x198.ft
abbrev x211:XT Tryz.prog 211:=mkF (by unfold C2;conv=>lhs;reduce;simp only [seval,u8n]) (fun h=>by conv=>lhs;cbv)
instance t211:FT Tryz.prog 211 x211.d:=x211.ft
abbrev x222:XT Tryz.prog 222:=mkF (by unfold C2;conv=>lhs;reduce;simp only [seval,u8n]) (fun h=>by conv=>lhs;cbv)
instance t222:FT Tryz.prog 222 x222.d:=x222.ft
abbrev x126:XT Tryz.prog 126:=mkF (by unfold C2;conv=>lhs;reduce;simp only [seval,u8n]) (fun h=>by conv=>lhs;cbv)
instance t126:FT Tryz.prog 126 x126.d:=x126.ft
abbrev x172:XT Tryz.prog 172:=mkF (by unfold C2;conv=>lhs;reduce;simp only [seval,u8n]) (fun h=>by conv=>lhs;cbv)
instance t172:FT Tryz.prog 172 x172.d:=x172.ft
abbrev x127:XT Tryz.prog 127:=mkF (by unfold C2;conv=>lhs;reduce;simp only [seval,u8n]) (fun h=>by conv=>lhs;cbv)
instance t127:FT Tryz.prog 127 x127.d:=x127.ft
abbrev x73:XT Tryz.prog 73:=mkF (by unfold C2;conv=>lhs;reduce;simp only [seval,u8n]) (fun h=>by conv=>lhs;cbv)
instance t73:FT Tryz.prog 73 x73.d:=x73.ft
abbrev x36:XT Tryz.prog 36:=mkF (by unfold C2;conv=>lhs;reduce;simp only [seval,u8n]) (fun h=>by conv=>lhs;cbv)
instance t36:FT Tryz.prog 36 x36.d:=x36.ft
abbrev x33:XT Tryz.prog 33:=mkF (by unfold C2;conv=>lhs;reduce;simp only [seval,u8n]) (fun h=>by conv=>lhs;cbv)
instance t33:FT Tryz.prog 33 x33.d:=x33.ft
end Go.Proofs.YthlpinppaclofaaGreatDoor
end
