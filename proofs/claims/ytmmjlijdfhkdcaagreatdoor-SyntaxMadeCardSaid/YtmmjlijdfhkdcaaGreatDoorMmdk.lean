/-
  HELPERS of the claim: part 11 of its texts.
-/
import Derived.Test.YtmmjlijdfhkdcaaGreatDoorMmdj
noncomputable section
set_option maxHeartbeats 4000000
set_option maxRecDepth 100000
set_option linter.unusedSimpArgs false
set_option linter.unusedVariables false
namespace Go.Proofs.YtmmjlijdfhkdcaaGreatDoor
open Go.Eng (IC IOper DReg IFn M8)
open Go.Sym Go.Pb
theorem c_fmZ(R:List (List UInt8))(o:Option Nat)(c:Nat)(ho:∀ i,o=some i->i<c)(hn:o=none->R=[])(hl:R.length<=1000000000)(hb:∀ t∈R,t.length<=100000):
  IW Tryz.prog 105 (pz Tryz.prog 9 (.o (.o (.o (.i (.i (.o .h))))))) ⟨tm [(3,A8 o R.length)],B9 Sym.nil o ⟨1,true,R.map DV.str⟩,c⟩ (rt [.tmp 2] fun v H' _ => ∃ H2,GL H' [v] H2 [.str (T2 R)]):=by
 have hL:=c_lines R hl hb;rcases o with _|id
 ·obtain rfl:=hn rfl;repeat' ((with_reducible first|refine wr ?_|refine A1 ?_ ?_|refine wb2 ?_ ?_<;>(intro hb;try simp only[hb])|fail)<;>try simp only[go_sem,seval])
  refine AC.call (hL.give (H0:=Sym.nil) ⟨fun _ h=>h,fun ρ w vs h1 h2=>⟨ρ,rfl,h1,?_,Ext.refl _ _ _⟩⟩) ?_
  ·exact⟨h2.1,fun i x y hx hy=>by
    match i with
    |0=>cases hx;exact (h2.2 0 _ y rfl hy).snil_lst
    |_+1=>cases hx⟩
  ·rintro v H' c' ⟨rfl,rfl,rfl⟩ -;simp only[go_sem,seval];repeat' ((with_reducible first|refine wr ?_|refine A1 ?_ ?_|refine wb2 ?_ ?_<;>(intro hb;try simp only[hb])|fail)<;>try simp only[go_sem,seval])
   exact B3 rfl
 ·repeat' ((with_reducible first|refine wr ?_|refine A1 ?_ ?_|refine wb2 ?_ ?_<;>(intro hb;try simp only[hb])|fail)<;>try simp only[go_sem,seval])
  refine AC.call (hL.give (H0:=Sym.nil) (GL.one (id:=id) A0 rfl (.cons _ _ _ _ (M6 (u:=1) (by rw[A0E]) (G9 _) ⟨[],by rw[A2a];simp⟩) .nil))) ?_;rintro v H' c' ⟨rfl,rfl,rfl⟩ -;simp only[go_sem,seval];repeat' ((with_reducible first|refine wr ?_|refine A1 ?_ ?_|refine wb2 ?_ ?_<;>(intro hb;try simp only[hb])|fail)<;>try simp only[go_sem,seval])
  exact B3 rfl
abbrev B0t(ds:List Dc)(ms:List Md):Blk:=⟨0,true,[E3 ds,H3 ms]⟩
theorem A0s{M:Hp}{x y z c:Nat}{a b B0 Bc:Blk}(h0:M 0=some B0)(hc:M c=some Bc)(h1:0<c)(h2:c<x)(h3:x<y)(h4:y<z):
  (((M.upd y a).del x).upd z b) 0=some B0/\(((M.upd y a).del x).upd z b) c=some Bc/\(((M.upd y a).del x).upd z b) z=some b:=by
 refine⟨?_,?_,A0⟩
 ·rw[hnO];simp only[Hp.del];rw[if_neg (by omega),hnO];exact h0
 ·rw[hnO];simp only[Hp.del];rw[if_neg (by omega),hnO];exact hc
theorem c_fmD(ds:List Dc)(ms:List Md)(R rest:List (List UInt8))(hds:ds.length<=1000)(hv:∀ d∈ds,A0a d=true)(hRl:R.length<=1000000000)
  (next:∀ (o:Option Nat) (cur:List (List UInt8)) (c:Nat),(∀ i,o=some i->0<i/\i<c)->(o=none->cur=[])->1<=c->R=cur++rest ->
   IW Tryz.prog 105 (pz Tryz.prog 9 (.o (.o (.i (.i (.o .h)))))) ⟨tm [(1,.ptr 0 0),(3,A8 o cur.length)],B9 (nil.upd 0 (B0t ds ms)) o ⟨1,true,cur.map DV.str⟩,c⟩ (rt [.tmp 2] fun v H' _ => ∃ H2,GL H' [v] H2 [.str (T2 R)]))
  (hR:R=ds.flatMap dcL++rest) :
  IW Tryz.prog 105 (pz Tryz.prog 9 (.i (.o (.i .h)))) ⟨tm [(1,.ptr 0 0),(3,.snil)],nil.upd 0 (B0t ds ms),1⟩ (rt [.tmp 2] fun v H' _ => ∃ H2,GL H' [v] H2 [.str (T2 R)]):=by
 repeat' ((with_reducible first|refine wr ?_|refine A1 ?_ ?_|refine wb2 ?_ ?_<;>(intro hb;try simp only[hb])|fail)<;>try simp only[go_sem,seval,A0])
 refine A2t (fun q:Nat × Option Nat × List (List UInt8)=>[(1,.ptr 0 0),(3,A8 q.2.1 q.2.2.length),(14,E3 ds),(15,I64 ds.length),(16,I64 q.1)]) (fun q=>B9 (nil.upd 0 (B0t ds ms)) q.2.1 ⟨1,true,q.2.2.map DV.str⟩)
  (fun q cc=>q.1<=ds.length/\(∀ i,q.2.1=some i->0<i/\i<cc)/\(q.2.1=none->q.2.2=[])/\1<=cc/\R=q.2.2++((ds.drop q.1).flatMap dcL++rest)) (fun q=>ds.length-q.1) (0,none,[]) (fun b=>⟨rfl,rfl,rfl,rfl,rfl,trivial⟩) (by simp[C5,tm,Tm.upd,A8]) (Sub.refl _) ⟨A0Z _,by simp,by simp,by decide,hR⟩ ?_
 clear hR;rintro⟨i,o,cur⟩ c ⟨hi,ho,hn,hc,hR⟩;simp only at hi ho hn hc hR;simp only;by_cases hlt:i<ds.length
 ·have hd:=dtz hlt;have hg:=A0B hlt;have hw:IntKind.i64.wrap ((i:Int)+1)=((i+1:Nat):Int):=by rw[w6z (by omega)];omega
  have hvd:=hv _ (A0V hlt);rw[A1V hlt,A1B]at hR;obtain⟨d,hd0⟩:∃ d,d=ds[i]:=⟨_,rfl⟩;rw[<- hd0]at hg hvd hR;have hgm:(ds.map Dc.v)[i]? = some d.v:=by rw[A1A,hg];rfl
  unfold A0a at hvd;simp only[A0D,A0F]at hvd;obtain⟨⟨⟨⟨k1,k2⟩,hnm⟩,v1⟩,v2⟩:=hvd;obtain⟨j,hj⟩:∃ j:Nat,d.kind=1+(j:Int):=⟨(d.kind-1).toNat,by omega⟩;have hwj:IntKind.i64.wrap (d.kind-1)=(j:Int):=by rw[w6z (by omega)];omega
  have hjn:(d.kind-1).toNat=j:=by omega
  have hgj:(D0.map DV.str)[j]? = some (.str (D0.getD j [])):=by
   rw[A1A,A0Y,A0B (show j<D0.length from (by show j<8;omega))];rfl
  rw[dcL,hjn]at hR;generalize D0.getD j []=kw at hgj hR;repeat' ((with_reducible first|refine wr ?_|refine cpc c_pdecls ?_|refine A1 ?_ ?_|refine wb2 ?_ ?_<;>(intro hb;try simp only[hb])|fail)<;>try simp only[go_sem,seval,A0,hd,hgm,hw])
  obtain⟨M,hM⟩:∃ M,M=((B9 (nil.upd 0 (B0t ds ms)) o ⟨1,true,cur.map DV.str⟩).upd c ⟨0,true,[I64 0,.str [],I64 0,I64 0]⟩).upd c ⟨0,true,[I64 d.kind,.str d.name,I64 d.value,I64 d.pos]⟩:=⟨_,rfl⟩;rw[<- hM];have hMn:∀ j,c<j->M j=none:=fun j hj=>by
   rw[hM,hnO,hnO];cases o with
   |none=>rw[C7f,hnO];rfl
   |some id=>have:=ho id rfl;rw[Y8,hnO,hnO];rfl
  have hMc:M c=some ⟨0,true,[I64 d.kind,.str d.name,I64 d.value,I64 d.pos]⟩:=by rw[hM];exact A0
  have hM0:M 0=some (B0t ds ms):=by
   rw[hM,hnO,hnO];cases o with
   |none=>exact A0
   |some id=>have:=ho id rfl;rw[Y8,hnO];exact A0
  have hMo:∀ id,o=some id->M id=some ⟨1,true,cur.map DV.str⟩:=fun id hid=>by
   subst hid;have:=ho id rfl;rw[hM,hnO,hnO,Y8];exact A0
  clear hM;refine⟨by and_intros<;>exact hMn _ (by omega),?_⟩;simp only[go_sem,seval,hMc,hwj,hgj];have hcl:cur.length<=1000000000:=by
   have:=congrArg List.length hR;simp only[A0A]at this;omega
  refine V4 (E0 (cs:=cur.map DV.str) (fun e=>by rw[hn e];simp) (fun id hid=>by have:=ho id hid;rw[hnO];exact hMo id hid) (by simp) (by omega) (by omega) (by omega)) ?_;obtain⟨x,hx⟩:∃ x,x=c+1+12:=⟨_,rfl⟩;rw[<- hx];obtain⟨M2,hM2⟩:∃ M2,M2=(I5 (M.upd (c+1+9) ⟨1,true,[.str kw,.str d.name]⟩) o).upd x ⟨1,true,cur.map DV.str++[.str kw,.str d.name]⟩:=⟨_,rfl⟩;rw[<- hM2];have e0:M2 0=some (B0t ds ms):=by
   rw[hM2,hnO];cases o with
   |none=>show (M.upd _ _) 0=_;rw[hnO];exact hM0
   |some id=>have:=ho id rfl;rw[M7,if_neg (by omega),hnO];exact hM0
  have ec:M2 c=some ⟨0,true,[I64 d.kind,.str d.name,I64 d.value,I64 d.pos]⟩:=by
   rw[hM2,hnO];cases o with
   |none=>show (M.upd _ _) c=_;rw[hnO];exact hMc
   |some id=>have:=ho id rfl;rw[M7,if_neg (by omega),hnO];exact hMc
  have el:M2 x=some ⟨1,true,(cur++[kw,d.name]).map DV.str⟩:=by rw[hM2,A0];simp
  clear hM2;have hxc:c<x:=by omega
  clear hx;obtain⟨l2,hl2⟩:∃ l2,l2=cur++[kw,d.name]:=⟨_,rfl⟩;rw[<- hl2]at el;have hln:cur.length+2=l2.length:=by rw[hl2];simp
  rw[hln];have hl2l:l2.length<=1000000002:=by omega
  have ne0:=T1 0 c x (x+1) (x+1+1) (by omega);by_cases h7:d.kind<7
  ·have d7:decide (d.kind<7)=true:=by simpa using h7
   rw[if_pos h7]at hR;simp only[go_sem,seval,ec,el];by_cases hng:d.value<0
   ·have dn:decide (d.value<0)=true:=by simpa using hng
    have hwn:IntKind.i64.wrap (0-d.value) = -d.value:=by rw[w64 (by omega) (by split at v1<;>omega)];omega
    have hmx:(if -d.value>d.value then -d.value else d.value) = -d.value:=by rw[if_pos (by omega)]
    rw[if_pos hng,if_pos hng]at hR;repeat' ((with_reducible first|refine wr ?_|refine A1 ?_ ?_|refine wb2 ?_ ?_<;>(intro hb;try simp only[hb])|fail)<;>try simp only[go_sem,seval,ne0,A0,e0,ec,el,d7,hw,dn,hwn,hmx])
    refine C6 (E5 (by simp) (by omega) (by omega)) ?_;simp only[go_sem,seval,ne0,A0];obtain⟨f0,fc,f2⟩:=A0s (y:=x+1) (z:=x+1+1) (x:=x) (a:=⟨1,true,[.str [45]]⟩) (b:=⟨1,true,l2.map DV.str++[.str [45]]⟩) e0 ec (by omega) (by omega) (by omega) (by omega);obtain⟨M3,hM3⟩:∃ M3,M3=((M2.upd (x+1) ⟨1,true,[.str [45]]⟩).del x).upd (x+1+1) ⟨1,true,l2.map DV.str++[.str [45]]⟩:=⟨_,rfl⟩;rw[<- hM3]at f0 fc f2 ⊢;clear hM3 e0 ec;obtain⟨l3,hl3⟩:∃ l3,l3=l2++[[45]]:=⟨_,rfl⟩;have el3:M3 (x+1+1)=some ⟨1,true,l3.map DV.str⟩:=by rw[f2,hl3];simp
    clear f2;have e0:=f0;have ec:=fc;clear f0 fc;have hl3n:l2.length+1=l3.length:=by rw[hl3];simp
    rw[hl3n];obtain⟨x3,hx3⟩:∃ x3,x3=x+1+1:=⟨_,rfl⟩;rw[<- hx3]at el3 ⊢;have ne0:=T1 0 c x3 (x3+1) (x3+1+1) (by omega);repeat' ((with_reducible first|refine wr ?_|refine A1 ?_ ?_|refine wb2 ?_ ?_<;>(intro hb;try simp only[hb])|fail)<;>try simp only[go_sem,seval,ne0,A0,e0,ec,el3,d7,hw,dn,hwn,hmx])
    refine cpc (c_Itoa (-d.value) (by omega) (by split at v1<;>omega)) ?_;simp only[go_sem,seval,ne0,A0,el3];repeat' ((with_reducible first|refine wr ?_|refine A1 ?_ ?_|refine wb2 ?_ ?_<;>(intro hb;try simp only[hb])|fail)<;>try simp only[go_sem,seval,ne0,A0,e0,ec,el3,d7,hw])
    refine C6 (E5 (by simp) (by omega) (by omega)) ?_;simp only[go_sem,seval,ne0,A0];obtain⟨f0,fc,f2⟩:=A0s (y:=x3+1) (z:=x3+1+1) (x:=x3) (a:=⟨1,true,[.str (J6 (-d.value))]⟩) (b:=⟨1,true,l3.map DV.str++[.str (J6 (-d.value))]⟩) e0 ec (by omega) (by omega) (by omega) (by omega);obtain⟨M4,hM4⟩:∃ M4,M4=((M3.upd (x3+1) ⟨1,true,[.str (J6 (-d.value))]⟩).del x3).upd (x3+1+1) ⟨1,true,l3.map DV.str++[.str (J6 (-d.value))]⟩:=⟨_,rfl⟩;rw[<- hM4]at f0 fc f2 ⊢;clear hM4 e0 ec;obtain⟨l4,hl4⟩:∃ l4,l4=l3++[(J6 (-d.value))]:=⟨_,rfl⟩;have el4:M4 (x3+1+1)=some ⟨1,true,l4.map DV.str⟩:=by rw[f2,hl4];simp
    clear f2;have e0:=f0;have ec:=fc;clear f0 fc;have hl4n:l3.length+1=l4.length:=by rw[hl4];simp
    rw[hl4n];obtain⟨x4,hx4⟩:∃ x4,x4=x3+1+1:=⟨_,rfl⟩;rw[<- hx4]at el4 ⊢;have ne0:=T1 0 c x4 (x4+1) (x4+1+1) (by omega);repeat' ((with_reducible first|refine wr ?_|refine A1 ?_ ?_|refine wb2 ?_ ?_<;>(intro hb;try simp only[hb])|fail)<;>try simp only[go_sem,seval,ne0,A0,e0,ec,el4,d7,hw])
    refine C6 (E5 (by simp) (by omega) (by omega)) ?_;simp only[go_sem,seval,ne0,A0];repeat' ((with_reducible first|refine wr ?_|refine A1 ?_ ?_|refine wb2 ?_ ?_<;>(intro hb;try simp only[hb])|fail)<;>try simp only[go_sem,seval,ne0,A0,hw])
    have e1:l4.length+1=(l4++[[59]]).length:=by simp
    rw[e1];obtain⟨f0, -,f2⟩:=A0s (y:=x4+1) (z:=x4+1+1) (x:=x4) (a:=⟨1,true,[.str [59]]⟩) (b:=⟨1,true,l4.map DV.str++[.str [59]]⟩) e0 ec (by omega) (by omega) (by omega) (by omega);refine⟨(i+1,some (x4+1+1),l4++[[59]]),⟨rfl,rfl⟩,GL.less' fun j b hj=>?_,inv ⟨hlt,(fun i h=>by cases h;omega),(fun h=>by cases h),by omega,by simp only;rw[hR,hl4,hl3,hl2];simp⟩,by simp only;omega⟩;simp only[Y8]at hj;by_cases e:j=x4+1+1
    ·subst e;rw[A0]at hj;rw[f2, <- hj];simp
    ·rw[A6 e]at hj;by_cases e2:j=0
     ·subst e2;rw[A0]at hj;rw[f0, <- hj]
     ·rw[A6 e2]at hj;cases hj
   ·have dn:decide (d.value<0)=false:=by simpa using hng
    have hwn:IntKind.i64.wrap (0-d.value) = -d.value:=by rw[w64 (by split at v2<;>omega) (by omega)];omega
    have hmx:(if -d.value>d.value then -d.value else d.value)=d.value:=by
     by_cases h0 : -d.value>d.value
     ·omega
     ·rw[if_neg h0]
    rw[if_neg hng,if_neg hng]at hR;repeat' ((with_reducible first|refine wr ?_|refine A1 ?_ ?_|refine wb2 ?_ ?_<;>(intro hb;try simp only[hb])|fail)<;>try simp only[go_sem,seval,ne0,A0,e0,ec,el,d7,hw,dn,hwn,hmx])
    refine cpc (c_Itoa d.value (by omega) (by split at v2<;>omega)) ?_;simp only[go_sem,seval,ne0,A0,el];repeat' ((with_reducible first|refine wr ?_|refine A1 ?_ ?_|refine wb2 ?_ ?_<;>(intro hb;try simp only[hb])|fail)<;>try simp only[go_sem,seval,ne0,A0,e0,ec,el,d7,hw])
    refine C6 (E5 (by simp) (by omega) (by omega)) ?_;simp only[go_sem,seval,ne0,A0];obtain⟨f0,fc,f2⟩:=A0s (y:=x+1) (z:=x+1+1) (x:=x) (a:=⟨1,true,[.str (J6 d.value)]⟩) (b:=⟨1,true,l2.map DV.str++[.str (J6 d.value)]⟩) e0 ec (by omega) (by omega) (by omega) (by omega);obtain⟨M4,hM4⟩:∃ M4,M4=((M2.upd (x+1) ⟨1,true,[.str (J6 d.value)]⟩).del x).upd (x+1+1) ⟨1,true,l2.map DV.str++[.str (J6 d.value)]⟩:=⟨_,rfl⟩;rw[<- hM4]at f0 fc f2 ⊢;clear hM4 e0 ec;obtain⟨l4,hl4⟩:∃ l4,l4=l2++[(J6 d.value)]:=⟨_,rfl⟩;have el4:M4 (x+1+1)=some ⟨1,true,l4.map DV.str⟩:=by rw[f2,hl4];simp
    clear f2;have e0:=f0;have ec:=fc;clear f0 fc;have hl4n:l2.length+1=l4.length:=by rw[hl4];simp
    rw[hl4n];obtain⟨x4,hx4⟩:∃ x4,x4=x+1+1:=⟨_,rfl⟩;rw[<- hx4]at el4 ⊢;have ne0:=T1 0 c x4 (x4+1) (x4+1+1) (by omega);repeat' ((with_reducible first|refine wr ?_|refine A1 ?_ ?_|refine wb2 ?_ ?_<;>(intro hb;try simp only[hb])|fail)<;>try simp only[go_sem,seval,ne0,A0,e0,ec,el4,d7,hw])
    refine C6 (E5 (by simp) (by omega) (by omega)) ?_;simp only[go_sem,seval,ne0,A0];repeat' ((with_reducible first|refine wr ?_|refine A1 ?_ ?_|refine wb2 ?_ ?_<;>(intro hb;try simp only[hb])|fail)<;>try simp only[go_sem,seval,ne0,A0,hw])
    have e1:l4.length+1=(l4++[[59]]).length:=by simp
    rw[e1];obtain⟨f0, -,f2⟩:=A0s (y:=x4+1) (z:=x4+1+1) (x:=x4) (a:=⟨1,true,[.str [59]]⟩) (b:=⟨1,true,l4.map DV.str++[.str [59]]⟩) e0 ec (by omega) (by omega) (by omega) (by omega);refine⟨(i+1,some (x4+1+1),l4++[[59]]),⟨rfl,rfl⟩,GL.less' fun j b hj=>?_,inv ⟨hlt,(fun i h=>by cases h;omega),(fun h=>by cases h),by omega,by simp only;rw[hR,hl4,hl2];simp⟩,by simp only;omega⟩;simp only[Y8]at hj;by_cases e:j=x4+1+1
    ·subst e;rw[A0]at hj;rw[f2, <- hj];simp
    ·rw[A6 e]at hj;by_cases e2:j=0
     ·subst e2;rw[A0]at hj;rw[f0, <- hj]
     ·rw[A6 e2]at hj;cases hj
  ·have d7:decide (d.kind<7)=false:=by simpa using h7
   rw[if_neg h7]at hR;simp only[go_sem,seval,ec,el];repeat' ((with_reducible first|refine wr ?_|refine A1 ?_ ?_|refine wb2 ?_ ?_<;>(intro hb;try simp only[hb])|fail)<;>try simp only[go_sem,seval,ne0,A0,e0,ec,el,d7,hw])
   refine C6 (E5 (by simp) (by omega) (by omega)) ?_;simp only[go_sem,seval,ne0,A0];repeat' ((with_reducible first|refine wr ?_|refine A1 ?_ ?_|refine wb2 ?_ ?_<;>(intro hb;try simp only[hb])|fail)<;>try simp only[go_sem,seval,ne0,A0,hw])
   have e1:l2.length+1=(l2++[[59]]).length:=by simp
   rw[e1];obtain⟨f0, -,f2⟩:=A0s (y:=x+1) (z:=x+1+1) (x:=x) (a:=⟨1,true,[.str [59]]⟩) (b:=⟨1,true,l2.map DV.str++[.str [59]]⟩) e0 ec (by omega) (by omega) (by omega) (by omega);refine⟨(i+1,some (x+1+1),l2++[[59]]),⟨rfl,rfl⟩,GL.less' fun j b hj=>?_,inv ⟨hlt,(fun i h=>by cases h;omega),(fun h=>by cases h),by omega,by simp only;rw[hR,hl2];simp⟩,by simp only;omega⟩;simp only[Y8]at hj;by_cases e:j=x+1+1
   ·subst e;rw[A0]at hj;rw[f2, <- hj];simp
   ·rw[A6 e]at hj;by_cases e2:j=0
    ·subst e2;rw[A0]at hj;rw[f0, <- hj]
    ·rw[A6 e2]at hj;cases hj
 ·have hd:=dfz hlt;rw[A2D (by omega),List.flatMap_nil,List.nil_append]at hR;repeat' ((with_reducible first|refine G0 (p:=IW _ _ (pz Tryz.prog 9 (.o (.o (.i (.i (.o .h)))))) _ _) ?_|refine wr ?_|refine A1 ?_ ?_|refine wb2 ?_ ?_<;>(intro hb;try simp only[hb])|fail)<;>try simp only[go_sem,seval,hd])
  unfold V8;exact IW.weaken (U1 (l:=[(1,.ptr 0 0),(3,A8 o cur.length)]) ⟨rfl,rfl,trivial⟩) (Sub.refl _) (next o cur c ho hn hc hR)
abbrev D0b(m:Md):Blk:=⟨0,true,[.str m.name,I64 m.prio,A1c m.hds,I64 m.pos]⟩
theorem B0e{M:Hp}{x y z c:Nat}{a b Bc:Blk}(hc:M c=some Bc)(h2:¬ c=x)(h3:¬ c=y)(h4:¬ c=z):
  (((M.upd y a).del x).upd z b) c=some Bc/\(((M.upd y a).del x).upd z b) z=some b:=by
 refine⟨?_,A0⟩;rw[A6 h4];simp only[Hp.del];rw[if_neg h2,A6 h3];exact hc
theorem c_fmH(m:Md)(Q:Exit->Go.Sym.St->Prop)(a55 a56 a57:DV)(R rest:List (List UInt8))(hh:m.hds.length<=1000)(hv:∀ h∈m.hds,W4 h=true)(hS:∀ h∈m.hds,Pb.St.szs h.body<=4000000)(hRl:R.length<=1000000000)
  (l:List (List UInt8)) (id b c:Nat) (hid:id<c) (hb:b<c) (hne:¬ b=id) (hR:R=l++(m.hds.flatMap B5n++rest))
  (next:∀ (id:Nat) (cur:List (List UInt8)) (c2:Nat),id<c2->c<=c2->R=cur++rest ->
   IW Tryz.prog 105 (pz Tryz.prog 9 (.o (.i (.i (.o (.i (.o .h))))))) ⟨tm [(3,.slc id 0 cur.length),(55,a55),(56,a56),(57,a57)],nil.upd id ⟨1,true,cur.map DV.str⟩,c2⟩ Q) :
  IW Tryz.prog 105 (pz Tryz.prog 9 (.i (.o (.i (.i (.i .h)))))) ⟨tm [(3,.slc id 0 l.length),(7,.ptr b 0),(55,a55),(56,a56),(57,a57)],(nil.upd b (D0b m)).upd id ⟨1,true,l.map DV.str⟩,c⟩ Q:=by
 have hb0:((nil.upd b (D0b m)).upd id ⟨1,true,l.map DV.str⟩) b=some (D0b m):=by rw[A6 hne];exact A0
 repeat' ((with_reducible first|refine wr ?_|refine A1 ?_ ?_|refine wb2 ?_ ?_<;>(intro hb;try simp only[hb])|fail)<;>try simp only[go_sem,seval,hb0])
 refine A2t (fun q:Nat × Nat × List (List UInt8)=>[(3,.slc q.2.1 0 q.2.2.length),(55,a55),(56,a56),(57,a57),(70,A1c m.hds),(71,I64 m.hds.length),(72,I64 q.1)]) (fun q=>nil.upd q.2.1 ⟨1,true,q.2.2.map DV.str⟩)
  (fun q cc=>q.1<=m.hds.length/\q.2.1<cc/\c<=cc/\R=q.2.2++((m.hds.drop q.1).flatMap B5n++rest)) (fun q=>m.hds.length-q.1) (0,id,l) (fun b=>⟨rfl,rfl,rfl,rfl,rfl,rfl,rfl,trivial⟩) (by simp[C5,tm,Tm.upd]) (fun j b hj=>by
   by_cases e:j=id
   ·subst e;rw[A0]at hj ⊢;exact hj
   ·rw[A6 e]at hj;cases hj) ⟨A0Z _,hid,A0J _,hR⟩ ?_
 clear hR hid hne hb0;rintro⟨i,id,cur⟩ c3 ⟨hi,hid,hc3,hR⟩;simp only at hi hid hc3 hR;simp only;by_cases hlt:i<m.hds.length
 ·have hd:=dtz hlt;have hg:=A0B hlt;have hw:IntKind.i64.wrap ((i:Int)+1)=((i+1:Nat):Int):=by rw[w6z (by omega)];omega
  have hvd:=hv _ (A0V hlt);have hsz:=hS _ (A0V hlt);rw[A1V hlt,A1B]at hR;obtain⟨h,hh0⟩:∃ h,h=m.hds[i]:=⟨_,rfl⟩;rw[<- hh0]at hg hvd hR hsz;have hgm:(m.hds.map Hd.v)[i]? = some h.v:=by rw[A1A,hg];rfl
  have hbk:=c_pblkT h.body (by have:=Pb.St.szs_len h.body;omega) (fun s hs=>by
   unfold W4 O8 at hvd;simp only[A0D]at hvd;exact c_prStmt _ s 1 (A2E _) (by have:=Pb.St.szs_mem hs;omega) (A2h hvd.2.2 s hs)) hsz
  have hbl:(txT (blT h.body)).length<=1000000000:=by
   have:=(A3d h.body).2;unfold txT;rw[A0E];omega
  unfold W4 at hvd;simp only[A0D,A0F]at hvd;obtain⟨⟨⟨k1,k2⟩,hnm⟩, -⟩:=hvd;obtain⟨j,hj⟩:∃ j:Nat,h.trig=1+(j:Int):=⟨(h.trig-1).toNat,by omega⟩;have hwj:IntKind.i64.wrap (h.trig-1)=(j:Int):=by rw[w6z (by omega)];omega
  have hjn:(h.trig-1).toNat=j:=by omega
  have hgj:(D5.map DV.str)[j]? = some (.str (D5.getD j [])):=by
   rw[A1A,A0Y,A0B (show j<D5.length from (by show j<6;omega))];rfl
  rw[B5n,hjn]at hR;generalize D5.getD j []=kw at hgj hR;generalize txT (blT h.body)=W at hbk hbl hR;have hcl:cur.length<=1000000000:=by
   have:=congrArg List.length hR;simp only[A0A]at this;omega
  repeat' ((with_reducible first|refine wr ?_|refine cpc c_ptrigs ?_|refine A1 ?_ ?_|refine wb2 ?_ ?_<;>(intro hb;try simp only[hb])|fail)<;>try simp only[go_sem,seval,A0,hd,hgm,hw])
  obtain⟨M,hM⟩:∃ M,M=((nil.upd id ⟨1,true,cur.map DV.str⟩).upd c3 ⟨0,true,[I64 0,.str [],.snil,I64 0]⟩).upd c3 ⟨0,true,[I64 h.trig,.str h.name,F4 h.body,I64 h.pos]⟩:=⟨_,rfl⟩;rw[<- hM];have hMn:∀ j,c3<j->M j=none:=fun j hj=>by
   rw[hM,hnO,hnO,hnO];rfl
  have hMc:M c3=some ⟨0,true,[I64 h.trig,.str h.name,F4 h.body,I64 h.pos]⟩:=by rw[hM];exact A0
  have hMo:M id=some ⟨1,true,cur.map DV.str⟩:=by rw[hM,hnO,hnO];exact A0
  clear hM;refine⟨by and_intros<;>exact hMn _ (by omega),?_⟩;simp only[go_sem,seval,hMc,hMo,hwj,hgj];rw[A6 (show ¬ id=c3+1+7 by omega),hMo];refine V4 (E5 (by simp) (by omega) (by omega)) ?_;obtain⟨ec,el⟩:=B0e (M:=M) (x:=id) (y:=c3+1+7) (z:=c3+1+10) (c:=c3) (a:=⟨1,true,[.str [111,110],.str kw]⟩) (b:=⟨1,true,cur.map DV.str++[.str [111,110],.str kw]⟩) hMc (by omega) (by omega) (by omega);obtain⟨M2,hM2⟩:∃ M2,M2=((M.upd (c3+1+7) ⟨1,true,[.str [111,110],.str kw]⟩).del id).upd (c3+1+10) ⟨1,true,cur.map DV.str++[.str [111,110],.str kw]⟩:=⟨_,rfl⟩;rw[<- hM2]at ec el ⊢;clear hM2;obtain⟨x,hx⟩:∃ x,x=c3+1+10:=⟨_,rfl⟩;rw[<- hx]at el ⊢;have hxc:c3<x:=by omega
  clear hx;obtain⟨l2,hl2⟩:∃ l2,l2=cur++[[111,110],kw]:=⟨_,rfl⟩;rw[show cur.map DV.str++[.str [111,110],.str kw]=l2.map DV.str by rw[hl2];simp]at el;have hln:cur.length+2=l2.length:=by rw[hl2];simp
  rw[hln];have hl2l:l2.length<=1000000002:=by omega
  have ne0:=V7 c3 x (x+1) (x+1+1) (by omega);by_cases h3:3<=h.trig
  ·have d3:decide (h.trig≥3)=true:=by simpa using h3
   rw[if_pos h3]at hR;simp only[go_sem,seval,ec,el];repeat' ((with_reducible first|refine wr ?_|refine A1 ?_ ?_|refine wb2 ?_ ?_<;>(intro hb;try simp only[hb])|fail)<;>try simp only[go_sem,seval,ne0,A0,ec,el,d3,hw])
   refine C6 (E5 (by simp) (by omega) (by omega)) ?_;simp only[go_sem,seval,ne0,A0];obtain⟨fc,f2⟩:=B0e (M:=M2) (x:=x) (y:=x+1) (z:=x+1+1) (c:=c3) (a:=⟨1,true,[.str h.name]⟩) (b:=⟨1,true,l2.map DV.str++[.str h.name]⟩) ec (by omega) (by omega) (by omega);obtain⟨M3,hM3⟩:∃ M3,M3=((M2.upd (x+1) ⟨1,true,[.str h.name]⟩).del x).upd (x+1+1) ⟨1,true,l2.map DV.str++[.str h.name]⟩:=⟨_,rfl⟩;rw[<- hM3]at fc f2 ⊢;clear hM3 ec;obtain⟨l3,hl3⟩:∃ l3,l3=l2++[h.name]:=⟨_,rfl⟩;have el3:M3 (x+1+1)=some ⟨1,true,l3.map DV.str⟩:=by rw[f2,hl3];simp
   clear f2;have hl3n:l2.length+1=l3.length:=by rw[hl3];simp
   rw[hl3n];obtain⟨x3,hx3⟩:∃ x3,x3=x+1+1:=⟨_,rfl⟩;rw[<- hx3]at el3 ⊢;have ne0:=V7 c3 x3 (x3+1) (x3+1+1) (by omega);repeat' ((with_reducible first|refine wr ?_|refine A1 ?_ ?_|refine wb2 ?_ ?_<;>(intro hb;try simp only[hb])|fail)<;>try simp only[go_sem,seval,ne0,A0,fc,el3,d3,hw])
   refine AC.call (hbk _ _) ?_;rintro _ _ _ ⟨rfl,rfl,rfl⟩ -;have tk:List.take W.length (W.map DV.str)=W.map DV.str:=A0L (by simp);simp only[go_sem,seval,ne0,A0,tk,el3];refine C6 (E5 (by simp) (by omega) (by omega)) ?_;simp only[go_sem,seval,ne0,A0];repeat' ((with_reducible first|refine wr ?_|refine A1 ?_ ?_|refine wb2 ?_ ?_<;>(intro hb;try simp only[hb])|fail)<;>try simp only[go_sem,seval,ne0,A0,hw])
   have e1:l3.length+W.length=(l3++W).length:=by simp
   rw[e1];refine⟨(i+1,x3+1+1,l3++W),⟨rfl,rfl⟩,GL.less' fun j b hj=>?_,inv ⟨hlt,by simp only;omega,by omega,by simp only;rw[hR,hl3,hl2];simp⟩,by simp only;omega⟩;simp only at hj;by_cases e:j=x3+1+1
   ·subst e;rw[A0]at hj ⊢;rw[<- hj];simp
   ·rw[A6 e]at hj;cases hj
  ·have d3:decide (h.trig≥3)=false:=by simpa using h3
   rw[if_neg h3]at hR;simp only[go_sem,seval,ec,el];repeat' ((with_reducible first|refine wr ?_|refine A1 ?_ ?_|refine wb2 ?_ ?_<;>(intro hb;try simp only[hb])|fail)<;>try simp only[go_sem,seval,ne0,A0,ec,el,d3,hw])
   refine AC.call (hbk _ _) ?_;rintro _ _ _ ⟨rfl,rfl,rfl⟩ -;have tk:List.take W.length (W.map DV.str)=W.map DV.str:=A0L (by simp);simp only[go_sem,seval,ne0,A0,tk,el];refine C6 (E5 (by simp) (by omega) (by omega)) ?_;simp only[go_sem,seval,ne0,A0];repeat' ((with_reducible first|refine wr ?_|refine A1 ?_ ?_|refine wb2 ?_ ?_<;>(intro hb;try simp only[hb])|fail)<;>try simp only[go_sem,seval,ne0,A0,hw])
   have e1:l2.length+W.length=(l2++W).length:=by simp
   rw[e1];refine⟨(i+1,x+1+1,l2++W),⟨rfl,rfl⟩,GL.less' fun j b hj=>?_,inv ⟨hlt,by simp only;omega,by omega,by simp only;rw[hR,hl2];simp⟩,by simp only;omega⟩;simp only at hj;by_cases e:j=x+1+1
   ·subst e;rw[A0]at hj ⊢;rw[<- hj];simp
   ·rw[A6 e]at hj;cases hj
 ·have hd:=dfz hlt;rw[A2D (by omega),List.flatMap_nil,List.nil_append]at hR;repeat' ((with_reducible first|refine G0 (p:=IW _ _ (pz Tryz.prog 9 (.o (.i (.i (.o (.i (.o .h))))))) _ _) ?_|refine wr ?_|refine A1 ?_ ?_|refine wb2 ?_ ?_<;>(intro hb;try simp only[hb])|fail)<;>try simp only[go_sem,seval,hd])
  unfold V8;exact IW.weaken (U1 (l:=[(3,.slc id 0 cur.length),(55,a55),(56,a56),(57,a57)]) ⟨rfl,rfl,rfl,rfl,trivial⟩) (Sub.refl _) (next id cur c3 hid hc3 hR)
theorem c_fmM(ds:List Dc)(ms:List Md)(R:List (List UInt8))(hms:ms.length<=1000)(hv:∀ m∈ms,S5 m=true)(hS:∀ m∈ms, ∀ h∈m.hds,Pb.St.szs h.body<=4000000)(hRl:R.length<=1000000000)(hRb:∀ t∈R,t.length<=100000)
  (o:Option Nat) (l:List (List UInt8)) (c:Nat) (ho:∀ i,o=some i->0<i/\i<c) (hn:o=none->l=[]) (hc:1<=c) (hR:R=l++ms.flatMap mdL) :
  IW Tryz.prog 105 (pz Tryz.prog 9 (.o (.o (.i (.i (.o .h)))))) ⟨tm [(1,.ptr 0 0),(3,A8 o l.length)],B9 (nil.upd 0 (B0t ds ms)) o ⟨1,true,l.map DV.str⟩,c⟩ (rt [.tmp 2] fun v H' _ => ∃ H2,GL H' [v] H2 [.str (T2 R)]):=by
 have h0:(B9 (nil.upd 0 (B0t ds ms)) o ⟨1,true,l.map DV.str⟩) 0=some (B0t ds ms):=by
  cases o with
  |none=>exact A0
  |some id=>have:=ho id rfl;rw[Y8,hnO];exact A0
 repeat' ((with_reducible first|refine wr ?_|refine A1 ?_ ?_|refine wb2 ?_ ?_<;>(intro hb;try simp only[hb])|fail)<;>try simp only[go_sem,seval,h0])
 refine A2t (fun q:Nat × Option Nat × List (List UInt8)=>[(3,A8 q.2.1 q.2.2.length),(55,H3 ms),(56,I64 ms.length),(57,I64 q.1)]) (fun q=>B9 Sym.nil q.2.1 ⟨1,true,q.2.2.map DV.str⟩)
  (fun q cc=>q.1<=ms.length/\(∀ i,q.2.1=some i->i<cc)/\(q.2.1=none->q.2.2=[])/\R=q.2.2++(ms.drop q.1).flatMap mdL) (fun q=>ms.length-q.1) (0,o,l) (fun b=>⟨rfl,rfl,rfl,rfl,trivial⟩) (by simp[C5,tm,Tm.upd,A8]) (fun j b hj=>by
   cases o with
   |none=>cases hj
   |some id =>
    simp only[Y8]at hj ⊢;by_cases e:j=id
    ·subst e;rw[A0]at hj ⊢;exact hj
    ·rw[A6 e]at hj;cases hj) ⟨A0Z _,fun i h=>(ho i h).2,hn,hR⟩ ?_
 clear hR hn ho h0;rintro⟨i,o,cur⟩ c3 ⟨hi,ho,hn,hR⟩;simp only at hi ho hn hR;simp only;by_cases hlt:i<ms.length
 ·have hd:=dtz hlt;have hg:=A0B hlt;have hw:IntKind.i64.wrap ((i:Int)+1)=((i+1:Nat):Int):=by rw[w6z (by omega)];omega
  have hvd:=hv _ (A0V hlt);have hsz:=hS _ (A0V hlt);rw[A1V hlt,A1B]at hR;obtain⟨m,hm0⟩:∃ m,m=ms[i]:=⟨_,rfl⟩;rw[<- hm0]at hg hvd hR hsz;have hgm:(ms.map Md.v)[i]? = some m.v:=by rw[A1A,hg];rfl
  unfold S5 at hvd;simp only[A0D,A0F]at hvd;obtain⟨⟨⟨⟨hnm,p1⟩,p2⟩,hhl⟩,hh⟩:=hvd;have hit:=c_Itoa m.prio (by omega) (by omega);rw[mdL]at hR;have hcl:cur.length<=1000000000:=by
   have:=congrArg List.length hR;simp only[A0A]at this;omega
  repeat' ((with_reducible first|refine wr ?_|refine cpc hit ?_|refine A1 ?_ ?_|refine wb2 ?_ ?_<;>(intro hb;try simp only[hb])|fail)<;>try simp only[go_sem,seval,A0,hd,hgm,hw])
  obtain⟨M,hM⟩:∃ M,M=((B9 Sym.nil o ⟨1,true,cur.map DV.str⟩).upd c3 ⟨0,true,[.str [],I64 0,.snil,I64 0]⟩).upd c3 ⟨0,true,[.str m.name,I64 m.prio,A1c m.hds,I64 m.pos]⟩:=⟨_,rfl⟩;rw[<- hM];have hMn:∀ j,c3<j->M j=none:=fun j hj=>by
   rw[hM,hnO,hnO];cases o with
   |none=>rfl
   |some id=>have:=ho id rfl;rw[Y8,hnO];rfl
  have hMc:M c3=some ⟨0,true,[.str m.name,I64 m.prio,A1c m.hds,I64 m.pos]⟩:=by rw[hM];exact A0
  have hMo:∀ id,o=some id->M id=some ⟨1,true,cur.map DV.str⟩:=fun id hid=>by
   subst hid;have:=ho id rfl;rw[hM,hnO,hnO,Y8];exact A0
  clear hM;refine⟨by and_intros<;>exact hMn _ (by omega),?_⟩;refine V4 (E0 (cs:=cur.map DV.str) (fun e=>by rw[hn e];simp) (fun id hid=>by have:=ho id hid;rw[hnO];exact hMo id hid) (by simp) (by omega) (by omega) (by omega)) ?_;simp only[go_sem,seval];repeat' ((with_reducible first|refine G0 (p:=IW _ _ (pz Tryz.prog 9 (.i (.o (.i (.i (.i .h)))))) _ _) ?_|refine wr ?_|refine A1 ?_ ?_|refine wb2 ?_ ?_<;>(intro hb;try simp only[hb])|fail)<;>try simp only[go_sem,seval,A0])
  unfold V8;have e4:cur.length+4=(cur++[[109,111,100,101],m.name,J6 m.prio,[123]]).length:=by simp
  rw[e4];refine IW.weaken (U1 (l:=[(3,.slc (c3+1+9) 0 (cur++[[109,111,100,101],m.name,J6 m.prio,[123]]).length),(7,.ptr c3 0),(55,H3 ms),(56,I64 ms.length),(57,I64 i)]) ⟨rfl,rfl,rfl,rfl,rfl,trivial⟩) ?_ (c_fmH m _ _ _ _ R ([[125]]++(ms.drop (i+1)).flatMap mdL) (by omega) (fun h hm=>A0Q.1 hh h hm) hsz hRl (cur++[[109,111,100,101],m.name,J6 m.prio,[123]]) (c3+1+9) c3 _ (by omega) (by omega) (by omega) (by rw[hR];simp) ?_)
  ·intro j b hj;by_cases e:j=c3+1+9
   ·subst e;rw[A0]at hj ⊢;rw[<- hj];simp
   ·rw[A6 e]at hj ⊢;by_cases e2:j=c3
    ·subst e2;rw[A0]at hj;rw[<- hj];cases o with
     |none=>show (M.upd _ _) _=_;rw[hnO];exact hMc
     |some id=>have:=ho id rfl;rw[M7,if_neg (by omega),hnO];exact hMc
    ·rw[A6 e2]at hj;cases hj
  ·intro id cur2 c4 hid hc4 hR2;have hl2:cur2.length<=1000000000:=by
    have:=congrArg List.length hR2;simp only[A0A]at this;omega
   have ne0:=L8 id c4 (c4+1) (by omega);repeat' ((with_reducible first|refine wr ?_|refine A1 ?_ ?_|refine wb2 ?_ ?_<;>(intro hb;try simp only[hb])|fail)<;>try simp only[go_sem,seval,ne0,A0,hw])
   refine C6 (E5 (by simp) (by omega) (by omega)) ?_;simp only[go_sem,seval,ne0,A0];repeat' ((with_reducible first|refine wr ?_|refine A1 ?_ ?_|refine wb2 ?_ ?_<;>(intro hb;try simp only[hb])|fail)<;>try simp only[go_sem,seval,ne0,A0,hw])
   have e1:cur2.length+1=(cur2++[[125]]).length:=by simp
   rw[e1];refine⟨(i+1,some (c4+1),cur2++[[125]]),⟨rfl,rfl⟩,GL.less' fun j b hj=>?_,inv ⟨hlt,(fun i h=>by cases h;omega),(fun h=>by cases h),by simp only;rw[hR2];simp⟩,by simp only;omega⟩;simp only[Y8]at hj;by_cases e:j=c4+1
   ·subst e;rw[A0]at hj ⊢;rw[<- hj];simp
   ·rw[A6 e]at hj;cases hj
 ·have hd:=dfz hlt;rw[A2D (by omega),List.flatMap_nil,A1H]at hR;subst hR;repeat' ((with_reducible first|refine G0 (p:=IW _ _ (pz Tryz.prog 9 (.o (.o (.o (.i (.i (.o .h))))))) _ _) ?_|refine wr ?_|refine A1 ?_ ?_|refine wb2 ?_ ?_<;>(intro hb;try simp only[hb])|fail)<;>try simp only[go_sem,seval,hd])
  unfold V8;exact IW.weaken (U1 (l:=[(3,A8 o R.length)]) ⟨rfl,trivial⟩) (Sub.refl _) (c_fmZ R o c3 ho hn hRl hRb)
theorem c_PFormat(r:Ru)(hB:r.sz<=3000000):PC Tryz.prog 9 [r.v] (.str (C2r r)):=by
 have hv:=c_Valid r (by omega);refine PC.go B1 ?_;unfold C2r;cases hb:Z9 r with
 |false =>
  rw[hb]at hv;rw[if_neg A1P];repeat' ((with_reducible first|refine wr ?_|refine cpc hv ?_|refine A1 ?_ ?_|refine wb2 ?_ ?_<;>(intro hb;try simp only[hb])|fail)<;>try simp only[go_sem,seval])
  exact B3 rfl
 |true =>
  rw[hb]at hv;rw[if_pos rfl];have hR:=D2s hb;have hsh:=C8w r;have hl:=(B0s r).1;have hlen:(txT (ruT r)).length<=1000000000:=by unfold txT;rw[A0E];omega
  generalize txT (ruT r)=R at hR hsh hlen ⊢;unfold Z9 at hb;simp only[A0D,A0F]at hb;obtain⟨⟨⟨hd,hm⟩,h1⟩,h2⟩:=hb;have hbod:∀ m∈r.modes, ∀ h∈m.hds,Pb.St.szs h.body<=4000000:=fun m hm h hh=>by
   have e1:h.sz<=(m.hds.map Hd.sz).sum:=H6 hh;have e2:m.sz<=(r.modes.map Md.sz).sum:=H6 hm;have e3:h.sz=1+h.name.length+Pb.St.szs h.body:=rfl;have e4:m.sz=1+m.name.length+(m.hds.map Hd.sz).sum:=rfl;have e5:r.sz=(r.decls.map Dc.sz).sum+(r.modes.map Md.sz).sum:=rfl;omega
  repeat' ((with_reducible first|refine G0 (p:=IW _ _ (pz Tryz.prog 9 (.i (.o (.i .h)))) _ _) ?_|refine wr ?_|refine cpc hv ?_|refine A1 ?_ ?_|refine wb2 ?_ ?_<;>(intro hb;try simp only[hb])|fail)<;>try simp only[go_sem,seval])
  unfold V8;refine IW.weaken (U1 (l:=[(1,.ptr 0 0),(3,.snil)]) ⟨rfl,rfl,trivial⟩) (Sub.refl _) ?_;exact c_fmD r.decls r.modes R (r.modes.flatMap mdL) (by omega) (fun d hd=>A0Q.1 h1 d hd) hlen (fun o cur c ho hn hc hR2=>c_fmM r.decls r.modes R (by omega) (fun m hm=>A0Q.1 h2 m hm) hbod hlen hsh o cur c ho hn hc hR2) hR
end Go.Proofs.YtmmjlijdfhkdcaaGreatDoor
set_option maxHeartbeats 8000000
namespace Go.Proofs.YtmmjlijdfhkdcaaGreatDoor
open Go.Sym Go.Pb
def B9p(f:Nat)(a:List DV):Option DV :=
 if f == 140 then match a with
  |[.str s]=>if s == B9u then some (.lst (E9.map DV.str)) else none
  |_=>none
 else if f == 167 then match a with
  |[.str s,.int .u8 z]=>if ((UInt8.ofNat z.toNat).toNat:Int) == z then some (I64 (Lib.indexByte s (UInt8.ofNat z.toNat))) else none
  |_=>none
 else if f == 166 then match a with
  |[.str s,.int .i64 x,.int .i64 y]=>if x == 10 && y == 64 && s != [] && Nat.ble s.length 100 && s.all dgB && Nat.ble (S9 s) 9223372036854775807 then some (.tup [I64 (S9 s),.inil]) else none
  |_=>none
 else none
theorem A7k:B9r Tryz.prog B9p:=by
 intro f a r h;unfold B9p at h;split at h
 ·rename_i e;obtain rfl:=eq_of_beq e;split at h
  ·split at h
   ·rename_i e;obtain rfl:=eq_of_beq e;cases h;exact c_Fields
   ·cases h
  ·cases h
 ·split at h
  ·rename_i e;obtain rfl:=eq_of_beq e;split at h
   ·split at h
    ·rename_i s z e;cases h;have:=c_IndexByte s (UInt8.ofNat z.toNat)
     rwa [eq_of_beq e]at this
    ·cases h
   ·cases h
  ·split at h
   ·rename_i e;obtain rfl:=eq_of_beq e;split at h
    ·split at h
     ·rename_i s x y e;simp only[A0D,A1I,bne_iff_ne,ne_eq,A0Q]at e;obtain⟨⟨⟨⟨⟨e1,e2⟩,e3⟩,e4⟩,e5⟩,e6⟩:=e;cases h;subst e1 e2;exact c_ParseOk s (A1O (A0C e4) (by decide)) e5 e3 (A0C e6)
     ·cases h
    ·cases h
   ·cases h
def sl1:List UInt8:=[49,43,50,42,120]
def sl2:List UInt8:=[40,49,43,50,41,42,120]
def sl3:List UInt8:=[108,97,109,112,32,108,32,51,59,32,109,111,100,101,32,109,32,49,32,123,32,111,110,32,115,116,97,114,116,32,123,32,108,105,103,104,116,32,108,32,56,59,32,125,32,125]
def se1:Ex:=.mk 15 0 [] [.mk 1 1 [] [] 0,.mk 12 0 [] [.mk 1 2 [] [] 2,.mk 2 0 [120] [] 4] 3] 1
def se2:Ex:=.mk 12 0 [] [.mk 15 0 [] [.mk 1 1 [] [] 1,.mk 1 2 [] [] 3] 2,.mk 2 0 [120] [] 6] 5
def sr3:Ru:=⟨[⟨3,[108],3,0⟩],[⟨[109],1,[⟨1,[],[.mk 8 [108] [] [.mk 1 8 [] [] 40] [] [] 32],21⟩],10⟩]⟩
theorem p1:PC Tryz.prog 33 [.str sl1] (.tup [se1.v,I64 0,I64 0]):=PC.runF B1 B9p A7k 3000 60 [347,201] _ _ _ rfl rfl (by kernel_rfl)
theorem p2:PC Tryz.prog 33 [.str sl2] (.tup [se2.v,I64 0,I64 0]):=PC.runF B1 B9p A7k 3000 60 [288,608] _ _ _ rfl rfl (by kernel_rfl)
theorem p3:PC Tryz.prog 34 [.str sl3] (.tup [sr3.v,I64 0,I64 0]):=PC.runF B1 B9p A7k 3000 60 [217,863,889,957,1006] _ _ _ rfl rfl (by kernel_rfl)
theorem c_sane31:PC Tryz.prog 11 [] (.bool true):=PC.run B1 (A0l [(_,_,_),(_,_,_),(_,_,_),(_,_,_),(_,_,_),(_,_,_)] B9p) (B3b A7k _ fun x hx=>by
 simp only[A1E,A2F,or_false]at hx;rcases hx with rfl|rfl|rfl|rfl|rfl|rfl
 ·exact p1
 ·exact p2
 ·exact p3
 ·exact c_PFormatE se2 (by decide)
 ·exact c_PFormat sr3 (by decide)
 ·exact c_Valid sr3 (by decide)) 3000 60 _ _ _ rfl rfl (by kernel_rfl)
open Go.Eng (IC IOper DReg IFn M8)
theorem c_inn{X:Hp}{c m0 rb xb i a0 a1 a2 a3:Nat}{D:List Dc}{Q Q0:List MO}{T:Tm}(hI:LI X c m0 rb xb D a0 a1 a2 a3 Q)(hR:RelQ Q Q0 i 0)(hil:i<Q0.length)(h0:a0<256)(h1:a1<256)(h2:a2<256)(h3:a3<256)
  (hl:∀ x∈Q0,x.l.length<=32/\∀ y∈x.l,y.1.sz<=1000000) (hT:C5 [(3,.ptr xb 0),(5,.ptr rb 0),(8,I64 i),(9,I64 0)] T) (P:Exit->Go.Sym.St->Prop)
  (next:∀ (X':Hp) (c':Nat) (Q':List MO) (k:Nat),LI X' c' m0 rb xb D a0 a1 a2 a3 Q'->RelQ Q' Q0 i k->c<=c'->∀ T,C5 [(3,.ptr xb 0),(5,.ptr rb 0),(8,I64 i)] T->P (.exit 2) ⟨T,X',c'⟩) :
  IW Tryz.prog 175 (.loop (pz Tryz.prog 3 (.o (.i (.i (.o .h)))))) ⟨T,X,c⟩ P:=by
 refine D4 (fun q:Nat × List MO × Hp=>[(3,.ptr xb 0),(5,.ptr rb 0),(8,I64 i),(9,I64 q.1)]) (fun q=>q.2.2) (fun q c'=>LI q.2.2 c' m0 rb xb D a0 a1 a2 a3 q.2.1/\RelQ q.2.1 Q0 i q.1/\c<=c') (fun q=>32-q.1) (0,Q,X) hT (Sub.refl _) ⟨hI,hR,A0J _⟩ ?_;clear hI hR hT;rintro⟨k,Q,X⟩ cc ⟨hI,hR,hcc⟩;dsimp only at hI hR hcc ⊢;have hiQ:i<Q.length:=by rw[hR.len];exact hil
 obtain⟨x,hx⟩:∃ x,Q[i]? = some x:=⟨Q[i],A0B hiQ⟩;obtain⟨x0,hx0⟩:∃ x,Q0[i]? = some x:=⟨Q0[i],A0B hil⟩;obtain⟨-,r2,r3,r4⟩:=hR.row i x x0 hx hx0;obtain⟨l1,l2⟩:=hl x0 (A0M hx0);have hX:=hI.ox.row x (A0M hx);have hr:=hI.r;have hbk:=hI.ox.blk;have hmo:=B7m hx;have hlen:A1v (A8 x.o x.l.length)=some (I64 x.l.length):=by
  cases e:x.o with
  |none=>rw[hX.nil e];rfl
  |some b=>rfl
 by_cases hk:k<x.l.length
 ·have hdk:decide ((k:Int)<(x.l.length:Int))=true:=by simpa using hk
  obtain⟨y,hy⟩:∃ y,x.l[k]? = some y:=⟨x.l[k],A0B hk⟩;obtain⟨y0,hy0⟩:∃ y,x0.l[k]? = some y:=⟨x0.l[k]'(by omega),A0B (by omega)⟩;obtain⟨-,r5⟩:=r4 k y y0 hy hy0;have r5:=r5 (by unfold A8v;omega);have hB:y.1.sz<=1000000:=by rw[r5];exact l2 y0 (A0M hy0)
  have hw:IntKind.i64.wrap ((k:Int)+1)=((k+1:Nat):Int):=by rw[w6z (by omega)];rfl
  have hym:=A0M hy;obtain⟨hb,ho⟩:∃ b,x.o=some b:=by
   cases e:x.o with
   |none=>rw[hX.nil e]at hk;exact absurd hk (A2L _)
   |some b=>exact⟨b,rfl⟩
  obtain⟨b1,b2⟩:=hX.own hb ho;rw[ho,P3]at hmo hlen;have hho:=C6c hy;have hbl:A1v (A8 y.2 y.1.body.length)=some (I64 y.1.body.length):=by
   cases e:y.2 with
   |none=>rw[((hX.row y hym).1 e)];rfl
   |some b=>rfl
  by_cases he:y.1.body.length=0
  ·have hd0:((y.1.body.length:Int) == 0)=true:=by rw[he];rfl
   repeat' ((with_reducible first|refine wr ?_|refine A1 ?_ ?_|refine wb2 ?_ ?_<;>(intro hb;try simp only[hb])|fail)<;>try simp only[go_sem,seval,hr,hbk,b2,hmo,hho,hlen,hbl,hdk,hiQ,hk,hd0,hw])
   exact⟨(k+1,Q,X),by simp[C5,tm,Tm.upd],Sub.refl _,⟨hI,hR.skip,hcc⟩,by simp only;omega⟩
  ·have hd0:((y.1.body.length:Int) == 0)=false:=by simpa using he
   obtain⟨bb,hb'⟩:∃ b,y.2=some b:=by
    cases e:y.2 with
    |none=>rw[(hX.row y hym).1 e]at he;exact absurd rfl he
    |some b=>exact⟨b,rfl⟩
   rw[hb',P3]at hho hbl;have hxx:=hI.x;have hnl:a0 % y.1.body.length<y.1.body.length:=Nat.mod_lt _ (by omega);have hw0:IntKind.i64.wrap (a0:Int)=(a0:Int):=w6z (by omega);have hrm:binR .rem (.int .i64 (a0:Int)) (I64 y.1.body.length)=some (I64 ((a0 % y.1.body.length:Nat):Int)):=by rw[A0i (by simpa using he)];rfl
   have hrm7:binR .rem (.int .u8 (a1:Int)) (.int .u8 7)=some (.int .u8 ((a1 % 7:Nat):Int)):=by rw[A0i (by decide)];rfl
   repeat' ((with_reducible first|refine G0 (p:=IW _ _ (pz Tryz.prog 3 (.i (.i (.o (.i (.o .h)))))) _ _) ?_|refine wr ?_|refine A1 ?_ ?_|refine wb2 ?_ ?_<;>(intro hb;try simp only[hb])|fail)<;>try simp only[go_sem,seval,hr,hbk,b2,hmo,hho,hlen,hbl,hdk,hiQ,hk,hd0,hw,hxx,hw0,hrm,hrm7,hnl])
   unfold V8;refine c_sw hI hx hy ho hb' (s:=y.1.body[a0 % y.1.body.length]) (A0B hnl) (Nat.mod_lt _ (by decide)) h2 h3 _ (by omega) fun X0 X' c' y' g hI' hs hc2 T hT=>?_;show IW Tryz.prog 175 (pz Tryz.prog 3 (.o (.o (.i (.o (.o (.o .h))))))) ⟨T,X0,c'⟩ _;refine IW.keep [3,5,8,9] [.ptr xb 0,.ptr rb 0,I64 i,I64 k] (by rw[show [3,5,8,9].map T=[.ptr xb 0,.ptr rb 0,I64 i,I64 k] from A7n hT];exact g _) ?_;show IW Tryz.prog 175 (pz Tryz.prog 3 (.o (.o (.i (.o (.o (.o .h))))))) ⟨tm [(3,.ptr xb 0),(5,.ptr rb 0),(8,I64 i),(9,I64 k)],X',c'⟩ _;repeat' ((with_reducible first|refine wr ?_|refine A1 ?_ ?_|refine wb2 ?_ ?_<;>(intro hb;try simp only[hb])|fail)<;>try simp only[go_sem,seval,hw])
   exact⟨(k+1,Q.set i (x.put k y'),X'),by simp[C5,tm,Tm.upd],Sub.refl _,⟨hI',hR.put hx hy hs,A1O hcc hc2⟩,by simp only;omega⟩
 ·have hdk:decide ((k:Int)<(x.l.length:Int))=false:=by simpa using hk
  repeat' ((with_reducible first|refine wr ?_|refine A1 ?_ ?_|refine wb2 ?_ ?_<;>(intro hb;try simp only[hb])|fail)<;>try simp only[go_sem,seval,hr,hbk,hmo,hlen,hdk,hiQ])
  exact next _ _ _ _ hI hR hcc _ (by simp[C5,tm,Tm.upd])
theorem c_out{X:Hp}{c m0 rb xb a0 a1 a2 a3:Nat}{D:List Dc}{Q0:List MO}{T:Tm}(hI:LI X c m0 rb xb D a0 a1 a2 a3 Q0)(hR:RelQ Q0 Q0 0 0)(hQ:Q0.length<=16)(h0:a0<256)(h1:a1<256)(h2:a2<256)(h3:a3<256)
  (hl:∀ x∈Q0,x.l.length<=32/\∀ y∈x.l,y.1.sz<=1000000) (hT:C5 [(3,.ptr xb 0),(5,.ptr rb 0),(8,I64 (0:Nat))] T) (P:Exit->Go.Sym.St->Prop)
  (next:∀ (X':Hp) (c':Nat) (Q':List MO) (i:Nat),LI X' c' m0 rb xb D a0 a1 a2 a3 Q'->RelQ Q' Q0 i 0->c<=c'->∀ T,C5 [(3,.ptr xb 0),(5,.ptr rb 0)] T->P (.exit 0) ⟨T,X',c'⟩) :
  IW Tryz.prog 175 (.loop (pz Tryz.prog 3 (.o (.i (.o .h))))) ⟨T,X,c⟩ P:=by
 refine D4 (fun q:Nat × List MO × Hp=>[(3,.ptr xb 0),(5,.ptr rb 0),(8,I64 q.1)]) (fun q=>q.2.2) (fun q c'=>LI q.2.2 c' m0 rb xb D a0 a1 a2 a3 q.2.1/\RelQ q.2.1 Q0 q.1 0/\c<=c') (fun q=>16-q.1) (0,Q0,X) hT (Sub.refl _) ⟨hI,hR,A0J _⟩ ?_;clear hI hR hT;rintro⟨i,Q,X⟩ cc ⟨hI,hR,hcc⟩;dsimp only at hI hR hcc ⊢;have hr:=hI.r;by_cases hi:i<Q.length
 ·have hil:i<Q0.length:=by rw[<- hR.len];exact hi
  have hdk:decide ((i:Int)<(Q.length:Int))=true:=by simpa using hi
  have hw:IntKind.i64.wrap ((i:Int)+1)=((i+1:Nat):Int):=by rw[w6z (by omega)];rfl
  repeat' ((with_reducible first|refine wr ?_|refine A1 ?_ ?_|refine wb2 ?_ ?_<;>(intro hb;try simp only[hb])|fail)<;>try simp only[go_sem,seval,hr,hdk])
  refine c_inn hI hR hil h0 h1 h2 h3 hl (by simp[C5,tm,Tm.upd]) _ fun X' c' Q' k hI' hR' hc2 T hT=>?_;show IW Tryz.prog 175 (pz Tryz.prog 3 (.i (.o (.i (.o (.o (.o .h))))))) ⟨T,X',c'⟩ _;refine IW.weaken (U1 hT) (Sub.refl _) ?_;repeat' ((with_reducible first|refine wr ?_|refine A1 ?_ ?_|refine wb2 ?_ ?_<;>(intro hb;try simp only[hb])|fail)<;>try simp only[go_sem,seval,hw])
  exact⟨(i+1,Q',X'),by simp[C5,tm,Tm.upd],Sub.refl _,⟨hI',hR'.next,A1O hcc hc2⟩,by simp only;omega⟩
 ·have hdk:decide ((i:Int)<(Q.length:Int))=false:=by simpa using hi
  repeat' ((with_reducible first|refine wr ?_|refine A1 ?_ ?_|refine wb2 ?_ ?_<;>(intro hb;try simp only[hb])|fail)<;>try simp only[go_sem,seval,hr,hdk])
  exact next _ _ _ _ hI hR hcc _ (by simp[C5,tm,Tm.upd])
theorem LI.done{X:Hp}{c m0 rb xb:Nat}{D:List Dc}{a0 a1 a2 a3:Int}{Q:List MO}(h:LI X c m0 rb xb D a0 a1 a2 a3 Q)(ds:List DV):∃ X',GL X ds X' ds/\X' rb=some ⟨0,true,[E3 D,H3 (Q.map (·.m))]⟩:=by
 obtain⟨X1,g1,e1,e2⟩:=A5p (ds:=ds) Q [] X (by rw[h.ox.blk];rfl) h.ox.row h.ox.nd;have hrm:¬ m0=rb:=fun e=>by have:=h.r;rw[<- e,h.ox.blk]at this;simp at this
 have hrq:rb ∉ Q.flatMap MO.ids:=fun e=>by
  obtain⟨x,hx,hr⟩:=A2X.1 e;rcases A0W.1 hr with hj|hj
  ·have:=((h.ox.row x hx).own rb (by simpa using hj)).2;rw[h.r]at this;simp at this
  ·obtain⟨y,hy,e⟩:=A1G.1 hj;have:=(((h.ox.row x hx).row y hy).2 rb e).2;rw[h.r]at this;simp at this
 have e3:X1 rb=some ⟨0,true,[E3 D]++[.slc m0 0 Q.length]++[]⟩:=by rw[e2 rb (Ne.symm hrm) hrq];exact h.r
 exact⟨_,g1.trans (D1n (xs:=(Q.map (·.m)).map Md.v) (u:=4) (u':=4) (junk:=[]) e3 (by rw[A1H];exact e1) (by simp[DV.one]) (by rw[A0E,A0E]) (A7f _) hrm),A0⟩
theorem c_tail{X:Hp}{c rb:Nat}{D:List Dc}{M:List Md}(hX:X rb=some ⟨0,true,[E3 D,H3 M]⟩)(hfr:∀ j,c<=j->X j=none)(hB:(⟨D,M⟩:Ru).sz<=3000000):IW Tryz.prog 175 (pz Tryz.prog 3 (.o (.i (.i (.o (.o (.o .h))))))) ⟨tm [(5,.ptr rb 0)],X,c⟩ (rt [.tmp 4] fun v H' x => ∃ H2,GL H' [v] H2 [.bool true]):=by
 have hv:(⟨D,M⟩:Ru).v=.agg [E3 D,H3 M]:=rfl;have p1:=c_Valid ⟨D,M⟩ (by omega);have p2:=c_ValidR31 ⟨D,M⟩ (by omega);have p3:=c_PFormat ⟨D,M⟩ hB;have p4:=c_RFormat ⟨D,M⟩ hB;have p5:=c_sane31;rw[B6e]at p2;rw[hv]at p1 p2 p3 p4;generalize Z9 ⟨D,M⟩=b at p1 p2;generalize C2r ⟨D,M⟩=f at p3 p4;have fz:∀ j,X (c+j)=none:=fun j=>hfr _ (by omega);have q1:(b == b)=true:=by simp
 have q2:(f == f)=true:=by simp
 have q3:(false != true)=true:=rfl;repeat' ((with_reducible first|refine wr ?_|refine cpc p1 ?_|refine cpc p2 ?_|refine cpc p3 ?_|refine cpc p4 ?_|refine cpc p5 ?_|refine A1 ?_ ?_|refine wb2 ?_ ?_<;>(intro hb;try simp only[hb])|fail)<;>try simp only[go_sem,seval,hX,fz,q1,q2,q3])
 exact⟨_,GL.refl _ _⟩
theorem c_SyntaxMade(l:List UInt8)(hl:l.length<=9223372036854775807)(a0 a1 a2 a3:Nat)(h0:a0<256)(h1:a1<256)(h2:a2<256)(h3:a3<256):PC Tryz.prog 3 [.lst (bytesC l),.agg [.int .u8 (a0:Int),.int .u8 (a1:Int),.int .u8 (a2:Int),.int .u8 (a3:Int)]] (.bool true):=by
 refine PC.ofT B1 rfl (A0C rfl) (by simp[DV.nlL,DV.nl,show DV.nlL (bytesC l)=true from O3 (fun _=>rfl) l]) rfl ?_;repeat' ((with_reducible first|refine wr ?_|refine A1 ?_ ?_|refine wb2 ?_ ?_<;>(intro hb;try simp only[hb])|fail)<;>try simp only[go_sem,seval])
 refine AC.call (D5z l hl _ _) ?_;rintro v' H' c3 ⟨t,L,hL,ht1,ht2,rfl,rfl⟩ hc3;have s0:=B5r L hL 0 (by omega) 0 (by omega) 0 (by omega) (.inl (by omega));have s1:=B5r L hL 0 (by omega) 15010 (by omega) 1 (by omega) (.inr (f_block L hL _ _ (by omega) 0 s0));have s2:=B5r L hL 0 (by omega) 105070 (by omega) 2 (by omega) (.inr (f_block L hL _ _ (by omega) 1 s1));have hH:=fun k hk=>f_handler L hL 0 (by omega) k hk _ (by omega) (f_block L hL _ _ (by omega) 2 s2);have hR:=f_rules L hL _ _ (by omega) hH;clear s0 s1 s2 hH;simp only[go_sem,seval];repeat' ((with_reducible first|refine wr ?_|refine A1 ?_ ?_|refine wb2 ?_ ?_<;>(intro hb;try simp only[hb])|fail)<;>try simp only[go_sem,seval])
 refine AC.call (hR _ _ t 0 A0 (by omega) (by omega)) ?_;rintro v' H' c4 ⟨s,j,hsl,hj,rfl,rfl⟩ hc4;simp only[go_sem,seval];repeat' ((with_reducible first|refine wr ?_|refine A1 ?_ ?_|refine wb2 ?_ ?_<;>(intro hb;try simp only[hb])|fail)<;>try simp only[go_sem,seval])
 refine AC.call (c_ParseM s (by omega) _ _) ?_;rintro v' H' c5 ⟨o,Q0,G,dv1,dv2,q1,q2,q3,q4,rfl,rfl⟩ hc5;have hsz:=C5b s;have hn32:=C1t s;generalize (A4m s).1=R at q1 hsz hn32 ⊢;have hS:(R.decls.map Dc.sz).sum+(R.modes.map Md.sz).sum<=900000:=hsz;have kt:=fun (M:List Md) (c':Nat) (h1:c5<c') (h2:(R.decls.map Dc.sz).sum+(M.map Md.sz).sum<=3000000)=>c_tail (X:=Sym.nil.upd c5 ⟨0,true,[E3 R.decls,H3 M]⟩) (c:=c') (rb:=c5) (D:=R.decls) (M:=M) A0 (fun j hj=>by rw[hnO];rfl) h2;have hN:∀ j,c5<=j->G j=none:=fun j hj=>q4.none hc5 hj;cases o with
 |none =>
  obtain rfl:=q2 rfl;have hm:R.modes=[]:=q1.symm;simp only[go_sem,seval];repeat' ((with_reducible first|refine wr ?_|refine A1 ?_ ?_|refine wb2 ?_ ?_<;>(intro hb;try simp only[hb])|fail)<;>try simp only[go_sem,seval])
  refine D4 (fun _:Unit=>[(3,.ptr 0 0),(5,.ptr c5 0),(8,I64 0)]) (fun _=>G.upd c5 ⟨0,true,[E3 R.decls]++[.snil]++[]⟩) (fun _ c=>c=c5+1) (fun _=>0) () (by simp[C5,tm,Tm.upd]) (fun k b hk=>by rw[A2];exact hk) rfl ?_;intro _ c hc;subst hc;have hr:(G.upd c5 ⟨0,true,[E3 R.decls]++[.snil]++[]⟩) c5=some ⟨0,true,[E3 R.decls,.snil]⟩:=A0;have g:=A5o (ds:=[.ptr c5 0]) (pre:=[E3 R.decls]) (suf:=[]) hr;repeat' ((with_reducible first|refine G0 (p:=IW _ _ (pz Tryz.prog 3 (.o (.i (.i (.o (.o (.o .h))))))) _ _) ?_|refine wr ?_|refine A1 ?_ ?_|refine wb2 ?_ ?_<;>(intro hb;try simp only[hb])|fail)<;>try simp only[go_sem,seval,hr])
  unfold V8;refine IW.keep [5] [.ptr c5 0] g ?_;exact IW.weaken (fun _=>.inr rfl) (fun j b hj=>by
    by_cases e1:j=c5
    ·subst e1;rw[A0]at hj;rw[A0];exact hj
    ·rw[A6 e1]at hj;cases hj) (kt [] (c5+1) (by omega) (by simp only[List.map_nil,List.sum_nil];omega))
 |some m0 =>
  obtain⟨m1,m2⟩:=q3 m0 rfl;simp only[go_sem,seval];repeat' ((with_reducible first|refine G0 (p:=IW _ _ (pz Tryz.prog 3 (.o (.i (.o .h)))) _ _) ?_|refine wr ?_|refine A1 ?_ ?_|refine wb2 ?_ ?_<;>(intro hb;try simp only[hb])|fail)<;>try simp only[go_sem,seval])
  have hI:LI (((G.upd m0 ⟨4,true,A3 (Q0.map moV)⟩).upd c5 ⟨0,true,[.snil,.snil]⟩).upd c5 ⟨0,true,[E3 R.decls,.slc m0 0 Q0.length]⟩) (c5+1) m0 c5 0 R.decls a0 a1 a2 a3 Q0:=by
   rw[A2];have hB:∀ i,i<c5->¬ i=m0->((G.upd m0 ⟨4,true,A3 (Q0.map moV)⟩).upd c5 ⟨0,true,[E3 R.decls,.slc m0 0 Q0.length]⟩) i=G i:=fun i e1 e2=>by rw[hnO,A6 e2]
   refine⟨⟨by rw[hnO];exact A0,fun x hx=>?_,q4.nd⟩,A0,?_,fun j hj=>by rw[hnO,hnO];exact hN j (by omega)⟩
   ·have k:=q4.row x hx;refine⟨k.hds,k.nil,fun i e=>?_,fun y hy=>⟨(k.row y hy).1,fun i e=>?_⟩⟩
    ·obtain⟨e1,e2,e3,e4⟩:=k.own i e;have e5:¬ i=m0:=fun e=>e3 (by rw[e]);exact⟨e5,by rw[hB i e2 e5];exact e4⟩
    ·obtain⟨e1,e2,e3,e4⟩:=(k.row y hy).2 i e;have e5:¬ i=m0:=fun e=>e3 (by rw[e]);exact⟨e5,by rw[hB i e2 e5];exact e4⟩
   ·rw[hB 0 (by omega) (by omega),q4.base 0 (by omega),hnO,hnO];exact A0
  have hmm:∀ x∈Q0,x.m∈R.modes:=fun x hx=>by rw[<- q1];exact A1L.2 ⟨x,hx,rfl⟩
  have hQl:Q0.length<=16:=by have:=hn32.1;rw[<- q1,A0E]at this;exact this
  have hll:∀ x∈Q0,x.l.length<=32:=fun x hx=>by
   have h1:=hn32.2 x.m (hmm x hx);rw[<- (q4.row x hx).hds,A0E]at h1;exact h1
  refine c_out hI (RelQ.zero fun x hx=>(q4.row x hx).hds) hQl h0 h1 h2 h3 (fun x hx=>⟨hll x hx,fun y hy=>?_⟩) (by simp[C5,tm,Tm.upd]) _ fun X' c' Q' i hI' hR' hcc T hT=>?_
  ·have k1:y.1∈x.m.hds:=by rw[<- (q4.row x hx).hds];exact A1L.2 ⟨y,hy,rfl⟩
   have k2:y.1.sz<=(x.m.hds.map Hd.sz).sum:=H6 k1;have k3:x.m.sz<=(R.modes.map Md.sz).sum:=H6 (hmm x hx);have k4:x.m.sz=1+x.m.name.length+(x.m.hds.map Hd.sz).sum:=rfl;omega
  ·have k1:=hR'.sz (fun x hx=>⟨(q4.row x hx).hds,hll x hx⟩) hQl;rw[q1]at k1;obtain⟨X2,g,e⟩:=hI'.done [.ptr c5 0];show IW Tryz.prog 175 (pz Tryz.prog 3 (.o (.i (.i (.o (.o (.o .h))))))) ⟨T,X',c'⟩ _;refine IW.keep [5] [.ptr c5 0] (by rw[show [5].map T=[.ptr c5 0] from congrArg (· :: []) hT.2.1];exact g) ?_;exact IW.weaken (fun _=>.inr rfl) (fun j b hj=>by
    by_cases e1:j=c5
    ·subst e1;rw[A0]at hj;rw[e];exact hj
    ·rw[A6 e1]at hj;cases hj) (kt (Q'.map (·.m)) c' (by omega) (by omega))
end Go.Proofs.YtmmjlijdfhkdcaaGreatDoor
end
