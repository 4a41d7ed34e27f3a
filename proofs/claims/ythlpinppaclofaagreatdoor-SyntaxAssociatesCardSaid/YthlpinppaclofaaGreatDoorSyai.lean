/-
  HELPERS of the claim: part 9 of its texts.
-/
import Derived.Test.YthlpinppaclofaaGreatDoorSyah
noncomputable section
set_option maxHeartbeats 4000000
set_option maxRecDepth 100000
set_option linter.unusedSimpArgs false
set_option linter.unusedVariables false
namespace Go.Proofs.YthlpinppaclofaaGreatDoor
open Go.Eng (IC IOper DReg IFn G0)
open Go.Sym Go.Pb
theorem c_fmZ (R:List (List UInt8)) (o:Option Nat) (c:Nat) (ho:∀ i,o=some i->i<c) (hn:o=none->R=[]) (hl:R.length<=1000000000) (hb:∀ t∈R,t.length<=100000) :
  IW Tryz.prog 105 (pz Tryz.prog 25 (.o (.o (.o (.i (.i (.o .h))))))) ⟨tm [(3,B6 o R.length)],C8 Sym.nil o ⟨1,true,R.map DV.str⟩,c⟩ (rt [.tmp 2] fun v H' _ => ∃ H2,GL H' [v] H2 [.str (O5 R)]):=by
 have hL:=c_lines R hl hb;rcases o with _|id
 ·obtain rfl:=hn rfl;repeat' ((with_reducible first|refine wr ?_|refine A2 ?_ ?_|fail)<;>try simp only [go_sem,seval])
  refine AC.call (hL.give (H0:=Sym.nil) ⟨fun _ h=>h,fun ρ w vs h1 h2=>⟨ρ,rfl,h1,?_,Ext.refl _ _ _⟩⟩) ?_
  ·exact ⟨h2.1,fun i x y hx hy=>by
    match i with
    | 0=>cases hx;exact (h2.2 0 _ y rfl hy).snil_lst
    | _+1=>cases hx⟩
  ·rintro v H' c' ⟨rfl,rfl,rfl⟩ -;simp only [go_sem,seval];repeat' ((with_reducible first|refine wr ?_|refine A2 ?_ ?_|fail)<;>try simp only [go_sem,seval])
   exact A5 rfl
 ·repeat' ((with_reducible first|refine wr ?_|refine A2 ?_ ?_|fail)<;>try simp only [go_sem,seval])
  refine AC.call (hL.give (H0:=Sym.nil) (GL.one (id:=id) A0 rfl (.cons _ _ _ _ (I8 (u:=1) (by rw [List.length_map]) (N7 _) ⟨[],by rw [W1];simp⟩) .nil))) ?_;rintro v H' c' ⟨rfl,rfl,rfl⟩ -;simp only [go_sem,seval];repeat' ((with_reducible first|refine wr ?_|refine A2 ?_ ?_|fail)<;>try simp only [go_sem,seval])
  exact A5 rfl
abbrev A5t (ds:List Dc) (ms:List Md):Blk:=⟨0,true,[V6 ds,A6d ms]⟩
theorem U0 {M:Hp} {x y z c:Nat} {a b B0 Bc:Blk} (h0:M 0=some B0) (hc:M c=some Bc) (h1:0<c) (h2:c<x) (h3:x<y) (h4:y<z) :
  (((M.upd y a).del x).upd z b) 0=some B0/\(((M.upd y a).del x).upd z b) c=some Bc/\(((M.upd y a).del x).upd z b) z=some b:=by
 refine ⟨?_,?_,A0⟩
 ·rw [A3 (by omega)];simp only [Hp.del];rw [if_neg (by omega),A3 (by omega)];exact h0
 ·rw [A3 (by omega)];simp only [Hp.del];rw [if_neg (by omega),A3 (by omega)];exact hc
theorem c_fmD (ds:List Dc) (ms:List Md) (R rest:List (List UInt8)) (hds:ds.length<=1000) (hv:∀ d∈ds,A3v d=true) (hRl:R.length<=1000000000)
  (next:∀ (o:Option Nat) (cur:List (List UInt8)) (c:Nat),(∀ i,o=some i->0<i/\i<c)->(o=none->cur=[])->1<=c->R=cur++rest ->
   IW Tryz.prog 105 (pz Tryz.prog 25 (.o (.o (.i (.i (.o .h)))))) ⟨tm [(1,.ptr 0 0),(3,B6 o cur.length)],C8 (nil.upd 0 (A5t ds ms)) o ⟨1,true,cur.map DV.str⟩,c⟩ (rt [.tmp 2] fun v H' _ => ∃ H2,GL H' [v] H2 [.str (O5 R)]))
  (hR:R=ds.flatMap dcL++rest) :
  IW Tryz.prog 105 (pz Tryz.prog 25 (.i (.o (.i .h)))) ⟨tm [(1,.ptr 0 0),(3,.snil)],nil.upd 0 (A5t ds ms),1⟩ (rt [.tmp 2] fun v H' _ => ∃ H2,GL H' [v] H2 [.str (O5 R)]):=by
 repeat' ((with_reducible first|refine wr ?_|refine A2 ?_ ?_|fail)<;>try simp only [go_sem,seval,A0])
 refine X4 (fun q:Nat × Option Nat × List (List UInt8)=>[(1,.ptr 0 0),(3,B6 q.2.1 q.2.2.length),(14,V6 ds),(15,I64 ds.length),(16,I64 q.1)]) (fun q=>C8 (nil.upd 0 (A5t ds ms)) q.2.1 ⟨1,true,q.2.2.map DV.str⟩)
  (fun q cc=>q.1<=ds.length/\(∀ i,q.2.1=some i->0<i/\i<cc)/\(q.2.1=none->q.2.2=[])/\1<=cc/\R=q.2.2++((ds.drop q.1).flatMap dcL++rest)) (fun q=>ds.length-q.1) (0,none,[]) (fun b=>⟨rfl,rfl,rfl,rfl,rfl,trivial⟩) (by simp [D5,tm,Tm.upd,B6]) (Sub.refl _) ⟨Nat.zero_le _,by simp,by simp,by decide,hR⟩ ?_
 clear hR;rintro ⟨i,o,cur⟩ c ⟨hi,ho,hn,hc,hR⟩;simp only at hi ho hn hc hR;simp only;by_cases hlt:i<ds.length
 ·have hd:decide ((i:Int)<ds.length)=true:=by simpa using hlt
  have hg:=List.getElem?_eq_getElem hlt;have hw:IntKind.i64.wrap ((i:Int)+1)=((i+1:Nat):Int):=by rw [w6z (by omega)];omega
  have hvd:=hv _ (List.getElem_mem hlt);rw [List.drop_eq_getElem_cons hlt,List.flatMap_cons] at hR;obtain ⟨d,hd0⟩:∃ d,d=ds[i]:=⟨_,rfl⟩;rw [<- hd0] at hg hvd hR;have hgm:(ds.map Dc.v)[i]? = some d.v:=by rw [List.getElem?_map,hg];rfl
  unfold A3v at hvd;simp only [Bool.and_eq_true,decide_eq_true_eq] at hvd;obtain ⟨⟨⟨⟨k1,k2⟩,hnm⟩,v1⟩,v2⟩:=hvd;obtain ⟨j,hj⟩:∃ j:Nat,d.kind=1+(j:Int):=⟨(d.kind-1).toNat,by omega⟩;have hwj:IntKind.i64.wrap (d.kind-1)=(j:Int):=by rw [w6z (by omega)];omega
  have hjn:(d.kind-1).toNat=j:=by omega
  have hgj:(C4.map DV.str)[j]? = some (.str (C4.getD j [])):=by
   rw [List.getElem?_map,List.getD_eq_getElem?_getD,List.getElem?_eq_getElem (show j<C4.length from (by show j<8;omega))];rfl
  rw [dcL,hjn] at hR;generalize C4.getD j []=kw at hgj hR;repeat' ((with_reducible first|refine wr ?_|refine cpc c_pdecls ?_|refine A2 ?_ ?_|fail)<;>try simp only [go_sem,seval,A0,hd,hgm,hw])
  obtain ⟨M,hM⟩:∃ M,M=((C8 (nil.upd 0 (A5t ds ms)) o ⟨1,true,cur.map DV.str⟩).upd c ⟨0,true,[I64 0,.str [],I64 0,I64 0]⟩).upd c ⟨0,true,[I64 d.kind,.str d.name,I64 d.value,I64 d.pos]⟩:=⟨_,rfl⟩;rw [<- hM];have hMn:∀ j,c<j->M j=none:=fun j hj=>by
   rw [hM,A3 (by omega),A3 (by omega)];cases o with
   | none=>rw [opt_n,A3 (by omega)];rfl
   | some id=>have:=ho id rfl;rw [R4,A3 (by omega),A3 (by omega)];rfl
  have hMc:M c=some ⟨0,true,[I64 d.kind,.str d.name,I64 d.value,I64 d.pos]⟩:=by rw [hM];exact A0
  have hM0:M 0=some (A5t ds ms):=by
   rw [hM,A3 (by omega),A3 (by omega)];cases o with
   | none=>exact A0
   | some id=>have:=ho id rfl;rw [R4,A3 (by omega)];exact A0
  have hMo:∀ id,o=some id->M id=some ⟨1,true,cur.map DV.str⟩:=fun id hid=>by
   subst hid;have:=ho id rfl;rw [hM,A3 (by omega),A3 (by omega),R4];exact A0
  clear hM;refine ⟨by and_intros<;>exact hMn _ (by omega),?_⟩;simp only [go_sem,seval,hMc,hwj,hgj];have hcl:cur.length<=1000000000:=by
   have:=congrArg List.length hR;simp only [List.length_append] at this;omega
  refine K5 (H9 (cs:=cur.map DV.str) (fun e=>by rw [hn e];simp) (fun id hid=>by have:=ho id hid;rw [A3 (by omega)];exact hMo id hid) (by simp) (by omega) (by omega) (by omega)) ?_;obtain ⟨x,hx⟩:∃ x,x=c+1+12:=⟨_,rfl⟩;rw [<- hx];obtain ⟨M2,hM2⟩:∃ M2,M2=(U7 (M.upd (c+1+9) ⟨1,true,[.str kw,.str d.name]⟩) o).upd x ⟨1,true,cur.map DV.str++[.str kw,.str d.name]⟩:=⟨_,rfl⟩;rw [<- hM2];have e0:M2 0=some (A5t ds ms):=by
   rw [hM2,A3 (by omega)];cases o with
   | none=>show (M.upd _ _) 0=_;rw [A3 (by omega)];exact hM0
   | some id=>have:=ho id rfl;rw [O7,if_neg (by omega),A3 (by omega)];exact hM0
  have ec:M2 c=some ⟨0,true,[I64 d.kind,.str d.name,I64 d.value,I64 d.pos]⟩:=by
   rw [hM2,A3 (by omega)];cases o with
   | none=>show (M.upd _ _) c=_;rw [A3 (by omega)];exact hMc
   | some id=>have:=ho id rfl;rw [O7,if_neg (by omega),A3 (by omega)];exact hMc
  have el:M2 x=some ⟨1,true,(cur++[kw,d.name]).map DV.str⟩:=by rw [hM2,A0];simp
  clear hM2;have hxc:c<x:=by omega
  clear hx;obtain ⟨l2,hl2⟩:∃ l2,l2=cur++[kw,d.name]:=⟨_,rfl⟩;rw [<- hl2] at el;have hln:cur.length+2=l2.length:=by rw [hl2];simp
  rw [hln];have hl2l:l2.length<=1000000002:=by omega
  have ne0:=S3 0 c x (x+1) (x+1+1) (by omega);by_cases h7:d.kind<7
  ·have d7:decide (d.kind<7)=true:=by simpa using h7
   rw [if_pos h7] at hR;simp only [go_sem,seval,ec,el];by_cases hng:d.value<0
   ·have dn:decide (d.value<0)=true:=by simpa using hng
    have hwn:IntKind.i64.wrap (0-d.value) = -d.value:=by rw [w64 (by omega) (by split at v1<;>omega)];omega
    have hmx:(if -d.value>d.value then -d.value else d.value) = -d.value:=by rw [if_pos (by omega)]
    rw [if_pos hng,if_pos hng] at hR;repeat' ((with_reducible first|refine wr ?_|refine A2 ?_ ?_|fail)<;>try simp only [go_sem,seval,ne0,A0,e0,ec,el,d7,hw,dn,hwn,hmx])
    refine D3 (D0 (by simp) (by omega) (by omega)) ?_;simp only [go_sem,seval,ne0,A0];obtain ⟨f0,fc,f2⟩:=U0 (y:=x+1) (z:=x+1+1) (x:=x) (a:=⟨1,true,[.str [45]]⟩) (b:=⟨1,true,l2.map DV.str++[.str [45]]⟩) e0 ec (by omega) (by omega) (by omega) (by omega);obtain ⟨M3,hM3⟩:∃ M3,M3=((M2.upd (x+1) ⟨1,true,[.str [45]]⟩).del x).upd (x+1+1) ⟨1,true,l2.map DV.str++[.str [45]]⟩:=⟨_,rfl⟩;rw [<- hM3] at f0 fc f2 ⊢;clear hM3 e0 ec;obtain ⟨l3,hl3⟩:∃ l3,l3=l2++[[45]]:=⟨_,rfl⟩;have el3:M3 (x+1+1)=some ⟨1,true,l3.map DV.str⟩:=by rw [f2,hl3];simp
    clear f2;have e0:=f0;have ec:=fc;clear f0 fc;have hl3n:l2.length+1=l3.length:=by rw [hl3];simp
    rw [hl3n];obtain ⟨x3,hx3⟩:∃ x3,x3=x+1+1:=⟨_,rfl⟩;rw [<- hx3] at el3 ⊢;have ne0:=S3 0 c x3 (x3+1) (x3+1+1) (by omega);repeat' ((with_reducible first|refine wr ?_|refine A2 ?_ ?_|fail)<;>try simp only [go_sem,seval,ne0,A0,e0,ec,el3,d7,hw,dn,hwn,hmx])
    refine cpc (c_Itoa (-d.value) (by omega) (by split at v1<;>omega)) ?_;simp only [go_sem,seval,ne0,A0,el3];repeat' ((with_reducible first|refine wr ?_|refine A2 ?_ ?_|fail)<;>try simp only [go_sem,seval,ne0,A0,e0,ec,el3,d7,hw])
    refine D3 (D0 (by simp) (by omega) (by omega)) ?_;simp only [go_sem,seval,ne0,A0];obtain ⟨f0,fc,f2⟩:=U0 (y:=x3+1) (z:=x3+1+1) (x:=x3) (a:=⟨1,true,[.str (O8 (-d.value))]⟩) (b:=⟨1,true,l3.map DV.str++[.str (O8 (-d.value))]⟩) e0 ec (by omega) (by omega) (by omega) (by omega);obtain ⟨M4,hM4⟩:∃ M4,M4=((M3.upd (x3+1) ⟨1,true,[.str (O8 (-d.value))]⟩).del x3).upd (x3+1+1) ⟨1,true,l3.map DV.str++[.str (O8 (-d.value))]⟩:=⟨_,rfl⟩;rw [<- hM4] at f0 fc f2 ⊢;clear hM4 e0 ec;obtain ⟨l4,hl4⟩:∃ l4,l4=l3++[(O8 (-d.value))]:=⟨_,rfl⟩;have el4:M4 (x3+1+1)=some ⟨1,true,l4.map DV.str⟩:=by rw [f2,hl4];simp
    clear f2;have e0:=f0;have ec:=fc;clear f0 fc;have hl4n:l3.length+1=l4.length:=by rw [hl4];simp
    rw [hl4n];obtain ⟨x4,hx4⟩:∃ x4,x4=x3+1+1:=⟨_,rfl⟩;rw [<- hx4] at el4 ⊢;have ne0:=S3 0 c x4 (x4+1) (x4+1+1) (by omega);repeat' ((with_reducible first|refine wr ?_|refine A2 ?_ ?_|fail)<;>try simp only [go_sem,seval,ne0,A0,e0,ec,el4,d7,hw])
    refine D3 (D0 (by simp) (by omega) (by omega)) ?_;simp only [go_sem,seval,ne0,A0];repeat' ((with_reducible first|refine wr ?_|refine A2 ?_ ?_|fail)<;>try simp only [go_sem,seval,ne0,A0,hw])
    have e1:l4.length+1=(l4++[[59]]).length:=by simp
    rw [e1];obtain ⟨f0, -,f2⟩:=U0 (y:=x4+1) (z:=x4+1+1) (x:=x4) (a:=⟨1,true,[.str [59]]⟩) (b:=⟨1,true,l4.map DV.str++[.str [59]]⟩) e0 ec (by omega) (by omega) (by omega) (by omega);refine ⟨(i+1,some (x4+1+1),l4++[[59]]),⟨rfl,rfl⟩,GL.less' fun j b hj=>?_,inv ⟨hlt,(fun i h=>by cases h;omega),(fun h=>by cases h),by omega,by simp only;rw [hR,hl4,hl3,hl2];simp⟩,by simp only;omega⟩;simp only [R4] at hj;by_cases e:j=x4+1+1
    ·subst e;rw [A0] at hj;rw [f2, <- hj];simp
    ·rw [A3 e] at hj;by_cases e2:j=0
     ·subst e2;rw [A0] at hj;rw [f0, <- hj]
     ·rw [A3 e2] at hj;cases hj
   ·have dn:decide (d.value<0)=false:=by simpa using hng
    have hwn:IntKind.i64.wrap (0-d.value) = -d.value:=by rw [w64 (by split at v2<;>omega) (by omega)];omega
    have hmx:(if -d.value>d.value then -d.value else d.value)=d.value:=by
     by_cases h0 : -d.value>d.value
     ·omega
     ·rw [if_neg h0]
    rw [if_neg hng,if_neg hng] at hR;repeat' ((with_reducible first|refine wr ?_|refine A2 ?_ ?_|fail)<;>try simp only [go_sem,seval,ne0,A0,e0,ec,el,d7,hw,dn,hwn,hmx])
    refine cpc (c_Itoa d.value (by omega) (by split at v2<;>omega)) ?_;simp only [go_sem,seval,ne0,A0,el];repeat' ((with_reducible first|refine wr ?_|refine A2 ?_ ?_|fail)<;>try simp only [go_sem,seval,ne0,A0,e0,ec,el,d7,hw])
    refine D3 (D0 (by simp) (by omega) (by omega)) ?_;simp only [go_sem,seval,ne0,A0];obtain ⟨f0,fc,f2⟩:=U0 (y:=x+1) (z:=x+1+1) (x:=x) (a:=⟨1,true,[.str (O8 d.value)]⟩) (b:=⟨1,true,l2.map DV.str++[.str (O8 d.value)]⟩) e0 ec (by omega) (by omega) (by omega) (by omega);obtain ⟨M4,hM4⟩:∃ M4,M4=((M2.upd (x+1) ⟨1,true,[.str (O8 d.value)]⟩).del x).upd (x+1+1) ⟨1,true,l2.map DV.str++[.str (O8 d.value)]⟩:=⟨_,rfl⟩;rw [<- hM4] at f0 fc f2 ⊢;clear hM4 e0 ec;obtain ⟨l4,hl4⟩:∃ l4,l4=l2++[(O8 d.value)]:=⟨_,rfl⟩;have el4:M4 (x+1+1)=some ⟨1,true,l4.map DV.str⟩:=by rw [f2,hl4];simp
    clear f2;have e0:=f0;have ec:=fc;clear f0 fc;have hl4n:l2.length+1=l4.length:=by rw [hl4];simp
    rw [hl4n];obtain ⟨x4,hx4⟩:∃ x4,x4=x+1+1:=⟨_,rfl⟩;rw [<- hx4] at el4 ⊢;have ne0:=S3 0 c x4 (x4+1) (x4+1+1) (by omega);repeat' ((with_reducible first|refine wr ?_|refine A2 ?_ ?_|fail)<;>try simp only [go_sem,seval,ne0,A0,e0,ec,el4,d7,hw])
    refine D3 (D0 (by simp) (by omega) (by omega)) ?_;simp only [go_sem,seval,ne0,A0];repeat' ((with_reducible first|refine wr ?_|refine A2 ?_ ?_|fail)<;>try simp only [go_sem,seval,ne0,A0,hw])
    have e1:l4.length+1=(l4++[[59]]).length:=by simp
    rw [e1];obtain ⟨f0, -,f2⟩:=U0 (y:=x4+1) (z:=x4+1+1) (x:=x4) (a:=⟨1,true,[.str [59]]⟩) (b:=⟨1,true,l4.map DV.str++[.str [59]]⟩) e0 ec (by omega) (by omega) (by omega) (by omega);refine ⟨(i+1,some (x4+1+1),l4++[[59]]),⟨rfl,rfl⟩,GL.less' fun j b hj=>?_,inv ⟨hlt,(fun i h=>by cases h;omega),(fun h=>by cases h),by omega,by simp only;rw [hR,hl4,hl2];simp⟩,by simp only;omega⟩;simp only [R4] at hj;by_cases e:j=x4+1+1
    ·subst e;rw [A0] at hj;rw [f2, <- hj];simp
    ·rw [A3 e] at hj;by_cases e2:j=0
     ·subst e2;rw [A0] at hj;rw [f0, <- hj]
     ·rw [A3 e2] at hj;cases hj
  ·have d7:decide (d.kind<7)=false:=by simpa using h7
   rw [if_neg h7] at hR;simp only [go_sem,seval,ec,el];repeat' ((with_reducible first|refine wr ?_|refine A2 ?_ ?_|fail)<;>try simp only [go_sem,seval,ne0,A0,e0,ec,el,d7,hw])
   refine D3 (D0 (by simp) (by omega) (by omega)) ?_;simp only [go_sem,seval,ne0,A0];repeat' ((with_reducible first|refine wr ?_|refine A2 ?_ ?_|fail)<;>try simp only [go_sem,seval,ne0,A0,hw])
   have e1:l2.length+1=(l2++[[59]]).length:=by simp
   rw [e1];obtain ⟨f0, -,f2⟩:=U0 (y:=x+1) (z:=x+1+1) (x:=x) (a:=⟨1,true,[.str [59]]⟩) (b:=⟨1,true,l2.map DV.str++[.str [59]]⟩) e0 ec (by omega) (by omega) (by omega) (by omega);refine ⟨(i+1,some (x+1+1),l2++[[59]]),⟨rfl,rfl⟩,GL.less' fun j b hj=>?_,inv ⟨hlt,(fun i h=>by cases h;omega),(fun h=>by cases h),by omega,by simp only;rw [hR,hl2];simp⟩,by simp only;omega⟩;simp only [R4] at hj;by_cases e:j=x+1+1
   ·subst e;rw [A0] at hj;rw [f2, <- hj];simp
   ·rw [A3 e] at hj;by_cases e2:j=0
    ·subst e2;rw [A0] at hj;rw [f0, <- hj]
    ·rw [A3 e2] at hj;cases hj
 ·have hd:decide ((i:Int)<ds.length)=false:=by simpa using hlt
  rw [List.drop_eq_nil_of_le (by omega),List.flatMap_nil,List.nil_append] at hR;repeat' ((with_reducible first|refine E1 (p:=IW _ _ (pz Tryz.prog 25 (.o (.o (.i (.i (.o .h)))))) _ _) ?_|refine wr ?_|refine A2 ?_ ?_|fail)<;>try simp only [go_sem,seval,hd])
  unfold W7;exact IW.weaken (N6 (l:=[(1,.ptr 0 0),(3,B6 o cur.length)]) ⟨rfl,rfl,trivial⟩) (Sub.refl _) (next o cur c ho hn hc hR)
abbrev pmdB (m:Md):Blk:=⟨0,true,[.str m.name,I64 m.prio,A4d m.hds,I64 m.pos]⟩
theorem A5i {M:Hp} {x y z c:Nat} {a b Bc:Blk} (hc:M c=some Bc) (h2:¬ c=x) (h3:¬ c=y) (h4:¬ c=z) :
  (((M.upd y a).del x).upd z b) c=some Bc/\(((M.upd y a).del x).upd z b) z=some b:=by
 refine ⟨?_,A0⟩;rw [A3 h4];simp only [Hp.del];rw [if_neg h2,A3 h3];exact hc
theorem c_fmH (m:Md) (Q:Exit->Go.Sym.St->Prop) (a55 a56 a57:DV) (R rest:List (List UInt8)) (hh:m.hds.length<=1000) (hv:∀ h∈m.hds,A0q h=true) (hS:∀ h∈m.hds,Pb.St.szs h.body<=4000000) (hRl:R.length<=1000000000)
  (l:List (List UInt8)) (id b c:Nat) (hid:id<c) (hb:b<c) (hne:¬ b=id) (hR:R=l++(m.hds.flatMap hdPr++rest))
  (next:∀ (id:Nat) (cur:List (List UInt8)) (c2:Nat),id<c2->c<=c2->R=cur++rest ->
   IW Tryz.prog 105 (pz Tryz.prog 25 (.o (.i (.i (.o (.i (.o .h))))))) ⟨tm [(3,.slc id 0 cur.length),(55,a55),(56,a56),(57,a57)],nil.upd id ⟨1,true,cur.map DV.str⟩,c2⟩ Q) :
  IW Tryz.prog 105 (pz Tryz.prog 25 (.i (.o (.i (.i (.i .h)))))) ⟨tm [(3,.slc id 0 l.length),(7,.ptr b 0),(55,a55),(56,a56),(57,a57)],(nil.upd b (pmdB m)).upd id ⟨1,true,l.map DV.str⟩,c⟩ Q:=by
 have hb0:((nil.upd b (pmdB m)).upd id ⟨1,true,l.map DV.str⟩) b=some (pmdB m):=by rw [A3 hne];exact A0
 repeat' ((with_reducible first|refine wr ?_|refine A2 ?_ ?_|fail)<;>try simp only [go_sem,seval,hb0])
 refine X4 (fun q:Nat × Nat × List (List UInt8)=>[(3,.slc q.2.1 0 q.2.2.length),(55,a55),(56,a56),(57,a57),(70,A4d m.hds),(71,I64 m.hds.length),(72,I64 q.1)]) (fun q=>nil.upd q.2.1 ⟨1,true,q.2.2.map DV.str⟩)
  (fun q cc=>q.1<=m.hds.length/\q.2.1<cc/\c<=cc/\R=q.2.2++((m.hds.drop q.1).flatMap hdPr++rest)) (fun q=>m.hds.length-q.1) (0,id,l) (fun b=>⟨rfl,rfl,rfl,rfl,rfl,rfl,rfl,trivial⟩) (by simp [D5,tm,Tm.upd]) (fun j b hj=>by
   by_cases e:j=id
   ·subst e;rw [A0] at hj ⊢;exact hj
   ·rw [A3 e] at hj;cases hj) ⟨Nat.zero_le _,hid,Nat.le_refl _,hR⟩ ?_
 clear hR hid hne hb0;rintro ⟨i,id,cur⟩ c3 ⟨hi,hid,hc3,hR⟩;simp only at hi hid hc3 hR;simp only;by_cases hlt:i<m.hds.length
 ·have hd:decide ((i:Int)<m.hds.length)=true:=by simpa using hlt
  have hg:=List.getElem?_eq_getElem hlt;have hw:IntKind.i64.wrap ((i:Int)+1)=((i+1:Nat):Int):=by rw [w6z (by omega)];omega
  have hvd:=hv _ (List.getElem_mem hlt);have hsz:=hS _ (List.getElem_mem hlt);rw [List.drop_eq_getElem_cons hlt,List.flatMap_cons] at hR;obtain ⟨h,hh0⟩:∃ h,h=m.hds[i]:=⟨_,rfl⟩;rw [<- hh0] at hg hvd hR hsz;have hgm:(m.hds.map Hd.v)[i]? = some h.v:=by rw [List.getElem?_map,hg];rfl
  have hbk:=c_pblkT h.body (by have:=Pb.St.szs_len h.body;omega) (fun s hs=>by
   unfold A0q Z8 at hvd;simp only [Bool.and_eq_true] at hvd;exact c_prStmt _ s 1 (Nat.lt_succ_self _) (by have:=Pb.St.szs_mem hs;omega) (W8 hvd.2.2 s hs)) hsz
  have hbl:(txT (blT h.body)).length<=1000000000:=by
   have:=(A6o h.body).2;unfold txT;rw [List.length_map];omega
  unfold A0q at hvd;simp only [Bool.and_eq_true,decide_eq_true_eq] at hvd;obtain ⟨⟨⟨k1,k2⟩,hnm⟩, -⟩:=hvd;obtain ⟨j,hj⟩:∃ j:Nat,h.trig=1+(j:Int):=⟨(h.trig-1).toNat,by omega⟩;have hwj:IntKind.i64.wrap (h.trig-1)=(j:Int):=by rw [w6z (by omega)];omega
  have hjn:(h.trig-1).toNat=j:=by omega
  have hgj:(C7.map DV.str)[j]? = some (.str (C7.getD j [])):=by
   rw [List.getElem?_map,List.getD_eq_getElem?_getD,List.getElem?_eq_getElem (show j<C7.length from (by show j<6;omega))];rfl
  rw [hdPr,hjn] at hR;generalize C7.getD j []=kw at hgj hR;generalize txT (blT h.body)=W at hbk hbl hR;have hcl:cur.length<=1000000000:=by
   have:=congrArg List.length hR;simp only [List.length_append] at this;omega
  repeat' ((with_reducible first|refine wr ?_|refine cpc c_ptrigs ?_|refine A2 ?_ ?_|fail)<;>try simp only [go_sem,seval,A0,hd,hgm,hw])
  obtain ⟨M,hM⟩:∃ M,M=((nil.upd id ⟨1,true,cur.map DV.str⟩).upd c3 ⟨0,true,[I64 0,.str [],.snil,I64 0]⟩).upd c3 ⟨0,true,[I64 h.trig,.str h.name,G6 h.body,I64 h.pos]⟩:=⟨_,rfl⟩;rw [<- hM];have hMn:∀ j,c3<j->M j=none:=fun j hj=>by
   rw [hM,A3 (by omega),A3 (by omega),A3 (by omega)];rfl
  have hMc:M c3=some ⟨0,true,[I64 h.trig,.str h.name,G6 h.body,I64 h.pos]⟩:=by rw [hM];exact A0
  have hMo:M id=some ⟨1,true,cur.map DV.str⟩:=by rw [hM,A3 (by omega),A3 (by omega)];exact A0
  clear hM;refine ⟨by and_intros<;>exact hMn _ (by omega),?_⟩;simp only [go_sem,seval,hMc,hMo,hwj,hgj];rw [A3 (show ¬ id=c3+1+7 by omega),hMo];refine K5 (D0 (by simp) (by omega) (by omega)) ?_;obtain ⟨ec,el⟩:=A5i (M:=M) (x:=id) (y:=c3+1+7) (z:=c3+1+10) (c:=c3) (a:=⟨1,true,[.str [111,110],.str kw]⟩) (b:=⟨1,true,cur.map DV.str++[.str [111,110],.str kw]⟩) hMc (by omega) (by omega) (by omega);obtain ⟨M2,hM2⟩:∃ M2,M2=((M.upd (c3+1+7) ⟨1,true,[.str [111,110],.str kw]⟩).del id).upd (c3+1+10) ⟨1,true,cur.map DV.str++[.str [111,110],.str kw]⟩:=⟨_,rfl⟩;rw [<- hM2] at ec el ⊢;clear hM2;obtain ⟨x,hx⟩:∃ x,x=c3+1+10:=⟨_,rfl⟩;rw [<- hx] at el ⊢;have hxc:c3<x:=by omega
  clear hx;obtain ⟨l2,hl2⟩:∃ l2,l2=cur++[[111,110],kw]:=⟨_,rfl⟩;rw [show cur.map DV.str++[.str [111,110],.str kw]=l2.map DV.str by rw [hl2];simp] at el;have hln:cur.length+2=l2.length:=by rw [hl2];simp
  rw [hln];have hl2l:l2.length<=1000000002:=by omega
  have ne0:=A4b c3 x (x+1) (x+1+1) (by omega);by_cases h3:3<=h.trig
  ·have d3:decide (h.trig≥3)=true:=by simpa using h3
   rw [if_pos h3] at hR;simp only [go_sem,seval,ec,el];repeat' ((with_reducible first|refine wr ?_|refine A2 ?_ ?_|fail)<;>try simp only [go_sem,seval,ne0,A0,ec,el,d3,hw])
   refine D3 (D0 (by simp) (by omega) (by omega)) ?_;simp only [go_sem,seval,ne0,A0];obtain ⟨fc,f2⟩:=A5i (M:=M2) (x:=x) (y:=x+1) (z:=x+1+1) (c:=c3) (a:=⟨1,true,[.str h.name]⟩) (b:=⟨1,true,l2.map DV.str++[.str h.name]⟩) ec (by omega) (by omega) (by omega);obtain ⟨M3,hM3⟩:∃ M3,M3=((M2.upd (x+1) ⟨1,true,[.str h.name]⟩).del x).upd (x+1+1) ⟨1,true,l2.map DV.str++[.str h.name]⟩:=⟨_,rfl⟩;rw [<- hM3] at fc f2 ⊢;clear hM3 ec;obtain ⟨l3,hl3⟩:∃ l3,l3=l2++[h.name]:=⟨_,rfl⟩;have el3:M3 (x+1+1)=some ⟨1,true,l3.map DV.str⟩:=by rw [f2,hl3];simp
   clear f2;have hl3n:l2.length+1=l3.length:=by rw [hl3];simp
   rw [hl3n];obtain ⟨x3,hx3⟩:∃ x3,x3=x+1+1:=⟨_,rfl⟩;rw [<- hx3] at el3 ⊢;have ne0:=A4b c3 x3 (x3+1) (x3+1+1) (by omega);repeat' ((with_reducible first|refine wr ?_|refine A2 ?_ ?_|fail)<;>try simp only [go_sem,seval,ne0,A0,fc,el3,d3,hw])
   refine AC.call (hbk _ _) ?_;rintro _ _ _ ⟨rfl,rfl,rfl⟩ -;have tk:List.take W.length (W.map DV.str)=W.map DV.str:=List.take_of_length_le (by simp);simp only [go_sem,seval,ne0,A0,tk,el3];refine D3 (D0 (by simp) (by omega) (by omega)) ?_;simp only [go_sem,seval,ne0,A0];repeat' ((with_reducible first|refine wr ?_|refine A2 ?_ ?_|fail)<;>try simp only [go_sem,seval,ne0,A0,hw])
   have e1:l3.length+W.length=(l3++W).length:=by simp
   rw [e1];refine ⟨(i+1,x3+1+1,l3++W),⟨rfl,rfl⟩,GL.less' fun j b hj=>?_,inv ⟨hlt,by simp only;omega,by omega,by simp only;rw [hR,hl3,hl2];simp⟩,by simp only;omega⟩;simp only at hj;by_cases e:j=x3+1+1
   ·subst e;rw [A0] at hj ⊢;rw [<- hj];simp
   ·rw [A3 e] at hj;cases hj
  ·have d3:decide (h.trig≥3)=false:=by simpa using h3
   rw [if_neg h3] at hR;simp only [go_sem,seval,ec,el];repeat' ((with_reducible first|refine wr ?_|refine A2 ?_ ?_|fail)<;>try simp only [go_sem,seval,ne0,A0,ec,el,d3,hw])
   refine AC.call (hbk _ _) ?_;rintro _ _ _ ⟨rfl,rfl,rfl⟩ -;have tk:List.take W.length (W.map DV.str)=W.map DV.str:=List.take_of_length_le (by simp);simp only [go_sem,seval,ne0,A0,tk,el];refine D3 (D0 (by simp) (by omega) (by omega)) ?_;simp only [go_sem,seval,ne0,A0];repeat' ((with_reducible first|refine wr ?_|refine A2 ?_ ?_|fail)<;>try simp only [go_sem,seval,ne0,A0,hw])
   have e1:l2.length+W.length=(l2++W).length:=by simp
   rw [e1];refine ⟨(i+1,x+1+1,l2++W),⟨rfl,rfl⟩,GL.less' fun j b hj=>?_,inv ⟨hlt,by simp only;omega,by omega,by simp only;rw [hR,hl2];simp⟩,by simp only;omega⟩;simp only at hj;by_cases e:j=x+1+1
   ·subst e;rw [A0] at hj ⊢;rw [<- hj];simp
   ·rw [A3 e] at hj;cases hj
 ·have hd:decide ((i:Int)<m.hds.length)=false:=by simpa using hlt
  rw [List.drop_eq_nil_of_le (by omega),List.flatMap_nil,List.nil_append] at hR;repeat' ((with_reducible first|refine E1 (p:=IW _ _ (pz Tryz.prog 25 (.o (.i (.i (.o (.i (.o .h))))))) _ _) ?_|refine wr ?_|refine A2 ?_ ?_|fail)<;>try simp only [go_sem,seval,hd])
  unfold W7;exact IW.weaken (N6 (l:=[(3,.slc id 0 cur.length),(55,a55),(56,a56),(57,a57)]) ⟨rfl,rfl,rfl,rfl,trivial⟩) (Sub.refl _) (next id cur c3 hid hc3 hR)
theorem c_fmM (ds:List Dc) (ms:List Md) (R:List (List UInt8)) (hms:ms.length<=1000) (hv:∀ m∈ms,X9 m=true) (hS:∀ m∈ms, ∀ h∈m.hds,Pb.St.szs h.body<=4000000) (hRl:R.length<=1000000000) (hRb:∀ t∈R,t.length<=100000)
  (o:Option Nat) (l:List (List UInt8)) (c:Nat) (ho:∀ i,o=some i->0<i/\i<c) (hn:o=none->l=[]) (hc:1<=c) (hR:R=l++ms.flatMap mdL) :
  IW Tryz.prog 105 (pz Tryz.prog 25 (.o (.o (.i (.i (.o .h)))))) ⟨tm [(1,.ptr 0 0),(3,B6 o l.length)],C8 (nil.upd 0 (A5t ds ms)) o ⟨1,true,l.map DV.str⟩,c⟩ (rt [.tmp 2] fun v H' _ => ∃ H2,GL H' [v] H2 [.str (O5 R)]):=by
 have h0:(C8 (nil.upd 0 (A5t ds ms)) o ⟨1,true,l.map DV.str⟩) 0=some (A5t ds ms):=by
  cases o with
  | none=>exact A0
  | some id=>have:=ho id rfl;rw [R4,A3 (by omega)];exact A0
 repeat' ((with_reducible first|refine wr ?_|refine A2 ?_ ?_|fail)<;>try simp only [go_sem,seval,h0])
 refine X4 (fun q:Nat × Option Nat × List (List UInt8)=>[(3,B6 q.2.1 q.2.2.length),(55,A6d ms),(56,I64 ms.length),(57,I64 q.1)]) (fun q=>C8 Sym.nil q.2.1 ⟨1,true,q.2.2.map DV.str⟩)
  (fun q cc=>q.1<=ms.length/\(∀ i,q.2.1=some i->i<cc)/\(q.2.1=none->q.2.2=[])/\R=q.2.2++(ms.drop q.1).flatMap mdL) (fun q=>ms.length-q.1) (0,o,l) (fun b=>⟨rfl,rfl,rfl,rfl,trivial⟩) (by simp [D5,tm,Tm.upd,B6]) (fun j b hj=>by
   cases o with
   | none=>cases hj
   | some id =>
    simp only [R4] at hj ⊢;by_cases e:j=id
    ·subst e;rw [A0] at hj ⊢;exact hj
    ·rw [A3 e] at hj;cases hj) ⟨Nat.zero_le _,fun i h=>(ho i h).2,hn,hR⟩ ?_
 clear hR hn ho h0;rintro ⟨i,o,cur⟩ c3 ⟨hi,ho,hn,hR⟩;simp only at hi ho hn hR;simp only;by_cases hlt:i<ms.length
 ·have hd:decide ((i:Int)<ms.length)=true:=by simpa using hlt
  have hg:=List.getElem?_eq_getElem hlt;have hw:IntKind.i64.wrap ((i:Int)+1)=((i+1:Nat):Int):=by rw [w6z (by omega)];omega
  have hvd:=hv _ (List.getElem_mem hlt);have hsz:=hS _ (List.getElem_mem hlt);rw [List.drop_eq_getElem_cons hlt,List.flatMap_cons] at hR;obtain ⟨m,hm0⟩:∃ m,m=ms[i]:=⟨_,rfl⟩;rw [<- hm0] at hg hvd hR hsz;have hgm:(ms.map Md.v)[i]? = some m.v:=by rw [List.getElem?_map,hg];rfl
  unfold X9 at hvd;simp only [Bool.and_eq_true,decide_eq_true_eq] at hvd;obtain ⟨⟨⟨⟨hnm,p1⟩,p2⟩,hhl⟩,hh⟩:=hvd;have hit:=c_Itoa m.prio (by omega) (by omega);rw [mdL] at hR;have hcl:cur.length<=1000000000:=by
   have:=congrArg List.length hR;simp only [List.length_append] at this;omega
  repeat' ((with_reducible first|refine wr ?_|refine cpc hit ?_|refine A2 ?_ ?_|fail)<;>try simp only [go_sem,seval,A0,hd,hgm,hw])
  obtain ⟨M,hM⟩:∃ M,M=((C8 Sym.nil o ⟨1,true,cur.map DV.str⟩).upd c3 ⟨0,true,[.str [],I64 0,.snil,I64 0]⟩).upd c3 ⟨0,true,[.str m.name,I64 m.prio,A4d m.hds,I64 m.pos]⟩:=⟨_,rfl⟩;rw [<- hM];have hMn:∀ j,c3<j->M j=none:=fun j hj=>by
   rw [hM,A3 (by omega),A3 (by omega)];cases o with
   | none=>rfl
   | some id=>have:=ho id rfl;rw [R4,A3 (by omega)];rfl
  have hMc:M c3=some ⟨0,true,[.str m.name,I64 m.prio,A4d m.hds,I64 m.pos]⟩:=by rw [hM];exact A0
  have hMo:∀ id,o=some id->M id=some ⟨1,true,cur.map DV.str⟩:=fun id hid=>by
   subst hid;have:=ho id rfl;rw [hM,A3 (by omega),A3 (by omega),R4];exact A0
  clear hM;refine ⟨by and_intros<;>exact hMn _ (by omega),?_⟩;refine K5 (H9 (cs:=cur.map DV.str) (fun e=>by rw [hn e];simp) (fun id hid=>by have:=ho id hid;rw [A3 (by omega)];exact hMo id hid) (by simp) (by omega) (by omega) (by omega)) ?_;simp only [go_sem,seval];repeat' ((with_reducible first|refine E1 (p:=IW _ _ (pz Tryz.prog 25 (.i (.o (.i (.i (.i .h)))))) _ _) ?_|refine wr ?_|refine A2 ?_ ?_|fail)<;>try simp only [go_sem,seval,A0])
  unfold W7;have e4:cur.length+4=(cur++[[109,111,100,101],m.name,O8 m.prio,[123]]).length:=by simp
  rw [e4];refine IW.weaken (N6 (l:=[(3,.slc (c3+1+9) 0 (cur++[[109,111,100,101],m.name,O8 m.prio,[123]]).length),(7,.ptr c3 0),(55,A6d ms),(56,I64 ms.length),(57,I64 i)]) ⟨rfl,rfl,rfl,rfl,rfl,trivial⟩) ?_ (c_fmH m _ _ _ _ R ([[125]]++(ms.drop (i+1)).flatMap mdL) (by omega) (fun h hm=>List.all_eq_true.1 hh h hm) hsz hRl (cur++[[109,111,100,101],m.name,O8 m.prio,[123]]) (c3+1+9) c3 _ (by omega) (by omega) (by omega) (by rw [hR];simp) ?_)
  ·intro j b hj;by_cases e:j=c3+1+9
   ·subst e;rw [A0] at hj ⊢;rw [<- hj];simp
   ·rw [A3 e] at hj ⊢;by_cases e2:j=c3
    ·subst e2;rw [A0] at hj;rw [<- hj];cases o with
     | none=>show (M.upd _ _) _=_;rw [A3 (by omega)];exact hMc
     | some id=>have:=ho id rfl;rw [O7,if_neg (by omega),A3 (by omega)];exact hMc
    ·rw [A3 e2] at hj;cases hj
  ·intro id cur2 c4 hid hc4 hR2;have hl2:cur2.length<=1000000000:=by
    have:=congrArg List.length hR2;simp only [List.length_append] at this;omega
   have ne0:=R1 id c4 (c4+1) (by omega);repeat' ((with_reducible first|refine wr ?_|refine A2 ?_ ?_|fail)<;>try simp only [go_sem,seval,ne0,A0,hw])
   refine D3 (D0 (by simp) (by omega) (by omega)) ?_;simp only [go_sem,seval,ne0,A0];repeat' ((with_reducible first|refine wr ?_|refine A2 ?_ ?_|fail)<;>try simp only [go_sem,seval,ne0,A0,hw])
   have e1:cur2.length+1=(cur2++[[125]]).length:=by simp
   rw [e1];refine ⟨(i+1,some (c4+1),cur2++[[125]]),⟨rfl,rfl⟩,GL.less' fun j b hj=>?_,inv ⟨hlt,(fun i h=>by cases h;omega),(fun h=>by cases h),by simp only;rw [hR2];simp⟩,by simp only;omega⟩;simp only [R4] at hj;by_cases e:j=c4+1
   ·subst e;rw [A0] at hj ⊢;rw [<- hj];simp
   ·rw [A3 e] at hj;cases hj
 ·have hd:decide ((i:Int)<ms.length)=false:=by simpa using hlt
  rw [List.drop_eq_nil_of_le (by omega),List.flatMap_nil,List.append_nil] at hR;subst hR;repeat' ((with_reducible first|refine E1 (p:=IW _ _ (pz Tryz.prog 25 (.o (.o (.o (.i (.i (.o .h))))))) _ _) ?_|refine wr ?_|refine A2 ?_ ?_|fail)<;>try simp only [go_sem,seval,hd])
  unfold W7;exact IW.weaken (N6 (l:=[(3,B6 o R.length)]) ⟨rfl,trivial⟩) (Sub.refl _) (c_fmZ R o c3 ho hn hRl hRb)
theorem c_PFormat (r:Ru) (hB:r.sz<=3000000):PC Tryz.prog 25 [r.v] (.str (fmtR r)):=by
 have hv:=c_Valid r (by omega);refine PC.ofT A9 rfl (Nat.le_of_ble_eq_true rfl) (by simp [DV.nlL,DV.nl,X2,X1]) rfl ?_;unfold fmtR;cases hb:A5m r with
 | false =>
  rw [hb] at hv;rw [if_neg Bool.false_ne_true];repeat' ((with_reducible first|refine wr ?_|refine cpc hv ?_|refine A2 ?_ ?_|fail)<;>try simp only [go_sem,seval])
  exact A5 rfl
 | true =>
  rw [hb] at hv;rw [if_pos rfl];have hR:=ru_eq hb;have hsh:=sh_ruT r;have hl:=(ruT_len r).1;have hlen:(txT (ruT r)).length<=1000000000:=by unfold txT;rw [List.length_map];omega
  generalize txT (ruT r)=R at hR hsh hlen ⊢;unfold A5m at hb;simp only [Bool.and_eq_true,decide_eq_true_eq] at hb;obtain ⟨⟨⟨hd,hm⟩,h1⟩,h2⟩:=hb;have hbod:∀ m∈r.modes, ∀ h∈m.hds,Pb.St.szs h.body<=4000000:=fun m hm h hh=>by
   have e1:h.sz<=(m.hds.map Hd.sz).sum:=P2 hh;have e2:m.sz<=(r.modes.map Md.sz).sum:=P2 hm;have e3:h.sz=1+h.name.length+Pb.St.szs h.body:=rfl;have e4:m.sz=1+m.name.length+(m.hds.map Hd.sz).sum:=rfl;have e5:r.sz=(r.decls.map Dc.sz).sum+(r.modes.map Md.sz).sum:=rfl;omega
  repeat' ((with_reducible first|refine E1 (p:=IW _ _ (pz Tryz.prog 25 (.i (.o (.i .h)))) _ _) ?_|refine wr ?_|refine cpc hv ?_|refine A2 ?_ ?_|fail)<;>try simp only [go_sem,seval])
  unfold W7;refine IW.weaken (N6 (l:=[(1,.ptr 0 0),(3,.snil)]) ⟨rfl,rfl,trivial⟩) (Sub.refl _) ?_;exact c_fmD r.decls r.modes R (r.modes.flatMap mdL) (by omega) (fun d hd=>List.all_eq_true.1 h1 d hd) hlen (fun o cur c ho hn hc hR2=>c_fmM r.decls r.modes R (by omega) (fun m hm=>List.all_eq_true.1 h2 m hm) hbod hlen hsh o cur c ho hn hc hR2) hR
open Go.Sym
abbrev x12:XT Tryz.prog 12:=mkF
instance t12:FT Tryz.prog 12 x12.d:=x12.ft
abbrev x9:XT Tryz.prog 9:=mkF
instance t9:FT Tryz.prog 9 x9.d:=x9.ft
end Go.Proofs.YthlpinppaclofaaGreatDoor
set_option linter.unusedSectionVars false
namespace Go.Pb
variable [Go.Sym.Tab]
open Go.Sym
abbrev T3:=Int × List UInt8 × Int
def st3 (t:Tok):T3:=(t.kind,t.text,t.value)
end Go.Pb
set_option maxHeartbeats 1000000
namespace Go.Pb
variable [Go.Sym.Tab]
open Go.Sym
def kwL:List (List UInt8):=C4++C7++B3++C0++E5++R0++[[41],[59],[44],[61],[123],[125],[101,108,115,101],[109,111,100,101],[111,110]]
structure Clv (Q:Tok->Prop):Prop where
 w:∀ x∈kwL,Q (B8 x)
 n:∀ x,C1 x=true->Q ⟨1,x,0,0⟩
 v:∀ x,0<=x->x<=2147483647->Q ⟨3,[],x,0⟩
 t:∀ x,R6 x=true->Q ⟨4,x,0,0⟩
section
variable {Q:Tok->Prop} (C:Clv Q)
include C
end
end Go.Pb
namespace Go.Pb
variable [Go.Sym.Tab]
open Go.Sym
theorem lines_ne {l:List (List UInt8)} (h:l≠[]):O5 l≠[]:=by
 cases l with
 | nil=>exact absurd rfl h
 | cons w l =>
  unfold O5 lnT;rw [List.map_cons,List.flatten_cons];split<;>simp
theorem ruT_ne {r:Ru} (h:r≠⟨[],[]⟩):ruT r≠[]:=by
 unfold ruT;split
 ·simp
 obtain ⟨D,M⟩:=r;dsimp only;intro e;rw [List.append_eq_nil_iff] at e;cases D with
 | cons d D =>
  have h1:=e.1;rw [List.flatMap_cons,List.append_eq_nil_iff] at h1;have h2:=h1.1;unfold dcT at h2;split at h2
  ·cases h2
  ·simp at h2
 | nil =>
  cases M with
  | nil=>exact h rfl
  | cons m M =>
   have h1:=e.2;rw [List.flatMap_cons,List.append_eq_nil_iff] at h1;have h2:=h1.1;unfold mdT at h2;simp at h2
theorem fmt_ne {r:Ru} (hv:A5m r=true) (h:r≠⟨[],[]⟩):fmtR r≠[]:=by
 unfold fmtR;rw [if_pos hv];refine lines_ne ?_;unfold txT;intro e;rw [List.map_eq_nil_iff] at e;exact ruT_ne h e
section
variable {L:List Tok} {E:Int}
end
end Go.Pb
namespace Go.Pb
variable [Go.Sym.Tab]
open Go.Sym
def Mo {α : Type} (a b:Option α):Prop:=∀ r,a=some r->b=some r
theorem Mo.refl {α : Type} (a:Option α):Mo a a:=fun _ h=>h
theorem Mo.none {α : Type} (b:Option α):Mo none b:=fun _ h=>by cases h
section
variable (L:List Tok) (E:Int)
theorem ME.all:∀ f:Nat,(∀ n s,Mo (E3 L E f n s) (E3 L E (f+1) n s))/\(∀ n e s,Mo (J6 L E f n e s) (J6 L E (f+1) n e s))/\(∀ s,Mo (K6 L E f s) (K6 L E (f+1) s))
 | 0=>⟨fun _ _=>Mo.none _,fun _ _ _=>Mo.none _,fun _=>Mo.none _⟩
 | f+1=>by
  obtain ⟨hb,hl,hu⟩:=ME.all f;refine ⟨fun n s=>?_,fun n e s=>?_,fun s=>?_⟩
  ·rw [E3,E3];split
   ·exact hu s
   cases h:E3 L E f (n+1) s with
   | none=>exact Mo.none _
   | some q=>rw [hb _ _ _ h];exact hl _ _ _
  ·rw [J6,J6];dsimp only;split
   ·exact Mo.refl _
   cases h:E3 L E f (n+1) (B1 s) with
   | none=>exact Mo.none _
   | some q =>
    rw [hb _ _ _ h];dsimp only;split
    ·exact Mo.refl _
    ·exact hl _ _ _
  ·rw [K6,K6];dsimp only;split
   ·exact Mo.refl _
   split
   ·exact Mo.refl _
   split
   ·cases h:E3 L E f 1 { i:=(B5 L E s (s.par+1) 16 50).i+1,e:=(B5 L E s (s.par+1) 16 50).e,pos:=(B5 L E s (s.par+1) 16 50).pos,ops:=(B5 L E s (s.par+1) 16 50).ops,par:=(B5 L E s (s.par+1) 16 50).par+1 } with
    | none=>exact Mo.none _
    | some q=>rw [hb _ _ _ h];exact Mo.refl _
   ·cases h:K6 L E f { i:=(B5 L E s (s.par+1) 16 50).i+1,e:=(B5 L E s (s.par+1) 16 50).e,pos:=(B5 L E s (s.par+1) 16 50).pos,ops:=(B5 L E s (s.par+1) 16 50).ops,par:=(B5 L E s (s.par+1) 16 50).par+1 } with
    | none=>exact Mo.none _
    | some q=>rw [hu _ _ h];exact Mo.refl _
theorem U5 (f:Nat) (s:Rd):Mo (E6 L E f s) (E6 L E (f+1) s):=(ME.all L E f).1 _ _
theorem mo_tail (f:Nat) (k p:Int) (s:Rd):Mo (S8 L E f k p s) (S8 L E (f+1) k p s):=by
 unfold S8;split
 ·cases h:E6 L E f s with
  | none=>exact Mo.none _
  | some q=>rw [U5 L E f _ _ h];exact Mo.refl _
 split
 ·cases h:E6 L E f (C2 L E (A7 L E s 4).2 [44]) with
  | none=>exact Mo.none _
  | some q=>rw [U5 L E f _ _ h];exact Mo.refl _
 split
 ·exact Mo.refl _
 dsimp only;split
 ·cases h:E6 L E f (A7 L E s 1).2 with
  | none=>exact Mo.none _
  | some q =>
   rw [U5 L E f _ _ h];dsimp only;split
   ·cases h2:E6 L E f (C2 L E q.2 [44]) with
    | none=>exact Mo.none _
    | some q2=>rw [U5 L E f _ _ h2];exact Mo.refl _
   ·exact Mo.refl _
 ·exact Mo.refl _
theorem MS.all:∀ f:Nat,(∀ d s,Mo (G1 L E f d s) (G1 L E (f+1) d s))/\(∀ d l s,Mo (P0 L E f d l s) (P0 L E (f+1) d l s)) /\
  (∀ d s,Mo (L9 L E f d s) (L9 L E (f+1) d s))/\(∀ d s,Mo (U9 L E f d s) (U9 L E (f+1) d s))
 | 0=>⟨fun _ _=>Mo.none _,fun _ _ _=>Mo.none _,fun _ _=>Mo.none _,fun _ _=>Mo.none _⟩
 | f+1=>by
  obtain ⟨hb,hl,hs,ho⟩:=MS.all f;refine ⟨fun d s=>?_,fun d l s=>?_,fun d s=>?_,fun d s=>?_⟩
  ·rw [G1,G1];exact hl _ _ _
  ·rw [P0,P0];split
   ·split
    ·exact Mo.refl _
    cases h:L9 L E f d (B5 L E s ((l.length:Int)+1) 64 9) with
    | none=>exact Mo.none _
    | some q=>rw [hs _ _ _ h];exact hl _ _ _
   ·exact Mo.refl _
  ·rw [L9,L9];dsimp only;split
   ·exact Mo.refl _
   split
   ·cases h:E6 L E f (C2 L E (A7 L E (B5 L E s d 8 50) 1).2 [61]) with
    | none=>exact Mo.none _
    | some q=>rw [U5 L E f _ _ h];exact Mo.refl _
   split
   ·cases h:E6 L E f (B1 (B5 L E s d 8 50)) with
    | none=>exact Mo.none _
    | some q =>
     rw [U5 L E f _ _ h];dsimp only;cases h2:G1 L E f (d+1) q.2 with
     | none=>exact Mo.none _
     | some q2 =>
      rw [hb _ _ _ h2];dsimp only;split
      ·cases h3:U9 L E f d (B1 q2.2) with
       | none=>exact Mo.none _
       | some q3=>rw [ho _ _ _ h3];exact Mo.refl _
      ·exact Mo.refl _
   ·exact mo_tail L E f _ _ _
  ·rw [U9,U9];split
   ·cases h:L9 L E f (d+1) s with
    | none=>exact Mo.none _
    | some q=>rw [hs _ _ _ h];exact Mo.refl _
   ·exact hb _ _
theorem mo_mlp:∀ (f:Nat) (l:List Hd) (s:Rd),Mo (O4 L E f l s) (O4 L E (f+1) l s)
 | 0,_,_=>Mo.none _
 | f+1,l,s=>by
  rw [O4,O4];split
  ·split
   ·exact Mo.refl _
   dsimp only;split
   ·exact Mo.refl _
   generalize hk:(if 2<=B4 L E (C2 L E (B5 L E s ((l.length:Int)+1) 32 9) [111,110]) C7 then (A7 L E (B1 (C2 L E (B5 L E s ((l.length:Int)+1) 32 9) [111,110])) 1).2 else B1 (C2 L E (B5 L E s ((l.length:Int)+1) 32 9) [111,110]))=s4;cases h:G1 L E f 1 s4 with
   | none=>exact Mo.none _
   | some q=>rw [(MS.all L E f).1 _ _ _ h];exact mo_mlp f _ _
  ·exact Mo.refl _
theorem mo_mod (f:Nat) (s:Rd):Mo (A4c L E f s) (A4c L E (f+1) s):=by
 unfold A4c;dsimp only;cases h:O4 L E f [] (C2 L E (A7 L E (A7 L E (C2 L E s [109,111,100,101]) 1).2 3).2 [123]) with
 | none=>exact Mo.none _
 | some q=>rw [mo_mlp L E f _ _ _ h];exact Mo.refl _
theorem mo_rld:∀ (f:Nat) (l:List Dc) (s:Rd),Mo (S1 L E f l s) (S1 L E (f+1) l s)
 | 0,_,_=>Mo.none _
 | f+1,l,s=>by
  rw [S1,S1];dsimp only;split
  ·exact Mo.refl _
  split
  ·exact mo_rld f _ _
  ·exact mo_rld f _ _
theorem mo_rlm:∀ (f:Nat) (l:List Md) (s:Rd),Mo (O2 L E f l s) (O2 L E (f+1) l s)
 | 0,_,_=>Mo.none _
 | f+1,l,s=>by
  rw [O2,O2];dsimp only;split
  ·split
   ·exact Mo.refl _
   split
   ·cases h:A4c L E f (B5 L E s ((l.length:Int)+1) 16 9) with
    | none=>exact Mo.none _
    | some q=>rw [mo_mod L E f _ _ h];exact mo_rlm f _ _
   ·exact mo_rlm f _ _
  ·exact Mo.refl _
theorem mo_rul (f:Nat) (s:Rd):Mo (A3y L E f s) (A3y L E (f+1) s):=by
 unfold A3y;cases h:S1 L E f [] s with
 | none=>exact Mo.none _
 | some q =>
  rw [mo_rld L E f _ _ _ h];dsimp only;cases h2:O2 L E f [] q.2 with
  | none=>exact Mo.none _
  | some q2=>rw [mo_rlm L E f _ _ _ h2];exact Mo.refl _
end
theorem mo_evt {α : Type} {g:Nat->Option α} (h:∀ f,Mo (g f) (g (f+1))) {f:Nat} {r : α} (hf:g f=some r):Evt g r:=by
 refine ⟨f,fun k hk=>?_⟩
 induction k with
 | zero =>
  obtain rfl:f=0:=(by omega);exact hf
 | succ k ih =>
  by_cases e:f=k+1
  ·subst e;exact hf
  ·exact h k r (ih (by omega))
theorem rulF_at {L:List Tok} {E:Int} {f:Nat} {r:Ru × Rd} (h:A3y L E f rd0=some r):A2s L E=r:=(rulF_e L E).uniq (mo_evt (mo_rul L E · rd0) h)
theorem xpnF_at {L:List Tok} {E:Int} {f:Nat} {r:Ex × Rd} (h:E6 L E f rd0=some r):xpnF L E=r:=(xpnF_e L E).uniq (mo_evt (U5 L E · rd0) h)
def exK (s:List UInt8) (N:Nat):Option (Ex × Int) :=
 let q:=B9 s
 if q.2.2≠0 then some (Ex0,q.2.2) else match E6 q.1 s.length N rd0 with
  | none=>none
  | some w =>
   let z:=if okR w.2=true/\w.2.i<q.1.length then L8 q.1 s.length w.2 else w.2
   if okR z=false then some (Ex0,z.e) else some (w.1,0)
theorem ex_par {s:List UInt8} {N:Nat} {e:Ex × Int} (h:exK s N=some e):(J3 s).1=e.1/\(J3 s).2.2=e.2:=by
 unfold exK at h;dsimp only at h;unfold J3;dsimp only;split at h
 ·rename_i g;rw [if_pos g];cases h;exact ⟨rfl,rfl⟩
 ·rename_i g;rw [if_neg g];split at h
  ·cases h
  ·rename_i w hw;rw [xpnF_at hw];generalize (if okR w.2=true/\w.2.i<(B9 s).1.length then L8 (B9 s).1 (s.length:Int) w.2 else w.2)=z at h ⊢;by_cases g2:okR z=false
   ·rw [if_pos g2] at h ⊢;cases h;exact ⟨rfl,rfl⟩
   ·rw [if_neg g2] at h ⊢;cases h;exact ⟨rfl,rfl⟩
theorem parM_at {s:List UInt8} {r:Ru} {i N:Nat} {p o q:Int} (h1:(B9 s).2.2=0) (h2:A3y (B9 s).1 s.length N rd0=some (r,⟨i,0,p,o,q⟩)):parM s=(r,0,0):=by
 unfold parM;dsimp only;rw [if_neg (by rw [h1];decide),rulF_at h2,if_neg (by show ¬ ((0:Int) == 0)=false;decide)]
theorem parE_at {s:List UInt8} {r:Ex} {i N:Nat} {p o q:Int} (h1:(B9 s).2.2=0) (h2:E6 (B9 s).1 s.length N rd0=some (r,⟨i,0,p,o,q⟩)) (hi:(B9 s).1.length<=i):J3 s=(r,0,0):=by
 unfold J3;dsimp only;rw [if_neg (by rw [h1];decide),xpnF_at h2];dsimp only;have hz:(if okR (⟨i,0,p,o,q⟩:Rd)=true/\i<(B9 s).1.length then L8 (B9 s).1 s.length ⟨i,0,p,o,q⟩ else ⟨i,0,p,o,q⟩)=⟨i,0,p,o,q⟩:=if_neg fun h=>absurd h.2 (Nat.not_lt.2 hi);rw [hz,if_neg (by show ¬ ((0:Int) == 0)=false;decide)]
end Go.Pb
set_option maxHeartbeats 8000000
namespace Go.Proofs.YthlpinppaclofaaGreatDoor
open Go.Eng (IC IOper DReg IFn G0)
open Go.Sym Go.Pb
def sl1:List UInt8:=[49,43,50,42,120]
def sl2:List UInt8:=[40,49,43,50,41,42,120]
def sl3:List UInt8:=[108,97,109,112,32,108,32,51,59,32,109,111,100,101,32,109,32,49,32,123,32,111,110,32,115,116,97,114,116,32,123,32,108,105,103,104,116,32,108,32,56,59,32,125,32,125]
def se1:Ex:=.mk 15 0 [] [.mk 1 1 [] [] 0,.mk 12 0 [] [.mk 1 2 [] [] 2,.mk 2 0 [120] [] 4] 3] 1
def se2:Ex:=.mk 12 0 [] [.mk 15 0 [] [.mk 1 1 [] [] 1,.mk 1 2 [] [] 3] 2,.mk 2 0 [120] [] 6] 5
def sr3:Ru:=⟨[⟨3,[108],3,0⟩],[⟨[109],1,[⟨1,[],[.mk 8 [108] [] [.mk 1 8 [] [] 40] [] [] 32],21⟩],10⟩]⟩
theorem sp1:J3 sl1=(se1,0,0):=parE_at (N:=60) (i:=5) (p:=0) (o:=3) (q:=0) (by decide +kernel) (by kernel_rfl) (by decide +kernel)
theorem sp2:J3 sl2=(se2,0,0):=parE_at (N:=60) (i:=7) (p:=0) (o:=3) (q:=0) (by decide +kernel) (by kernel_rfl) (by decide +kernel)
theorem sp3:parM sl3=(sr3,0,0):=parM_at (N:=60) (i:=17) (p:=0) (o:=1) (q:=0) (by decide +kernel) (by kernel_rfl)
theorem sf2:fmtE se2=[40,32,49,32,43,32,50,32,41,32,42,32,120]:=by decide +kernel
theorem sv3:A5m sr3=true:=by decide +kernel
theorem c_sane31:PC Tryz.prog 12 [] (.bool true):=by
 have p1:=c_PParseE sl1 (by decide);have p2:=c_PParseE sl2 (by decide);have p3:=c_PParse sl3 (by decide);rw [sp1] at p1;rw [sp2] at p2;rw [sp3] at p3;have f2:=c_PFormatE se2 (by decide);rw [sf2] at f2;have f3:=c_PFormat sr3 (by decide);have v3:=c_Valid sr3 (by decide);rw [sv3] at v3;have hne:(fmtR sr3 == [])=false:=by
  have:=fmt_ne sv3 (by unfold sr3;simp);simpa using this
 generalize fmtR sr3=t3 at f3 hne;dsimp only [parV,A2w] at p1 p2 p3;have e3:sr3.v=.agg [V6 sr3.decls,.lst [(sr3.modes.map Md.v).getD 0 (.bool true)]]:=rfl;rw [e3] at p3 f3 v3;generalize sr3.decls.map Dc.v=d1 at *;generalize (sr3.modes.map Md.v).getD 0 (.bool true)=m1 at *;have e2:=Ex.v_w se2;have e1:se1.v=.agg [I64 15,I64 0,.str [],.lst [(Ex.mk 1 1 [] [] 0).v,.agg [I64 12,I64 0,.str [],H7 [.mk 1 2 [] [] 2,.mk 2 0 [120] [] 4],I64 3]],I64 1]:=by unfold se1;rw [Ex.v_w];simp [Ex.v_w,Ex.kind,Ex.value,Ex.name,Ex.args,Ex.pos]
 rw [e1] at p1;generalize (Ex.mk 1 1 [] [] 0).v=x1 at *;generalize H7 [.mk 1 2 [] [] 2,.mk 2 0 [120] [] 4]=x2 at *;rw [e2] at p2 f2;unfold sl1 at p1;unfold sl2 at p2;unfold sl3 at p3;have hi1:A6j 5 (.lst [x1,.agg [I64 12,I64 0,.str [],x2,I64 3]]) (.int .i64 1)=some (.fptr [I64 12,I64 0,.str [],x2,I64 3]):=r_iadn (l:=1);refine PC.ofT A9 rfl (Nat.le_of_ble_eq_true rfl) (by simp [DV.nlL,DV.nl]) (by simp [DV.nlL,DV.nl]) ?_;repeat' ((with_reducible first|refine wr ?_|refine cpc p1 ?_|refine cpc p2 ?_|refine cpc p3 ?_|refine cpc f2 ?_|refine cpc f3 ?_|refine cpc v3 ?_|refine A2 ?_ ?_|fail)<;>try simp only [go_sem,seval,hne,hi1])
 all_goals exact A5 rfl
theorem cat2 (a b:List UInt8) (h:a.length+b.length<=100000000):∃ x,x=a++b/\x.length=a.length+b.length/\binR .add (.str a) (.str b)=some (.str x) :=
 ⟨_,rfl,by simp,sadd (by omega)⟩
end Go.Proofs.YthlpinppaclofaaGreatDoor
namespace Go.Pb
variable [Go.Sym.Tab]
open Go.Sym
def opA:List (List UInt8):=[[124,124],[38,38],[60],[60,61],[62],[62,61],[61,61],[33,61],[43],[45],[42],[47],[37]]
def lvA:List Int:=[1,2,3,3,3,3,3,3,4,4,5,5,5]
def taA (x y:List UInt8):List UInt8:=((([97,32]++x)++[32,98,32])++y)++[32,99]
def tlA (x y:List UInt8):List UInt8:=((([40,97,32]++x)++[32,98,41,32])++y)++[32,99]
def trA (x y:List UInt8):List UInt8:=((([97,32]++x)++[32,40,98,32])++y)++[32,99,41]
def asB (i k:Nat):Bool :=
 match exK (tlA (opA.getD i []) (opA.getD k [])) 60,exK (trA (opA.getD i []) (opA.getD k [])) 60,exK (taA (opA.getD i []) (opA.getD k [])) 60 with
 | some l,some r,some e=>l.2 == 0 && (r.2 == 0 && (if (lvA.getD i 0 == 3 && lvA.getD k 0 == 3)=true then e.2 == 4 else e.2 == 0 && A4f true e.1 (if lvA.getD i 0<lvA.getD k 0 then r.1 else l.1)))
 | _,_,_=>false
theorem as_all:((List.range 13).all fun i=>(List.range 13).all fun k=>asB i k)=true:=by decide +kernel
theorem as_at {i k:Nat} (hi:i<13) (hk:k<13) :
  (J3 (tlA (opA.getD i []) (opA.getD k []))).2.2=0/\(J3 (trA (opA.getD i []) (opA.getD k []))).2.2=0 /\
   (((lvA.getD i 0 == 3)=true/\(lvA.getD k 0 == 3)=true/\(J3 (taA (opA.getD i []) (opA.getD k []))).2.2=4) \/
   ((lvA.getD i 0 == 3 && lvA.getD k 0 == 3)=false/\(J3 (taA (opA.getD i []) (opA.getD k []))).2.2=0 /\
    A4f true (J3 (taA (opA.getD i []) (opA.getD k []))).1 (if lvA.getD i 0<lvA.getD k 0 then (J3 (trA (opA.getD i []) (opA.getD k []))).1 else (J3 (tlA (opA.getD i []) (opA.getD k []))).1)=true)):=by
 have h:=List.all_eq_true.1 (List.all_eq_true.1 as_all i (List.mem_range.2 hi)) k (List.mem_range.2 hk);unfold asB at h;split at h
 ·rename_i l r e h1 h2 h3;obtain ⟨a1,a2⟩:=ex_par h1;obtain ⟨b1,b2⟩:=ex_par h2;obtain ⟨d1,d2⟩:=ex_par h3;rw [a1,a2,b1,b2,d1,d2];simp only [Bool.and_eq_true,beq_iff_eq] at h;refine ⟨h.1,h.2.1,?_⟩;have h4:=h.2.2;split at h4
  ·rename_i g;left;exact ⟨by simpa using g.1,by simpa using g.2,by simpa using h4⟩
  ·rename_i g;right;refine ⟨?_,?_⟩
   ·cases hz:(lvA.getD i 0 == 3 && lvA.getD k 0 == 3) with
    | false=>rfl
    | true=>rw [Bool.and_eq_true] at hz;exact absurd ⟨by simpa using hz.1,by simpa using hz.2⟩ g
   ·rw [Bool.and_eq_true] at h4;exact ⟨by simpa using h4.1,h4.2⟩
 ·cases h
theorem op_len:∀ i,i<13->(opA.getD i []).length<=2:=by decide
end Go.Pb
namespace Go.Proofs.YthlpinppaclofaaGreatDoor
open Go.Eng (IC IOper DReg IFn G0)
open Go.Sym Go.Pb
theorem strs_get {L:List (List UInt8)} {i:Nat} (h:i<L.length):(L.map DV.str)[i]? = some (.str (L.getD i [])):=by
 rw [List.getElem?_map,List.getElem?_eq_getElem h,List.getD_eq_getElem?_getD,List.getElem?_eq_getElem h];rfl
theorem ints_get {L:List Int} {i:Nat} (h:i<L.length):L[i]? = some (L.getD i 0):=by
 rw [List.getElem?_eq_getElem h,List.getD_eq_getElem?_getD,List.getElem?_eq_getElem h];rfl
theorem c_SyntaxAssociates (x y:UInt8):PC Tryz.prog 9 [.int .u8 (x.toNat:Int),.int .u8 (y.toNat:Int)] (.bool true):=by
 have hs:=c_sane31;have hx:=x.toNat_lt;have hy:=y.toNat_lt;have hw1:IntKind.i64.wrap (x.toNat:Int)=x.toNat:=w6z (by omega);have hw2:IntKind.i64.wrap (y.toNat:Int)=y.toNat:=w6z (by omega);have hr1:binR .rem (I64 (x.toNat:Int)) (I64 13)=some (I64 ((x.toNat % 13:Nat):Int)):=by rw [r_rem (by decide)];rfl
 have hr2:binR .rem (I64 (y.toNat:Int)) (I64 13)=some (I64 ((y.toNat % 13:Nat):Int)):=by rw [r_rem (by decide)];rfl
 have hi:x.toNat % 13<13:=Nat.mod_lt _ (by decide);have hk:y.toNat % 13<13:=Nat.mod_lt _ (by decide);generalize x.toNat % 13=i at hr1 hi;generalize y.toNat % 13=k at hr2 hk;obtain ⟨q1,q2,q3⟩:=as_at hi hk;have li:=op_len i hi;have lk:=op_len k hk;have gi:=strs_get (L:=opA) (i:=i) hi;have gk:=strs_get (L:=opA) (i:=k) hk;have vi:=ints_get (L:=lvA) (i:=i) hi;have vk:=ints_get (L:=lvA) (i:=k) hk;generalize lvA.getD i 0=ni at *;generalize lvA.getD k 0=nk at *;generalize opA.getD i []=oi at *;generalize opA.getD k []=ok at *;have hcat:∀ a b:List UInt8,a.length+b.length<=100000000->binR .add (.str a) (.str b)=some (.str (a++b)):=fun a b h=>by
  obtain ⟨x,rfl, -,h2⟩:=cat2 a b h;exact h2
 have a1:=hcat [97,32] oi (by simp;omega);have a2:=hcat ([97,32]++oi) [32,98,32] (by simp;omega);have a3:=hcat (([97,32]++oi)++[32,98,32]) ok (by simp;omega);have a4:=hcat ((([97,32]++oi)++[32,98,32])++ok) [32,99] (by simp;omega);have b1:=hcat [40,97,32] oi (by simp;omega);have b2:=hcat ([40,97,32]++oi) [32,98,41,32] (by simp;omega);have b3:=hcat (([40,97,32]++oi)++[32,98,41,32]) ok (by simp;omega);have b4:=hcat ((([40,97,32]++oi)++[32,98,41,32])++ok) [32,99] (by simp;omega);have d2:=hcat ([97,32]++oi) [32,40,98,32] (by simp;omega);have d3:=hcat (([97,32]++oi)++[32,40,98,32]) ok (by simp;omega);have d4:=hcat ((([97,32]++oi)++[32,40,98,32])++ok) [32,99,41] (by simp;omega);have p1:PC Tryz.prog 33 [.str (((([97,32]++oi)++[32,98,32])++ok)++[32,99])] (A2w (J3 (taA oi ok))):=c_PParseE (taA oi ok) (by simp [taA];omega);have p2:PC Tryz.prog 33 [.str (((([40,97,32]++oi)++[32,98,41,32])++ok)++[32,99])] (A2w (J3 (tlA oi ok))):=c_PParseE (tlA oi ok) (by simp [tlA];omega);have p3:PC Tryz.prog 33 [.str (((([97,32]++oi)++[32,40,98,32])++ok)++[32,99,41])] (A2w (J3 (trA oi ok))):=c_PParseE (trA oi ok) (by simp [trA];omega);have z1:=parE_sz (taA oi ok);have hpv:∀ s,A2w (J3 s)=.tup [(J3 s).1.v,I64 (J3 s).2.1,I64 (J3 s).2.2]:=fun _=>rfl;rw [hpv] at p1 p2 p3;rw [q1] at p2;rw [q2] at p3;generalize (J3 (taA oi ok)).1=ea at *;generalize (J3 (tlA oi ok)).1=el at *;generalize (J3 (trA oi ok)).1=er at *;generalize (J3 (taA oi ok)).2.1=pa at *;generalize (J3 (tlA oi ok)).2.1=pl at *;generalize (J3 (trA oi ok)).2.1=pr at *;simp only [List.cons_append,List.nil_append] at a1 a2 a3 a4 b1 b2 b3 b4 d2 d3 d4 p1 p2 p3;refine PC.ofT A9 rfl (Nat.le_of_ble_eq_true rfl) rfl rfl ?_;repeat' ((with_reducible first|refine E1 (p:=IW _ _ (pz Tryz.prog 9 (.i (.i .h))) _ _) ?_|refine wr ?_|refine A2 ?_ ?_|refine wb2 ?_ ?_<;>(intro hb;try simp only [hb])|fail)<;>try simp only [go_sem,seval])
 unfold W7;refine IW.keep [0,1,5,6] [.int .u8 (x.toNat:Int),.int .u8 (y.toNat:Int),strs opA,.slc 1 0 13] (GL.frzS (id:=0) (H':=Sym.nil.upd 1 ⟨1,true,lvA.map I64⟩) (by rw [A3 (by decide)];exact A0) rfl (fun j=>by
   by_cases e:j=1
   ·subst e;exact .inr ⟨by decide,by rw [A0,A0];rfl⟩
   ·exact .inl (by rw [A3 e];rfl))
  (.cons _ _ _ _ (.same _) (.cons _ _ _ _ (.same _) (.cons _ _ _ _ (I8 (u:=1) (xs:=opA.map DV.str) rfl (N7 _) ⟨[],rfl⟩) (FzL.refl _))))) ?_
 simp only [List.zip_cons_cons,List.zip_nil_left];refine IW.keep [0,1,5,6] [.int .u8 (x.toNat:Int),.int .u8 (y.toNat:Int),strs opA,.lst (lvA.map I64)] (GL.frzS (id:=1) (H':=Sym.nil) A0 rfl (fun j=>.inl rfl)
  (.cons _ _ _ _ (.same _) (.cons _ _ _ _ (.same _) (.cons _ _ _ _ (.same _) (.cons _ _ _ _ (I8 (u:=1) (xs:=lvA.map I64) rfl (by intro x hx;obtain ⟨n, -,rfl⟩:=List.mem_map.1 hx;rfl) ⟨[],rfl⟩) .nil))))) ?_
 simp only [List.zip_cons_cons,List.zip_nil_left];have hl1:(strs opA)=.lst (opA.map DV.str):=rfl;generalize opA=P at gi gk ⊢;generalize lvA=V at vi vk ⊢;rcases q3 with ⟨h1,h2,h3⟩|⟨h1,h2,h3⟩
 ·rw [h3] at p1;repeat' ((with_reducible first|refine wr ?_|refine cpc p1 ?_|refine cpc p2 ?_|refine cpc p3 ?_|refine cpc hs ?_|refine A2 ?_ ?_|refine wb2 ?_ ?_<;>(intro hb;try simp only [hb])|fail)<;>try simp only [go_sem,seval,hw1,hw2,hr1,hr2,gi,gk,vi,vk,a1,a2,a3,a4,b1,b2,b3,b4,d2,d3,d4,Ex.v_w,h1,h2])
  all_goals exact A5 rfl
 ·rw [h2] at p1;by_cases hlt:ni<nk
  ·have hd:decide (nk>ni)=true:=decide_eq_true hlt;rw [if_pos hlt] at h3;have hsm:=c_sameE true (ea.sz+1) ea er (by omega) (by omega);rw [h3,Ex.v_w,Ex.v_w] at hsm;cases hni:(ni == 3) with
   | false =>
    repeat' ((with_reducible first|refine wr ?_|refine cpc p1 ?_|refine cpc p2 ?_|refine cpc p3 ?_|refine cpc hsm ?_|refine cpc hs ?_|refine A2 ?_ ?_|refine wb2 ?_ ?_<;>(intro hb;try simp only [hb])|fail)<;>try simp only [go_sem,seval,hw1,hw2,hr1,hr2,gi,gk,vi,vk,a1,a2,a3,a4,b1,b2,b3,b4,d2,d3,d4,Ex.v_w,hni,hd])
    all_goals exact A5 rfl
   | true =>
    have hnk:(nk == 3)=false:=by rw [hni] at h1;simpa using h1
    repeat' ((with_reducible first|refine wr ?_|refine cpc p1 ?_|refine cpc p2 ?_|refine cpc p3 ?_|refine cpc hsm ?_|refine cpc hs ?_|refine A2 ?_ ?_|refine wb2 ?_ ?_<;>(intro hb;try simp only [hb])|fail)<;>try simp only [go_sem,seval,hw1,hw2,hr1,hr2,gi,gk,vi,vk,a1,a2,a3,a4,b1,b2,b3,b4,d2,d3,d4,Ex.v_w,hni,hnk,hd])
    all_goals exact A5 rfl
  ·have hd:decide (nk>ni)=false:=decide_eq_false hlt;rw [if_neg hlt] at h3;have hsm:=c_sameE true (ea.sz+1) ea el (by omega) (by omega);rw [h3,Ex.v_w,Ex.v_w] at hsm;cases hni:(ni == 3) with
   | false =>
    repeat' ((with_reducible first|refine wr ?_|refine cpc p1 ?_|refine cpc p2 ?_|refine cpc p3 ?_|refine cpc hsm ?_|refine cpc hs ?_|refine A2 ?_ ?_|refine wb2 ?_ ?_<;>(intro hb;try simp only [hb])|fail)<;>try simp only [go_sem,seval,hw1,hw2,hr1,hr2,gi,gk,vi,vk,a1,a2,a3,a4,b1,b2,b3,b4,d2,d3,d4,Ex.v_w,hni,hd])
    all_goals exact A5 rfl
   | true =>
    have hnk:(nk == 3)=false:=by rw [hni] at h1;simpa using h1
    repeat' ((with_reducible first|refine wr ?_|refine cpc p1 ?_|refine cpc p2 ?_|refine cpc p3 ?_|refine cpc hsm ?_|refine cpc hs ?_|refine A2 ?_ ?_|refine wb2 ?_ ?_<;>(intro hb;try simp only [hb])|fail)<;>try simp only [go_sem,seval,hw1,hw2,hr1,hr2,gi,gk,vi,vk,a1,a2,a3,a4,b1,b2,b3,b4,d2,d3,d4,Ex.v_w,hni,hnk,hd])
    all_goals exact A5 rfl
end Go.Proofs.YthlpinppaclofaaGreatDoor
end
