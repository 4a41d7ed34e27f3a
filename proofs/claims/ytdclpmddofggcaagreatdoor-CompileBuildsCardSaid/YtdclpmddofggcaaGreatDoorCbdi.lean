/-
  HELPERS of the claim: part 9 of its texts.
-/
import Derived.Test.YtdclpmddofggcaaGreatDoorCbdh
import Derived.Test.YtdclpmddofggcaaGreatDoorProg
noncomputable section
set_option maxHeartbeats 8000000
set_option maxRecDepth 100000
set_option linter.unusedSimpArgs false
set_option linter.unusedVariables false
namespace Go.Proofs.YtdclpmddofggcaaGreatDoor
open Go.Eng (IC IOper DReg IFn L4)
open Go.Sym Go.Pb
theorem c_IF_hd{g:Hd->Bool}{f:Nat}{a cs:List DV}(xs:List (Hd))(hx:xs.length<=9223372036854775807)(na:DV.nlL a=true)(ncs:DV.nlL cs=true)(hf:∀x∈xs,PC Tryz.prog f (a++[Hd.v x]++cs) (.bool (g x))):
  PC Tryz.prog 110 [O0 xs,.func f a cs] (I64 (A0n g xs 0)):=by
 refine PC.ofT A2 rfl (A0C rfl) (by simp[DV.nlL,DV.nl,A9o,na,ncs]) rfl ?_;refine wAo ?_;refine B6 (λk:Nat=>[(0,O0 xs),(1,.func f a cs),(7,I64 xs.length),(8,I64 k)]) (λ_=>nil) (λk _=>k<=xs.length/\A0n g xs 0=A0n g (xs.drop k) k) (λk=>xs.length-k) 0 (by simp[B5,tm,Tm.upd]) (Sub.nil _) (by simp) ?_;rintro k c ⟨hk,he⟩;by_cases hlt:k<xs.length
 ·have hd:=dtz hlt;have hg:=A0B hlt;have hw:=w64 (n:=(k:Int)+1);have hst:=A1x (g:=g) hg;have hc:=hf xs[k] (A0K hlt);repeat'((with_reducible first|apply wr|refine cpc hc ?_|refine B0 ?_ ?_|apply wb2<;>(intro hb;try simp only[hb]))<;>try simp only[go_sem,seval,hd,hg,hw])
  ·refine A3 ?_;rw[he,hst,hb];rfl
  ·exact⟨k+1,rfl,Sub.refl _,inv ⟨b8,by rw[he,hst,hb];rfl⟩,by omega⟩
 ·have hd:=dfz hlt;refine wAs hd ?_;refine A3 ?_;rw[he,A3m (by omega)]
theorem c_CF_hd{g:Hd->Bool}{f:Nat}{a cs:List DV}(xs:List (Hd))(hx:xs.length<=9223372036854775807)(na:DV.nlL a=true)(ncs:DV.nlL cs=true)(hf:∀x∈xs,PC Tryz.prog f (a++[Hd.v x]++cs) (.bool (g x))):
  PC Tryz.prog 53 [O0 xs,.func f a cs] (.bool (xs.any g)):=by
 refine PC.ofT A2 rfl (A0C rfl) (by simp[DV.nlL,DV.nl,A9o,na,ncs]) rfl ?_;have hc:=c_IF_hd xs hx na ncs hf;refine wA9 hc ?_;refine A3 ?_;rw[A3n]
theorem c_IF_dc{g:Dc->Bool}{f:Nat}{a cs:List DV}(xs:List (Dc))(hx:xs.length<=9223372036854775807)(na:DV.nlL a=true)(ncs:DV.nlL cs=true)(hf:∀x∈xs,PC Tryz.prog f (a++[Dc.v x]++cs) (.bool (g x))):
  PC Tryz.prog 147 [D0 xs,.func f a cs] (I64 (A0n g xs 0)):=by
 refine PC.ofT A2 rfl (A0C rfl) (by simp[DV.nlL,DV.nl,K4,na,ncs]) rfl ?_;refine wAo ?_;refine B6 (λk:Nat=>[(0,D0 xs),(1,.func f a cs),(7,I64 xs.length),(8,I64 k)]) (λ_=>nil) (λk _=>k<=xs.length/\A0n g xs 0=A0n g (xs.drop k) k) (λk=>xs.length-k) 0 (by simp[B5,tm,Tm.upd]) (Sub.nil _) (by simp) ?_;rintro k c ⟨hk,he⟩;by_cases hlt:k<xs.length
 ·have hd:=dtz hlt;have hg:=A0B hlt;have hw:=w64 (n:=(k:Int)+1);have hst:=A1x (g:=g) hg;have hc:=hf xs[k] (A0K hlt);repeat'((with_reducible first|apply wr|refine cpc hc ?_|refine B0 ?_ ?_|apply wb2<;>(intro hb;try simp only[hb]))<;>try simp only[go_sem,seval,hd,hg,hw])
  ·refine A3 ?_;rw[he,hst,hb];rfl
  ·exact⟨k+1,rfl,Sub.refl _,inv ⟨b8,by rw[he,hst,hb];rfl⟩,by omega⟩
 ·have hd:=dfz hlt;refine wAs hd ?_;refine A3 ?_;rw[he,A3m (by omega)]
theorem c_CF_dc{g:Dc->Bool}{f:Nat}{a cs:List DV}(xs:List (Dc))(hx:xs.length<=9223372036854775807)(na:DV.nlL a=true)(ncs:DV.nlL cs=true)(hf:∀x∈xs,PC Tryz.prog f (a++[Dc.v x]++cs) (.bool (g x))):
  PC Tryz.prog 101 [D0 xs,.func f a cs] (.bool (xs.any g)):=by
 refine PC.ofT A2 rfl (A0C rfl) (by simp[DV.nlL,DV.nl,K4,na,ncs]) rfl ?_;have hc:=c_IF_dc xs hx na ncs hf;refine wA9 hc ?_;refine A3 ?_;rw[A3n]
theorem c_IF_md{g:Md->Bool}{f:Nat}{a cs:List DV}(xs:List (Md))(hx:xs.length<=9223372036854775807)(na:DV.nlL a=true)(ncs:DV.nlL cs=true)(hf:∀x∈xs,PC Tryz.prog f (a++[Md.v x]++cs) (.bool (g x))):
  PC Tryz.prog 149 [D8 xs,.func f a cs] (I64 (A0n g xs 0)):=by
 refine PC.ofT A2 rfl (A0C rfl) (by simp[DV.nlL,DV.nl,K3,na,ncs]) rfl ?_;refine wAo ?_;refine B6 (λk:Nat=>[(0,D8 xs),(1,.func f a cs),(7,I64 xs.length),(8,I64 k)]) (λ_=>nil) (λk _=>k<=xs.length/\A0n g xs 0=A0n g (xs.drop k) k) (λk=>xs.length-k) 0 (by simp[B5,tm,Tm.upd]) (Sub.nil _) (by simp) ?_;rintro k c ⟨hk,he⟩;by_cases hlt:k<xs.length
 ·have hd:=dtz hlt;have hg:=A0B hlt;have hw:=w64 (n:=(k:Int)+1);have hst:=A1x (g:=g) hg;have hc:=hf xs[k] (A0K hlt);repeat'((with_reducible first|apply wr|refine cpc hc ?_|refine B0 ?_ ?_|apply wb2<;>(intro hb;try simp only[hb]))<;>try simp only[go_sem,seval,hd,hg,hw])
  ·refine A3 ?_;rw[he,hst,hb];rfl
  ·exact⟨k+1,rfl,Sub.refl _,inv ⟨b8,by rw[he,hst,hb];rfl⟩,by omega⟩
 ·have hd:=dfz hlt;refine wAs hd ?_;refine A3 ?_;rw[he,A3m (by omega)]
theorem c_CF_md{g:Md->Bool}{f:Nat}{a cs:List DV}(xs:List (Md))(hx:xs.length<=9223372036854775807)(na:DV.nlL a=true)(ncs:DV.nlL cs=true)(hf:∀x∈xs,PC Tryz.prog f (a++[Md.v x]++cs) (.bool (g x))):
  PC Tryz.prog 104 [D8 xs,.func f a cs] (.bool (xs.any g)):=by
 refine PC.ofT A2 rfl (A0C rfl) (by simp[DV.nlL,DV.nl,K3,na,ncs]) rfl ?_;have hc:=c_IF_md xs hx na ncs hf;refine wA9 hc ?_;refine A3 ?_;rw[A3n]
theorem c_IF_st{g:Pb.St->Bool}{f:Nat}{a cs:List DV}(xs:List (Pb.St))(hx:xs.length<=9223372036854775807)(na:DV.nlL a=true)(ncs:DV.nlL cs=true)(hf:∀x∈xs,PC Tryz.prog f (a++[Pb.St.v x]++cs) (.bool (g x))):
  PC Tryz.prog 210 [F5 xs,.func f a cs] (I64 (A0n g xs 0)):=by
 refine PC.ofT A2 rfl (A0C rfl) (by simp[DV.nlL,DV.nl,Z6,na,ncs]) rfl ?_;refine wAo ?_;refine B6 (λk:Nat=>[(0,F5 xs),(1,.func f a cs),(7,I64 xs.length),(8,I64 k)]) (λ_=>nil) (λk _=>k<=xs.length/\A0n g xs 0=A0n g (xs.drop k) k) (λk=>xs.length-k) 0 (by simp[B5,tm,Tm.upd]) (Sub.nil _) (by simp) ?_;rintro k c ⟨hk,he⟩;by_cases hlt:k<xs.length
 ·have hd:=dtz hlt;have hg:=A0B hlt;have hw:=w64 (n:=(k:Int)+1);have hst:=A1x (g:=g) hg;have hc:=hf xs[k] (A0K hlt);rw[Pb.St.v_w]at hc;repeat'((with_reducible first|apply wr|refine cpc hc ?_|refine B0 ?_ ?_|apply wb2<;>(intro hb;try simp only[hb]))<;>try simp only[go_sem,seval,hd,hg,hw,Pb.St.v_w])
  ·refine A3 ?_;rw[he,hst,hb];rfl
  ·exact⟨k+1,rfl,Sub.refl _,inv ⟨b8,by rw[he,hst,hb];rfl⟩,by omega⟩
 ·have hd:=dfz hlt;refine wAs hd ?_;refine A3 ?_;rw[he,A3m (by omega)]
theorem c_CF_st{g:Pb.St->Bool}{f:Nat}{a cs:List DV}(xs:List (Pb.St))(hx:xs.length<=9223372036854775807)(na:DV.nlL a=true)(ncs:DV.nlL cs=true)(hf:∀x∈xs,PC Tryz.prog f (a++[Pb.St.v x]++cs) (.bool (g x))):
  PC Tryz.prog 184 [F5 xs,.func f a cs] (.bool (xs.any g)):=by
 refine PC.ofT A2 rfl (A0C rfl) (by simp[DV.nlL,DV.nl,Z6,na,ncs]) rfl ?_;have hc:=c_IF_st xs hx na ncs hf;refine wA9 hc ?_;refine A3 ?_;rw[A3n]
theorem c_IF_ex{g:Ex->Bool}{f:Nat}{a cs:List DV}(xs:List (Ex))(hx:xs.length<=9223372036854775807)(na:DV.nlL a=true)(ncs:DV.nlL cs=true)(hf:∀x∈xs,PC Tryz.prog f (a++[Ex.v x]++cs) (.bool (g x))):
  PC Tryz.prog 227 [J4 xs,.func f a cs] (I64 (A0n g xs 0)):=by
 refine PC.ofT A2 rfl (A0C rfl) (by simp[DV.nlL,DV.nl,A2l,na,ncs]) rfl ?_;refine wAo ?_;refine B6 (λk:Nat=>[(0,J4 xs),(1,.func f a cs),(7,I64 xs.length),(8,I64 k)]) (λ_=>nil) (λk _=>k<=xs.length/\A0n g xs 0=A0n g (xs.drop k) k) (λk=>xs.length-k) 0 (by simp[B5,tm,Tm.upd]) (Sub.nil _) (by simp) ?_;rintro k c ⟨hk,he⟩;by_cases hlt:k<xs.length
 ·have hd:=dtz hlt;have hg:=A0B hlt;have hw:=w64 (n:=(k:Int)+1);have hst:=A1x (g:=g) hg;have hc:=hf xs[k] (A0K hlt);rw[Ex.v_w]at hc;repeat'((with_reducible first|apply wr|refine cpc hc ?_|refine B0 ?_ ?_|apply wb2<;>(intro hb;try simp only[hb]))<;>try simp only[go_sem,seval,hd,hg,hw,Ex.v_w])
  ·refine A3 ?_;rw[he,hst,hb];rfl
  ·exact⟨k+1,rfl,Sub.refl _,inv ⟨b8,by rw[he,hst,hb];rfl⟩,by omega⟩
 ·have hd:=dfz hlt;refine wAs hd ?_;refine A3 ?_;rw[he,A3m (by omega)]
theorem c_CF_ex{g:Ex->Bool}{f:Nat}{a cs:List DV}(xs:List (Ex))(hx:xs.length<=9223372036854775807)(na:DV.nlL a=true)(ncs:DV.nlL cs=true)(hf:∀x∈xs,PC Tryz.prog f (a++[Ex.v x]++cs) (.bool (g x))):
  PC Tryz.prog 212 [J4 xs,.func f a cs] (.bool (xs.any g)):=by
 refine PC.ofT A2 rfl (A0C rfl) (by simp[DV.nlL,DV.nl,A2l,na,ncs]) rfl ?_;have hc:=c_IF_ex xs hx na ncs hf;refine wA9 hc ?_;refine A3 ?_;rw[A3n]
theorem D4y{H:Hp}{a b:Bool}(h:a=b):∃H2,GL H [.bool a] H2 [.bool b]:=⟨H,by rw[h];exact GL.refl _ _⟩
theorem B6v{b1 b2 b3:Blk}{cc:Nat}(u:Unit)(h:1<=cc):Sym.Sub (Sym.nil.upd 0 b1) (((Sym.nil.upd 0 b1).upd cc b2).upd cc b3):=by
 intro j b hj;simp only[Hp.upd,Sym.nil]at hj ⊢;split at hj
 ·rename_i h0;rw[iN,iN,if_pos h0];exact hj
 ·cases hj
theorem c_levS(k:Int):PC Tryz.prog 236 [I64 k] (I64 (B9 k)):=by
 refine PC.go A2 ?_;repeat'((with_reducible first|apply wr|refine B0 ?_ ?_|apply wb2<;>(intro hb;try simp only[hb]))<;>try simp only[go_sem,seval])
 all_goals refine A3 (congrArg I64 ?_)
 all_goals simp_all[B9]
 all_goals omega
theorem c_namedS(k:Int):PC Tryz.prog 237 [I64 k] (.bool (B8c k)):=by
 refine PC.go A2 ?_;repeat'((with_reducible first|apply wr|refine B0 ?_ ?_|apply wb2<;>(intro hb;try simp only[hb]))<;>try simp only[go_sem,seval])
 all_goals refine A3 (congrArg DV.bool ?_)
 all_goals(cases h5:k==5<;>cases h6:k==6<;>cases h7:k==7<;>simp_all[B8c])
theorem c_wrapped(e x:Ex)(i:Nat)(h:e.args[i]? = some x)(hi:i<=1):PC Tryz.prog 238 [e.v,I64 i] (.bool (A1h e.kind x.kind i)):=by
 refine PC.go A2 ?_;rw[Ex.v_w];have h1:=c_levS e.kind;have h2:=c_levS x.kind;repeat'((with_reducible first|apply wr|refine cpc h1 ?_|refine cpc h2 ?_|refine B0 ?_ ?_|apply wb2<;>(intro hb;try simp only[hb]))<;>try simp only[go_sem,seval,h,Ex.v_w])
 all_goals refine D4y ?_
 all_goals unfold A1h
 all_goals(cases hi1:i==1<;>cases h3:B9 e.kind==3<;>simp_all)
 all_goals omega
theorem c_measure:∀(m:Nat) (e:Ex),e.sz<m->e.sz<=100000000->PC Tryz.prog 228 [e.v] (msV (msM e)):=by
 intro m
 induction m with
 |zero=>intro e h;omega
 |succ m ih =>
 intro e hm hB;have hnl:=e.sz_name;have hx:∀x∈e.args,PC Tryz.prog 228 [x.v] (msV (msM x)):=λx hx=>ih x (by have:=Ex.sz_arg hx;omega) (by have:=Ex.sz_arg hx;omega);have hwr:∀(x:Ex) (i:Nat),e.args[i]? = some x->i<=1->PC Tryz.prog 238 [e.w,I64 i] (.bool (A1h e.kind x.kind i)):=λx i h hi=>by have:=c_wrapped e x i h hi;rwa [Ex.v_w]at this
 refine PC.ofT A2 rfl (A0C rfl) (by simp[DV.nlL,DV.nl,Ex.nl]) (E1a _) ?_;rw[Ex.v_w];obtain⟨R,hR⟩:∃R,R=msV (msM e):=⟨_,rfl⟩;rw[<- hR];have hle:=C1f e.kind 0 e.args;have hal:Ex.szs e.args<e.sz:=by cases e with|mk k v n a p=>rw[Ex.sz];show Ex.szs a<_;omega
 have hargs:∀x∈e.args,x.sz<=Ex.szs e.args:=λx hx=>Ex.szs_mem hx;cases e with|mk k v n a p =>
 rw[msM]at hR;dsimp only[Ex.w,Ex.kind,Ex.value,Ex.name,Ex.args,Ex.pos]at hx hwr hle hal hargs hnl ⊢;have hl:=c_levS k;have hnk:=c_namedS k;have hin:=c_IsName n (by omega);have none0:kOk k=false\/a.length≠M9 k\/A7m k n=false\/A5r k v=false->R=.tup [I64 0,I64 0,.bool false]:=λh=>by rw[hR,if_pos h];rfl
 have ci:((M9 k:Nat):Int)<=2:=by unfold M9;(repeat' split)<;>decide
 have kA:∀nm vl:Bool,A7m k n=nm->A5r k v=vl->kOk k=true->IW Tryz.prog 113 (pz Tryz.prog 228 (.o (.i (.o (.o (.o .h)))))) ⟨tm [(1,.ptr 0 0),(2,I64 0),(3,I64 0),(5,I64 (M9 k)),(7,.bool nm),(8,.bool vl)],Sym.nil.upd 0 ⟨0,true,[I64 k,I64 v,.str n,J4 a,I64 p]⟩,1⟩ (rt [.tmp 2,.tmp 3,.tmp 4] λv H' x => ∃H2,GL H' [v] H2 [R]):=by
  intro nm vl hnm hvl hkk;by_cases hlen:a.length=M9 k
  ·have d0:((a.length:Int) != (M9 k:Int))=false:=by simp[hlen]
   cases nm with
   |false =>
    refine wAs d0 ?_;exact A3 (none0 (.inr (.inr (.inl hnm)))).symm
   |true =>
    cases vl with
    |false =>
     refine wAs d0 ?_;exact A3 (none0 (.inr (.inr (.inr hvl)))).symm
    |true =>
     rw[if_neg (by simp[hkk,hnm,hvl,hlen])]at hR;by_cases hc0:M9 k=0
     ·have d1:((M9 k:Int)==0)=true:=by simp[hc0]
      rw[if_pos hc0]at hR;refine wAs (wJ d0 d1) ?_;exact A3 hR.symm
     ·have d1:((M9 k:Int)==0)=false:=by simp[hc0]
      rw[if_neg hc0]at hR;refine wAs (wJ d0 d1) ?_;have hl2:a.length<=2:=b8
      refine B6 (λq:Nat × Nat × Nat=>[(1,.ptr 0 0),(5,I64 (M9 k)),(80,J4 a),(81,I64 a.length),(82,I64 q.1),(2,I64 q.2.1),(3,I64 q.2.2)]) (λ_=>Sym.nil.upd 0 ⟨0,true,[I64 k,I64 v,.str n,J4 a,I64 p]⟩)
       (λq cc=>1<=cc/\q.1<=a.length/\q.2.1<=q.1*1000000000/\q.2.2<=1000000000/\msL k 0 a=(match msL k q.1 (a.drop q.1) with
        |none=>none
        |some (o2,d2)=>some (q.2.1+o2,max q.2.2 d2))) (λq=>a.length-q.1) (0,0,0) (by simp[B5,tm,Tm.upd]) (Sub.refl _)
       ⟨A0D _,A0N _,A0N _,A0N _,by
        rw[A3S];cases msL k 0 a with
        |none=>rfl
        |some q=>obtain⟨o2,d2⟩:=q;simp⟩ ?_
      rintro⟨i,o,d⟩ cc ⟨h1c,hk,ho,hd3,he⟩;dsimp only at hk ho hd3 he ⊢;by_cases hlt:i<a.length
      ·have hd:=dtz hlt;have hg:=A0B hlt;have hw:=w64 (n:=(i:Int)+1);rw[D0r hg]at he;have hmx:=hx _ (A0K hlt);have hax:=hargs _ (A0K hlt);have hwx:=hwr _ i hg (by omega);have hms:=D7o a[i];generalize a[i]=x at hg he hmx hax hwx hms;rw[Ex.v_w]at hmx;have hwx:PC Tryz.prog 238 [DV.agg [I64 k,I64 v,DV.str n,J4 a,I64 p],I64 i] (.bool (A1h k x.kind i)):=hwx;have ne0:=Q8 0 cc (by omega);cases hq:msM x with
       |none =>
        rw[hq]at he hmx;dsimp only[msV]at he hmx;rw[he]at hR;refine wBi hmx hwx (wJ hd (wJ hg (wJ hw (wJ @Ex.v_w ne0)))) ?_;exact A3 hR.symm
       |some qq =>
        obtain⟨o1,d1'⟩:=qq;rw[hq]at he hmx;dsimp only[msV]at he hmx;have:=hms o1 d1' hq;have w1:=w64 (n:=(o:Int)+(o1:Int));have w2:=w64 (n:=(d1':Int)+1);cases hwb:A1h k x.kind i with
        |true =>
         rw[hwb]at he;refine wBi hmx hwx (wJ hd (wJ hg (wJ hw (wJ @Ex.v_w (wJ ne0 (wJ hwb (wJ w1 w2))))))) ?_;all_goals(refine⟨(i+1,o+o1,max d (d1'+1)),⟨by simp,by simp,?_⟩,?_,inv ⟨b8,g9,g9,g9,?_⟩,by simp only;omega⟩)
         all_goals first
          |(refine congrArg I64 ?_;dsimp only;split<;>omega)
          |exact B6v () h1c
          |(rw[he];dsimp only;cases msL k (i+1) (a.drop (i+1)) with
           |none=>rfl
           |some q=>obtain⟨o2,d2⟩:=q;simp[A3M,Nat.max_assoc])
        |false =>
         rw[hwb]at he;refine wBi hmx hwx (wJ hd (wJ hg (wJ hw (wJ @Ex.v_w (wJ ne0 (wJ hwb (wJ w1 w2))))))) ?_;all_goals(refine⟨(i+1,o+o1,max d (d1')),⟨by simp,by simp,?_⟩,?_,inv ⟨b8,g9,g9,g9,?_⟩,by simp only;omega⟩)
         all_goals first
          |(refine congrArg I64 ?_;dsimp only;split<;>omega)
          |exact B6v () h1c
          |(rw[he];dsimp only;cases msL k (i+1) (a.drop (i+1)) with
           |none=>rfl
           |some q=>obtain⟨o2,d2⟩:=q;simp[A3M,Nat.max_assoc])
      ·have hd:=dfz hlt;rw[A1L (by omega)]at he;have w1:=w64 (n:=(d:Int)+1);by_cases hc1:M9 k=1
       ·have e1:((M9 k:Int)==1)=true:=by simp[hc1]
        rw[he,hc1]at hR;refine wAx hd e1 w1 ?_;refine A3 ?_;rw[hR];simp[msV,msL]
       ·have e1:((M9 k:Int)==1)=false:=by simp;omega
        rw[he]at hR;simp only[if_neg hc1]at hR;refine wAx hd e1 w1 ?_;refine A3 ?_;rw[hR];simp[msV,msL]
  ·have d0:((a.length:Int) != (M9 k:Int))=true:=by simp;omega
   refine wAs d0 ?_;exact A3 (none0 (.inr (.inl hlen))).symm
 have kB:∀nm:Bool,A7m k n=nm->kOk k=true->IW Tryz.prog 113 (pz Tryz.prog 228 (.o (.o (.o (.o (.o .h)))))) ⟨tm [(1,.ptr 0 0),(2,I64 0),(3,I64 0),(5,I64 (M9 k)),(7,.bool nm)],Sym.nil.upd 0 ⟨0,true,[I64 k,I64 v,.str n,J4 a,I64 p]⟩,1⟩ (rt [.tmp 2,.tmp 3,.tmp 4] λv H' x => ∃H2,GL H' [v] H2 [R]):=by
  intro nm hnm hkk;repeat'((with_reducible first|refine J8 (p:=IW _ _ (pz Tryz.prog 228 (.o (.i (.o (.o (.o .h)))))) _ _) ?_|refine wr ?_|refine B0 ?_ ?_|apply wb2<;>(intro hb;try simp only[hb]))<;>try simp only[go_sem,seval])
  all_goals refine IW.stage (L:=[(1,.ptr 0 0),(2,I64 0),(3,I64 0),(5,I64 (M9 k)),(7,.bool nm),(8,.bool (A5r k v))]) ?_ (kA nm _ hnm rfl hkk)
  all_goals simp_all[B5,tm,Tm.upd,A5r]
  all_goals omega
 have kC:kOk k=true->IW Tryz.prog 113 (pz Tryz.prog 228 (.o (.o (.o (.i .h))))) ⟨tm [(1,.ptr 0 0),(2,I64 0),(3,I64 0),(5,I64 (M9 k))],Sym.nil.upd 0 ⟨0,true,[I64 k,I64 v,.str n,J4 a,I64 p]⟩,1⟩ (rt [.tmp 2,.tmp 3,.tmp 4] λv H' x => ∃H2,GL H' [v] H2 [R]):=by
  intro hkk;repeat'((with_reducible first|refine J8 (p:=IW _ _ (pz Tryz.prog 228 (.o (.o (.o (.o (.o .h)))))) _ _) ?_|refine wr ?_|refine cpc hnk ?_|refine cpc hin ?_|refine B0 ?_ ?_|apply wb2<;>(intro hb;try simp only[hb]))<;>try simp only[go_sem,seval])
  all_goals refine IW.stage (L:=[(1,.ptr 0 0),(2,I64 0),(3,I64 0),(5,I64 (M9 k)),(7,.bool (A7m k n))]) ?_ (kB _ rfl hkk)
  all_goals simp_all[B5,tm,Tm.upd,A7m]
 by_cases l6:B9 k=6
 ·have m6:(B9 k==6)=true:=by simpa using l6
  refine wAj hl m6 ?_;refine IW.stage ?_ (kC (by simp[kOk];left;omega));simp[B5,tm,Tm.upd,M9,l6]
 have m6:(B9 k==6)=false:=by simpa using l6
 by_cases l5:B9 k<6
 ·have m5:decide (B9 k<6)=true:=by simpa using l5
  refine wAj hl (wJ m6 m5) ?_;refine IW.stage ?_ (kC (by simp[kOk];left;omega));simp[B5,tm,Tm.upd,M9,l6,l5]
 have m5:decide (B9 k<6)=false:=by simpa using l5
 repeat'((with_reducible first|refine J8 (p:=IW _ _ (pz Tryz.prog 228 (.o (.o (.o (.i .h))))) _ _) ?_|refine wr ?_|refine cpc hl ?_|refine B0 ?_ ?_|apply wb2<;>(intro hb;try simp only[hb]))<;>try simp only[go_sem,seval,m6,m5])
 all_goals first
  |(refine IW.stage ?_ (kC (by simp_all[kOk]<;>omega));simp[B5,tm,Tm.upd,M9,l6,l5];done)
  |(refine A3 (none0 (.inl ?_)).symm;simp_all[kOk]<;>omega)
theorem c_ValidExpr(e:Ex)(hB:e.sz<=100000000):PC Tryz.prog 214 [e.v] (.bool (A0e e)):=by
 refine PC.go A2 ?_;have hm:=c_measure _ e (A1M _) hB;unfold A0e;rw[Ex.v_w]at hm ⊢;cases hq:msM e with
 |none =>
  rw[hq]at hm;dsimp only[msV]at hm;refine wA9 hm ?_;all_goals exact A3 rfl
 |some q =>
  obtain⟨o,d⟩:=q;rw[hq]at hm;dsimp only[msV]at hm;repeat'((with_reducible first|apply wr|refine cpc hm ?_|refine B0 ?_ ?_|apply wb2<;>(intro hb;try simp only[hb]))<;>try simp only[go_sem,seval])
  all_goals(refine A3 (congrArg DV.bool ?_);by_cases h1:o<=32<;>by_cases h2:d<=16<;>simp_all<;>omega)
end Go.Proofs.YtdclpmddofggcaaGreatDoor
namespace Go.Pb
open Go.Sym
def Shp.v(s:Shp):DV:=.agg [.bool s.name,.bool s.text,I64 s.args,.bool s.thn,.bool s.els]
end Go.Pb
namespace Go.Proofs.YtdclpmddofggcaaGreatDoor
open Go.Eng (IC IOper DReg IFn L4)
open Go.Sym Go.Pb
def D5v(k:Int):Bool:=decide (1<=k)&&decide (k<=19)
theorem c_shapeOf(k:Int):PC Tryz.prog 211 [I64 k] (.tup [(O4 k).v,.bool (D5v k)]):=by
 refine PC.go A2 ?_;repeat'((with_reducible first|apply wr|refine B0 ?_ ?_|apply wb2<;>(intro hb;try simp only[hb]))<;>try simp only[go_sem,seval])
 all_goals refine A3 ?_
 all_goals simp_all[O4,D5v,Shp.v,tm,Tm.upd]
 all_goals omega
theorem c_isText(s:List UInt8)(hs:s.length<=1000000000):PC Tryz.prog 215 [.str s] (.bool (V6 s)):=by
 refine PC.go A2 ?_;refine wAp ?_;refine B6 (λk:Nat=>[(0,.str s),(3,I64 k)]) (λ_=>Sym.nil) (λk _=>k<=s.length/\(s.take k).all txB=true) (λk=>s.length-k) 0 (by simp[B5,tm,Tm.upd]) (Sub.refl _) ⟨A0N _,rfl⟩ ?_;rintro k cc ⟨hk,he⟩;by_cases hlt:k<s.length
 ·have hd:=dtz hlt;have hg:=A0B hlt;have hw:=w64 (n:=(k:Int)+1);generalize s[k]=x at hg;have hx:txB x=(decide (32<=x.toNat)&&decide (x.toNat<=126)):=rfl;repeat'((with_reducible first|apply wr|refine B0 ?_ ?_|apply wb2<;>(intro hb;try simp only[hb]))<;>try simp only[go_sem,seval,hd,hg,hw])
  ·refine A3 (congrArg DV.bool ?_);have:=A6w txB s k _ hg (by simp_all<;>omega);simp[V6,this]
  ·refine A3 (congrArg DV.bool ?_);have:=A6w txB s k _ hg (by simp_all<;>omega);simp[V6,this]
  ·exact⟨k+1,rfl,Sub.refl _,inv ⟨b8,by rw[A4q txB s k _ hg,he];simp_all<;>omega⟩,by omega⟩
 have hd:=dfz hlt;have hall:=B2n txB s k (by omega) he;refine wAs hd ?_;refine A3 (congrArg DV.bool ?_);simp[V6,hall];omega
theorem c_validDecl(d:Dc)(hB:d.name.length<=1000000000):PC Tryz.prog 103 [d.v] (.bool (A1i d)):=by
 refine PC.go A2 ?_;have hn:=c_IsName d.name hB;repeat'((with_reducible first|apply wr|refine cpc hn ?_|refine B0 ?_ ?_|apply wb2<;>(intro hb;try simp only[hb]))<;>try simp only[go_sem,seval])
 all_goals(refine A3 (congrArg DV.bool ?_);simp_all[A1i]<;>omega)
theorem c_vS1(e:Ex)(hB:e.sz<=100000000):PC Tryz.prog 213 [e.v] (.bool (!A0e e)):=by
 refine PC.go A2 ?_;have h:=c_ValidExpr e hB;rw[Ex.v_w]at h ⊢;refine wA9 h ?_;exact A3 rfl
theorem D8o(d:Nat)(s:Pb.St):S4 d s=(D5v s.kind&&(s.args.length==(O4 s.kind).args&&s.args.all A0e) &&
   ((if(O4 s.kind).name=true then F6 s.name else s.name == [])&&(if(O4 s.kind).text=true then V6 s.text else s.text == [])) &&
   (((O4 s.kind).thn||s.thn.isEmpty)&&((O4 s.kind).els||s.els.isEmpty))&&(Q4 s.thn (d+1)&&Q4 s.els (d+1))):=by
 cases s with|mk k n t a x y p=>rw[S4];rfl
theorem B6f{α:Type}(g : α->Bool)(l:List α):l.any (λx => !g x) = !l.all g:=by
 induction l with
 |nil=>rfl
 |cons x l ih=>rw[List.any_cons,A2N,ih,Bool.not_and]
theorem c_vSt(s:Pb.St)(d:Nat)(hd:d<=1000000000)(hB:s.sz<=100000000)(hX:PC Tryz.prog 150 [F5 s.thn,I64 (d+1:Nat)] (.bool (Q4 s.thn (d+1))))(hY:PC Tryz.prog 150 [F5 s.els,I64 (d+1:Nat)] (.bool (Q4 s.els (d+1)))):
  PC Tryz.prog 186 [s.v,I64 d] (.bool (S4 d s)):=by
 rw[D8o];have hsa:Ex.szs s.args<s.sz:=by cases s with|mk k n t a x y p=>rw[Pb.St.sz];show Ex.szs a<_;omega
 have hal:=Ex.szs_len s.args;have hxl:=Pb.St.szs_len s.thn;have hyl:=Pb.St.szs_len s.els;have hxs:=s.sz_thn;have hys:=s.sz_els;have hnl:=s.sz_name;have htl:=s.sz_text;have hn:=c_IsName s.name (by omega);have ht:=c_isText s.text (by omega);have hsh:=c_shapeOf s.kind;have hca:=c_CF_ex (f:=213) (a:=[]) (cs:=[]) (g:=λe => !A0e e) s.args (by omega) rfl rfl (λx hx=>c_vS1 x (by have:=Ex.szs_mem hx;omega));rw[B6f]at hca;have hw:=w64 (n:=(d:Int)+1);refine PC.ofT A2 rfl (A0C rfl) (by rw[Pb.St.v_w];simp[DV.nlL,DV.nl,A2l,Z6]) rfl ?_;cases s with|mk k n t a x y p =>
 dsimp only[Pb.St.kind,Pb.St.name,Pb.St.text,Pb.St.args,Pb.St.thn,Pb.St.els,Pb.St.pos]at *;have hX:PC Tryz.prog 150 [F5 x,I64 ((d:Int)+1)] (.bool (Q4 x (d+1))):=hX;have hY:PC Tryz.prog 150 [F5 y,I64 ((d:Int)+1)] (.bool (Q4 y (d+1))):=hY;have ev:(Pb.St.mk k n t a x y p).v=.agg [I64 k,.str n,.str t,J4 a,F5 x,F5 y,I64 p]:=Pb.St.v_w _;rw[ev];generalize Q4 x (d+1)=bx at *;generalize Q4 y (d+1)=bY at *;generalize D5v k=kb at *;obtain⟨nb,tb,ar,xb,yb,hs⟩:∃nb tb ar xb yb,O4 k=⟨nb,tb,ar,xb,yb⟩:=⟨_,_,_,_,_,rfl⟩;simp only[hs,Shp.v]at hsh ⊢;have kA:∀(cc:Nat) (nm tx:Bool),IW Tryz.prog 86 (pz Tryz.prog 186 (.i (.i (.o (.i .h))))) ⟨tm [(1,I64 d),(2,.ptr 0 0),(5,.ptr 1 0),(7,.bool nm),(8,.bool tx)],(Sym.nil.upd 0 ⟨0,true,[I64 k,.str n,.str t,J4 a,F5 x,F5 y,I64 p]⟩).upd 1 ⟨0,true,[.bool nb,.bool tb,I64 ar,.bool xb,.bool yb]⟩,cc⟩ (rt [.tmp 4] λv H' c => ∃H2,GL H' [v] H2 [.bool ((nm&&tx)&&((xb||x.isEmpty)&&(yb||y.isEmpty))&&(bx&&bY))]):=by
  intro cc nm tx;have ex:x.isEmpty = !decide ((x.length:Int)>0):=by cases x<;>simp
  have ey:y.isEmpty = !decide ((y.length:Int)>0):=by cases y<;>simp
  rw[ex,ey];cases nm with
  |false =>
   refine wAp ?_;exact A3 (by simp)
  |true =>
  cases tx with
  |false =>
   refine wAp ?_;exact A3 (by simp)
  |true =>
  generalize hlx:decide ((x.length:Int)>0)=lx at *;generalize hly:decide ((y.length:Int)>0)=ly at *;cases bx<;>cases bY<;>cases xb<;>cases lx<;>cases yb<;>cases ly;all_goals(refine wBh hX hY (wJ hlx (wJ hly hw)) ?_)
  all_goals exact A3 rfl
 have kB:∀cc:Nat,IW Tryz.prog 86 (pz Tryz.prog 186 (.i (.i (.i .h)))) ⟨tm [(1,I64 d),(2,.ptr 0 0),(5,.ptr 1 0),(7,.bool (n == [])),(8,.bool (t == []))],(Sym.nil.upd 0 ⟨0,true,[I64 k,.str n,.str t,J4 a,F5 x,F5 y,I64 p]⟩).upd 1 ⟨0,true,[.bool nb,.bool tb,I64 ar,.bool xb,.bool yb]⟩,cc⟩ (rt [.tmp 4] λv H' c => ∃H2,GL H' [v] H2 [.bool (((if nb=true then F6 n else n == [])&&(if tb=true then V6 t else t == []))&&((xb||x.isEmpty)&&(yb||y.isEmpty))&&(bx&&bY))]):=by
  intro cc;cases nb<;>cases tb;all_goals((repeat'((with_reducible first|refine J8 (p:=IW _ _ (pz Tryz.prog 186 (.i (.i (.o (.i .h))))) _ _) ?_|refine wr ?_|refine cpc hn ?_|refine cpc ht ?_|refine B0 ?_ ?_|apply wb2<;>(intro hb;try simp only[hb]))<;>try simp only[go_sem,seval])))
  all_goals(refine IW.stage ?_ (kA _ _ _);simp[B5,tm,Tm.upd])
 cases kb with
 |false =>
  refine wA9 hsh ?_;exact A3 (by simp)
 |true =>
 by_cases hal2:a.length=ar
 ·have d0:((a.length:Int) != (ar:Int))=false:=by simp[hal2]
  cases hall:a.all A0e with
  |false =>
   rw[hall]at hca;refine wBh hsh hca d0 ?_;exact A3 (by simp)
  |true =>
   rw[hall]at hca;have e1:(a.length==ar)=true:=by simpa using hal2
   rw[e1];simp only[A2A];(repeat'((with_reducible first|refine J8 (p:=IW _ _ (pz Tryz.prog 186 (.i (.i (.i .h)))) _ _) ?_|refine wr ?_|refine cpc hsh ?_|refine cpc hca ?_|refine B0 ?_ ?_|apply wb2<;>(intro hb;try simp only[hb]))<;>try simp only[go_sem,seval,d0,A0I,A1]));refine IW.stage (L:=[(1,I64 d),(2,.ptr 0 0),(5,.ptr 1 0),(7,.bool (n == [])),(8,.bool (t == []))]) ?_ (kB _);simp[B5,tm,Tm.upd]
 ·have d0:((a.length:Int) != (ar:Int))=true:=by simp;omega
  refine wBb hsh d0 ?_;exact A3 (by simp;omega)
theorem c_vB1(s:Pb.St)(d:Nat)(h:PC Tryz.prog 186 [s.v,I64 d] (.bool (S4 d s))):PC Tryz.prog 185 [s.v,.fptr [I64 d]] (.bool (!S4 d s)):=by
 rw[Pb.St.v_w]at h ⊢;refine PC.go A2 ?_;refine wA9 h ?_;exact A3 rfl
theorem B3d(d:Nat):∀l:List Pb.St,J0 d l=l.all (S4 d)
 |[]=>by rw[J0];rfl
 |s::l=>by rw[J0,B3d d l];rfl
theorem c_validBlock:∀(m:Nat) (l:List Pb.St) (d:Nat),Pb.St.szs l<m->Pb.St.szs l<=100000000->d+Pb.St.szs l<=1000000000->PC Tryz.prog 150 [F5 l,I64 d] (.bool (Q4 l d)):=by
 intro m
 induction m with
 |zero=>intro l d h;omega
 |succ m ih =>
 intro l d hm hB hd;have hl:=Pb.St.szs_len l;have hcf:=c_CF_st (f:=185) (a:=[]) (cs:=[.fptr [I64 d]]) (g:=λs => !S4 d s) l (by omega) rfl rfl (λs hs=>by
  have h1:=Pb.St.szs_mem hs;have h2:=s.sz_thn;have h3:=s.sz_els;exact c_vB1 s d (c_vSt s d (by omega) (by omega) (ih _ _ (by omega) (by omega) (by omega)) (ih _ _ (by omega) (by omega) (by omega))))
 rw[B6f, <- B3d]at hcf;refine PC.go A2 ?_;have el:l.isEmpty = !decide ((l.length:Int)>0):=by cases l<;>simp
 have e64:decide (l.length<=64) = !decide ((l.length:Int)>64):=r8
 have e8:decide (d<=8) = !decide ((d:Int)>8):=r8
 unfold Q4;rw[el,e64,e8];repeat'((first|(with_reducible first|apply wr|refine B0 ?_ ?_)|(with_reducible apply wb2<;>(intro hb;try simp only[hb]))|(refine AC.call (hcf.lend rfl (GL.one (id:=0) (b:=⟨0,true,[I64 d]⟩) rfl rfl (.cons _ _ _ _ (.same _) (.cons _ _ _ _ (.func _ _ _ _ _ .nil (.cons _ _ _ _ (.ptr 0 _ (A0N _) rfl) .nil)) .nil)))) ?_<;>rintro v H' c' ⟨rfl,rfl,rfl⟩ hcc))<;>try simp only[go_sem,seval,A0I])
 all_goals(refine A3 (congrArg DV.bool ?_);simp_all)
theorem c_validHd(h:Hd)(hB:Pb.St.szs h.body<=100000000):PC Tryz.prog 150 [F5 h.body,I64 1] (.bool (Q4 h.body 1)) :=
 c_validBlock _ h.body 1 (A1M _) hB (by omega)
theorem E1v(h:Hd):h.v=.agg [I64 h.trig,.str h.name,F5 h.body,I64 h.pos]:=rfl
theorem c_validMode(d:Md)(hB:d.sz<=100000000):PC Tryz.prog 106 [d.v] (.bool (V0 d)):=by
 have hsz:d.sz=1+d.name.length+(d.hds.map Hd.sz).sum:=rfl;have hhl:d.hds.length<=(d.hds.map Hd.sz).sum:=K2 λx _=>p9
 have hn:=c_IsName d.name (by omega);refine PC.ofT A2 rfl (A0C rfl) (by simp[Md.v,DV.nlL,DV.nl,A9o]) rfl ?_;have ev:d.v=.agg [.str d.name,I64 d.prio,O0 d.hds,I64 d.pos]:=rfl;rw[ev];cases hnm:F6 d.name with
 |false =>
  rw[hnm]at hn;refine wA9 hn ?_;exact A3 (by simp[V0,hnm])
 |true =>
 rw[hnm]at hn;by_cases p0:d.prio<0
 ·have q0:decide (d.prio<0)=true:=by simpa using p0
  refine wBc hn q0 ?_;exact A3 (by simp[V0,hnm];omega)
 have q0:decide (d.prio<0)=false:=by simpa using p0
 by_cases p1:d.prio>2147483647
 ·have q1:decide (d.prio>2147483647)=true:=by simpa using p1
  refine wBc hn (wJ q0 q1) ?_;exact A3 (by simp[V0,hnm];omega)
 have q1:decide (d.prio>2147483647)=false:=by simpa using p1
 by_cases p2:d.hds.length>32
 ·have q2:decide ((d.hds.length:Int)>32)=true:=by simp;omega
  refine wBb hn (wJ q0 (wJ q1 q2)) ?_;exact A3 (by simp[V0,hnm];omega)
 have q2:decide ((d.hds.length:Int)>32)=false:=a8
 have er:V0 d=d.hds.all A2e:=by
  unfold V0;rw[hnm,show decide (0<=d.prio)=true by simp;omega,show decide (d.prio<=2147483647)=true by simp;omega,show decide (d.hds.length<=32)=true by simp;omega];rfl
 rw[er];refine wBb hn (wJ q0 (wJ q1 q2)) ?_;refine B6 (λk:Nat=>[(27,O0 d.hds),(28,I64 d.hds.length),(29,I64 k)]) (λ_=>Sym.nil) (λk _=>k<=d.hds.length/\(d.hds.take k).all A2e=true) (λk=>d.hds.length-k) 0 (by simp[B5,tm,Tm.upd]) (Sub.nil _) ⟨A0N _,rfl⟩ ?_;rintro k cc ⟨hk,he⟩;by_cases hlt:k<d.hds.length
 ·have hd:=dtz hlt;have hg:=A0B hlt;have hw:=w64 (n:=(k:Int)+1);have hs:d.hds[k].sz<=(d.hds.map Hd.sz).sum:=M2 (A0K hlt);generalize d.hds[k]=h at hg hs;have hhs:h.sz=1+h.name.length+Pb.St.szs h.body:=rfl;have hn2:=c_IsName h.name (by omega);have hb2:=c_validHd h (by omega);have hf:=A6w A2e d.hds k _ hg;have ht:=A4q A2e d.hds k _ hg;have eh:A2e h=(decide (1<=h.trig)&&decide (h.trig<=6)&&(if 3<=h.trig then F6 h.name else h.name == [])&&Q4 h.body 1):=rfl;by_cases t3:3<=h.trig
  ·have u3:decide (h.trig≥3)=true:=by simpa using t3
   rw[if_pos t3]at eh;repeat'((with_reducible first|apply wr|refine cpc hn2 ?_|refine cpc hb2 ?_|refine B0 ?_ ?_|apply wb2<;>(intro hb;try simp only[hb]))<;>try simp only[go_sem,seval,hd,hg,hw,u3,E1v,A0,A1])
   all_goals first
    |(refine A3 (congrArg DV.bool (hf ?_).symm);rw[eh];clear hf ht eh er;simp_all<;>omega)
    |(refine⟨k+1,rfl,Sub.nil _,inv ⟨b8,?_⟩,by omega⟩;rw[ht,he,eh];clear hf ht eh er;simp_all<;>omega)
  ·have u3:decide (h.trig≥3)=false:=by simpa using t3
   rw[if_neg t3]at eh;repeat'((with_reducible first|apply wr|refine cpc hn2 ?_|refine cpc hb2 ?_|refine B0 ?_ ?_|apply wb2<;>(intro hb;try simp only[hb]))<;>try simp only[go_sem,seval,hd,hg,hw,u3,E1v,A0,A1])
   all_goals first
    |(refine A3 (congrArg DV.bool (hf ?_).symm);rw[eh];clear hf ht eh er;simp_all<;>omega)
    |(refine⟨k+1,rfl,Sub.nil _,inv ⟨b8,?_⟩,by omega⟩;rw[ht,he,eh];clear hf ht eh er;simp_all<;>omega)
 have hd:=dfz hlt;have hall:=B2n A2e d.hds k (by omega) he;refine wAs hd ?_;exact A3 (by rw[hall])
theorem c_V1(d:Dc)(hB:d.name.length<=1000000000):PC Tryz.prog 102 [d.v] (.bool (!A1i d)):=by
 have h:=c_validDecl d hB;have ev:d.v=.agg [I64 d.kind,.str d.name,I64 d.value,I64 d.pos]:=rfl;rw[ev]at h ⊢;refine PC.go A2 ?_;refine wA9 h ?_;exact A3 rfl
theorem c_V2(d:Md)(hB:d.sz<=100000000):PC Tryz.prog 105 [d.v] (.bool (!V0 d)):=by
 have h:=c_validMode d hB;have ev:d.v=.agg [.str d.name,I64 d.prio,O0 d.hds,I64 d.pos]:=rfl;rw[ev]at h ⊢;refine PC.go A2 ?_;refine wA9 h ?_;exact A3 rfl
theorem c_Valid(r:Ru)(hB:r.sz<=100000000):PC Tryz.prog 48 [r.v] (.bool (M8 r)):=by
 obtain⟨D,M⟩:=r;have hDs:(D.map Dc.sz).sum+(M.map Md.sz).sum<=100000000:=hB;have hDl:D.length<=(D.map Dc.sz).sum:=K2 λx _=>zaf
 have hMl:M.length<=(M.map Md.sz).sum:=K2 λx _=>p9
 have h1:=c_CF_dc (f:=102) (a:=[]) (cs:=[]) (g:=λe => !A1i e) D (by omega) rfl rfl (λx hx=>c_V1 x (by
  have:x.sz<=(D.map Dc.sz).sum:=M2 hx;have e:x.sz=1+x.name.length:=rfl;omega))
 have h2:=c_CF_md (f:=105) (a:=[]) (cs:=[]) (g:=λe => !V0 e) M (by omega) rfl rfl (λx hx=>c_V2 x (by
  have:x.sz<=(M.map Md.sz).sum:=M2 hx;omega))
 rw[B6f]at h1 h2;refine PC.ofT A2 rfl (A0C rfl) (by simp[Ru.v,DV.nlL,DV.nl,K4,K3]) rfl ?_;dsimp only[Ru.v];unfold M8;dsimp only;have e1:decide (D.length<=128) = !decide ((D.length:Int)>128):=r8
 have e2:decide (M.length<=16) = !decide ((M.length:Int)>16):=r8
 rw[e1,e2];generalize D.all A1i=bD at *;generalize M.all V0=bM at *;repeat'((with_reducible first|apply wr|refine cpc h1 ?_|refine cpc h2 ?_|refine B0 ?_ ?_|apply wb2<;>(intro hb;try simp only[hb]))<;>try simp only[go_sem,seval,A0I])
 all_goals(refine A3 (congrArg DV.bool ?_);simp_all)
end Go.Proofs.YtdclpmddofggcaaGreatDoor
set_option maxHeartbeats 4000000
namespace Go.Proofs.YtdclpmddofggcaaGreatDoor
open Go.Eng (IC IOper DReg IFn L4)
open Go.Sym
abbrev x81:XT Tryz.prog 81:=mkF
instance t81:FT Tryz.prog 81 x81.d:=x81.ft
abbrev x134:XT Tryz.prog 134:=mkF
instance t134:FT Tryz.prog 134 x134.d:=x134.ft
abbrev x78:XT Tryz.prog 78:=mkF
instance t78:FT Tryz.prog 78 x78.d:=x78.ft
abbrev x176:XT Tryz.prog 176:=mkF
instance t176:FT Tryz.prog 176 x176.d:=x176.ft
abbrev x175:XT Tryz.prog 175:=mkF
instance t175:FT Tryz.prog 175 x175.d:=x175.ft
abbrev x136:XT Tryz.prog 136:=mkF
instance t136:FT Tryz.prog 136 x136.d:=x136.ft
abbrev x135:XT Tryz.prog 135:=mkF
instance t135:FT Tryz.prog 135 x135.d:=x135.ft
abbrev x80:XT Tryz.prog 80:=mkF
instance t80:FT Tryz.prog 80 x80.d:=x80.ft
abbrev x79:XT Tryz.prog 79:=mkF
instance t79:FT Tryz.prog 79 x79.d:=x79.ft
abbrev x133:XT Tryz.prog 133:=mkF
instance t133:FT Tryz.prog 133 x133.d:=x133.ft
abbrev x77:XT Tryz.prog 77:=mkF
instance t77:FT Tryz.prog 77 x77.d:=x77.ft
abbrev x33:XT Tryz.prog 33:=mkF
instance t33:FT Tryz.prog 33 x33.d:=x33.ft
abbrev x137:XT Tryz.prog 137:=mkF
instance t137:FT Tryz.prog 137 x137.d:=x137.ft
abbrev x34:XT Tryz.prog 34:=mkF
instance t34:FT Tryz.prog 34 x34.d:=x34.ft
abbrev x49:XT Tryz.prog 49:=mkF
instance t49:FT Tryz.prog 49 x49.d:=x49.ft
abbrev x107:XT Tryz.prog 107:=mkF
instance t107:FT Tryz.prog 107 x107.d:=x107.ft
abbrev x50:XT Tryz.prog 50:=mkF
instance t50:FT Tryz.prog 50 x50.d:=x50.ft
abbrev x108:XT Tryz.prog 108:=mkF
instance t108:FT Tryz.prog 108 x108.d:=x108.ft
abbrev x55:XT Tryz.prog 55:=mkF
instance t55:FT Tryz.prog 55 x55.d:=x55.ft
abbrev x51:XT Tryz.prog 51:=mkF
instance t51:FT Tryz.prog 51 x51.d:=x51.ft
abbrev x112:XT Tryz.prog 112:=mkF
instance t112:FT Tryz.prog 112 x112.d:=x112.ft
abbrev x56:XT Tryz.prog 56:=mkF
instance t56:FT Tryz.prog 56 x56.d:=x56.ft
abbrev x151:XT Tryz.prog 151:=mkF
instance t151:FT Tryz.prog 151 x151.d:=x151.ft
abbrev x111:XT Tryz.prog 111:=mkF
instance t111:FT Tryz.prog 111 x111.d:=x111.ft
abbrev x52:XT Tryz.prog 52:=mkF
instance t52:FT Tryz.prog 52 x52.d:=x52.ft
abbrev x152:XT Tryz.prog 152:=mkF
instance t152:FT Tryz.prog 152 x152.d:=x152.ft
abbrev x113:XT Tryz.prog 113:=mkF
instance t113:FT Tryz.prog 113 x113.d:=x113.ft
abbrev x109:XT Tryz.prog 109:=mkF
instance t109:FT Tryz.prog 109 x109.d:=x109.ft
abbrev x25:XT Tryz.prog 25:=mkF
instance t25:FT Tryz.prog 25 x25.d:=x25.ft
abbrev x54:XT Tryz.prog 54:=mkF
instance t54:FT Tryz.prog 54 x54.d:=x54.ft
end Go.Proofs.YtdclpmddofggcaaGreatDoor
set_option maxHeartbeats 8000000
namespace Go.Proofs.YtdclpmddofggcaaGreatDoor
open Go.Eng (IC IOper DReg IFn L4)
open Go.Sym Go.Pb
theorem c_expKR(k:Int):PC Tryz.prog 175 [I64 k] (I64 (kdE k)):=by
 refine PC.go A2 ?_;repeat'((with_reducible first|apply wr|refine B0 ?_ ?_|apply wb2<;>(intro hb;try simp only[hb]))<;>try simp only[go_sem,seval])
 all_goals(refine A3 (congrArg I64 ?_);simp_all[kdE])
theorem c_stmKR(k:Int):PC Tryz.prog 135 [I64 k] (I64 (kdS k)):=by
 refine PC.go A2 ?_;repeat'((with_reducible first|apply wr|refine B0 ?_ ?_|apply wb2<;>(intro hb;try simp only[hb]))<;>try simp only[go_sem,seval])
 all_goals(refine A3 (congrArg I64 ?_);simp_all[kdS])
theorem c_trgKR(k:Int):PC Tryz.prog 79 [I64 k] (I64 (kdH k)):=by
 refine PC.go A2 ?_;repeat'((with_reducible first|apply wr|refine B0 ?_ ?_|apply wb2<;>(intro hb;try simp only[hb]))<;>try simp only[go_sem,seval])
 all_goals(refine A3 (congrArg I64 ?_);simp_all[kdH])
theorem c_mostR(k:Int):PC Tryz.prog 133 [I64 k] (I64 (A4r k)):=by
 refine PC.go A2 ?_;repeat'((with_reducible first|apply wr|refine B0 ?_ ?_|apply wb2<;>(intro hb;try simp only[hb]))<;>try simp only[go_sem,seval])
 all_goals(refine A3 (congrArg I64 ?_);simp_all[A4r])
theorem c_boolR(k:Int):PC Tryz.prog 176 [I64 k] (.bool (C7n k)):=by
 refine PC.go A2 ?_;repeat'((with_reducible first|apply wr|refine B0 ?_ ?_|apply wb2<;>(intro hb;try simp only[hb]))<;>try simp only[go_sem,seval])
 all_goals(refine A3 (congrArg DV.bool ?_);simp_all[C7n])
theorem A1m(d:Dc):d.v=.agg [I64 d.kind,.str d.name,I64 d.value,I64 d.pos]:=rfl
theorem A7r(d:Md):d.v=.agg [.str d.name,I64 d.prio,O0 d.hds,I64 d.pos]:=rfl
theorem c_cntR(r:Ru)(k:Int)(h1:r.decls.length<=1000000000)(h2:r.modes.length<=1000000000):PC Tryz.prog 81 [r.v,I64 k] (I64 (cnR r k)):=by
 refine PC.ofT A2 rfl (A0C rfl) (by simp[Ru.v,DV.nlL,DV.nl,K4,K3]) rfl ?_;obtain⟨D,M⟩:=r;dsimp only[Ru.v]at h1 h2 ⊢;by_cases k9:k=9
 ·subst k9;refine wAo ?_;exact A3 rfl
 have q9:(k==9)=false:=by simpa using k9
 have er:cnR ⟨D,M⟩ k=cnD D k:=by rw[cnR,if_neg k9]
 rw[er];refine wAs q9 ?_;refine B6 (λi:Nat=>[(1,I64 k),(2,.ptr 0 0),(5,I64 (cnD (D.take i) k)),(6,I64 i)]) (λ_=>Sym.nil.upd 0 ⟨0,true,[D0 D,D8 M]⟩) (λi c=>i<=D.length) (λi=>D.length-i) 0 (by simp[B5,tm,Tm.upd,cnD]) (Sub.refl _) (A0N _) ?_;rintro i c hk;by_cases hlt:i<D.length
 ·have hd:=dtz hlt;have hg:=A0B hlt;have hw:=w64 (n:=(i:Int)+1);have e0:cnD (D.take (i+1)) k=cnD (D.take i) k+(if D[i].kind==k then 1 else 0):=by
   unfold cnD;rw[A0R,hg,List.countP_append];simp[List.countP_cons]
  have hle:cnD (D.take i) k<=D.length:=by
   refine A1B List.countP_le_length ?_;rw[A0W];omega
  have hw2:=w64 (n:=(cnD (D.take i) k:Int)+1);generalize D[i]=d at hg e0;repeat'((with_reducible first|apply wr|refine B0 ?_ ?_|apply wb2<;>(intro hb;try simp only[hb]))<;>try simp only[go_sem,seval,hd,hg,hw,hw2,A1m,A0I])
  all_goals(refine⟨i+1,?_,Sub.refl _,inv (by omega),by omega⟩;simp_all)
 have hd:=dfz hlt;refine wAr hd ?_;rw[A0J (by omega)];exact A3 rfl
theorem E3r{ρ:Ren}{v:Value}{a:DV}(h:VRel ρ (.agg [a,.snil]) v):VRel ρ (.agg [a,.lst []]) v:=by
 obtain⟨b,rfl,k1,k2⟩:=h.agg_inv;refine .agg _ _ k1 λi x y hx hy=>?_
 match i with
 |0=>exact k2 0 _ y hx hy
 |1=>cases hx;exact(k2 1 _ y rfl hy).snil_lst
 |i+2=>simp at hx
theorem D0b{f:Nat}{a x r:DV}(h:PC Tryz.prog f [.agg [a,.lst []],x] r):PC Tryz.prog f [.agg [a,.snil],x] r:=by
 have hn:DV.nlL [.agg [a,.snil],x]=true:=by have:=h.na;simpa[DV.nlL,DV.nl] using this
 have g:GL Sym.nil [.agg [a,.snil],x] Sym.nil [.agg [a,.lst []],x]:=GL.view fun ρ vs hA=>⟨hA.1,λi d v hd hv=>by
  match i with
  |0=>cases hd;exact E3r (hA.2 0 _ v rfl hv)
  |1=>exact hA.2 1 _ v hd hv
  |i+2=>simp at hd⟩
 exact⟨hn,h.nr,AC.ghost g h.ac⟩
theorem B5b{xs:List DV}{h sz:Nat}(hh:h<=xs.length)(hu:∀x∈xs,x.cells.length=sz)(H:Hp):A7c H sz (.lst xs) none (some (I64 (h:Int)))=some (.lst (xs.take h)):=by
 have e:unit sz xs=true:=A0V.2 λx hx=>by simpa using hu x hx
 simp only[A7c,boundOf,A4N,if_true,A3D,hh,A0N,and_self,e,Nat.sub_zero,A3S]
theorem A4c{b1 b2:Blk}{cc:Nat}(h:1<=cc):Sym.Sub (Sym.nil.upd 0 b1) ((Sym.nil.upd 0 b1).upd cc b2):=by
 intro j b hj;simp only[Hp.upd,Sym.nil]at hj ⊢;split at hj
 ·rename_i h0;rw[iN,if_pos h0];exact hj
 ·cases hj
theorem c_lkR(r:Ru)(n:List UInt8)(h1:r.decls.length<=1000000000)(h2:r.modes.length<=1000000000):PC Tryz.prog 134 [r.v,.str n] (.tup [I64 (K0 r n).1,I64 (K0 r n).2]):=by
 refine PC.ofT A2 rfl (A0C rfl) (by simp[Ru.v,DV.nlL,DV.nl,K4,K3]) rfl ?_;obtain⟨D,M⟩:=r;dsimp only at h1 h2;obtain⟨R,hR⟩:∃R:DV,R=.tup [I64 (K0 ⟨D,M⟩ n).1,I64 (K0 ⟨D,M⟩ n).2]:=⟨_,rfl⟩;rw[<- hR];unfold K0 at hR;dsimp only[Ru.v]at hR ⊢;refine wAp ?_;refine B6 (λi:Nat=>[(1,.str n),(2,.ptr 0 0),(6,I64 i)]) (λ_=>Sym.nil.upd 0 ⟨0,true,[D0 D,D8 M]⟩) (λi c=>1<=c/\i<=D.length/\lkD [] D n=lkD (D.take i) (D.drop i) n) (λi=>D.length-i) 0 (by simp[B5,tm,Tm.upd]) (Sub.refl _) ⟨A0D _,A0N _,rfl⟩ ?_;rintro i c ⟨h1c,hk,he⟩;by_cases hlt:i<D.length
 ·have hd:=dtz hlt;have hg:=A0B hlt;have hw:=w64 (n:=(i:Int)+1);rw[D0z hg]at he;have hcn:=D0b (c_cntR ⟨D.take i,[]⟩ D[i].kind (by rw[A0W];omega) (A0N _));generalize D[i]=d at hg he hcn;have ne0:=Q8 0 c (by omega);have hsl:=λH=>B5b (xs:=D.map Dc.v) (h:=i) (sz:=4) (by rw[A0I];omega) (A1c _) H;rw[<- List.map_take]at hsl;by_cases hn:d.name=n
  ·have q0:(d.name==n)=true:=by simp[hn]
   rw[if_pos hn]at he;rw[he]at hR;by_cases h6:d.kind<6
   ·have q6:decide (d.kind<6)=true:=by simpa using h6
    rw[if_pos h6]at hR;refine wAr (wJ hd (wJ hg (wJ hw (wJ q0 (wJ q6 (wJ @A1m (wJ ne0 (wJ @A0 @A1)))))))) ?_;refine⟨o5,?_⟩;refine wAx ne0 @A0 @A1 ?_;exact A3 hR.symm
   ·have q6:decide (d.kind<6)=false:=by simpa using h6
    rw[if_neg h6]at hR;refine wBe hcn hd hg hw q0 q6 @A1m ne0 @A0 @A1 hsl ?_;refine⟨o5,?_⟩;refine wBc hcn (wJ ne0 (wJ @A0 @A1)) ?_;exact A3 hR.symm
  ·have q0:(d.name==n)=false:=by simp[hn]
   rw[if_neg hn]at he;refine wAr (wJ hd (wJ hg (wJ hw (wJ q0 (wJ @A1m (wJ ne0 (wJ @A0 @A1))))))) ?_;exact⟨i+1,by simp,A4c h1c,inv ⟨b8,b8,he⟩,by omega⟩
 have hd:=dfz hlt;rw[A1L (by omega),lkD]at he;rw[he]at hR;refine wAr hd ?_;clear he hd hlt hk i;refine B6 (λi:Nat=>[(1,.str n),(2,.ptr 0 0),(8,I64 i)]) (λ_=>Sym.nil.upd 0 ⟨0,true,[D0 D,D8 M]⟩) (λi c=>i<=M.length/\lkM 0 M n=lkM i (M.drop i) n) (λi=>M.length-i) 0 (by simp[B5,tm,Tm.upd]) (Sub.refl _) ⟨A0N _,rfl⟩ ?_;rintro i c ⟨hk,he⟩;by_cases hlt:i<M.length
 ·have hd:=dtz hlt;have hg:=A0B hlt;have hw:=w64 (n:=(i:Int)+1);rw[D0x hg]at he;generalize M[i]=d at hg he;by_cases hn:d.name=n
  ·have q0:(d.name==n)=true:=by simp[hn]
   rw[if_pos hn]at he;rw[he]at hR;refine wA1 hd hg hw q0 @A7r ?_;exact A3 hR.symm
  ·have q0:(d.name==n)=false:=by simp[hn]
   rw[if_neg hn]at he;refine wA1 hd hg hw q0 @A7r ?_;exact⟨i+1,by simp,Sub.refl _,inv ⟨b8,he⟩,by omega⟩
 have hd:=dfz hlt;rw[A1L (by omega),lkM]at he;rw[he]at hR;refine wAr hd ?_;exact A3 hR.symm
theorem c_dnR(r:Ru)(n:List UInt8)(k:Int)(h1:r.decls.length<=1000000000)(h2:r.modes.length<=1000000000):PC Tryz.prog 78 [r.v,.str n,I64 k] (I64 (dnM r n k)):=by
 refine PC.ofT A2 rfl (A0C rfl) (by simp[Ru.v,DV.nlL,DV.nl,K4,K3]) rfl ?_;have hl:=c_lkR r n h1 h2;dsimp only[Ru.v]at hl ⊢;unfold dnM;generalize K0 r n=q at hl ⊢;obtain⟨a,b⟩:=q;dsimp only at hl ⊢;repeat'((with_reducible first|apply wr|refine cpc hl ?_|refine B0 ?_ ?_|apply wb2<;>(intro hb;try simp only[hb]))<;>try simp only[go_sem,seval])
 all_goals(refine A3 (congrArg I64 ?_);simp_all)
theorem C8q{H0 HH:Hp}{o:Option Nat}{x id:Nat}{b1 bx b b':Blk}(hHH:optH H0 o b1=HH)(hn:∀j,2<=j->H0 j=none)(ho:∀i,o=some i->2<=i)(hx:2<=x)(h:b=b'):
  Sym.Sub (optH H0 (some id) b) ((delO (HH.upd x bx) o).upd id b'):=by
 subst h;intro j q hj;simp only[optH]at hj;by_cases e:j=id
 ·subst e;rw[A0]at hj ⊢;exact hj
 ·rw[h_ne e]at hj ⊢;have hj2:j<2:=A1S λh2=>by rw[hn j h2]at hj;cases hj
  have hHj:HH j=some q:=by rw[<- hHH,A8 (λi hi=>by have:=ho i hi;omega)];exact hj
  cases o with
  |none=>simp only[delO];rw[hnO];exact hHj
  |some i =>
   have:=ho i rfl;simp only[delO,Hp.del];rw[iN,hnO];exact hHj
theorem c_tyR(r:Ru)(h1:r.decls.length<=1000000000)(h2:r.modes.length<=1000000000):∀(m:Nat) (e:Ex),e.sz<m->e.sz<=100000000->(∃q,msM e=some q)->PC Tryz.prog 136 [r.v,e.v] (tyV r e):=by
 intro m
 induction m with
 |zero=>intro e h;omega
 |succ m ih =>
 intro e hm hB ⟨q0,hq0⟩;have hal:Ex.szs e.args<e.sz:=by cases e with|mk k v n a p=>rw[Ex.sz];show Ex.szs a<_;omega
 have hargs:∀x∈e.args,x.sz<=Ex.szs e.args:=λx hx=>Ex.szs_mem hx;have hll:=Ex.szs_len e.args;have hms:=C4d hq0;have h22:=D0q hq0;refine PC.ofT A2 rfl (A0C rfl) (by simp[Ru.v,DV.nlL,DV.nl,K4,K3,Ex.nl]) (D8v _ _) ?_;rw[Ex.v_w];obtain⟨R,hR⟩:∃R,R=tyV r e:=⟨_,rfl⟩;rw[<- hR];cases e with|mk k v n a p =>
 unfold tyV at hR;rw[erE]at hR;have hR:R=(match((Z8 r a).or (dnE r n (kdE k) p)).or (if a.all (λx=>O3 x.kind==A1p k a)=true then none else some (p,49)) with
  |some (p,c)=>.tup [I64 0,I64 p,I64 c]
  |none=>.tup [I64 (O3 k),I64 0,I64 0]):=hR
 dsimp only[Ex.w,Ex.kind,Ex.value,Ex.name,Ex.args,Ex.pos]at hal hargs hll hms h22 ⊢;have hk1:=c_expKR k;have hdn:=c_dnR r n (kdE k) h1 h2;have hbo:=c_boolR k;have ih:∀x∈a,PC Tryz.prog 136 [r.v,x.v] (tyV r x):=λx hx=>ih x (by have:=hargs x hx;omega) (by have:=hargs x hx;omega) (hms x hx);obtain⟨D,M⟩:=r;dsimp only[Ru.v]at hdn ih ⊢;refine wAp ?_;obtain⟨H0,hH0⟩:∃H0,H0=(Sym.nil.upd 0 ⟨0,true,[D0 D,D8 M]⟩).upd 1 ⟨0,true,[I64 k,I64 v,.str n,J4 a,I64 p]⟩:=⟨_,rfl⟩;have hz0:H0 0=some ⟨0,true,[D0 D,D8 M]⟩:=by rw[hH0];rfl
 have hz1:H0 1=some ⟨0,true,[I64 k,I64 v,.str n,J4 a,I64 p]⟩:=by rw[hH0];rfl
 have hzn:∀j,2<=j->H0 j=none:=λj hj=>by rw[hH0,hnO,hnO];rfl
 rw[<- hH0];clear hH0;obtain⟨T,hT⟩:∃T:List DV,T=a.map (λx=>I64 (O3 x.kind)):=⟨_,rfl⟩;have hTl:T.length=a.length:=by rw[hT,A0I]
 have hTg:∀(i:Nat) (x:Ex),a[i]? = some x->T[i]? = some (I64 (O3 x.kind)):=λi x h=>by rw[hT,A1G,h];rfl
 refine B6 (λq:Nat × Option Nat=>[(2,.ptr 0 0),(3,.ptr 1 0),(7,todoV q.2 q.1),(8,I64 q.1)]) (λq=>optH H0 q.2 ⟨1,true,T.take q.1⟩)
  (λq c=>2<=c/\q.1<=a.length/\(q.2=none↔q.1=0)/\(∀i,q.2=some i->2<=i/\i<c)/\Z8 ⟨D,M⟩ a=Z8 ⟨D,M⟩ (a.drop q.1)) (λq=>a.length-q.1) (0,none)
  (by simp[B5,tm,Tm.upd,todoV]) (Sub.refl _) ⟨A0D _,A0N _,by simp,(λi hi=>by cases hi),rfl⟩ ?_
 rintro⟨i,o⟩ c ⟨h2c,hk,hno,ho,he⟩;dsimp only at hk hno ho he ⊢;have hb0:optH H0 o ⟨1,true,T.take i⟩ 0=some ⟨0,true,[D0 D,D8 M]⟩:=by rw[A8 (λi hi=>by have:=ho i hi;omega)];exact hz0
 have hb1:optH H0 o ⟨1,true,T.take i⟩ 1=some ⟨0,true,[I64 k,I64 v,.str n,J4 a,I64 p]⟩:=by rw[A8 (λi hi=>by have:=ho i hi;omega)];exact hz1
 have hbn:∀j:Nat,c<=j->optH H0 o ⟨1,true,T.take i⟩ j=none:=λj hj=>by rw[A8 (λi hi=>by have:=ho i hi;omega)];exact hzn j (by omega)
 have hbo2:∀j:Nat,o=some j->optH H0 o ⟨1,true,T.take i⟩ j=some ⟨1,true,T.take i⟩:=λj hj=>by subst hj;exact A0
 generalize hHH:optH H0 o ⟨1,true,T.take i⟩=HH at hb0 hb1 hbn hbo2 ⊢;by_cases hlt:i<a.length
 ·have hd:=dtz hlt;have hg:=A0B hlt;have hw:=w64 (n:=(i:Int)+1);have hc:=ih _ (A0K hlt);have hTi:=hTg _ _ hg;rw[C7g hg]at he;generalize a[i]=x at hg hc hTi he;rw[Ex.v_w]at hc;unfold tyV at hc;cases hq:erE ⟨D,M⟩ x with
  |some q =>
   obtain⟨px,cx⟩:=q;have hnz:(cx != 0)=true:=by simpa using D0h _ x _ _ hq
   rw[hq]at hc he;rw[he]at hR;refine wBb hc (wJ hb0 (wJ hb1 (wJ hd (wJ hg (wJ hw (wJ @Ex.v_w hnz)))))) ?_;refine⟨j8,j8,?_⟩;refine wBb hc (wJ hb0 (wJ hb1 (wJ hd (wJ hg (wJ hw (wJ @Ex.v_w hnz)))))) ?_;exact A3 hR.symm
  |none =>
   rw[hq]at hc he;refine wBb hc (wJ hb0 (wJ hb1 (wJ hd (wJ hg (wJ hw @Ex.v_w))))) ?_;refine⟨j8,j8,?_⟩;refine wBb hc (wJ hb0 (wJ hb1 (wJ hd (wJ hg (wJ hw @Ex.v_w))))) ?_;refine G7 (D4 (cs:=T.take i) (λe=>by have:=hno.1 e;subst this;exact⟨rfl,rfl⟩) (λj hj=>by have:=ho j hj;rw[hnO];exact hbo2 j hj) (by rw[A0W];omega) (by omega) (by omega) (by omega)) ?_;refine wAu hw ?_;refine⟨(i+1,some (c+14+1)),zaa,?_,inv ⟨b8,b8,by simp,(λj hj=>by cases hj;omega),he⟩,by simp only;omega⟩;exact C8q hHH hzn (λi hi=>(ho i hi).1) (by omega) (by simp only;rw[A0R,hTi];rfl)
 have hd:=dfz hlt;rw[A1L (by omega),Z8]at he;rw[he,A1U]at hR;have hi:i=a.length:=b8
 subst hi;rw[A0J (by omega)]at hbo2;refine wBh hk1 hdn (wJ hb0 (wJ hb1 hd)) ?_;refine⟨j8,?_⟩;cases hdz:(dnM ⟨D,M⟩ n (kdE k) != 0) with
 |false =>
  have e0:dnE ⟨D,M⟩ n (kdE k) p=none:=zac
  rw[e0,A1U]at hR;have kL:∀cc:Nat,c<=cc->IW Tryz.prog 94 (.loop (pz Tryz.prog 136 (.i (.i (.o (.i (.i .h))))))) ⟨tm [(3,.ptr 1 0),(7,todoV o a.length),(13,I64 (A1p k a)),(14,I64 0)],HH,cc⟩ (bk 2 (sq Tryz.prog 94 (pz Tryz.prog 136 (.i (.i (.o (.i (.o (.o .h))))))) (rt [.tmp 4,.tmp 5,.tmp 6] λv H' x => ∃H2,GL H' [v] H2 [R]))):=by
   intro cc hcc;generalize A1p k a=wnt at hR ⊢;refine B6 (λi:Nat=>[(3,.ptr 1 0),(7,todoV o a.length),(13,I64 wnt),(14,I64 i)]) (λ_=>HH) (λi c2=>c<=c2/\i<=a.length/\(a.take i).all (λx=>O3 x.kind==wnt)=true) (λi=>a.length-i) 0 (by simp[B5,tm,Tm.upd]) (Sub.refl _) ⟨hcc,A0N _,rfl⟩ ?_;rintro i cc ⟨hcc,hi,hall⟩;by_cases hlt:i<a.length
   ·have hd:=dtz hlt;have hg:=A0B hlt;have hw:=w64 (n:=(i:Int)+1);have hTi:=hTg _ _ hg;obtain⟨j,hj⟩:∃j,o=some j:=by
     cases o with
     |none=>have:=hno.1 rfl;omega
     |some j=>exact⟨j,rfl⟩
    have hbj:=hbo2 j hj;subst hj;have hlen:A3i (todoV (some j) a.length)=some (I64 (a.length:Int)):=P5 (λh=>by cases h);have hia:A0u 1 (.slc j 0 a.length) (I64 (i:Int))=some (.ptr j i):=by simp[A0u];omega
    generalize a[i]=x at hg hTi;by_cases hx:O3 x.kind=wnt
    ·have hxn:(O3 x.kind != wnt)=false:=by simp[hx]
     refine wAs (wJ hb0 (wJ hb1 (wJ hd (wJ hlen (wJ hia (wJ hbj (wJ hTi (wJ hw hxn)))))))) ?_;exact⟨i+1,by simp,Sub.refl _,inv ⟨b8,b8,by rw[A4q _ a i _ hg,hall];simp[hx]⟩,by omega⟩
    ·have hxn:(O3 x.kind != wnt)=true:=by simp[hx]
     refine wAs (wJ hb0 (wJ hb1 (wJ hd (wJ hlen (wJ hia (wJ hbj (wJ hTi (wJ hw hxn)))))))) ?_;refine⟨j8,?_⟩;refine wAs (wJ hb0 (wJ hb1 (wJ hd (wJ hlen (wJ hia (wJ hbj (wJ hTi (wJ hw hxn)))))))) ?_;rw[A6w _ a i _ hg (by simp[hx]),if_neg (by decide)]at hR;exact A3 hR.symm
   have hd:=dfz hlt;have hlen:A3i (todoV o a.length)=some (I64 (a.length:Int)):=P5 (λh=>by have:=hno.1 h;omega);have hall2:=B2n _ a i (by omega) hall;rw[if_pos hall2]at hR;repeat'((with_reducible first|apply wr|refine cpc hbo ?_|refine B0 ?_ ?_|apply wb2<;>(intro hb;try simp only[hb]))<;>try simp only[go_sem,seval,hb0,hb1,hd,hlen])
   all_goals(refine A3 ?_;rw[hR];simp_all[O3])
  by_cases ka:k=11\/k=23\/k=24
  ·have ew:A1p k a=2:=by unfold A1p;rw[if_pos ka]
   rw[ew]at kL;rcases ka with rfl|rfl|rfl
   all_goals(refine wBi hk1 hdn (wJ hb0 (wJ hb1 hdz)) ?_)
   all_goals exact kL (c+8) (by omega)
  have ka1:(k==11)=false:=a8
  have ka2:(k==23)=false:=a8
  have ka3:(k==24)=false:=a8
  by_cases kb:k=21\/k=22
  ·have hl2:=h22 kb;obtain⟨j,hj⟩:∃j,o=some j:=by
    cases o with
    |none=>have:=hno.1 rfl;omega
    |some j=>exact⟨j,rfl⟩
   obtain⟨x0,l0,rfl⟩:∃x l,a=x::l:=by
    cases a with
    |nil=>simp at hl2
    |cons x l=>exact⟨x,l,rfl⟩
   have ew:A1p k (x0::l0)=O3 x0.kind:=by unfold A1p;rw[if_neg ka,if_pos kb]
   rw[ew]at kL;have hbj:=hbo2 j hj;subst hj;have hT0:∃T',T=I64 (O3 x0.kind)::T':=⟨l0.map (λx=>I64 (O3 x.kind)),by rw[hT];rfl⟩;obtain⟨T',hT'⟩:=hT0;rw[hT']at hbj;have hia:A0u 1 (.slc j 0 (l0.length+1)) (.int .i64 0)=some (.ptr j 0):=by
    simp[A0u]
   rcases kb with rfl|rfl
   all_goals(refine wBi hk1 hdn (wJ hb0 (wJ hb1 (wJ hdz (wJ hia hbj)))) ?_)
   all_goals exact kL (c+8) (by omega)
  have ew:A1p k a=1:=by unfold A1p;rw[if_neg ka,if_neg kb]
  rw[ew]at kL;have kb1:(k==21)=false:=a8
  have kb2:(k==22)=false:=a8
  refine wBi hk1 hdn (wJ hb0 (wJ hb1 (wJ hdz (wJ ka1 (wJ ka2 (wJ ka3 (wJ kb1 kb2))))))) ?_;all_goals exact kL (c+8) (by omega)
 |true =>
  have e0:dnE ⟨D,M⟩ n (kdE k) p=some (p,dnM ⟨D,M⟩ n (kdE k)):=zad
  rw[e0]at hR;refine wBi hk1 hdn (wJ hb0 (wJ hb1 hdz)) ?_;refine⟨j8,j8,?_⟩;refine wBi hk1 hdn (wJ hb0 (wJ hb1 hdz)) ?_;exact A3 hR.symm
theorem c_blkR(r:Ru)(h1:r.decls.length<=1000000000)(h2:r.modes.length<=1000000000):∀(m:Nat) (l:List Pb.St) (d:Nat),Pb.St.szs l<m->Pb.St.szs l<=100000000->J0 d l=true->PC Tryz.prog 80 [r.v,F5 l] (erV (erB r l)):=by
 intro m
 induction m with
 |zero=>intro l d h;omega
 |succ m ih =>
 intro l d hm hB hv;have hl:=Pb.St.szs_len l;refine PC.ofT A2 rfl (A0C rfl) (by simp[Ru.v,DV.nlL,DV.nl,K4,K3,Z6]) (C1y _) ?_;obtain⟨R,hR⟩:∃R,R=erV (erB r l):=⟨_,rfl⟩;rw[<- hR];have hty:=λx h h' h''=>c_tyR r h1 h2 (x.sz+1) x h h' h'';have hdn:=λn k=>c_dnR r n k h1 h2;obtain⟨D,M⟩:=r;dsimp only[Ru.v]at hty hdn ih ⊢;refine wAp ?_;refine B6 (λi:Nat=>[(1,F5 l),(2,.ptr 0 0),(6,I64 i)]) (λ_=>Sym.nil.upd 0 ⟨0,true,[D0 D,D8 M]⟩) (λi c=>1<=c/\i<=l.length/\erB ⟨D,M⟩ l=erB ⟨D,M⟩ (l.drop i)) (λi=>l.length-i) 0 (by simp[B5,tm,Tm.upd]) (Sub.refl _) ⟨A0D _,A0N _,rfl⟩ ?_;rintro i c ⟨h1c,hk,he⟩;by_cases hlt:i<l.length
 ·have hd:=dtz hlt;have hg:=A0B hlt;have hw:=w64 (n:=(i:Int)+1);have hsx:=Pb.St.szs_mem (A0K hlt);obtain⟨v1,v2,v3⟩:=B0c (A6z hv _ (A0K hlt));rw[D2l hg,D7x]at he;generalize l[i]=s at hg hsx v1 v2 v3 he;have hsa:Ex.szs s.args<s.sz:=by cases s with|mk k n t a x y p=>rw[Pb.St.sz];show Ex.szs a<_;omega
  have hal:=Ex.szs_len s.args;have hX:=ih s.thn (d+1) (by have:=s.sz_thn;omega) (by have:=s.sz_thn;omega) v2;have hY:=ih s.els (d+1) (by have:=s.sz_els;omega) (by have:=s.sz_els;omega) v3;have hk1:=c_stmKR s.kind;have hdn:=hdn s.name (kdS s.kind);have ne0:=Q8 0 c (by omega);refine wBh hk1 hdn (wJ hd (wJ hg (wJ hw (wJ @Pb.St.v_w (wJ ne0 (wJ @A0 @A1)))))) ?_;refine⟨l8,?_⟩;obtain⟨HH,hHH⟩:∃HH,HH=(Sym.nil.upd 0 ⟨0,true,[D0 D,D8 M]⟩).upd c ⟨0,true,[I64 s.kind,.str s.name,.str s.text,J4 s.args,F5 s.thn,F5 s.els,I64 s.pos]⟩:=⟨_,rfl⟩;have hb0:HH 0=some ⟨0,true,[D0 D,D8 M]⟩:=by rw[hHH,hnO];rfl
  have hbc:HH c=some ⟨0,true,[I64 s.kind,.str s.name,.str s.text,J4 s.args,F5 s.thn,F5 s.els,I64 s.pos]⟩:=by rw[hHH];exact A0
  have hbn:∀j:Nat,c+1<=j->HH j=none:=λj hj=>by rw[hHH,hnO,hnO];rfl
  have hsub:Sym.Sub (Sym.nil.upd 0 ⟨0,true,[D0 D,D8 M]⟩) HH:=by rw[hHH];exact A4c h1c
  rw[<- hHH];cases hdz:(dnM ⟨D,M⟩ s.name (kdS s.kind) != 0) with
  |true =>
   have e0:dnE ⟨D,M⟩ s.name (kdS s.kind) s.pos=some (s.pos,dnM ⟨D,M⟩ s.name (kdS s.kind)):=zad
   rw[e0]at he;rw[he]at hR;refine wBi hk1 hdn (wJ hb0 (wJ hbc hdz)) ?_;exact A3 hR.symm
  |false =>
  have e0:dnE ⟨D,M⟩ s.name (kdS s.kind) s.pos=none:=zac
  rw[e0,A1U]at he;refine wBi hk1 hdn (wJ hb0 (wJ hbc hdz)) ?_;refine B6 (λi2:Nat=>[(1,F5 l),(2,.ptr 0 0),(6,I64 i),(7,.ptr c 0),(9,I64 i2)]) (λ_=>HH) (λi2 c2=>c+1<=c2/\i2<=s.args.length/\erA ⟨D,M⟩ (s.kind==2) s.args=erA ⟨D,M⟩ (s.kind==2) (s.args.drop i2)) (λi2=>s.args.length-i2) 0 (by simp[B5,tm,Tm.upd]) (Sub.refl _) ⟨b8,A0N _,rfl⟩ ?_;rintro i2 c2 ⟨hc2,hk2,he2⟩;by_cases hlt2:i2<s.args.length
  ·have hd2:=dtz hlt2;have hg2:=A0B hlt2;have hw2:=w64 (n:=(i2:Int)+1);have hxs:=Ex.szs_mem (A0K hlt2);have hc:=hty s.args[i2] (by omega) (by omega) (v1 _ (A0K hlt2));rw[D2m hg2]at he2;generalize s.args[i2]=x at hg2 hxs hc he2;rw[Ex.v_w]at hc;unfold tyV at hc;cases hq:erE ⟨D,M⟩ x with
   |some q =>
    obtain⟨px,cx⟩:=q;have hnz:(cx != 0)=true:=by simpa using D0h _ x _ _ hq
    rw[hq]at hc he2;rw[he,he2]at hR;refine wBb hc (wJ hb0 (wJ hbc (wJ hd2 (wJ hg2 (wJ hw2 (wJ @Ex.v_w hnz)))))) ?_;refine⟨j8,j8,?_⟩;refine wBb hc (wJ hb0 (wJ hbc (wJ hd2 (wJ hg2 (wJ hw2 (wJ @Ex.v_w hnz)))))) ?_;exact A3 hR.symm
   |none =>
    rw[hq]at hc he2;refine wBb hc (wJ hb0 (wJ hbc (wJ hd2 (wJ hg2 (wJ hw2 @Ex.v_w))))) ?_;refine⟨j8,j8,?_⟩;repeat'((with_reducible first|apply wr|refine cpc hc ?_|refine B0 ?_ ?_|apply wb2<;>(intro hb;try simp only[hb]))<;>try simp only[go_sem,seval,hb0,hbc,hd2,hg2,hw2,Ex.v_w,A0I])
    ·have hne:¬(O3 x.kind==2)=(s.kind==2):=by simpa[bne] using hb
     rw[if_neg hne]at he2;rw[he,he2]at hR;exact A3 hR.symm
    ·have heq:(O3 x.kind==2)=(s.kind==2):=by simpa[bne] using hb
     rw[if_pos heq]at he2;exact⟨i2+1,by simp,Sub.refl _,inv ⟨b8,b8,he2⟩,by omega⟩
  have hd2:=dfz hlt2;rw[A1L (by omega),erA]at he2;rw[he2,A1U]at he;clear he2;cases hqX:erB ⟨D,M⟩ s.thn with
  |some q =>
   obtain⟨px,cx⟩:=q;have hnz:(cx != 0)=true:=by simpa using B5n _ _ _ _ hqX
   rw[hqX]at hX he;rw[he]at hR;dsimp only[erV]at hX;refine wBb hX (wJ hb0 (wJ hbc (wJ hd2 hnz))) ?_;exact A3 hR.symm
  |none =>
  rw[hqX]at hX he;rw[A1U]at he;dsimp only[erV]at hX;cases hqY:erB ⟨D,M⟩ s.els with
  |some q =>
   obtain⟨px,cx⟩:=q;have hnz:(cx != 0)=true:=by simpa using B5n _ _ _ _ hqY
   rw[hqY]at hY he;rw[he]at hR;dsimp only[erV]at hY;refine wBh hX hY (wJ hb0 (wJ hbc (wJ hd2 hnz))) ?_;exact A3 hR.symm
  |none =>
  rw[hqY]at hY he;rw[A1U]at he;dsimp only[erV]at hY;refine wBh hX hY (wJ hb0 (wJ hbc (wJ hd2 hw))) ?_;exact⟨i+1,by simp,hsub,inv ⟨b8,b8,he⟩,by omega⟩
 have hd:=dfz hlt;rw[A1L (by omega),erB]at he;rw[he]at hR;refine wAr hd ?_;exact A3 hR.symm
theorem c_headsR(r:Ru)(h1:r.decls.length<=1000000000)(h2:r.modes.length<=1000000000):PC Tryz.prog 77 [r.v] (erV (A7s r)):=by
 refine PC.ofT A2 rfl (A0C rfl) (by simp[Ru.v,DV.nlL,DV.nl,K4,K3]) (C1y _) ?_;obtain⟨R,hR⟩:∃R,R=erV (A7s r):=⟨_,rfl⟩;rw[<- hR];obtain⟨D,M⟩:=r;unfold A7s at hR;dsimp only at h1 h2 hR;dsimp only[Ru.v];refine wAp ?_;refine B6 (λi:Nat=>[(1,.ptr 0 0),(4,I64 i)]) (λ_=>Sym.nil.upd 0 ⟨0,true,[D0 D,D8 M]⟩) (λi c=>1<=c/\i<=D.length/\erD [] D=erD (D.take i) (D.drop i)) (λi=>D.length-i) 0 (by simp[B5,tm,Tm.upd]) (Sub.refl _) ⟨A0D _,A0N _,rfl⟩ ?_;rintro i c ⟨h1c,hk,he⟩;by_cases hlt:i<D.length
 ·have hd:=dtz hlt;have hg:=A0B hlt;have hw:=w64 (n:=(i:Int)+1);rw[D2k hg]at he;have hlk:=D0b (c_lkR ⟨D.take i,[]⟩ D[i].name (by rw[A0W];omega) (A0N _));generalize D[i]=d at hg he hlk;have hmo:=c_mostR d.kind;have hsl:=λH=>B5b (xs:=D.map Dc.v) (h:=i) (sz:=4) (by rw[A0I];omega) (A1c _) H;rw[<- List.map_take]at hsl;have ne0:=Q8 0 c (by omega);by_cases hv:d.value>A4r d.kind
  ·have qv:decide (d.value>A4r d.kind)=true:=by simpa using hv
   rw[if_pos hv]at he;rw[he]at hR;refine wBh hmo hlk (wJ hd (wJ hg (wJ hw (wJ @A1m (wJ ne0 (wJ @A0 (wJ @A1 (wJ hsl qv)))))))) ?_;refine⟨l8,?_⟩;refine wBh hmo hlk (wJ hd (wJ hg (wJ hw (wJ @A1m (wJ ne0 (wJ @A0 (wJ @A1 (wJ hsl qv)))))))) ?_;exact A3 hR.symm
  have qv:decide (d.value>A4r d.kind)=false:=by simpa using hv
  rw[if_neg hv,A1U]at he;by_cases hl:(K0 ⟨D.take i,[]⟩ d.name).1=0
  ·have ql:((K0 ⟨D.take i,[]⟩ d.name).1 != 0)=false:=by simp[hl]
   rw[if_pos hl,A1U]at he;refine wBk hmo hlk hd hg hw @A1m ne0 @A0 @A1 hsl qv ql ?_;refine⟨l8,?_⟩;refine wBk hmo hlk hd hg hw @A1m ne0 @A0 @A1 hsl qv ql ?_;refine⟨l8,?_⟩;refine wBk hmo hlk hd hg hw @A1m ne0 @A0 @A1 hsl qv ql ?_;exact⟨i+1,by simp,A4c h1c,inv ⟨b8,b8,he⟩,by omega⟩
  ·have ql:((K0 ⟨D.take i,[]⟩ d.name).1 != 0)=true:=by simp[hl]
   rw[if_neg hl]at he;rw[he]at hR;refine wBk hmo hlk hd hg hw @A1m ne0 @A0 @A1 hsl qv ql ?_;refine⟨l8,?_⟩;refine wBk hmo hlk hd hg hw @A1m ne0 @A0 @A1 hsl qv ql ?_;refine⟨l8,?_⟩;refine wBk hmo hlk hd hg hw @A1m ne0 @A0 @A1 hsl qv ql ?_;exact A3 hR.symm
 have hd:=dfz hlt;rw[A1L (by omega),erD]at he;rw[he,A1U]at hR;refine wAr hd ?_;clear he hd hlt hk i;refine B6 (λi:Nat=>[(1,.ptr 0 0),(8,I64 i)]) (λ_=>Sym.nil.upd 0 ⟨0,true,[D0 D,D8 M]⟩) (λi c=>1<=c/\i<=M.length/\erP D [] M=erP D (M.take i) (M.drop i)) (λi=>M.length-i) 0 (by simp[B5,tm,Tm.upd]) (Sub.refl _) ⟨h1c,A0N _,rfl⟩ ?_;clear h1c c;rintro i c ⟨h1c,hk,he⟩;by_cases hlt:i<M.length
 ·have hd:=dtz hlt;have hg:=A0B hlt;have hw:=w64 (n:=(i:Int)+1);rw[D2f hg]at he;have hlk:PC Tryz.prog 134 [.agg [D0 D,D8 (M.take i)],.str M[i].name] _:=c_lkR ⟨D,M.take i⟩ M[i].name (by omega) (by rw[A0W];omega);generalize M[i]=d at hg he hlk;have hsl:=λH=>B5b (xs:=M.map Md.v) (h:=i) (sz:=4) (by rw[A0I];omega) (A6h _) H;rw[<- List.map_take]at hsl;have ne0:=Q8 0 c (by omega);by_cases hv:d.prio>99
  ·have qv:decide (d.prio>99)=true:=by simpa using hv
   rw[if_pos hv]at he;rw[he]at hR;refine wBb hlk (wJ hd (wJ hg (wJ hw (wJ @A7r (wJ ne0 (wJ @A0 (wJ @A1 (wJ hsl qv)))))))) ?_;exact A3 hR.symm
  have qv:decide (d.prio>99)=false:=by simpa using hv
  rw[if_neg hv,A1U]at he;by_cases hl:(K0 ⟨D,M.take i⟩ d.name).1=0
  ·have ql:((K0 ⟨D,M.take i⟩ d.name).1 != 0)=false:=by simp[hl]
   rw[if_pos hl,A1U]at he;refine wBe hlk hd hg hw @A7r ne0 @A0 @A1 hsl qv ql ?_;refine⟨l8,?_⟩;refine wBe hlk hd hg hw @A7r ne0 @A0 @A1 hsl qv ql ?_;exact⟨i+1,by simp,A4c h1c,inv ⟨b8,b8,he⟩,by omega⟩
  ·have ql:((K0 ⟨D,M.take i⟩ d.name).1 != 0)=true:=by simp[hl]
   rw[if_neg hl]at he;rw[he]at hR;refine wBe hlk hd hg hw @A7r ne0 @A0 @A1 hsl qv ql ?_;refine⟨l8,?_⟩;refine wBe hlk hd hg hw @A7r ne0 @A0 @A1 hsl qv ql ?_;exact A3 hR.symm
 have hd:=dfz hlt;rw[A1L (by omega),erP]at he;rw[he]at hR;refine wAr hd ?_;exact A3 hR.symm
theorem A3o(h:Hd):h.v=.agg [I64 h.trig,.str h.name,F5 h.body,I64 h.pos]:=rfl
theorem c_vdR(r:Ru)(hB:r.sz<4000000):PC Tryz.prog 76 [r.v] (.bool (M8 r)):=by
 have:=c_ValidR31 r hB
 rwa [D3x]at this
theorem C5e(r:Ru):(B5z r).nl=true:=by unfold B5z;split;exact C1y _;rfl
theorem c_CheckR(r:Ru)(hB:r.sz<4000000):PC Tryz.prog 33 [r.v] (B5z r):=by
 refine PC.ofT A2 rfl (A0C rfl) (by simp[Ru.v,DV.nlL,DV.nl,K4,K3]) (C5e _) ?_;have hv:=c_vdR r hB;have hhe:=c_headsR r (by have:=B0g r;omega) (by have:=B0f r;omega);have hdn:=λn k=>c_dnR r n k (by have:=B0g r;omega) (by have:=B0f r;omega);have hbl:=λl d h h'=>c_blkR r (by have:=B0g r;omega) (by have:=B0f r;omega) (Pb.St.szs l+1) l d (A1M _) h h';have hml:=B0f r;have hms:∀m∈r.modes,m.sz<=r.sz:=λm h=>C8n h;have hbv:=@B6k _ r;have hch:B5z r=if M8 r=true then erV (A4t r) else .tup [I64 0,I64 1]:=rfl
 unfold A4t at hch;cases hvd:M8 r with
 |false =>
  rw[hvd]at hv hch;rw[hch];obtain⟨D,M⟩:=r;dsimp only[Ru.v]at hv ⊢;refine wA9 hv ?_;exact A3 rfl
 |true =>
 have hbv:=hbv hvd;rw[hvd]at hv hch;rw[if_pos rfl]at hch;obtain⟨R,hR⟩:∃R,R=B5z r:=⟨_,rfl⟩;rw[<- hR];rw[hch]at hR;have hnz:=D0f r;obtain⟨D,M⟩:=r;dsimp only[Ru.v]at hv hhe hdn hbl hml hms hbv hR ⊢;cases hqH:A7s ⟨D,M⟩ with
 |some q =>
  obtain⟨px,cx⟩:=q;have hn:(cx != 0)=true:=by simpa using hnz _ _ hqH
  rw[hqH]at hhe hR;dsimp only[erV]at hhe;refine wBi hv hhe hn ?_;exact A3 hR.symm
 |none =>
 rw[hqH]at hhe hR;rw[A1U]at hR;dsimp only[erV]at hhe;refine wBg hv hhe ?_;refine B6 (λi:Nat=>[(1,.ptr 0 0),(6,I64 i)]) (λ_=>Sym.nil.upd 0 ⟨0,true,[D0 D,D8 M]⟩) (λi c=>1<=c/\i<=M.length/\erM ⟨D,M⟩ M=erM ⟨D,M⟩ (M.drop i)) (λi=>M.length-i) 0 (by simp[B5,tm,Tm.upd]) (Sub.refl _) ⟨b8,A0N _,rfl⟩ ?_;rintro i c ⟨h1c,hk,he⟩;by_cases hlt:i<M.length
 ·have hd:=dtz hlt;have hg:=A0B hlt;have hw:=w64 (n:=(i:Int)+1);rw[D2g hg]at he;have hms:=hms _ (A0K hlt);have hbv:=hbv _ (A0K hlt);generalize M[i]=d at hg he hms hbv;have hhl:=D7i d;refine wBh hv hhe (wJ hd (wJ hg (wJ hw @A7r))) ?_;refine B6 (λi2:Nat=>[(1,.ptr 0 0),(6,I64 i),(7,O0 d.hds),(8,I64 i2)]) (λ_=>Sym.nil.upd 0 ⟨0,true,[D0 D,D8 M]⟩) (λi2 c=>1<=c/\i2<=d.hds.length/\erH ⟨D,M⟩ [] d.hds=erH ⟨D,M⟩ (d.hds.take i2) (d.hds.drop i2)) (λi2=>d.hds.length-i2) 0 (by simp[B5,tm,Tm.upd]) (Sub.refl _) ⟨b8,A0N _,rfl⟩ ?_;rintro i2 c2 ⟨hc2,hk2,he2⟩;by_cases hlt2:i2<d.hds.length
  ·have hd2:=dtz hlt2;have hg2:=A0B hlt2;have hw2:=w64 (n:=(i2:Int)+1);have hxs:=C8o (A0K hlt2);have hbv:=hbv _ (A0K hlt2);rw[D2i hg2]at he2;generalize d.hds[i2]=x at hg2 hxs hbv he2;have hxe:x.sz=1+x.name.length+Pb.St.szs x.body:=rfl;have hbl:=hbl x.body 1 (by omega) hbv;have htk:=c_trgKR x.trig;have hdn:=hdn x.name (kdH x.trig);cases hdz:(dnM ⟨D,M⟩ x.name (kdH x.trig) != 0) with
   |true =>
    have e0:dnE ⟨D,M⟩ x.name (kdH x.trig) x.pos=some (x.pos,dnM ⟨D,M⟩ x.name (kdH x.trig)):=zad
    rw[e0]at he2;rw[he,he2]at hR;refine wBh htk hdn (wJ hd2 (wJ hg2 (wJ hw2 (wJ @A3o hdz)))) ?_;refine⟨l8,?_⟩;refine wBh htk hdn (wJ hd2 (wJ hg2 (wJ hw2 (wJ @A3o hdz)))) ?_;exact A3 hR.symm
   |false =>
   have e0:dnE ⟨D,M⟩ x.name (kdH x.trig) x.pos=none:=zac
   rw[e0,A1U]at he2;refine wBh htk hdn (wJ hd2 (wJ hg2 (wJ hw2 (wJ @A3o hdz)))) ?_;refine⟨l8,?_⟩;refine wBh htk hdn (wJ hd2 (wJ hg2 (wJ hw2 (wJ @A3o hdz)))) ?_;refine B6 (λj:Nat=>[(1,.ptr 0 0),(6,I64 i),(7,O0 d.hds),(8,I64 i2),(10,I64 j)]) (λ_=>Sym.nil.upd 0 ⟨0,true,[D0 D,D8 M]⟩) (λj c=>1<=c/\j<=i2/\(d.hds.take j).any (λy=>y.trig==x.trig&&y.name==x.name)=false) (λj=>i2-j) 0 (by simp[B5,tm,Tm.upd]) (Sub.refl _) ⟨b8,A0N _,rfl⟩ ?_;rintro j c3 ⟨hc3,hj,ha⟩;by_cases hlt3:j<i2
   ·have hd3:=dtz hlt3;have hg3:=A0B (l:=d.hds) (i:=j) (by omega);have hw3:=w64 (n:=(j:Int)+1);generalize d.hds[j]'(by omega)=y at hg3;cases hp:(y.trig==x.trig&&y.name==x.name) with
    |true =>
     have hany:(d.hds.take i2).any (λy=>y.trig==x.trig&&y.name==x.name)=true:=by
      rw[List.any_eq_true];exact⟨y,A0S (by rw[List.getElem?_take_of_lt hlt3];exact hg3),hp⟩
     rw[if_pos hany]at he2;rw[he,he2]at hR;rw[A0F]at hp;refine wAr (wJ hd3 (wJ hg3 (wJ hg2 (wJ hw3 (wJ @A3o (wJ hp.1 hp.2)))))) ?_;exact A3 hR.symm
    |false =>
     have hnx:=A8e (λy=>y.trig==x.trig&&y.name==x.name) _ _ _ hg3;rw[ha,hp]at hnx;cases hp1:y.trig==x.trig with
     |false =>
      refine wA4 hd3 hg3 hg2 hw3 @A3o hp1 ?_;exact⟨j+1,by simp,Sub.refl _,inv ⟨b8,b8,hnx⟩,by omega⟩
     |true =>
      have hp2:(y.name==x.name)=false:=by rw[hp1]at hp;simpa using hp
      refine wAr (wJ hd3 (wJ hg3 (wJ hg2 (wJ hw3 (wJ @A3o (wJ hp1 hp2)))))) ?_;exact⟨j+1,by simp,Sub.refl _,inv ⟨b8,b8,hnx⟩,by omega⟩
   have hd3:=dfz hlt3;have hji:j=i2:=b8
   subst hji;rw[if_neg (by rw[ha];decide),A1U]at he2;cases hqB:erB ⟨D,M⟩ x.body with
   |some q =>
    obtain⟨px,cx⟩:=q;have hn:(cx != 0)=true:=by simpa using B5n _ _ _ _ hqB
    rw[hqB]at hbl he2;dsimp only[erV]at hbl;rw[he,he2]at hR;refine wBb hbl (wJ hd3 (wJ hg2 (wJ hw2 (wJ @A3o hn)))) ?_;exact A3 hR.symm
   |none =>
   rw[hqB]at hbl he2;dsimp only[erV]at hbl;rw[A1U]at he2;refine wBb hbl (wJ hd3 (wJ hg2 (wJ hw2 @A3o))) ?_;exact⟨j+1,by simp,Sub.refl _,inv ⟨b8,b8,he2⟩,by omega⟩
  have hd2:=dfz hlt2;rw[A1L (by omega),erH]at he2;rw[he2,A1U]at he;refine wAr (wJ hd2 hw) ?_;exact⟨i+1,by simp,Sub.refl _,inv ⟨b8,b8,he⟩,by omega⟩
 have hd:=dfz hlt;rw[A1L (by omega),erM]at he;rw[he]at hR;refine wAr hd ?_;exact A3 hR.symm
def D0u(r:Ru)(n:List UInt8):DV:=if M8 r=true then .tup [I64 (K0 r n).1,I64 (K0 r n).2] else .tup [I64 0,I64 0]
def cnV(r:Ru)(k:Int):DV:=if M8 r=true then I64 (cnR r k) else I64 0
theorem E1f(r:Ru)(n:List UInt8):(D0u r n).nl=true:=by unfold D0u;split<;>rfl
theorem E2s(r:Ru)(k:Int):(cnV r k).nl=true:=by unfold cnV;split<;>rfl
theorem c_LookupR(r:Ru)(n:List UInt8)(hB:r.sz<4000000):PC Tryz.prog 137 [r.v,.str n] (D0u r n):=by
 refine PC.ofT A2 rfl (A0C rfl) (by simp[Ru.v,DV.nlL,DV.nl,K4,K3]) (E1f _ _) ?_;have hv:=c_vdR r hB;have hl:=c_lkR r n (by have:=B0g r;omega) (by have:=B0f r;omega);unfold D0u;generalize M8 r=bv at *;obtain⟨D,M⟩:=r;dsimp only[Ru.v]at hv hl ⊢;cases bv<;>(refine wBg hv hl ?_);all_goals exact A3 rfl
theorem c_CountR(r:Ru)(k:Int)(hB:r.sz<4000000):PC Tryz.prog 34 [r.v,I64 k] (cnV r k):=by
 refine PC.ofT A2 rfl (A0C rfl) (by simp[Ru.v,DV.nlL,DV.nl,K4,K3]) (E2s _ _) ?_;have hv:=c_vdR r hB;have hl:=c_cntR r k (by have:=B0g r;omega) (by have:=B0f r;omega);unfold cnV;generalize M8 r=bv at *;obtain⟨D,M⟩:=r;dsimp only[Ru.v]at hv hl ⊢;cases bv<;>(refine wBg hv hl ?_);all_goals exact A3 rfl
theorem B2e:C2h (inj (Value.map none))=some (none,⟨0,true,[.mnil]⟩):=rfl
abbrev beC(r:Ru):List DV:=[.snil,.snil,.snil,R9 (r.modes.map Md.prio),R9 ((r.decls.filter λd=>d.kind=6).map Dc.value),I64 (cnD r.decls 7:Int),I64 (cnD r.decls 8:Int),.mp .s (mkK (inL (nmL r))) (mvV (inL (nmL r)))]
theorem c_begin0(r:Ru)(h1:r.decls.length<=1000000)(h2:r.modes.length<=1000000):
  AC Tryz.prog 26 [r.v] Sym.nil 0 (λv H' _ => ∃id,v=.ptr id 0/\H'=Sym.nil.upd id ⟨0,true,beC r⟩):=by
 obtain⟨R,hR⟩:∃R,R=nmL r:=⟨_,rfl⟩;unfold beC;rw[<- hR];unfold nmL at hR;obtain⟨D,M⟩:=r;dsimp only at h1 h2 hR ⊢;dsimp only[Ru.v];refine AC.go A2 λhfr=>?_;refine wAs @B2e ?_;refine B6 (λq:Nat × NmL × Option Nat × List Int=>[(1,.ptr 0 0),(3,.ptr 2 0),(4,.mid 3),(19,D0 D),(20,I64 D.length),(21,I64 q.1)]) (λq=>bgM D M q.2.1 (ahM (D.take q.1)) none [] q.2.2.1 q.2.2.2)
  (λq c=>q.1<=D.length/\BN none [] q.2.2.1 q.2.2.2 c/\nmD [] [] D=nmD (D.take q.1) q.2.1 (D.drop q.1)/\q.2.2.2=((D.take q.1).filter λd=>d.kind=6).map Dc.value) (λq=>D.length-q.1) (0,[],none,[])
  (by simp[B5,tm,Tm.upd]) (B2i rfl rfl rfl rfl (λi h=>by cases h) (λi h=>by cases h)) ⟨A0N _,⟨b8,λi h=>(by cases h),λi h=>(by cases h),λi j h=>(by cases h),λ_=>rfl,λ_=>rfl⟩,rfl,rfl⟩ ?_
 rintro⟨i,l,o,vs⟩ c ⟨hk,hN,he,hvs⟩;dsimp only at hk hN he hvs ⊢;have h4c:=hN.c4;by_cases hlt:i<D.length
 ·have hd:=dtz hlt;have hg:=A0B hlt;have hw:=w64 (n:=(i:Int)+1);rw[B7z hg]at he;have hah:ahM (D.take (i+1))=ahS (ahM (D.take i)) D[i].kind:=by rw[A0R,hg];exact B2o _ _
  have hvn:((D.take (i+1)).filter λd=>d.kind=6).map Dc.value=vs++(if D[i].kind=6 then [D[i].value] else []):=by
   rw[A0R,hg,List.filter_append,A0P, <- hvs]
   congr 1
   by_cases h:D[i].kind=6<;>simp[h]
  have hvl:vs.length<=D.length:=by
   rw[hvs,A0I];exact A1B (A4B _ _) (by rw[A0W];omega)
  have hlk:=C5k D[i].kind (ahM (D.take i));have hmu:=D8d D[i].kind (ahM (D.take i));have hcn:=C2m (D.take i) D[i].kind;have hcl:=C2c (D.take i) D[i].kind;rw[A0W]at hcl;generalize D[i]=d at hg he hah hlk hmu hcn hcl hvn;rw[hcn]at hlk hmu;have hw2:=w64 (n:=(cnD (D.take i) d.kind:Int)+1);have hb0:=bg0 (D:=D) (M:=M) (l:=l) (a:=ahM (D.take i)) hN;have hb1:=bg1 (D:=D) (M:=M) (l:=l) (a:=ahM (D.take i)) hN;have hb2:=bg2 (D:=D) (M:=M) (l:=l) (a:=ahM (D.take i)) hN;have hb3:=bg3 (D:=D) (M:=M) (l:=l) (a:=ahM (D.take i)) hN;have hbV:=λq (hi:o=some q)=>bgV (D:=D) (M:=M) (l:=l) (a:=ahM (D.take i)) (o2:=none) (ps:=[]) (vs:=vs) hi;have hbn:=λj (hj:c<=j)=>bgN (D:=D) (M:=M) (l:=l) (a:=ahM (D.take i)) hN hj;have hno:=hN.no;have hho:=hN.ho;generalize hHH:bgM D M l (ahM (D.take i)) none [] o vs=HH at hb0 hb1 hb2 hb3 hbn hbV ⊢;have ne0:=A7n 0 1 2 3 c (c+1) (by omega);generalize hQ:lp _ _ _ _ _ _=Q;have tail:∀(X:Hp) (c1:Nat) (o':Option Nat),c<c1->BN none [] o' (vs++(if d.kind=6 then [d.value] else [])) c1->(∀i,o'=some i->i≠c)->X 0=some ⟨0,true,[D0 D,D8 M]⟩->X 1=some (B2u l) ->
    X 2=some ⟨0,true,bgC none [] o' (vs++(if d.kind=6 then [d.value] else [])) 0 0 (.mid 1)⟩->X 3=some ⟨0,true,[.mpc (.i .i64) (ahK (ahS (ahM (D.take i)) d.kind)) (ahV (ahS (ahM (D.take i)) d.kind))]⟩ ->
    X c=some ⟨0,true,[I64 d.kind,.str d.name,I64 d.value,I64 d.pos]⟩->(∀i,o'=some i->X i=some ⟨1,true,(vs++(if d.kind=6 then [d.value] else [])).map I64⟩)->(∀j,c1<=j->X j=none) ->
    IW Tryz.prog 139 (pz Tryz.prog 26 (.o (.i (.i (.o (.o .h)))))) ⟨tm [(1,.ptr 0 0),(3,.ptr 2 0),(4,.mid 3),(6,.ptr c 0),(7,I64 (W0 (D.take i) d)),(19,D0 D),(20,I64 D.length),(21,I64 i)],X,c1⟩ (bk 1 (sq Tryz.prog 139 (pz Tryz.prog 26 (.i (.o (.i (.i (.o .h)))))) Q)):=by
   intro X c1 o' hc1 hN' hoc x0 x1 x2 x3 xc xo xf;rw[<- hvn]at hN' x2 xo;subst hQ;cases hl:l.lookup d.name with
   |some y =>
    obtain⟨e1,e2⟩:=B7v (q:=(d.kind,W0 (D.take i) d)) hl;(repeat'((with_reducible first|apply wr|refine B0 ?_ ?_|apply wb2<;>(intro hb;try simp only[hb]))<;>try simp only[go_sem,seval,x0,x1,x2,x3,xc,e2]));refine⟨xf _ (by omega),?_⟩;(repeat'((with_reducible first|apply wr|refine B0 ?_ ?_|apply wb2<;>(intro hb;try simp only[hb]))<;>try simp only[go_sem,seval,x0,x1,x2,x3,xc,e2,hw]));refine⟨(i+1,Z5 l d.name (d.kind,W0 (D.take i) d),o',((D.take (i+1)).filter λd=>d.kind=6).map Dc.value),b9,?_,inv ⟨hlt,hN'.le (by omega),he,rfl⟩,by simp only;omega⟩;dsimp only;rw[hah,e1];exact B2i x0 x1 x2 x3 (λi h=>by cases h) xo
   |none =>
    obtain⟨e1,e2,e3⟩:=B7w (q:=(d.kind,W0 (D.take i) d)) hl;(repeat'((with_reducible first|apply wr|refine B0 ?_ ?_|apply wb2<;>(intro hb;try simp only[hb]))<;>try simp only[go_sem,seval,x0,x1,x2,x3,xc,e2,e3]));refine⟨xf _ (by omega),?_⟩;(repeat'((with_reducible first|apply wr|refine B0 ?_ ?_|apply wb2<;>(intro hb;try simp only[hb]))<;>try simp only[go_sem,seval,x0,x1,x2,x3,xc,e2,e3,hw]));refine⟨(i+1,Z5 l d.name (d.kind,W0 (D.take i) d),o',((D.take (i+1)).filter λd=>d.kind=6).map Dc.value),b9,?_,inv ⟨hlt,hN'.le (by omega),he,rfl⟩,by simp only;omega⟩;dsimp only;rw[hah];exact B2i (by rw[hnO];exact x0) (by rw[A0,e1]) (by rw[hnO];exact x2) (by rw[hnO];exact x3) (λi h=>by cases h) (λi h=>by have:=hN'.ho i h;rw[hnO];exact xo i h)
  have LL:∀z:Int,z=W0 (D.take i) d->B5 [(1,DV.ptr 0 0),(3,.ptr 2 0),(4,.mid 3),(6,.ptr c 0),(7,I64 (W0 (D.take i) d)),(19,D0 D),(20,I64 D.length),(21,I64 i)] (tm [(1,DV.ptr 0 0),(3,.ptr 2 0),(4,.mid 3),(6,.ptr c 0),(7,I64 z),(19,D0 D),(20,I64 D.length),(21,I64 i)]):=λz h=>by rw[h];simp[B5,tm,Tm.upd]
  by_cases k6:d.kind=6
  ·have d6:(d.kind==6)=true:=by simpa using k6
   have hnum:W0 (D.take i) d=(cnD (D.take i) d.kind:Int):=by rw[W0,if_pos (.inl k6)]
   refine wAn (wJ hb0 (wJ hb1 (wJ hb2 (wJ hb3 (wJ hd (wJ hg (wJ hw (wJ hw2 (wJ hlk (wJ hmu (wJ d6 (wJ @A1m (wJ ne0 (wJ @A0 @A1)))))))))))))) ?_;refine S8 (D4 (cs:=vs.map I64) (λe=>⟨S3 (hno e),by rw[hno e];rfl⟩) (λi hi=>?_) (by rw[A0I,A4F]) (by omega) (by omega) (by omega)) ?_
   ·have:=hho i hi;rw[hnO,hnO,hnO];exact hbV i hi
   have dm2:∀X:Hp,delO X o 2=X 2:=λX=>A9 (λq hq e=>by have:=hho q hq;omega);simp only[go_sem,seval,dm2,hb2,ne0,A0];generalize hY:Hp.upd (delO _ _) (c+1+14) _=Y;have yo:∀j,j≠c+1+14->j≠c+1+8->(∀q,o=some q->j≠q)->Y j=((HH.upd c ⟨0,true,[I64 d.kind,.str d.name,I64 d.value,I64 d.pos]⟩).upd 3 ⟨0,true,[.mpc (.i .i64) (ahK (ahS (ahM (D.take i)) d.kind)) (ahV (ahS (ahM (D.take i)) d.kind))]⟩) j:=λj e1 e2 e3=>by
    rw[<- hY,h_ne e1,A9 e3,h_ne e2]
   have yl:∀j,j<=c->(∀q,o=some q->j≠q)->Y j=((HH.upd c ⟨0,true,[I64 d.kind,.str d.name,I64 d.value,I64 d.pos]⟩).upd 3 ⟨0,true,[.mpc (.i .i64) (ahK (ahS (ahM (D.take i)) d.kind)) (ahV (ahS (ahM (D.take i)) d.kind))]⟩) j:=λj e1 e3=>yo j (by omega) (by omega) e3;have y0:Y 0=some ⟨0,true,[D0 D,D8 M]⟩:=by rw[yl 0 (by omega) (λq hq=>by have:=hho q hq;omega),hnO,hnO];exact hb0
   have y1:Y 1=some (B2u l):=by rw[yl 1 (by omega) (λq hq=>by have:=hho q hq;omega),hnO,hnO];exact hb1
   have y2:Y 2=some ⟨0,true,bgC none [] o vs 0 0 (.mid 1)⟩:=by rw[yl 2 (by omega) (λq hq=>by have:=hho q hq;omega),hnO,hnO];exact hb2
   have y3:Y 3=some ⟨0,true,[.mpc (.i .i64) (ahK (ahS (ahM (D.take i)) d.kind)) (ahV (ahS (ahM (D.take i)) d.kind))]⟩:=by rw[yl 3 (by omega) (λq hq=>by have:=hho q hq;omega),A0]
   have yc:Y c=some ⟨0,true,[I64 d.kind,.str d.name,I64 d.value,I64 d.pos]⟩:=by rw[yl c (by omega) (λq hq=>by have:=hho q hq;omega),hnO,A0]
   have yn:∀j,c+1<=j->j≠c+1+14->j≠c+1+8->Y j=none:=λj hj e1 e2=>by rw[yo j e1 e2 (λq hq=>by have:=hho q hq;omega),hnO,hnO];exact hbn _ (by omega)
   have ya:Y (c+1+14)=some ⟨1,true,vs.map I64++[I64 d.value]⟩:=by rw[<- hY,A0]
   refine⟨yn _ (by omega) (by omega) (by omega),?_⟩;simp only[if_pos k6]at tail;have hN1:BN none [] (some (c+1+14)) (vs++[d.value]) (c+1+14+1):=hN.newV (by omega) (by omega);refine IW.stage (L:=[(1,.ptr 0 0),(3,.ptr 2 0),(4,.mid 3),(6,.ptr c 0),(7,I64 (W0 (D.take i) d)),(19,D0 D),(20,I64 D.length),(21,I64 i)]) (by rw[hnum];simp[B5,tm,Tm.upd]) (tail _ _ (some (c+1+14)) (by omega) hN1 (λq hq=>by cases hq;omega) ?_ ?_ ?_ ?_ ?_ (λq hq=>?_) (λq hq=>?_))
   ·rw[hnO];exact y0
   ·rw[hnO];exact y1
   ·rw[A0];simp[todoV]
   ·rw[hnO];exact y3
   ·rw[hnO];exact yc
   ·cases hq;rw[hnO,ya];simp
   ·rw[hnO];exact yn q (by omega) (by omega) (by omega)
  have d6:(d.kind==6)=false:=by simpa using k6
  simp only[if_neg k6,A0Y]at tail;by_cases k7:d.kind=7
  ·have d7:(d.kind==7)=true:=by simpa using k7
   have hnum:W0 (D.take i) d=(cnD (D.take i) d.kind:Int):=by rw[W0,if_pos (.inr (.inl k7))]
   refine wAn (wJ hb0 (wJ hb1 (wJ hb2 (wJ hb3 (wJ hd (wJ hg (wJ hw (wJ hw2 (wJ hlk (wJ hmu (wJ d6 (wJ d7 (wJ @A1m (wJ ne0 (wJ @A0 @A1))))))))))))))) ?_;refine IW.stage (L:=[(1,.ptr 0 0),(3,.ptr 2 0),(4,.mid 3),(6,.ptr c 0),(7,I64 (W0 (D.take i) d)),(19,D0 D),(20,I64 D.length),(21,I64 i)]) (by rw[hnum];simp[B5,tm,Tm.upd]) (tail _ _ o (by omega) (hN.le (by omega)) (λq hq=>by have:=hho q hq;omega) ?_ ?_ ?_ ?_ ?_ (λq hq=>?_) (λq hq=>?_))
   ·rw[hnO,hnO];exact hb0
   ·rw[hnO,hnO];exact hb1
   ·rw[hnO,hnO];exact hb2
   ·rw[A0]
   ·rw[hnO,A0]
   ·have:=hho q hq;rw[hnO,hnO];exact hbV q hq
   ·rw[hnO,hnO];exact hbn q (by omega)
  have d7:(d.kind==7)=false:=by simpa using k7
  by_cases k8:d.kind=8
  ·have d8:(d.kind==8)=true:=by simpa using k8
   have hnum:W0 (D.take i) d=(cnD (D.take i) d.kind:Int):=by rw[W0,if_pos (.inr (.inr k8))]
   refine wAn (wJ hb0 (wJ hb1 (wJ hb2 (wJ hb3 (wJ hd (wJ hg (wJ hw (wJ hw2 (wJ hlk (wJ hmu (wJ d6 (wJ d7 (wJ d8 (wJ @A1m (wJ ne0 (wJ @A0 @A1)))))))))))))))) ?_;refine IW.stage (L:=[(1,.ptr 0 0),(3,.ptr 2 0),(4,.mid 3),(6,.ptr c 0),(7,I64 (W0 (D.take i) d)),(19,D0 D),(20,I64 D.length),(21,I64 i)]) (by rw[hnum];simp[B5,tm,Tm.upd]) (tail _ _ o (by omega) (hN.le (by omega)) (λq hq=>by have:=hho q hq;omega) ?_ ?_ ?_ ?_ ?_ (λq hq=>?_) (λq hq=>?_))
   ·rw[hnO,hnO];exact hb0
   ·rw[hnO,hnO];exact hb1
   ·rw[hnO,hnO];exact hb2
   ·rw[A0]
   ·rw[hnO,A0]
   ·have:=hho q hq;rw[hnO,hnO];exact hbV q hq
   ·rw[hnO,hnO];exact hbn q (by omega)
  ·have d8:(d.kind==8)=false:=by simpa using k8
   have hnum:W0 (D.take i) d=d.value:=by rw[W0,iN]
   refine wAn (wJ hb0 (wJ hb1 (wJ hb2 (wJ hb3 (wJ hd (wJ hg (wJ hw (wJ hw2 (wJ hlk (wJ hmu (wJ d6 (wJ d7 (wJ d8 (wJ @A1m (wJ ne0 (wJ @A0 @A1)))))))))))))))) ?_;refine IW.stage (L:=[(1,.ptr 0 0),(3,.ptr 2 0),(4,.mid 3),(6,.ptr c 0),(7,I64 (W0 (D.take i) d)),(19,D0 D),(20,I64 D.length),(21,I64 i)]) (by rw[hnum];simp[B5,tm,Tm.upd]) (tail _ _ o (by omega) (hN.le (by omega)) (λq hq=>by have:=hho q hq;omega) ?_ ?_ ?_ ?_ ?_ (λq hq=>?_) (λq hq=>?_))
   ·rw[hnO,hnO];exact hb0
   ·rw[hnO,hnO];exact hb1
   ·rw[hnO,hnO];exact hb2
   ·rw[A0]
   ·rw[hnO,A0]
   ·have:=hho q hq;rw[hnO,hnO];exact hbV q hq
   ·rw[hnO,hnO];exact hbn q (by omega)
 have hd:=dfz hlt;have hi:i=D.length:=b8
 subst hi;rw[A3G,nmD]at he;rw[he]at hR;rw[A1K]at hvs ⊢;clear he hlt hk;have hvl:vs.length<=D.length:=by
  rw[hvs,A0I];exact A4B _ _
 have hb0:=bg0 (D:=D) (M:=M) (l:=l) (a:=ahM D) hN;refine wAr (wJ hd hb0) ?_;obtain⟨A,hA⟩:∃A,A=ahM D:=⟨_,rfl⟩;have hA7:=C5k 7 A;have hA8:=C5k 8 A;rw[hA,C2m]at hA7 hA8;rw[<- hA]at hb0 hA7 hA8 ⊢;clear hb0 h4c hd;refine B6 (λq:Nat × NmL × Option Nat × List Int=>[(3,.ptr 2 0),(4,.mid 3),(86,D8 M),(87,I64 M.length),(88,I64 q.1)]) (λq=>bgM D M q.2.1 A q.2.2.1 q.2.2.2 o vs)
  (λq c=>q.1<=M.length/\BN q.2.2.1 q.2.2.2 o vs c/\R=nmX q.1 q.2.1 (M.drop q.1)/\q.2.2.2=(M.take q.1).map Md.prio) (λq=>M.length-q.1) (0,l,none,[])
  (by simp[B5,tm,Tm.upd]) (Sub.refl _) ⟨A0N _,hN,hR,rfl⟩ ?_
 clear hN hR;rintro⟨i,l,o2,ps⟩ c ⟨hk,hN,he,hps⟩;dsimp only at hk hN he hps ⊢;have h4c:=hN.c4;have hb0:=bg0 (D:=D) (M:=M) (l:=l) (a:=A) hN;have hb1:=bg1 (D:=D) (M:=M) (l:=l) (a:=A) hN;have hb2:=bg2 (D:=D) (M:=M) (l:=l) (a:=A) hN;have hb3:=bg3 (D:=D) (M:=M) (l:=l) (a:=A) hN;have hbV:=λq (hi:o=some q)=>bgV (D:=D) (M:=M) (l:=l) (a:=A) (o2:=o2) (ps:=ps) (vs:=vs) hi;have hbP:=λq (hi:o2=some q)=>bgP (D:=D) (M:=M) (l:=l) (a:=A) hN hi;have hbn:=λj (hj:c<=j)=>bgN (D:=D) (M:=M) (l:=l) (a:=A) hN hj;have hno:=hN.n2;have hho:=hN.h2;have hho1:=hN.ho;have hne12:=hN.ne;by_cases hlt:i<M.length
 ·have hd:=dtz hlt;have hg:=A0B hlt;have hw:=w64 (n:=(i:Int)+1);rw[B7y hg]at he;have hpn:(M.take (i+1)).map Md.prio=ps++[M[i].prio]:=by rw[A0R,hg,A0P, <- hps];rfl
  have hpl:ps.length<=M.length:=by rw[hps,A0I,A0W];omega
  generalize M[i]=d at hg he hpn;generalize hHH:bgM D M l A o2 ps o vs=HH at hb0 hb1 hb2 hb3 hbn hbV hbP ⊢;have ne0:=A7n 0 1 2 3 c (c+1) (by omega);(repeat'((with_reducible first|refine J8 (p:=IW _ _ (pz Tryz.prog 26 (.i (.i (.i (.i (.i .h)))))) _ _) ?_|refine wr ?_|refine B0 ?_ ?_|apply wb2<;>(intro hb;try simp only[hb]))<;>try simp only[go_sem,seval,hb0,hb1,hb2,hb3,hd,hg,hw,A7r,A0I,ne0,A0,A1]));refine S8 (D4 (cs:=ps.map I64) (λe=>⟨S3 (hno e),by rw[hno e];rfl⟩) (λi hi=>?_) (by rw[A0I,A4F]) (by omega) (by omega) (by omega)) ?_
  ·have:=hho i hi
   repeat rw[hnO]
   exact hbP i hi
  have dm2:∀X:Hp,delO X o2 2=X 2:=λX=>A9 (λq hq e=>by have:=hho q hq;omega);simp only[go_sem,seval,dm2,hb2,ne0,A0];generalize hY:Hp.upd (delO _ _) (c+1+14) _=Y;have yo:∀j,j≠c+1+14->j≠c+1+8->(∀q,o2=some q->j≠q)->Y j=(HH.upd c ⟨0,true,[.str d.name,I64 d.prio,O0 d.hds,I64 d.pos]⟩) j:=λj e1 e2 e3=>by
   rw[<- hY,h_ne e1,A9 e3,h_ne e2]
  have yl:∀j,j<c->(∀q,o2=some q->j≠q)->Y j=HH j:=λj e1 e3=>by rw[yo j (by omega) (by omega) e3,hnO]
  have y0:Y 0=some ⟨0,true,[D0 D,D8 M]⟩:=by rw[yl 0 (by omega) (λq hq=>by have:=hho q hq;omega)];exact hb0
  have y1:Y 1=some (B2u l):=by rw[yl 1 (by omega) (λq hq=>by have:=hho q hq;omega)];exact hb1
  have y3:Y 3=some ⟨0,true,[.mpc (.i .i64) (ahK A) (ahV A)]⟩:=by rw[yl 3 (by omega) (λq hq=>by have:=hho q hq;omega)];exact hb3
  have yc:Y c=some ⟨0,true,[.str d.name,I64 d.prio,O0 d.hds,I64 d.pos]⟩:=by rw[yo c (by omega) (by omega) (λq hq=>by have:=hho q hq;omega),A0]
  have yn:∀j,c+1<=j->j≠c+1+14->j≠c+1+8->Y j=none:=λj hj e1 e2=>by rw[yo j e1 e2 (λq hq=>by have:=hho q hq;omega),hnO];exact hbn _ (by omega)
  have ya:Y (c+1+14)=some ⟨1,true,ps.map I64++[I64 d.prio]⟩:=by rw[<- hY,A0]
  have yV:∀q,o=some q->Y q=some ⟨1,true,vs.map I64⟩:=λq hq=>by
   have:=hho1 q hq;rw[yl q (by omega) (λz hz e=>hne12 z q hz hq e.symm)];exact hbV q hq
  refine⟨yn _ (by omega) (by omega) (by omega),?_⟩;obtain⟨Z,hZ⟩:∃Z:Hp,Z=Y.upd 2 ⟨0,true,[.snil,.snil,.snil,.slc (c+1+14) 0 (ps.length+1),todoV o vs.length,I64 0,I64 0,.mid 1]⟩:=⟨_,rfl⟩;rw[<- hZ];have z0:Z 0=some ⟨0,true,[D0 D,D8 M]⟩:=by rw[hZ,hnO];exact y0
  have z1:Z 1=some (B2u l):=by rw[hZ,hnO];exact y1
  have z2:Z 2=some ⟨0,true,bgC (some (c+1+14)) (ps++[d.prio]) o vs 0 0 (.mid 1)⟩:=by rw[hZ,A0];simp[todoV]
  have z3:Z 3=some ⟨0,true,[.mpc (.i .i64) (ahK A) (ahV A)]⟩:=by rw[hZ,hnO];exact y3
  have zc:Z c=some ⟨0,true,[.str d.name,I64 d.prio,O0 d.hds,I64 d.pos]⟩:=by rw[hZ,hnO];exact yc
  have zp:∀q,some (c+1+14)=some q->Z q=some ⟨1,true,(ps++[d.prio]).map I64⟩:=λq hq=>by cases hq;rw[hZ,hnO,ya];simp
  have zV:∀q,o=some q->Z q=some ⟨1,true,vs.map I64⟩:=λq hq=>by have:=hho1 q hq;rw[hZ,hnO];exact yV q hq
  have zn:∀j,c+1+14+1<=j->Z j=none:=λj hj=>by rw[hZ,hnO];exact yn j (by omega) (by omega) (by omega)
  have hN1:BN (some (c+1+14)) (ps++[d.prio]) o vs (c+1+14+1):=hN.newP (by omega) (by omega);clear hZ ya yn yV yc y0 y1 y3 yl yo hY;rw[<- hpn]at hN1 z2 zp;cases hl:l.lookup d.name with
  |some y =>
   obtain⟨e1,e2⟩:=B7v (q:=((9:Int),(i:Int))) hl;(repeat'((with_reducible first|apply wr|refine B0 ?_ ?_|apply wb2<;>(intro hb;try simp only[hb]))<;>try simp only[go_sem,seval,z0,z1,z2,z3,zc,e2]));refine⟨zn _ (by omega),?_⟩;(repeat'((with_reducible first|apply wr|refine B0 ?_ ?_|apply wb2<;>(intro hb;try simp only[hb]))<;>try simp only[go_sem,seval,z0,z1,z2,z3,zc,e2,hw]));refine⟨(i+1,Z5 l d.name (9,(i:Int)),some (c+1+14),(M.take (i+1)).map Md.prio),b9,?_,inv ⟨hlt,hN1.le (by omega),he,rfl⟩,by simp only;omega⟩;dsimp only;rw[e1];exact B2i z0 z1 z2 z3 zp zV
  |none =>
   obtain⟨e1,e2,e3⟩:=B7w (q:=((9:Int),(i:Int))) hl;(repeat'((with_reducible first|apply wr|refine B0 ?_ ?_|apply wb2<;>(intro hb;try simp only[hb]))<;>try simp only[go_sem,seval,z0,z1,z2,z3,zc,e2,e3]));refine⟨zn _ (by omega),?_⟩;(repeat'((with_reducible first|apply wr|refine B0 ?_ ?_|apply wb2<;>(intro hb;try simp only[hb]))<;>try simp only[go_sem,seval,z0,z1,z2,z3,zc,e2,e3,hw]));refine⟨(i+1,Z5 l d.name (9,(i:Int)),some (c+1+14),(M.take (i+1)).map Md.prio),b9,?_,inv ⟨hlt,hN1.le (by omega),he,rfl⟩,by simp only;omega⟩;dsimp only;exact B2i (by rw[hnO];exact z0) (by rw[A0,e1]) (by rw[hnO];exact z2) (by rw[hnO];exact z3) (λq h=>by have:=hN1.h2 q h;rw[hnO];exact zp q h) (λq h=>by have:=hho1 q h;rw[hnO];exact zV q h)
 have hd:=dfz hlt;have hi:i=M.length:=b8
 subst hi;rw[A3G,nmX]at he;rw[A1K]at hps;subst he;refine wA1 hd hb2 hb3 hA7 hA8 ?_;rw[A1, <- hps, <- hvs];have hno':=hN.no;obtain⟨Z,hZ⟩:∃Z:Hp,Z=((Sym.nil.upd 0 ⟨0,true,[D0 D,D8 M]⟩).upd 1 (B2u R)).upd 3 ⟨0,true,[.mpc (.i .i64) (ahK A) (ahV A)]⟩:=⟨_,rfl⟩;have hz:∀j,4<=j->Z j=none:=λj hj=>by rw[hZ,hnO,hnO,hnO];rfl
 have e:(bgM D M R A o2 ps o vs).upd 2 ⟨0,true,[.snil,.snil,.snil,todoV o2 ps.length,todoV o vs.length,I64 (cnD D 7),I64 (cnD D 8),.mid 1]⟩ =
   optH (optH (Z.upd 2 ⟨0,true,[.snil,.snil,.snil]++[todoV o2 ps.length]++[todoV o vs.length,I64 (cnD D 7),I64 (cnD D 8),.mid 1]⟩) o2 ⟨1,true,cellsL (ps.map I64)⟩) o ⟨1,true,cellsL (vs.map I64)⟩:=by
  rw[A5m,A5m,hZ]
  funext j
  unfold bgM;cases o2<;>cases o<;>simp only[optH,Hp.upd]<;>(repeat' split)<;>first|rfl|(subst_vars;simp_all;done)|simp_all
 rw[e];have com:∀(B P:Blk),optH (Z.upd 2 B) o2 P=(optH Z o2 P).upd 2 B:=λB P=>by
  cases o2 with
  |none=>rfl
  |some i =>
   have:=hho i rfl
   funext j
   simp only[optH,Hp.upd]
   (repeat' split)<;>first|rfl|omega
 have one2:(todoV o2 ps.length).one=true:=by cases o2<;>rfl
 rw[com];have g1:GL (optH ((optH Z o2 ⟨1,true,cellsL (ps.map I64)⟩).upd 2 ⟨0,true,[.snil,.snil,.snil,todoV o2 ps.length]++[todoV o vs.length]++[I64 (cnD D 7),I64 (cnD D 8),.mid 1]⟩) o ⟨1,true,cellsL (vs.map I64)⟩) [.ptr 2 0]
   ((optH Z o2 ⟨1,true,cellsL (ps.map I64)⟩).upd 2 ⟨0,true,[.snil,.snil,.snil,todoV o2 ps.length]++[.lst (vs.map I64)]++[I64 (cnD D 7),I64 (cnD D 8),.mid 1]⟩) [.ptr 2 0] :=
  g_fin (λd hd=>by simp at hd;rcases hd with rfl|rfl|rfl|rfl|rfl<;>first|rfl|exact one2) (λe=>by rw[hno' e];rfl) (λi hi=>⟨by have:=hho1 i hi;omega,by rw[A8 (λq hq e=>hne12 q i hq hi e.symm)];exact hz i (hho1 i hi).1⟩) (by simp) (λx hx=>by obtain⟨y, -,rfl⟩:=A1D.1 hx;rfl)
 have g2:GL (optH (Z.upd 2 ⟨0,true,[.snil,.snil,.snil]++[todoV o2 ps.length]++[.lst (vs.map I64),I64 (cnD D 7),I64 (cnD D 8),.mid 1]⟩) o2 ⟨1,true,cellsL (ps.map I64)⟩) [.ptr 2 0]
   (Z.upd 2 ⟨0,true,[.snil,.snil,.snil]++[.lst (ps.map I64)]++[.lst (vs.map I64),I64 (cnD D 7),I64 (cnD D 8),.mid 1]⟩) [.ptr 2 0] :=
  g_fin (λd hd=>by simp at hd;rcases hd with rfl|rfl|rfl|rfl|rfl<;>rfl) (λe=>by rw[hno e];rfl) (λi hi=>⟨by have:=hho i hi;omega,hz i (hho i hi).1⟩) (by simp) (λx hx=>by obtain⟨y, -,rfl⟩:=A1D.1 hx;rfl)
 have g3:GL (Z.upd 2 ⟨0,true,[.snil,.snil,.snil,.lst (ps.map I64),.lst (vs.map I64),I64 (cnD D 7),I64 (cnD D 8)]++[.mid 1]++[]⟩) [.ptr 2 0]
   (Sym.nil.upd 2 ⟨0,true,[.snil,.snil,.snil,.lst (ps.map I64),.lst (vs.map I64),I64 (cnD D 7),I64 (cnD D 8)]++[.mp .s (mkK (inL R)) (mvV (inL R))]++[]⟩) [.ptr 2 0] :=
  GL.frzmC (id:=1) (k:=2) (u:=0) (by rw[hnO,hZ];rfl) A0 (by omega) A0 (λj hj=>.inl (by rw[h_ne hj];rfl))
 rw[com]at g2;exact⟨_,_,(g1.trans g2).trans g3,2,rfl,rfl⟩
theorem E3a(r:Ru):∀d∈beC r,d.nl=true:=by
 intro d hd;simp only[beC,A1N,A4D,or_false]at hd;rcases hd with rfl|rfl|rfl|rfl|rfl|rfl|rfl|rfl
 ·rfl
 ·rfl
 ·rfl
 ·exact B0z _
 ·exact B0z _
 ·rfl
 ·rfl
 ·unfold mkK mvV inL;simp only[DV.nl];rw[A3U,A3U];rw[show((λp:List UInt8 × DV=>DV.str p.1)∘λp:List UInt8 × (Int × Int)=>(p.1,I64 p.2.2))=λp=>DV.str p.1 from rfl,show((λp:List UInt8 × DV=>p.2)∘λp:List UInt8 × (Int × Int)=>(p.1,I64 p.2.2))=λp=>I64 p.2.2 from rfl];rw[L5 (λ_=>rfl),L5 (λ_=>rfl)];rfl
theorem c_begin(r:Ru)(h1:r.decls.length<=1000000)(h2:r.modes.length<=1000000)(H:Hp)(c:Nat):
  AC Tryz.prog 26 [r.v] H c (λv H' c'=>v=.ptr c 0/\H'=H.upd c ⟨0,true,beC r⟩/\c'=c+1) :=
 AC.own (V:=λid=>.ptr id 0) (c_begin0 r h1 h2) (by simp[Ru.v,DV.nlL,DV.nl,K4,K3]) (E3a r) (fun ρ ρ' id id' v h1 h2 h3=>by
  cases h3 with
  |ptr _ _ t q hm=>exact .ptr id' 0 t (h1▸q) hm) H c
theorem c_gather(gs:List DV)(ks vs:List DV)(nm:List UInt8->Int)(hm:∀s,Sym.lkV (I64 0) false vs (F8 (.str s) ks 0)=some (I64 (nm s)))(hgs:gs[7]? = some (.mp .s ks vs))(D:List Dc)(M:List Md)(hs:(M.map λm=>m.hds.length).sum+M.length<=1000000)
  (H:Hp) (c t:Nat) (ht:H t=some ⟨0,true,gs⟩) (htc:t<c) (Post:DV->Hp->Nat->Prop)
  (hend:∀(o:Option Nat) (is:List Nat) (c1:Nat),c<=c1->PN (H.upd c ⟨0,true,[D0 D,D8 M]⟩) o is (J5 [] (hkM nm 0 M)) c1 ->
   IW Tryz.prog 68 (pz Tryz.prog 27 (.i (.o (.o (.o (.i .h)))))) ⟨tm [(5,todoV o (J5 [] (hkM nm 0 M)).length)],PM (H.upd c ⟨0,true,[D0 D,D8 M]⟩) o is (J5 [] (hkM nm 0 M)),c1⟩ (rt [.tmp 4] λv H' c' => ∃v2 H2,GL H' [v] H2 [v2]/\Post v2 H2 c')) :
  AC Tryz.prog 27 [.ptr t 0,.agg [D0 D,D8 M]] H c Post:=by
 refine AC.go A2 λhfr=>?_;refine wAp ?_;obtain⟨G,hG⟩:∃G:Hp,G=H.upd c ⟨0,true,[D0 D,D8 M]⟩:=⟨_,rfl⟩;rw[<- hG]at hend ⊢;have hGn:∀j,c+1<=j->G j=none:=λj hj=>zag
 have hGt:G t=some ⟨0,true,gs⟩:=by rw[hG,hnO];exact ht
 have hGc:G c=some ⟨0,true,[D0 D,D8 M]⟩:=by rw[hG,A0]
 refine B6 (λq:Nat × Option Nat × List Nat=>[(0,.ptr t 0),(5,todoV q.2.1 (J5 [] (hkM nm 0 (M.take q.1))).length),(13,D8 M),(14,I64 M.length),(15,I64 q.1)]) (λq=>PM G q.2.1 q.2.2 (J5 [] (hkM nm 0 (M.take q.1))))
  (λq cc=>c+1<=cc/\q.1<=M.length/\PN G q.2.1 q.2.2 (J5 [] (hkM nm 0 (M.take q.1))) cc) (λq=>M.length-q.1) (0,none,[])
  (by simp[B5,tm,Tm.upd,todoV]) (Sub.refl _) ⟨A0D _,A0N _,⟨rfl,.nil,λi hi=>(by cases hi),λi hi=>(by cases hi),λ_=>rfl,hGn⟩⟩ ?_
 rintro⟨i,o,is⟩ cc ⟨hcc,hk,hN⟩;dsimp only at hk hN ⊢;have htl:∀k:Nat,((M.take k).map λm=>m.hds.length).sum<=(M.map λm=>m.hds.length).sum:=λk=>by
  have h:=congrArg (λl:List Md=>(l.map λm=>m.hds.length).sum) (A1V k M);simp only[A0P,List.sum_append]at h;omega
 have hlen:∀(k z:Nat) (l:List Md),(hkM nm k l).length=(l.map λm=>m.hds.length).sum:=λk z l=>by
  induction l generalizing k with
  |nil=>rfl
  |cons m l ih=>rw[hkM,A0A,A0I,ih];simp
 have hpb:∀q:List KB,PB q.length (J5 [] q):=λq=>by
  have key:∀(q:List KB) (n:Nat) (l:List F4),PB n l->PB (n+q.length) (J5 l q):=by
   intro q
   induction q with
   |nil=>intro n l h;exact h
   |cons x q ih =>
    intro n l h;have:=ih (n+1) _ (PB.add (k:=x.1) (b:=x.2) h);exact this.le (by simp only[A0G];omega)
  have:=key q 0 [] ⟨by simp,λp hp=>by cases hp⟩
  rwa [A1I]at this
 by_cases hlt:i<M.length
 rotate_left
 ·have hd:=dfz hlt;have hi:i=M.length:=by omega
  subst hi;rw[A1K]at hN ⊢;(repeat'((with_reducible first|refine J8 (p:=IW _ _ (pz Tryz.prog 27 (.i (.o (.o (.o (.i .h)))))) _ _) ?_|refine wr ?_|refine B0 ?_ ?_|apply wb2<;>(intro hb;try simp only[hb]))<;>try simp only[go_sem,seval,hd,A0I]));exact IW.stage (L:=[(5,todoV o (J5 [] (hkM nm 0 M)).length)]) (by simp[B5,tm,Tm.upd]) (hend o is cc (by omega) hN)
 have hd:=dtz hlt;have hg:=A0B hlt;have hw:=w64 (n:=(i:Int)+1);have hsn:=B8o nm (k:=0) hg;have hsum:=htl (i+1);rw[A0R,hg]at hsum;simp only[Option.toList_some,A0P,A0U,List.map_nil,List.sum_append,A2M,List.sum_nil,A3B]at hsum;generalize M[i]=x at hg hsn hsum;rw[A1I]at hsn;have hfr0:=λj (hj:cc<=j)=>E3f hN hj;have hz0:=hN.fr cc (A0D _);refine wA1 hd hg @A7r @A0 @A1 ?_;obtain⟨G1,hG1⟩:∃G1:Hp,G1=G.upd cc ⟨0,true,[.str x.name,I64 x.prio,O0 x.hds,I64 x.pos]⟩:=⟨_,rfl⟩;have hN1:PN G1 o is (J5 [] (hkM nm 0 (M.take i))) (cc+1):=by rw[hG1];exact hN.box (A0D _) (A1M _)
 rw[hN.com (A0D _), <- hG1];have h1cc:PM G1 o is (J5 [] (hkM nm 0 (M.take i))) cc=some ⟨0,true,[.str x.name,I64 x.prio,O0 x.hds,I64 x.pos]⟩:=B6h hN1 (by rw[hG1,A0]);have hG1t:G1 t=some ⟨0,true,gs⟩:=by rw[hG1,hnO];exact hGt
 refine wAs h1cc ?_;clear h1cc;refine B6 (λq:Nat × Option Nat × List Nat=>[(0,.ptr t 0),(5,todoV q.2.1 (J5 (J5 [] (hkM nm 0 (M.take i))) ((x.hds.take q.1).map (hdK nm i))).length),(6,I64 i),(13,D8 M),(14,I64 M.length),(15,I64 i),(21,O0 x.hds),(22,I64 x.hds.length),(23,I64 q.1)])
  (λq=>PM G1 q.2.1 q.2.2 (J5 (J5 [] (hkM nm 0 (M.take i))) ((x.hds.take q.1).map (hdK nm i))))
  (λq c2=>cc+1<=c2/\q.1<=x.hds.length/\PN G1 q.2.1 q.2.2 (J5 (J5 [] (hkM nm 0 (M.take i))) ((x.hds.take q.1).map (hdK nm i))) c2) (λq=>x.hds.length-q.1) (0,o,is)
  (by simp[B5,tm,Tm.upd,J5]) (by simp only[A1F,List.map_nil,J5,List.foldl_nil];exact Sub.refl _) ⟨A0D _,A0N _,by simp only[A1F,List.map_nil];exact hN1⟩ ?_
 have hGN:=hN.fr;clear hN hN1 hfr0 is o;rintro⟨j,o,is⟩ c2 ⟨hc2,hkj,hN⟩;dsimp only at hkj hN ⊢;by_cases hltj:j<x.hds.length
 rotate_left
 ·have hdj:=dfz hltj;have hj:j=x.hds.length:=by omega
  subst hj;rw[A1K, <- B9v, <- hsn]at hN ⊢;refine wAr (wJ hdj hw) ?_;rw[hG1]at hN ⊢;exact⟨(i+1,o,is),b9,B6i hz0 hN,inv ⟨b8,hlt,hN.unbox hz0 (by omega) hGN⟩,by simp only;omega⟩
 have hdj:=dtz hltj;have hgj:=A0B hltj;have hwj:=w64 (n:=(j:Int)+1);have hsj:J5 (J5 [] (hkM nm 0 (M.take i))) ((x.hds.take (j+1)).map (hdK nm i))=N9 (hdK nm i x.hds[j]).1 (hdK nm i x.hds[j]).2 (J5 (J5 [] (hkM nm 0 (M.take i))) ((x.hds.take j).map (hdK nm i))):=by
  rw[A0R,hgj,A0P, <- C7t];rfl
 have hPB:PB 1000000 (J5 (J5 [] (hkM nm 0 (M.take i))) ((x.hds.take j).map (hdK nm i))):=by
  rw[<- B9v];refine(hpb _).le ?_;rw[A0A,A0I,hlen _ 0,A0W];omega
 generalize x.hds[j]=y at hgj hsj;generalize J5 (J5 [] (hkM nm 0 (M.take i))) ((x.hds.take j).map (hdK nm i))=l at hN hPB hsj ⊢;have hfr2:=λj (hj:c2<=j)=>E3f hN hj;have hgt:PM G1 o is l t=some ⟨0,true,gs⟩:=B6h hN hG1t;have hlk:=hm y.name;have ne0:=M7 t c2 (c2+1+11) (by omega);refine wAr (wJ hdj (wJ hgj (wJ @E1v (wJ @A0 (wJ @A1 (wJ ne0 (wJ hgt (wJ hgs hlk)))))))) ?_;refine⟨by and_intros<;>(repeat rw[hnO])<;>exact hfr2 _ (by omega),?_⟩;obtain⟨K,hK⟩:∃K:Ky,K=⟨i,y.trig,nm y.name⟩:=⟨_,rfl⟩;have hKx:(hdK nm i y).1=K:=by rw[hK];rfl
 have hKb:(hdK nm i y).2=y.body:=rfl;rw[hKx,hKb]at hsj;obtain⟨G2,hG2⟩:∃G2:Hp,G2=G1.upd c2 ⟨0,true,[I64 y.trig,.str y.name,F5 y.body,I64 y.pos]⟩:=⟨_,rfl⟩;have hz2:G1 c2=none:=hN.fr c2 (A0D _);have hN2:PN G2 o is l (c2+1):=by rw[hG2];exact hN.box (A0D _) (A1M _)
 obtain⟨G3,hG3⟩:∃G3:Hp,G3=G2.upd (c2+1+11) (keB K):=⟨_,rfl⟩;have hz3:G2 (c2+1+11)=none:=hN2.fr _ (by omega);have hN3:PN G3 o is l (c2+1+13):=by rw[hG3];exact hN2.box (by omega) (by omega)
 have hmem:((PM G1 o is l).upd c2 ⟨0,true,[I64 y.trig,.str y.name,F5 y.body,I64 y.pos]⟩).upd (c2+1+11) ⟨0,true,[I64 (i:Int),I64 y.trig,I64 (nm y.name),I64 0]⟩=PM G3 o is l:=by
  rw[hN.com (A0D _), <- hG2,hN2.com (by omega),hG3,hK]
 rw[hmem];have hGf:∀j,c2<=j->G1 j=none:=hN.fr;clear hmem hfr2 hgt hN hN2;have hG3e:G3 (c2+1+11)=some (keB K):=by rw[hG3,A0]
 have hG3h:G3 c2=some ⟨0,true,[I64 y.trig,.str y.name,F5 y.body,I64 y.pos]⟩:=by rw[hG3,hnO,hG2,A0]
 have hl6:=hPB.1;have fin:∀(o':Option Nat) (is':List Nat) (X:Hp) (c3:Nat),c2+1+13<=c3->PN G3 o' is' (N9 K y.body l) c3->Sub (PM G3 o' is' (N9 K y.body l)) X ->
   IW Tryz.prog 68 (pz Tryz.prog 27 (.i (.i (.i (.i (.o .h)))))) ⟨tm [(0,.ptr t 0),(5,todoV o' (N9 K y.body l).length),(6,I64 i),(13,D8 M),(14,I64 M.length),(15,I64 i),(21,O0 x.hds),(22,I64 x.hds.length),(23,I64 j)],X,c3⟩
    (lp (λq:Nat × Option Nat × List Nat=>[(0,.ptr t 0),(5,todoV q.2.1 (J5 (J5 [] (hkM nm 0 (M.take i))) ((x.hds.take q.1).map (hdK nm i))).length),(6,I64 i),(13,D8 M),(14,I64 M.length),(15,I64 i),(21,O0 x.hds),(22,I64 x.hds.length),(23,I64 q.1)])
     (λq=>PM G1 q.2.1 q.2.2 (J5 (J5 [] (hkM nm 0 (M.take i))) ((x.hds.take q.1).map (hdK nm i))))
     (λq c2=>cc+1<=c2/\q.1<=x.hds.length/\PN G1 q.2.1 q.2.2 (J5 (J5 [] (hkM nm 0 (M.take i))) ((x.hds.take q.1).map (hdK nm i))) c2) (λq=>x.hds.length-q.1) (x.hds.length-j)
     (bk 2 (bk 1 (sq Tryz.prog 68 (pz Tryz.prog 27 (.o (.o (.o (.o (.i .h)))))) (lp (λq:Nat × Option Nat × List Nat=>[(0,.ptr t 0),(5,todoV q.2.1 (J5 [] (hkM nm 0 (M.take q.1))).length),(13,D8 M),(14,I64 M.length),(15,I64 q.1)]) (λq=>PM G q.2.1 q.2.2 (J5 [] (hkM nm 0 (M.take q.1))))
      (λq cc=>c+1<=cc/\q.1<=M.length/\PN G q.2.1 q.2.2 (J5 [] (hkM nm 0 (M.take q.1))) cc) (λq=>M.length-q.1) (M.length-i) (bk 0 (sq Tryz.prog 68 (pz Tryz.prog 27 (.i (.o (.o (.o (.i .h)))))) (rt [.tmp 4] λv H' c' => ∃v2 H2,GL H' [v] H2 [v2]/\Post v2 H2 c')))))))):=by
  intro o' is' X c3 hc3 hN' hX;refine wAs hwj ?_;have hN4:PN G2 o' is' (N9 K y.body l) c3:=by
   rw[hG3]at hN';exact hN'.unbox hz3 (show c2+1<=c3 by omega) (λq hq=>by rw[hG2,hnO];exact hGf q (by omega))
  have hS4:Sub (PM G2 o' is' (N9 K y.body l)) (PM G3 o' is' (N9 K y.body l)):=by
   rw[hG3]at hN' ⊢;exact B6i hz3 hN'
  have hS5:Sub (PM G1 o' is' (N9 K y.body l)) (PM G2 o' is' (N9 K y.body l)):=by
   rw[hG2]at hN4 ⊢;exact B6i hz2 hN4
  have hN5:PN G1 o' is' (N9 K y.body l) c3:=by
   rw[hG2]at hN4;exact hN4.unbox hz2 (show c2<=c3 by omega) hGf
  rw[<- hsj]at hN5 hS5 hS4 hX;exact⟨(j+1,o',is'),by rw[<- hsj];simp[B5,tm,Tm.upd],(λk B hk=>hX _ _ (hS4 _ _ (hS5 _ _ hk))),inv ⟨b8,hltj,hN5⟩,by simp only;omega⟩
 refine wAp ?_;refine AC.call (c_IxP K l is hl6 hN3.len _ _ (c2+1+11) o (λi hi=>D7f hi) hN3.no (B6h hN3 hG3e) (by omega)) ?_;rintro _ _ c3 ⟨rfl,rfl⟩ hc3;have hN3':=hN3.le hc3;have hfr3:=λj (hj:c3<=j)=>E3f hN3' hj;by_cases hx:ixP K l 0 = -1
 ·have hadd:=B8j hx y.body;have q0:decide (ixP K l 0<0)=true:=by rw[hx];rfl
  rw[hx];have hE:PM G3 o is l (c2+1+11)=some (keB K):=B6h hN3 hG3e;have hHd:PM G3 o is l c2=some ⟨0,true,[I64 y.trig,.str y.name,F5 y.body,I64 y.pos]⟩:=B6h hN3 hG3h;have hln:=P5 (o:=o) (n:=l.length) (λe=>by rw[hN3.no e];rfl);have ne0:=V3 c2 (c2+1+11) c3 (c3+1) (by omega);simp only[go_sem,seval,hln];(repeat'((with_reducible first|apply wr|refine B0 ?_ ?_|apply wb2<;>(intro hb;try simp only[hb]))<;>try simp only[go_sem,seval,hln,hE,ne0]));refine G7 (D4 (cs:=ptC is l) (λe=>⟨by rw[hN3.no e];rfl,by rw[hN3.no e];unfold ptC;cases is<;>rfl⟩) (λq hq=>?_) (A0x hN3.len) (by omega) (by omega) (by omega)) ?_
  ·have:=hN3.fo q hq;rw[hnO];exact D7f hq
  have dm:∀(X:Hp) (j:Nat),c3<=j\/G3 j≠none->delO X o j=X j:=λX j hj=>A9 (λq hq e=>by
   have:=hN3.fo q hq;rcases hj with hj|hj
   ·omega
   ·exact hj (by rw[e];exact this.2))
  simp only[go_sem,seval];obtain⟨Y,hY⟩:∃Y:Hp,Y=(delO ((PM G3 o is l).upd c3 ⟨5,true,[I64 K.mode,I64 K.trig,I64 K.ix,I64 0,.snil]⟩) o).upd (c3+1) ⟨5,true,ptC is l++[I64 K.mode,I64 K.trig,I64 K.ix,I64 0,.snil]⟩:=⟨_,rfl⟩;rw[<- hY];have yl:Y (c3+1)=some ⟨5,true,ptC is l++[I64 K.mode,I64 K.trig,I64 K.ix,I64 0,.snil]⟩:=by rw[hY,A0]
  have yf:∀q B,G3 q=some B->Y q=some B:=λq B hq=>by
   have hqc:q<c3:=A1S λhc=>by rw[hN3'.fr q hc]at hq;cases hq
   rw[hY,hnO,dm _ _ (.inr (by rw[hq];simp)),hnO];exact B6h hN3 hq
  have yi:∀(k q:Nat) (p:F4),is[k]? = some q->l[k]? = some p->Y q=some (bdB p.2):=λk q p h1 h2=>by
   have h3:=hN3.fi q (A0S h1);rw[hY,hnO,A9 (λz hz e=>h3.2.2 (by rw[e];exact hz)),hnO];exact D7g hN3 h1 h2
  have yn:∀q,c3+1+1<=q->Y q=none:=λq hq=>by rw[hY,hnO,dm _ _ (.inl (by omega)),hnO];exact hfr3 q (by omega)
  have yh:Y c2=some ⟨0,true,[I64 y.trig,.str y.name,F5 y.body,I64 y.pos]⟩:=yf _ _ hG3h;clear hY;have hcl:(ptC is l++[I64 K.mode,I64 K.trig,I64 K.ix,I64 0,.snil])[l.length*5+4]? = some .snil:=by
   rw[A2H (by rw[A0x hN3.len];omega),A0x hN3.len,show l.length*5+4-l.length*5=4 by omega];rfl
  have hlt':l.length<l.length+1:=A1M _;have ne0:=V3 c2 (c3+1) (c3+1+1+9) (c3+1+1+14) (by omega);refine wA2 yl yh hcl hlt' ne0 ?_;refine S8 (A6a (by omega) (by omega) (by omega)) ?_;obtain⟨D1,hD1⟩:∃D1,D1=c3+1+1+14:=⟨_,rfl⟩;rw[<- hD1]at ne0 ⊢;have hst:∀(X:Hp) (d:Nat),Sym.stB X d (c3+1) 1 (l.length*5+4) (.slc D1 0 1) (some ⟨5,true,ptC is l++[I64 K.mode,I64 K.trig,I64 K.ix,I64 0,.snil]⟩)=some (.tup [],X.upd (c3+1) ⟨5,true,ptC (is++[D1]) (l++[(K,[y.body])])⟩,d):=λX d =>
   (A3c (i:=1) rfl (by rw[A0A,A0x hN3.len];simp) rfl).trans (by rw[<- D4u hN3.len];rfl)
  simp only[go_sem,seval,yl,ne0,A0,hst];refine⟨by and_intros<;>(repeat rw[hnO])<;>exact yn _ (by omega),?_⟩;simp only[go_sem,seval,hlt',yl,ne0,A0,hst];have hnd:D1 ∉ is:=λhm=>by have:=hN3.fi D1 hm;omega
  refine IW.stage (L:=[(0,.ptr t 0),(5,todoV (some (c3+1)) (N9 K y.body l).length),(6,I64 i),(13,D8 M),(14,I64 M.length),(15,I64 i),(21,O0 x.hds),(22,I64 x.hds.length),(23,I64 j)]) (by rw[hadd];simp[B5,tm,Tm.upd,todoV]) (fin (some (c3+1)) (is++[D1]) _ _ (by omega) ?_ ?_)
  ·rw[hadd];refine⟨by simp[hN3.len],List.nodup_append.2 ⟨hN3.nd,by simp,λq hq z hz e=>hnd (by simp at hz;rw[<- hz, <- e];exact hq)⟩,λq hq=>?_,λq hq=>?_,λe=>(by cases e),λq hq=>hN3'.fr q (by omega)⟩
   ·rcases A1Q.1 hq with hq|hq
    ·have:=hN3.fi q hq;exact⟨b8,this.2.1,λe=>by cases e;omega⟩
    ·simp at hq;subst hq;exact⟨b8,hN3'.fr _ (by omega),λe=>by cases e;omega⟩
   ·cases hq;exact⟨b8,hN3'.fr _ (by omega)⟩
  ·rw[hadd];refine C2o (λk q p h1 h2=>?_) (λq hq=>?_) (λq B hq=>?_)
   ·by_cases hkl:k<is.length
    ·rw[A2S hkl]at h1;rw[A2S (by rw[<- hN3.len];exact hkl)]at h2;have:=hN3.fi q (A0S h1);rw[hnO,hnO,hnO];exact yi k q p h1 h2
    ·have hl2:=hN3.len;rw[A2H (by omega)]at h1 h2;rw[hl2]at h1;cases hz:k-l.length with
     |zero =>
      rw[hz]at h1 h2;cases h1;cases h2;rw[hnO,A0];rfl
     |succ z=>rw[hz]at h1;cases h1
   ·cases hq;rw[A0]
   ·have hqc:q<c3:=A1S λhc=>by rw[hN3'.fr q hc]at hq;cases hq
    rw[hnO,hnO,hnO];exact yf q B hq
 ·obtain⟨n,a0,b0,q,hl,hn,hix,hadd0⟩:=B8i (rfl:ixP K l 0=ixP K l 0) hx;rw[A1I]at hix;have hadd:N9 K y.body l=l.set n (K,q++[y.body]):=by
   rw[hadd0,hl,hn,List.set_append_right _ _ (A0D _),Nat.sub_self];rfl
  have hln:l[n]? = some (K,q):=by rw[hl,hn,A2H (A0D _),Nat.sub_self];rfl
  have hnl:n<l.length:=(A1C.1 hln).1;have hni:n<is.length:=by rw[hN3.len];exact hnl
  obtain⟨i0,hi0⟩:∃i0,is[n]? = some i0:=⟨_,A0B hni⟩;obtain⟨io,rfl⟩:∃io,o=some io:=by
   cases o with
   |none=>have:=hN3.no rfl;rw[this]at hnl;cases hnl
   |some io=>exact⟨io,rfl⟩
  have hio:=hN3.fo io rfl;have hii:=hN3.fi i0 (A0S hi0);have hne0:i0≠io:=λe=>hii.2.2 (by rw[e]);clear hl hadd0 hn;have q0:decide (ixP K l 0<0)=false:=by rw[hix];simp
  rw[hix]at q0 ⊢;have hql:q.length<=1000000:=hPB.2 _ (A0S hln);have hHd:PM G3 (some io) is l c2=some ⟨0,true,[I64 y.trig,.str y.name,F5 y.body,I64 y.pos]⟩:=B6h hN3 hG3h;have hLl:PM G3 (some io) is l io=some ⟨5,true,ptC is l⟩:=D7f rfl;have hcl:=C9u hN3.len hi0 hln;dsimp only at hcl;have hBd:=D7g hN3 hi0 hln;have hc2io:¬c2=io:=λe=>by have h:=hio.2;rw[<- e,hG3h]at h;cases h
  have ne0:=S7 c2 io c3 (c3+9) (c3+14) (by omega);refine wA6 q0 hLl hHd hcl hnl ne0 ?_;refine S8 (D4 (o:=some i0) (cs:=q.map F5) (n:=q.length) (λe=>by cases e) (λz hz=>?_) (by rw[A0I,A4F]) (by omega) (by omega) (by omega)) ?_
  ·cases hz;rw[hnO];exact hBd
  obtain⟨D1,hD1⟩:∃D1,D1=c3+14:=⟨_,rfl⟩;rw[<- hD1]at ne0 ⊢;have hst:∀(X:Hp) (d:Nat),Sym.stB X d io 1 (n*5+4) (.slc D1 0 (q.length+1)) (some ⟨5,true,ptC is l⟩)=some (.tup [],X.upd io ⟨5,true,ptC (is.set n D1) (l.set n (K,q++[y.body]))⟩,d):=λX d =>
   (A3c (i:=1) rfl (by rw[A0x hN3.len];omega) rfl).trans (by rw[<- C3n hN3.len hi0 hln (q:=(K,q++[y.body])) rfl D1];simp[DV.cells])
  have dmo:∀X:Hp,delO X (some i0) io=X io:=λX=>A9 (λz hz=>by cases hz;exact λe=>hne0 e.symm);simp only[go_sem,seval,dmo,hLl,hnl,ne0,A0,hst];have dme:∀(X:Hp) (z:Nat),z≠i0->delO X (some i0) z=X z:=λX z hz=>A9 (λw hw e=>by cases hw;exact hz e);refine⟨⟨by rw[dme _ _ (by omega),hnO];exact hfr3 _ (by omega),by rw[hnO,dme _ _ (by omega),hnO];exact hfr3 _ (by omega)⟩,?_⟩;have hnd:D1 ∉ is:=λhm=>by have:=hN3.fi D1 hm;omega
  have hD0:G3 D1=none:=hN3'.fr _ (by omega);refine IW.stage (L:=[(0,.ptr t 0),(5,todoV (some io) (N9 K y.body l).length),(6,I64 i),(13,D8 M),(14,I64 M.length),(15,I64 i),(21,O0 x.hds),(22,I64 x.hds.length),(23,I64 j)]) (by rw[hadd,List.length_set];simp[B5,tm,Tm.upd,todoV]) (fin (some io) (is.set n D1) _ _ (by omega) ?_ ?_)
  ·rw[hadd];refine⟨by simp[hN3.len],D0o hN3.nd hnd,λz hz=>?_,λz hz=>?_,λe=>(by cases e),λz hz=>hN3'.fr z (by omega)⟩
   ·rcases List.mem_or_eq_of_mem_set hz with hz|hz
    ·have:=hN3.fi z hz;exact⟨b8,this.2⟩
    ·subst hz;exact⟨b8,hD0,λe=>by cases e;omega⟩
   ·cases hz;exact⟨b8,hio.2⟩
  ·rw[hadd];refine C2o (λk z p h1 h2=>?_) (λz hz=>?_) (λz B hz=>?_)
   ·by_cases hkn:k=n
    ·subst hkn;rw[List.getElem?_set_self hni]at h1;rw[List.getElem?_set_self hnl]at h2;cases h1;cases h2;rw[hnO,A0];simp[bdB]
    ·rw[List.getElem?_set_ne (Ne.symm hkn)]at h1 h2;have h3:=hN3.fi z (A0S h1);have h4:z≠io:=λe=>h3.2.2 (by rw[e]);have h5:z≠i0:=λe=>hkn (D0p hN3.nd (by rw[<- e];exact h1) hi0);rw[h_ne h4,hnO,dme _ _ h5,hnO];exact D7g hN3 h1 h2
   ·cases hz;rw[A0]
   ·have hzc:z<c3:=A1S λhc=>by rw[hN3'.fr z hc]at hz;cases hz
    have h4:z≠io:=λe=>by rw[e,hio.2]at hz;cases hz
    have h5:z≠i0:=λe=>by rw[e,hii.2.1]at hz;cases hz
    rw[h_ne h4,hnO,dme _ _ h5,hnO];exact B6h hN3 hz
end Go.Proofs.YtdclpmddofggcaaGreatDoor
set_option maxHeartbeats 4000000
namespace Go.Proofs.YtdclpmddofggcaaGreatDoor
open Go.Eng (IC IOper DReg IFn L4)
open Go.Sym Go.Pb
abbrev mkQ(r:Ru):DV->DV->List DV:=mkR (D0 r.decls) (D8 r.modes)
theorem c_number34(r:Ru)(hB:r.sz<4000000)(hv:M8 r=true)(s:List UInt8)(H:Hp)(c t:Nat)(I S:DV)(ht:H t=some ⟨0,true,[D0 r.decls,D8 r.modes,I,S]⟩)(htc:t<c):
  AC Tryz.prog 82 [.ptr t 0,.str s] H c (λv H' c'=>v=I64 (nmR r s)/\H'=H):=by
 have hl:=c_LookupR r s hB;unfold D0u at hl;rw[if_pos hv]at hl;refine AC.go A2 λhfr=>?_;refine wBc hl ht ?_;exact⟨_,_,GL.refl _ _,rfl,rfl⟩
theorem c_rexpr(r:Ru)(hB:r.sz<4000000)(hv:M8 r=true):∀(z:Nat) (ex:Ex),ex.sz<z->ex.sz<=100000000->∀x:Cg,x.1.length+(cgE (nmR r) ex).length<=100000000 ->
  GC 138 (mkQ r) [ex.v] x (x.1++cgE (nmR r) ex,x.2) (.tup []):=by
 intro z
 induction z with
 |zero=>intro ex h;omega
 |succ z ih =>
 intro ex hz hB2 x hx H0 c t' a b h;have hal:Ex.szs ex.args<ex.sz:=by cases ex with|mk k v n a p=>rw[Ex.sz];show Ex.szs a<_;omega
 have hargs:∀x∈ex.args,x.sz<=Ex.szs ex.args:=λx hx=>Ex.szs_mem hx;have hll:=Ex.szs_len ex.args;have hE:=D8a (nmR r) ex;rw[hE]at hx ⊢;rw[Ex.v_w];cases ex with|mk k vv nn ar pos =>
 dsimp only[Ex.w,Ex.kind,Ex.value,Ex.name,Ex.args,Ex.pos]at hal hargs hll hx ⊢;clear hE;rw[A0A,A0E]at hx;have h1:=h.tc;refine AC.go A2 λhfr=>?_;refine wAp ?_;obtain⟨B,hBe⟩:∃B:Blk,B=⟨0,true,[I64 k,I64 vv,.str nn,J4 ar,I64 pos]⟩:=⟨_,rfl⟩;rw[<- hBe,h.com (A0D _)];have hb0:=h.box (B:=B) (A0D c) (A1M c);refine B6 (λq:Nat × Option Nat × Option Nat=>[(0,.ptr t' 0),(3,.ptr c 0),(4,I64 q.1)]) (λq=>GM (H0.upd c B) t' q.2.1 q.2.2 (mkQ r) (x.1++G6 (nmR r) (ar.take q.1),x.2))
  (λq cc=>c+1<=cc/\q.1<=ar.length/\GN (H0.upd c B) t' q.2.1 q.2.2 (x.1++G6 (nmR r) (ar.take q.1),x.2) cc) (λq=>ar.length-q.1) (0,a,b)
  (by simp[B5,tm,Tm.upd]) (by simp only[A1F,G6,A0Y];exact Sub.refl _) ⟨A0D _,A0N _,by simp only[A1F,G6,A0Y];exact hb0⟩ ?_
 clear hb0;rintro⟨i,o,b1⟩ cc ⟨hc,hk,hN⟩;dsimp only at hk hN ⊢;have hnn:=hN.tc;have hfr':=λ(j:Nat) (hj:cc<=j)=>A8i (mk:=mkQ r) hN hj;have hM:=A0c (mk:=mkQ r) hN;have hcB:GM (H0.upd c B) t' o b1 (mkQ r) (x.1++G6 (nmR r) (ar.take i),x.2) c=some ⟨0,true,[I64 k,I64 vv,.str nn,J4 ar,I64 pos]⟩:=V5 hN (by rw[A0,hBe]) (by omega);by_cases hlt:i<ar.length
 ·have hd:=dtz hlt;have hg:=A0B hlt;have hw:=w64 (n:=(i:Int)+1);have hsn:=A4n (nmR r) hg;have hle:=Z9 (nmR r) ar (i+1);have hmem:=hargs _ (A0K hlt);generalize ar[i]=y at hg hsn hmem;rw[hsn,A0A]at hle;have hcall:=ih y (by omega) (by omega) (x.1++G6 (nmR r) (ar.take i),x.2) (by rw[A0A];omega);rw[Ex.v_w]at hcall;refine wA1 hd hg hw @Ex.v_w hcB ?_;refine AC.call (hcall _ _ _ _ _ hN) ?_;rintro _ _ c2 ⟨rfl,a2,b2,hN2,rfl⟩ hc2;refine wAu hw ?_;dsimp only at hN2 ⊢;rw[A0O, <- hsn]at hN2 ⊢;exact⟨(i+1,a2,b2),b9,Sub.refl _,inv ⟨b8,hlt,hN2⟩,by simp only;omega⟩
 ·have hd:=dfz hlt;have hi:i=ar.length:=by omega
  subst hi;rw[A1K]at hN hfr' hM hcB ⊢;have hz0:=h.fr c (A0D _);have hnum:=λcx (hx:cc<=cx)=>c_number34 r hB hv nn _ cx t' _ _ hM (by omega);have fin:∀(op A:Int),B2x (nmR r) k vv nn=⟨op,A⟩->∀cx,cc<=cx->AC Tryz.prog 37 [.ptr t' 0,I64 op,I64 A] (GM (H0.upd c B) t' o b1 (mkQ r) (x.1++G6 (nmR r) ar,x.2)) cx (λv' H' c' => ∃a' b',GN (H0.upd c B) t' a' b' (x.1++(G6 (nmR r) ar++[B2x (nmR r) k vv nn]),x.2) c'/\H'=GM (H0.upd c B) t' a' b' (mkQ r) (x.1++(G6 (nmR r) ar++[B2x (nmR r) k vv nn]),x.2)):=λop A he cx hcx=>by
   rw[he, <- A0O];refine AC.call (c_emit34 _ _ op A (x.1++G6 (nmR r) ar,x.2) (by rw[A0A];omega) _ _ _ _ _ (hN.le hcx)) ?_;rintro _ _ c2 ⟨rfl,a2,b2,hN2,rfl⟩ hc2;exact⟨a2,b2,hN2,rfl⟩
  repeat'((with_reducible first|apply wr|refine B0 ?_ ?_|apply wb2<;>(intro hb;try simp only[hb]))<;>try simp only[go_sem,seval,hd,hM,hcB])
  all_goals
   first
   |refine AC.call (hnum cc (A0D _)) ?_
    rintro _ _ c3 ⟨rfl,rfl⟩ hc3;refine wAq ?_;refine AC.call (fin _ _ ?_ _ hc3) ?_
   |refine AC.call (fin _ _ ?_ _ (A0D _)) ?_
   ·clear fin hN hM hcB hfr' hx hz0 hnn ih hfr h hargs hal hBe hnum;simp_all[B2x]
   rintro _ _ c2 ⟨a2,b2,hN2,rfl⟩ hc2;refine wAq ?_;exact⟨_,_,GL.less' (L6 hz0 (by omega) hN2),rfl,a2,b2,hN2.unbox hz0 (by omega) h.fr,rfl⟩
theorem c_body_of(r:Ru)(l:List Pb.St)(hl:l.length<=99000000)(hs:∀s∈l, ∀x:Cg,CgB (A2b (nmR r) s x)->GC 83 (mkQ r) [s.v] x (A2b (nmR r) s x) (.tup []))(x:Cg)(hx:CgB (I0 (nmR r) l x)):
  GC 36 (mkQ r) [F5 l] x (I0 (nmR r) l x) (.tup []):=by
 intro H0 c t' a b h;refine AC.go A2 λhfr=>?_;refine wAp ?_;refine B6 (λq:Nat × Option Nat × Option Nat=>[(0,.ptr t' 0),(1,F5 l),(4,I64 q.1)]) (λq=>GM H0 t' q.2.1 q.2.2 (mkQ r) (I0 (nmR r) (l.take q.1) x))
  (λq cc=>c<=cc/\q.1<=l.length/\GN H0 t' q.2.1 q.2.2 (I0 (nmR r) (l.take q.1) x) cc) (λq=>l.length-q.1) (0,a,b)
  (by simp[B5,tm,Tm.upd]) (by simp only[A1F,P1];exact Sub.refl _) ⟨A0D _,A0N _,by simp only[A1F,P1];exact h⟩ ?_
 rintro⟨i,o,b1⟩ cc ⟨hc,hk,hN⟩;dsimp only at hk hN ⊢;by_cases hlt:i<l.length
 ·have hd:=dtz hlt;have hg:=A0B hlt;have hw:=w64 (n:=(i:Int)+1);have hsn:=B4j (nm:=nmR r) hg x;have hle:=(B4i (nm:=nmR r) l (i+1) x).bnd hx;have hcall:=hs _ (A0K hlt);generalize l[i]=y at hg hsn hcall;rw[hsn]at hle;have hcall:=hcall _ hle;rw[St.v_w]at hcall;refine wAr (wJ hd (wJ hg (wJ hw @St.v_w))) ?_;refine AC.call (hcall _ _ _ _ _ hN) ?_;rintro _ _ c2 ⟨rfl,a2,b2,hN2,rfl⟩ hc2;refine wAu hw ?_;rw[<- hsn]at hN2 ⊢;exact⟨(i+1,a2,b2),b9,Sub.refl _,inv ⟨b8,hlt,hN2⟩,by simp only;omega⟩
 ·have hd:=dfz hlt;have hi:i=l.length:=by omega
  subst hi;rw[A1K]at hN ⊢;refine wAr hd ?_;exact⟨_,_,GL.refl _ _,rfl,o,b1,hN,rfl⟩
theorem c_stmt_of(r:Ru)(hB:r.sz<4000000)(hv:M8 r=true)(h0:nmR r []=0)(s:Pb.St)(d:Nat)(hvs:S4 d s=true)(hsz:s.sz<=100000000)
  (hu:∀x,CgB (I0 (nmR r) s.thn x)->GC 36 (mkQ r) [F5 s.thn] x (I0 (nmR r) s.thn x) (.tup []))
  (he:∀x,CgB (I0 (nmR r) s.els x)->GC 36 (mkQ r) [F5 s.els] x (I0 (nmR r) s.els x) (.tup [])) (x:Cg) (hx:CgB (A2b (nmR r) s x)) :
  GC 83 (mkQ r) [s.v] x (A2b (nmR r) s x) (.tup []):=by
 intro H0 c t' a b h;have hxa:=(B4h (nm:=nmR r) s x).bnd hx;rw[St.v_w];obtain⟨k,nn,tt,ar,u,v,pos⟩:=s;dsimp only[St.w,St.kind,St.name,St.text,St.args,St.thn,St.els,St.pos]at hu he hxa ⊢;obtain⟨k1,k2,ha,hva,hb,hvb,hc,hvc,h8,h9,hn,ht⟩:=B6m hvs;have hsz2:Ex.szs ar<100000000:=by rw[St.sz]at hsz;omega
 have hargs:∀x∈ar,x.sz<=Ex.szs ar:=λx hx=>Ex.szs_mem hx;have hll:=Ex.szs_len ar;have h1:=h.tc;obtain⟨x1,hx1⟩:∃x1:Cg,x1=(x.1++G6 (nmR r) ar,x.2):=⟨_,rfl⟩;rw[<- hx1]at hxa;refine AC.go A2 λhfr=>?_;refine wAp ?_;obtain⟨B,hBe⟩:∃B:Blk,B=⟨0,true,[I64 k,.str nn,.str tt,J4 ar,F5 u,F5 v,I64 pos]⟩:=⟨_,rfl⟩;rw[<- hBe,h.com (A0D _)];have hb0:=h.box (B:=B) (A0D c) (A1M c);refine B6 (λq:Nat × Option Nat × Option Nat=>[(0,.ptr t' 0),(3,.ptr c 0),(4,I64 q.1)]) (λq=>GM (H0.upd c B) t' q.2.1 q.2.2 (mkQ r) (x.1++G6 (nmR r) (ar.take q.1),x.2))
  (λq cc=>c+1<=cc/\q.1<=ar.length/\GN (H0.upd c B) t' q.2.1 q.2.2 (x.1++G6 (nmR r) (ar.take q.1),x.2) cc) (λq=>ar.length-q.1) (0,a,b)
  (by simp[B5,tm,Tm.upd]) (by simp only[A1F,G6,A0Y];exact Sub.refl _) ⟨A0D _,A0N _,by simp only[A1F,G6,A0Y];exact hb0⟩ ?_
 clear hb0;rintro⟨i,o,b1⟩ cc ⟨hcc,hk,hN⟩;dsimp only at hk hN ⊢;have hnn:=hN.tc;have hM:=A0c (mk:=mkQ r) hN;have hcB:∀ {x' o' b' c2},GN (H0.upd c B) t' o' b' x' c2->GM (H0.upd c B) t' o' b' (mkQ r) x' c=some ⟨0,true,[I64 k,.str nn,.str tt,J4 ar,F5 u,F5 v,I64 pos]⟩:=λhN=>V5 hN (by rw[A0,hBe]) (by omega);by_cases hlt:i<ar.length
 ·have hd:=dtz hlt;have hg:=A0B hlt;have hw:=w64 (n:=(i:Int)+1);have hsn:=A4n (nmR r) hg;have hle:=Z9 (nmR r) ar (i+1);have hmem:=hargs _ (A0K hlt);generalize ar[i]=y at hg hsn hmem;rw[hsn,A0A]at hle;have hlx:=hxa.1;rw[hx1,A0A]at hlx;have hcall:=c_rexpr r hB hv _ y (A1M _) (by omega) (x.1++G6 (nmR r) (ar.take i),x.2) (by rw[A0A];omega);rw[Ex.v_w]at hcall;have hcB:=hcB hN;refine wA1 hd hg hw @Ex.v_w hcB ?_;refine AC.call (hcall _ _ _ _ _ hN) ?_;rintro _ _ c2 ⟨rfl,a2,b2,hN2,rfl⟩ hc2;refine wAu hw ?_;dsimp only at hN2 ⊢;rw[A0O, <- hsn]at hN2 ⊢;exact⟨(i+1,a2,b2),b9,Sub.refl _,inv ⟨b8,hlt,hN2⟩,by simp only;omega⟩
 have hd:=dfz hlt;have hi:i=ar.length:=b8
 subst hi;rw[A1K, <- hx1]at hN hM ⊢;have hz0:=h.fr c (A0D _);have hcB1:=hcB hN;clear hlt hk hll hargs hva;by_cases q2:k=2
 ·have d2:(k==2)=true:=by simpa using q2
  subst q2;obtain⟨T,hT⟩:∃T,T=cgB (nmR r) (x1.1.length+1) x1.2 u:=⟨_,rfl⟩;have eT:I0 (nmR r) u (x1.1++[⟨13,0⟩],x1.2)=(x1.1++⟨13,0⟩::T.1,T.2):=by
   unfold I0;rw[A0A,A0E, <- hT];simp
  (repeat'((with_reducible first|apply wr|refine B0 ?_ ?_|apply wb2<;>(intro hb;try simp only[hb]))<;>try simp only[go_sem,seval,hd,hM,hcB1,d2]));refine AC.call (c_emit34 _ _ 13 0 x1 (by have:=hxa.1;omega) _ _ _ _ _ hN) ?_;rintro _ _ c2 ⟨rfl,a2,b2,hN2,rfl⟩ hc2;have hcB2:=hcB hN2;refine wAu hcB2 ?_;by_cases hv0:v.length=0
  ·have q0:decide ((v.length:Int)>0)=false:=by rw[hv0];rfl
   rw[B2a hx1 hv0, <- hT]at hx ⊢;have hbT:CgB (x1.1++⟨13,0⟩::T.1,T.2):=⟨by have:=hx.1;rw[A0A,A0G]at this ⊢;exact this,hx.2⟩;refine AC.call (hu _ (by rw[eT];exact hbT) _ _ _ _ _ hN2) ?_;rintro _ _ c3 ⟨rfl,a3,b3,hN3,rfl⟩ hc3;rw[eT]at hN3 ⊢;obtain⟨i3,rfl⟩:=hN3.some;have hcB3:=hcB hN3;have hM3:=A0c (mk:=mkQ r) hN3;have hA3:=A5q (mk:=mkQ r) hN3 rfl;have hfr3:=λj (hj:c3<=j)=>A8i (mk:=mkQ r) hN3 hj;have hle3:x1.1.length<(x1.1++(⟨13,0⟩:Ins)::T.1).length:=by simp
   have hst3:=λ(d:Nat) (z:Int)=>C5n (d:=d) (mk:=mkQ r) hN3 z;dsimp only at hA3 hM3;refine wAt (wJ hcB3 (wJ q0 (wJ hM3 (wJ hA3 (wJ hle3 hst3))))) ?_;exact⟨_,_,GL.less' (L6 hz0 (by omega) (hN3.mend _)),rfl,some i3,b3,((hN3.mend _).le (by omega)).unbox hz0 (by omega) h.fr,rfl⟩
  ·have q0:decide ((v.length:Int)>0)=true:=by simp;omega
   obtain⟨W,hW⟩:∃W,W=cgB (nmR r) (x1.1.length+1+T.1.length+1) T.2 v:=⟨_,rfl⟩;rw[B1z hx1 hv0 hT hW]at hx ⊢;obtain⟨J,hJ⟩:∃J,J=x1.1.length+1+T.1.length:=⟨_,rfl⟩;rw[<- hJ]at hx hW ⊢;have l3:(x1.1++(⟨13,0⟩:Ins)::T.1).length=J:=a8
   have l4:(x1.1++(⟨13,0⟩:Ins)::(T.1++[⟨12,0⟩])).length=J+1:=a8
   have l5:(x1.1++(⟨13,((J+1:Nat):Int)⟩:Ins)::T.1).length=J:=a8
   have hxl:=hx.1;rw[A0A,l5,A0G]at hxl;have hxs:=hx.2;have hTs:B9w T (T.1++W.1,W.2):=⟨by simp,by rw[hW];exact A2o _ v _ _⟩;have hbT:CgB (x1.1++⟨13,0⟩::T.1,T.2):=⟨by rw[l3];omega,A1B hTs.2 hxs⟩;refine AC.call (hu _ (by rw[eT];exact hbT) _ _ _ _ _ hN2) ?_;rintro _ _ c3 ⟨rfl,a3,b3,hN3,rfl⟩ hc3;rw[eT]at hN3 ⊢;have hcB3:=hcB hN3;refine wAt (wJ hcB3 q0) ?_;refine AC.call (c_emit34 _ _ 12 0 _ (by have:=hbT.1;omega) _ _ _ _ _ hN3) ?_;rintro _ _ c4 ⟨rfl,a4,b4,hN4,rfl⟩ hc4;have e4:(((x1.1++(⟨13,0⟩:Ins)::T.1,T.2):Cg).1++[⟨12,0⟩],((x1.1++(⟨13,0⟩:Ins)::T.1,T.2):Cg).2)=((x1.1++⟨13,0⟩::(T.1++[⟨12,0⟩]),T.2):Cg):=by simp
   rw[e4]at hN4 ⊢;obtain⟨i4,rfl⟩:=hN4.some;have hcB4:=hcB (hN4.mend ((J+1:Nat):Int));have hM4:=A0c (mk:=mkQ r) hN4;have hA4:=A5q (mk:=mkQ r) hN4 rfl;have hle4:x1.1.length<J+1:=b8
   have hst4:=λ(d:Nat) (z:Int)=>C5n (d:=d) (mk:=mkQ r) hN4 z;dsimp only at hA4 hM4;unfold gmB at hM4;dsimp only at hM4;rw[l4]at hM4;refine wAt (wJ hcB4 (wJ hM4 (wJ hA4 (wJ hle4 (wJ hst4 (wJ l3 l4)))))) ?_;have l6:(x1.1++(⟨13,((J+1:Nat):Int)⟩:Ins)::(T.1++[⟨12,0⟩])).length=J+1:=a8
   have e5:∀z:Int,I0 (nmR r) v (x1.1++⟨13,((J+1:Nat):Int)⟩::(T.1++[⟨12,z⟩]),T.2)=((x1.1++⟨13,((J+1:Nat):Int)⟩::T.1)++⟨12,z⟩::W.1,W.2):=λz=>by
    have l6:(x1.1++(⟨13,((J+1:Nat):Int)⟩:Ins)::(T.1++[⟨12,z⟩])).length=J+1:=a8
    unfold I0;dsimp only;rw[l6, <- hW];simp
   have hbW:CgB ((x1.1++⟨13,((J+1:Nat):Int)⟩::T.1)++⟨12,0⟩::W.1,W.2):=⟨zam,hxs⟩;refine AC.call (he _ (by rw[e5];exact hbW) _ _ _ _ _ ((hN4.mend ((J+1:Nat):Int)).le (by omega))) ?_;rintro _ _ c5 ⟨rfl,a5,b5,hN5,rfl⟩ hc5;rw[e5]at hN5 ⊢;obtain⟨i5,rfl⟩:=hN5.some;have l7:((x1.1++(⟨13,((J+1:Nat):Int)⟩:Ins)::T.1)++(⟨12,0⟩:Ins)::W.1).length=J+1+W.1.length:=zam
   have hM5:=A0c (mk:=mkQ r) hN5;have hA5:=A5q (mk:=mkQ r) hN5 rfl;have hle5:J<J+1+W.1.length:=b8
   have hst5:=λ(d:Nat) (z:Int)=>C5n (d:=d) (mk:=mkQ r) hN5 z;dsimp only at hA5 hM5;unfold gmB at hM5;dsimp only at hM5;rw[l7]at hM5;rw[l5]at hst5;refine wA0 hM5 hA5 hle5 hst5 ?_;exact⟨_,_,GL.less' (L6 hz0 (by omega) (hN5.mend _)),rfl,some i5,b5,((hN5.mend _).le (by omega)).unbox hz0 (by omega) h.fr,rfl⟩
 have d2:(k==2)=false:=by simpa using q2
 by_cases q3:k=3
 ·have d3:(k==3)=true:=by simpa using q3
  subst q3;obtain⟨T,hT⟩:∃T,T=cgB (nmR r) (x1.1.length+1) x1.2 u:=⟨_,rfl⟩;have eT:I0 (nmR r) u (x1.1++[⟨14,0⟩],x1.2)=(x1.1++⟨14,0⟩::T.1,T.2):=by
   unfold I0;rw[A0A,A0E, <- hT];simp
  rw[B1x hx1 hT]at hx ⊢;obtain⟨J,hJ⟩:∃J,J=x1.1.length+1+T.1.length:=⟨_,rfl⟩;rw[<- hJ]at hx ⊢;have l3:(x1.1++(⟨14,0⟩:Ins)::T.1).length=J:=a8
  have l4:(x1.1++(⟨14,0⟩:Ins)::(T.1++[⟨12,(x1.1.length:Int)⟩])).length=J+1:=a8
  have hxl:=hx.1;rw[A0A,A0G,A0A,A0E]at hxl;have hbT:CgB (x1.1++⟨14,0⟩::T.1,T.2):=⟨by rw[l3];omega,hx.2⟩;(repeat'((with_reducible first|apply wr|refine B0 ?_ ?_|apply wb2<;>(intro hb;try simp only[hb]))<;>try simp only[go_sem,seval,hd,hM,hcB1,d2,d3]));refine AC.call (c_emit34 _ _ 14 0 x1 (by have:=hxa.1;omega) _ _ _ _ _ hN) ?_;rintro _ _ c2 ⟨rfl,a2,b2,hN2,rfl⟩ hc2;have hcB2:=hcB hN2;refine wAu hcB2 ?_;refine AC.call (hu _ (by rw[eT];exact hbT) _ _ _ _ _ hN2) ?_;rintro _ _ c3 ⟨rfl,a3,b3,hN3,rfl⟩ hc3;rw[eT]at hN3 ⊢;refine wAq ?_;refine AC.call (c_emit34 _ _ 12 x1.1.length _ (by have:=hbT.1;omega) _ _ _ _ _ hN3) ?_;rintro _ _ c4 ⟨rfl,a4,b4,hN4,rfl⟩ hc4;have e4:(((x1.1++(⟨14,0⟩:Ins)::T.1,T.2):Cg).1++[⟨12,(x1.1.length:Int)⟩],((x1.1++(⟨14,0⟩:Ins)::T.1,T.2):Cg).2)=((x1.1++⟨14,0⟩::(T.1++[⟨12,(x1.1.length:Int)⟩]),T.2):Cg):=by simp
  rw[e4]at hN4 ⊢;obtain⟨i4,rfl⟩:=hN4.some;have hM4:=A0c (mk:=mkQ r) hN4;have hA4:=A5q (mk:=mkQ r) hN4 rfl;have hle4:x1.1.length<J+1:=b8
  have hst4:=λ(d:Nat) (z:Int)=>C5n (d:=d) (mk:=mkQ r) hN4 z;dsimp only at hA4 hM4;unfold gmB at hM4;dsimp only at hM4;rw[l4]at hM4;refine wA0 hM4 hA4 hle4 hst4 ?_;exact⟨_,_,GL.less' (L6 hz0 (by omega) (hN4.mend _)),rfl,some i4,b4,((hN4.mend _).le (by omega)).unbox hz0 (by omega) h.fr,rfl⟩
 have d3:(k==3)=false:=by simpa using q3
 by_cases q18:k=18
 ·have d18:(k==18)=true:=by simpa using q18
  subst q18;rw[B1w hx1]at hx ⊢;have hxs:x1.2.length<=99999999:=hxa.2;(repeat'((with_reducible first|apply wr|refine B0 ?_ ?_|apply wb2<;>(intro hb;try simp only[hb]))<;>try simp only[go_sem,seval,hd,hM,hcB1,d2,d3,d18]));refine AC.call (c_text34 _ _ tt x1 (by omega) _ _ _ _ _ hN) ?_;rintro _ _ c2 ⟨rfl,a2,b2,hN2,rfl⟩ hc2;refine wAq ?_;refine AC.call (c_emit34 _ _ 29 _ _ (by have:=hxa.1;dsimp only;omega) _ _ _ _ _ hN2) ?_;rintro _ _ c3 ⟨rfl,a3,b3,hN3,rfl⟩ hc3;refine wAq ?_;exact⟨_,_,GL.less' (L6 hz0 (by omega) hN3),rfl,a3,b3,hN3.unbox hz0 (by omega) h.fr,rfl⟩
 have d18:(k==18)=false:=by simpa using q18
 rw[B1y hx1 q2 q3 q18];have hop:=c_op34 k;by_cases q4:k=4\/k=19
 ·have hnn0:nmR r nn=0:=by
   have e:nn=[]:=by
    rcases q4 with rfl|rfl
    ·exact hn
    ·exact hn
   rw[e,h0]
  rw[hnn0];rcases q4 with q4|q4
  ·have d4:(k==4)=true:=by simpa using q4
   (repeat'((with_reducible first|apply wr|refine cpc hop ?_|refine B0 ?_ ?_|apply wb2<;>(intro hb;try simp only[hb]))<;>try simp only[go_sem,seval,hd,hM,hcB1,d2,d3,d18,d4]));refine AC.call (c_emit34 _ _ _ _ x1 (by have:=hxa.1;omega) _ _ _ _ _ (hN.le (by omega))) ?_;rintro _ _ c3 ⟨rfl,a3,b3,hN3,rfl⟩ hc3;refine wAq ?_;exact⟨_,_,GL.less' (L6 hz0 (by omega) hN3),rfl,a3,b3,hN3.unbox hz0 (by omega) h.fr,rfl⟩
  ·have d4:(k==4)=false:=by simp;omega
   have d19:(k==19)=true:=by simpa using q4
   (repeat'((with_reducible first|apply wr|refine cpc hop ?_|refine B0 ?_ ?_|apply wb2<;>(intro hb;try simp only[hb]))<;>try simp only[go_sem,seval,hd,hM,hcB1,d2,d3,d18,d4,d19]));refine AC.call (c_emit34 _ _ _ _ x1 (by have:=hxa.1;omega) _ _ _ _ _ (hN.le (by omega))) ?_;rintro _ _ c3 ⟨rfl,a3,b3,hN3,rfl⟩ hc3;refine wAq ?_;exact⟨_,_,GL.less' (L6 hz0 (by omega) hN3),rfl,a3,b3,hN3.unbox hz0 (by omega) h.fr,rfl⟩
 ·have d4:(k==4)=false:=by simp;omega
  have d19:(k==19)=false:=a8
  have hnum:=λcx (hx:cc<=cx)=>c_number34 r hB hv nn _ cx t' _ _ hM (by omega);(repeat'((with_reducible first|apply wr|refine cpc hop ?_|refine B0 ?_ ?_|apply wb2<;>(intro hb;try simp only[hb]))<;>try simp only[go_sem,seval,hd,hM,hcB1,d2,d3,d18,d4,d19]));refine⟨by(try and_intros)<;>exact A8i hN (by omega),?_⟩;refine AC.call (hnum _ ?_) ?_
  ·omega
  rintro _ _ c2 ⟨rfl,rfl⟩ hc2;refine wAq ?_;refine⟨A8i hN (by omega),?_⟩;refine AC.call (c_emit34 _ _ _ _ x1 (by have:=hxa.1;omega) _ _ _ _ _ (hN.le (show cc<=c2 by omega))) ?_;rintro _ _ c3 ⟨rfl,a3,b3,hN3,rfl⟩ hc3;refine wAq ?_;exact⟨_,_,GL.less' (L6 hz0 (by omega) hN3),rfl,a3,b3,hN3.unbox hz0 (by omega) h.fr,rfl⟩
theorem c_body34(r:Ru)(hB:r.sz<4000000)(hv:M8 r=true)(h0:nmR r []=0):∀(z:Nat) (l:List Pb.St) (d:Nat),J0 d l=true->St.szs l<z->St.szs l<=99000000->∀x,CgB (I0 (nmR r) l x)->GC 36 (mkQ r) [F5 l] x (I0 (nmR r) l x) (.tup []):=by
 intro z
 induction z with
 |zero=>intro l d h1 h2;omega
 |succ z ih =>
  intro l d hvl hz hb x hx;have hle:=St.szs_len l;refine c_body_of r l (by omega) (λs hs y hy=>?_) x hx;have hsz:=St.szs_mem hs;have hvs:=B3c.1 hvl s hs;have hsv:J0 (d+1) s.thn=true/\J0 (d+1) s.els=true/\St.szs s.thn<s.sz/\St.szs s.els<s.sz:=by
   obtain⟨k,nn,tt,ar,u,v,pos⟩:=s;obtain⟨-, -, -, -, -,g1, -,g2, -⟩:=B6m hvs;simp only[St.thn,St.els,St.sz];exact⟨g1,g2,b8,by omega⟩
  obtain⟨g1,g2,g3,g4⟩:=hsv;exact c_stmt_of r hB hv h0 s d hvs (by omega) (λw hw=>ih s.thn (d+1) g1 (by omega) (by omega) w hw) (λw hw=>ih s.els (d+1) g2 (by omega) (by omega) w hw) y hy
end Go.Proofs.YtdclpmddofggcaaGreatDoor
set_option maxHeartbeats 8000000
namespace Go.Proofs.YtdclpmddofggcaaGreatDoor
open Go.Eng (IC IOper DReg IFn L4)
open Go.Sym Go.Pb
abbrev B2r(m:Nat)(l:List Hd)(nb:Nat):List (Nat × DV):=[(1,.ptr 0 0),(2,.ptr 1 0),(7,.ptr 2 0),(8,.ptr 8 0),(10,I64 m),(11,O0 l),(12,.slc nb 0 l.length)]
abbrev kyR(m t n:Nat):Ky:=⟨m,(t:Int)+1,n⟩
def bdR(nm:List UInt8->Int)(m:Nat)(l:List Hd)(k:Ky):List (List Pb.St):=N0 (l.map (hdK nm m)) k
theorem c_rcK(r:Ru)(l:List Hd)(m t n nb c:Nat)(X:Hp)(x:Cg)(a b:Option Nat)(A:Int)(Q:Exit->Go.Sym.St->Prop)(hl:l.length<=1000000)(ht:t<6)(hn:n<128)
  (hb:∀h∈l, ∀y,CgB (I0 (nmR r) h.body y)->GC 36 (mkQ r) [F5 h.body] y (I0 (nmR r) h.body y) (.tup []))
  (hN:GN X 2 a b x c) (hnb:X nb=some ⟨1,true,l.map λh=>I64 (nmR r h.name)⟩) (hnb2:nb≠2)
  (hB:CgB (I0 (nmR r) (bdR (nmR r) m l (kyR m t n)).flatten x))
  (next:∀a' b' c',c<=c'->GN X 2 a' b' (I0 (nmR r) (bdR (nmR r) m l (kyR m t n)).flatten x) c' ->
   IW Tryz.prog 184 (pz Tryz.prog 17 (.i (.o (.i (.o (.i (.i .h))))))) ⟨tm (B2r m l nb++[(14,I64 ((t:Int)+1)),(15,I64 n),(16,I64 A),(17,.bool (!(bdR (nmR r) m l (kyR m t n)).isEmpty))]),GM X 2 a' b' (mkQ r) (I0 (nmR r) (bdR (nmR r) m l (kyR m t n)).flatten x),c'⟩ Q) :
  IW Tryz.prog 184 (pz Tryz.prog 17 (.o (.o (.o (.o (.o (.i .h))))))) ⟨tm (B2r m l nb++[(14,I64 ((t:Int)+1)),(15,I64 n),(16,I64 A),(17,.bool false)]),GM X 2 a b (mkQ r) x,c⟩ Q:=by
 generalize nmR r=nm at *;refine wAp ?_;refine B6 (λq:Nat × Option Nat × Option Nat=>[(1,.ptr 0 0),(2,.ptr 1 0),(7,.ptr 2 0),(8,.ptr 8 0),(10,I64 m),(11,O0 l),(12,.slc nb 0 l.length),(14,I64 ((t:Int)+1)),(15,I64 n),(16,I64 A),(17,.bool (!(bdR nm m (l.take q.1) (kyR m t n)).isEmpty)),(18,I64 q.1)])
  (λq=>GM X 2 q.2.1 q.2.2 (mkQ r) (I0 nm (bdR nm m (l.take q.1) (kyR m t n)).flatten x))
  (λq cc=>c<=cc/\q.1<=l.length/\GN X 2 q.2.1 q.2.2 (I0 nm (bdR nm m (l.take q.1) (kyR m t n)).flatten x) cc) (λq=>l.length-q.1) (0,a,b)
  (by simp[B5,tm,Tm.upd,bdR,N0]) (by simp[bdR,N0,P1,Sub.refl]) ⟨A0D _,A0N _,by simpa[bdR,N0,P1] using hN⟩ ?_
 clear hN a b;rintro⟨j,a,b⟩ cc ⟨hc,hj,hN⟩;replace hj:j<=l.length:=hj;replace hc:c<=cc:=hc;dsimp only at hN ⊢;by_cases hlt:j<l.length
 rotate_left
 ·have hd:=dfz hlt;obtain rfl:j=l.length:=by omega
  rw[A1K]at hN ⊢;(repeat'((with_reducible first|refine J8 (p:=IW _ _ (pz Tryz.prog 17 (.i (.o (.i (.o (.i (.i .h))))))) _ _) ?_|refine wr ?_|refine B0 ?_ ?_|apply wb2<;>(intro hb;try simp only[hb]))<;>try simp only[go_sem,seval,hd,A0I]));exact IW.stage (by simp[B5,tm,Tm.upd]) (next a b cc hc hN)
 have hd:=dtz hlt;have hg:=A0B hlt;have hw:=w64 (n:=(j:Int)+1);have hcall:=hb _ (A0K hlt);have htk:=λk=>C7o (nm:=nm) (i:=m) hg k;have hpre:(bdR nm m (l.take (j+1)) (kyR m t n)).flatten <+: (bdR nm m l (kyR m t n)).flatten:=by
  have e:=congrArg (λl=>(bdR nm m l (kyR m t n)).flatten) (A1V (j+1) l);unfold bdR at e ⊢;rw[A0P,B9s,A2X]at e;exact⟨_,e⟩
 have hle:CgB (I0 nm (bdR nm m (l.take (j+1)) (kyR m t n)).flatten x):=by
  obtain⟨R,hR⟩:=hpre;rw[<- hR,U6]at hB;exact(B6c _ _).bnd hB
 have hgn:(l.map λh=>I64 (nm h.name))[j]? = some (I64 (nm l[j].name)):=v8
 have hgh:(l.map Hd.v)[j]? = some l[j].v:=v8
 have hMn:=V5 (mk:=mkQ r) hN hnb hnb2;generalize l[j]=h at hg hcall htk hgn hgh;have htk:bdR nm m (l.take (j+1)) (kyR m t n)=bdR nm m (l.take j) (kyR m t n)++if(hdK nm m h).1=kyR m t n then [h.body] else []:=htk (kyR m t n)
 have hia:A0u 1 (.slc nb 0 l.length) (I64 (j:Int))=some (.ptr nb j):=by simp[A0u];omega
 have hkey:(hdK nm m h).1=kyR m t n↔(h.trig=(t:Int)+1/\nm h.name=n):=by simp[hdK]
 obtain⟨tr,na,bo,ps⟩:=h;dsimp only at htk hcall hgn hkey;by_cases h1:tr=(t:Int)+1
 ·by_cases h2:nm na=n
  ·rw[if_pos (hkey.2 ⟨h1,h2⟩)]at htk;rw[htk,A2X,U6]at hle;have hcall:=hcall _ (by simpa using hle);refine wAr (wJ hd (wJ hgh (wJ hw (wJ hMn (wJ hgn (wJ hia (wJ h1 h2))))))) ?_;refine AC.call (hcall _ _ _ _ _ hN) ?_;rintro _ _ c2 ⟨rfl,a2,b2,hN2,rfl⟩ hc2;refine wAu hw ?_;refine⟨(j+1,a2,b2),by simp[B5,tm,Tm.upd,htk],?_,inv ⟨b8,hlt,?_⟩,by simp only;omega⟩
   ·simp only[htk,A2X,U6,A1H,A2I,A0Y];exact Sub.refl _
   ·simp only[htk,A2X,U6,A1H,A2I,A0Y];exact hN2
  ·rw[if_neg (λe=>h2 (hkey.1 e).2),A0Y]at htk;have h2':(nm na==(n:Int))=false:=by simpa using h2
   refine wAr (wJ hd (wJ hgh (wJ hw (wJ hMn (wJ hgn (wJ hia (wJ h1 h2'))))))) ?_;exact⟨(j+1,a,b),by simp[B5,tm,Tm.upd,htk],by simp only[htk];exact Sub.refl _,inv ⟨b8,hlt,by simp only[htk];exact hN⟩,by simp only;omega⟩
 ·rw[if_neg (λe=>h1 (hkey.1 e).1),A0Y]at htk;have h1':(tr==(t:Int)+1)=false:=by simpa using h1
  refine wAr (wJ hd (wJ hgh (wJ hw (wJ hMn (wJ hgn (wJ hia h1')))))) ?_;exact⟨(j+1,a,b),by simp[B5,tm,Tm.upd,htk],by simp only[htk];exact Sub.refl _,inv ⟨b8,hlt,by simp only[htk];exact hN⟩,by simp only;omega⟩
abbrev ouB(eo:Option Nat)(n:Nat)(P3 V4:DV)(m7 m8:Int):Blk:=⟨0,true,[.snil,.snil,todoV eo n,P3,V4,I64 m7,I64 m8]⟩
def ouH(Y:Hp)(eo:Option Nat)(E:List Ent)(P3 V4:DV)(m7 m8:Int):Hp:=(optH Y eo ⟨4,true,cellsL (E.map Ent.v)⟩).upd 8 (ouB eo E.length P3 V4 m7 m8)
abbrev cgP(nm:List UInt8->Int)(P:List F4):Cg:=((cgL nm 0 [] P).1,(cgL nm 0 [] P).2.2)
abbrev enP(nm:List UInt8->Int)(P:List F4):List Ent:=(cgL nm 0 [] P).2.1
section
variable {Y:Hp} {eo:Option Nat} {E:List Ent} {P3 V4:DV} {m7 m8:Int} {j:Nat} {B:Blk}
theorem B5i:ouH Y eo E P3 V4 m7 m8 8=some (ouB eo E.length P3 V4 m7 m8):=A0
theorem X6(h3:j≠8)(he:eo≠some j):ouH Y eo E P3 V4 m7 m8 j=Y j:=by
 rw[ouH,h_ne h3,A8 (λi hi e=>he (by rw[e];exact hi))]
theorem C6e{i:Nat}(h3:i≠8):ouH Y (some i) E P3 V4 m7 m8 i=some ⟨4,true,cellsL (E.map Ent.v)⟩:=by
 rw[ouH,h_ne h3];exact A0
end
structure EoN (Y:Hp) (eo:Option Nat) (c:Nat) (n:Nat):Prop where
 lt:∀i,eo=some i->9<=i/\i<c/\Y i=none
 nil:eo=none->n=0
section
variable {Y:Hp} {eo a b:Option Nat} {E E':List Ent} {P3 V4:DV} {m7 m8:Int} {i k c:Nat} {B4:Blk} {x:Cg} {mk:DV->DV->List DV}
theorem A2i(h:ouH Y eo E P3 V4 m7 m8 k=none):k≠8/\eo≠some k/\Y k=none:=by
 have h3:k≠8:=by rintro rfl;rw[B5i]at h;cases h
 have he:eo≠some k:=by rintro rfl;rw[C6e h3]at h;cases h
 exact⟨h3,he,by rw[X6 h3 he]at h;exact h⟩
theorem E4p(h:GN (ouH Y eo E P3 V4 m7 m8) 2 a b x c)(hy:∀j,c<=j->Y j=none)(hi:c<=i)(h4:9<=i):GN (ouH Y (some i) E' P3 V4 m7 m8) 2 a b x (i+1) :=
 ⟨b8,λk hk=>by
  have:=h.ha k hk;have g:=A2i this.2.2;exact⟨this.1,b8,by rw[X6 g.1 (λe=>by cases e;omega)];exact g.2.2⟩,λk hk=>by
  have:=h.hb k hk;have g:=A2i this.2.2;exact⟨this.1,b8,by rw[X6 g.1 (λe=>by cases e;omega)];exact g.2.2⟩,h.ne,h.an,h.bn,λj hj=>by
  rw[X6 (by omega) (λe=>by cases e;omega)];exact hy j (by omega)⟩
theorem E0o(h:GN (ouH Y eo E P3 V4 m7 m8) 2 a b x c)(hy:∀j,c<=j->Y j=none)(he:∀i,eo=some i->9<=i/\i<c/\Y i=none)(hi:c<i)(h4:9<=c):
  Sub (GM (ouH Y (some i) E' P3 V4 m7 m8) 2 a b mk x) (((delO ((GM (ouH Y eo E P3 V4 m7 m8) 2 a b mk x).upd c B4) eo).upd i ⟨4,true,cellsL (E'.map Ent.v)⟩).upd 8 (ouB (some i) E'.length P3 V4 m7 m8)):=by
 refine A5p ?_ (λk hk=>?_) (λk hk=>?_) (λj Q hj hQ=>?_)
 ·rw[h_ne (by decide),hnO,A9 (λk hk e=>by have:=he k hk;omega),hnO,A0c h]
 ·have q:=h.ha k hk;have g:=A2i q.2.2;rw[h_ne g.1,hnO,A9 (λk' hk' e=>g.2.1 (by rw[e];exact hk')),hnO,A5q h hk]
 ·have q:=h.hb k hk;have g:=A2i q.2.2;rw[h_ne g.1,hnO,A9 (λk' hk' e=>g.2.1 (by rw[e];exact hk')),hnO,A8j hk]
 ·by_cases e3:j=8
  ·subst e3;rw[B5i]at hQ;rw[A0];exact hQ
  by_cases ei:j=i
  ·subst ei;rw[C6e e3]at hQ;rw[h_ne e3,A0];exact hQ
  rw[X6 e3 (λe=>ei (by cases e;rfl))]at hQ;have hjc:j<c:=A1S λhc=>by rw[hy j hc]at hQ;cases hQ
  have hje:eo≠some j:=λe=>by rw[(he j e).2.2]at hQ;cases hQ
  rw[h_ne e3,h_ne ei,A9 (λk' hk' e=>hje (by rw[e];exact hk')),hnO];exact V5 h (by rw[X6 e3 hje];exact hQ) hj
end
theorem c_rcT(r:Ru)(hB:r.sz<4000000)(m t nb c:Nat)(md:Md)(Y:Hp)(a b eo:Option Nat)(P3 V4:DV)(m7 m8:Int)(Q:Exit->Go.Sym.St->Prop)(hmd:r.modes[m]? = some md)(hl:md.hds.length<=1000000)(ht:t<6)
  (hp3:P3.one=true) (hv4:V4.one=true)
  (hb:∀h∈md.hds, ∀y,CgB (I0 (nmR r) h.body y)->GC 36 (mkQ r) [F5 h.body] y (I0 (nmR r) h.body y) (.tup []))
  (hnb:Y nb=some ⟨1,true,md.hds.map λh=>I64 (nmR r h.name)⟩) (hnb2:9<=nb) (hnbc:nb<c) (hyf:∀j,c<=j->Y j=none) (hy2:Y 2=none)
  (hN:GN (ouH Y eo (enP (nmR r) (G5 (nmR r) 0 (r.modes.take m)++ptK (md.hds.map (hdK (nmR r) m)) (Y4 m t 0))) P3 V4 m7 m8) 2 a b (cgP (nmR r) (G5 (nmR r) 0 (r.modes.take m)++ptK (md.hds.map (hdK (nmR r) m)) (Y4 m t 0))) c)
  (heo:EoN Y eo c (enP (nmR r) (G5 (nmR r) 0 (r.modes.take m)++ptK (md.hds.map (hdK (nmR r) m)) (Y4 m t 0))).length)
  (next:∀a' b' eo' c',c<=c'->GN (ouH Y eo' (enP (nmR r) (G5 (nmR r) 0 (r.modes.take m)++ptK (md.hds.map (hdK (nmR r) m)) (Y4 m (t+1) 0))) P3 V4 m7 m8) 2 a' b' (cgP (nmR r) (G5 (nmR r) 0 (r.modes.take m)++ptK (md.hds.map (hdK (nmR r) m)) (Y4 m (t+1) 0))) c' ->
   EoN Y eo' c' (enP (nmR r) (G5 (nmR r) 0 (r.modes.take m)++ptK (md.hds.map (hdK (nmR r) m)) (Y4 m (t+1) 0))).length ->
   ∀T,B5 (B2r m md.hds nb++[(14,I64 ((t:Int)+1))]) T->Q .normal ⟨T,GM (ouH Y eo' (enP (nmR r) (G5 (nmR r) 0 (r.modes.take m)++ptK (md.hds.map (hdK (nmR r) m)) (Y4 m (t+1) 0))) P3 V4 m7 m8) 2 a' b' (mkQ r) (cgP (nmR r) (G5 (nmR r) 0 (r.modes.take m)++ptK (md.hds.map (hdK (nmR r) m)) (Y4 m (t+1) 0))),c'⟩) :
  IW Tryz.prog 184 (pz Tryz.prog 17 (.o (.i (.o (.o (.i (.o .h))))))) ⟨tm (B2r m md.hds nb++[(14,I64 ((t:Int)+1))]),GM (ouH Y eo (enP (nmR r) (G5 (nmR r) 0 (r.modes.take m)++ptK (md.hds.map (hdK (nmR r) m)) (Y4 m t 0))) P3 V4 m7 m8) 2 a b (mkQ r) (cgP (nmR r) (G5 (nmR r) 0 (r.modes.take m)++ptK (md.hds.map (hdK (nmR r) m)) (Y4 m t 0))),c⟩ Q:=by
 have hall:=E2v (nmR r) r.modes;have hpre:=λn=>E0k (nm:=nmR r) hmd (D1q (i:=m) (n:=n) ht);have hszm:(r.modes.map Md.sz).sum<=r.sz:=by
  have h2:r.sz=(r.decls.map Dc.sz).sum+(r.modes.map Md.sz).sum:=rfl;omega
 obtain⟨F,hF⟩:∃F:Nat->List F4,F=λn=>G5 (nmR r) 0 (r.modes.take m)++ptK (md.hds.map (hdK (nmR r) m)) (Y4 m t n):=⟨_,rfl⟩;have hF0:G5 (nmR r) 0 (r.modes.take m)++ptK (md.hds.map (hdK (nmR r) m)) (Y4 m t 0)=F 0:=by rw[hF]
 have hFl:G5 (nmR r) 0 (r.modes.take m)++ptK (md.hds.map (hdK (nmR r) m)) (Y4 m (t+1) 0)=F 128:=by rw[hF, <- C7b]
 have hFs:∀n,n<128->F (n+1)=F n++(if bdR (nmR r) m md.hds (kyR m t n)=[] then [] else [(kyR m t n,bdR (nmR r) m md.hds (kyR m t n))]):=λn hn=>by
  rw[hF];dsimp only;rw[C7a hn,C9t,A0O];rfl
 have hFb:∀n,(cgP (nmR r) (F n)).1.length<=8000000/\(cgP (nmR r) (F n)).2.length<=8000000:=λn=>by
  obtain⟨R,hR⟩:=hpre n;have:=E2u (nm:=nmR r) hR;rw[hF];exact⟨A1B this.1 (by omega),A1B this.2 (by omega)⟩
 rw[hF0]at hN heo ⊢;simp only[hFl]at next
 have hEl:∀n,(enP (nmR r) (F n)).length<=8000000:=λn=>by
  have h1:=(hFb n).1;have h2:(enP (nmR r) (F n)).length<=(cgP (nmR r) (F n)).1.length:=B9p _ _ _ _;omega
 have hK:=λ(n c:Nat) (X:Hp) (x:Cg) (a b:Option Nat) (A:Int) (Q:Exit->Go.Sym.St->Prop) (hn:n<128)=>c_rcK r md.hds m t n nb c X x a b A Q hl ht hn hb;clear hF hF0 hFl hpre hall;generalize nmR r=nm at *;refine wAp ?_;refine B6 (λq:Nat × Option Nat × Option Nat × Option Nat=>[(1,.ptr 0 0),(2,.ptr 1 0),(7,.ptr 2 0),(8,.ptr 8 0),(10,I64 m),(11,O0 md.hds),(12,.slc nb 0 md.hds.length),(14,I64 ((t:Int)+1)),(15,I64 q.1)])
  (λq=>GM (ouH Y q.2.2.2 (enP nm (F q.1)) P3 V4 m7 m8) 2 q.2.1 q.2.2.1 (mkQ r) (cgP nm (F q.1)))
  (λq cc=>c<=cc/\q.1<=128/\GN (ouH Y q.2.2.2 (enP nm (F q.1)) P3 V4 m7 m8) 2 q.2.1 q.2.2.1 (cgP nm (F q.1)) cc/\EoN Y q.2.2.2 cc (enP nm (F q.1)).length) (λq=>128-q.1) (0,a,b,eo)
  (by simp[B5,tm,Tm.upd]) (Sub.refl _) ⟨A0D _,A0N _,hN,heo⟩ ?_
 clear hN heo a b eo;rintro⟨n,a,b,eo⟩ cc ⟨hc,hn,hN,heo⟩;replace hn:n<=128:=hn;replace hc:c<=cc:=hc;dsimp only at hN heo ⊢;by_cases hlt:n<128
 rotate_left
 ·have hd:decide ((n:Int)<128)=false:=by simp;omega
  obtain rfl:n=128:=b8
  refine wAs hd ?_;exact next a b eo cc hc hN heo _ (by simp[B5,tm,Tm.upd])
 have hd:decide ((n:Int)<128)=true:=a8
 have hw:=w64 (n:=(n:Int)+1);have hsn:=hFs n hlt;have hb1:=hFb n;have hb2:=hFb (n+1);have hel:=hEl n;have hbx:=B6c (nm:=nm) (bdR nm m md.hds (kyR m t n)).flatten (cgP nm (F n));have hM:=A0c (mk:=mkQ r) hN;have hla:=P5 (o:=a) (n:=(cgP nm (F n)).1.length) (λe=>S3 (hN.an e));have hXnb:ouH Y eo (enP nm (F n)) P3 V4 m7 m8 nb=some ⟨1,true,md.hds.map λh=>I64 (nm h.name)⟩:=by rw[X6 (by omega) (λe=>by have:=(heo.lt _ e).2.2;rw[hnb]at this;cases this)];exact hnb
 have hcgB:CgB (I0 nm (bdR nm m md.hds (kyR m t n)).flatten (cgP nm (F n))):=by
  by_cases he:bdR nm m md.hds (kyR m t n)=[]
  ·rw[he];simp only[A2I,P1];exact⟨b8,by omega⟩
  ·rw[if_neg he]at hsn;have h1:=(C5f nm (F n) (kyR m t n,bdR nm m md.hds (kyR m t n))).1;rw[<- hsn]at h1;have h1:cgP nm (F (n+1))=((I0 nm (bdR nm m md.hds (kyR m t n)).flatten (cgP nm (F n))).1++[⟨31,0⟩],(I0 nm (bdR nm m md.hds (kyR m t n)).flatten (cgP nm (F n))).2):=h1;rw[h1]at hb2;simp only[A0A]at hb2;exact⟨b8,by omega⟩
 (repeat'((with_reducible first|refine J8 (p:=IW _ _ (pz Tryz.prog 17 (.o (.o (.o (.o (.o (.i .h))))))) _ _) ?_|refine wr ?_|refine B0 ?_ ?_|apply wb2<;>(intro hb;try simp only[hb]))<;>try simp only[go_sem,seval,hd,hM,hla]));refine IW.stage (L:=B2r m md.hds nb++[(14,I64 ((t:Int)+1)),(15,I64 n),(16,I64 (cgP nm (F n)).1.length),(17,.bool false)]) (by simp[B5,tm,Tm.upd]) (hK n cc _ _ a b _ _ hlt hN hXnb (by omega) hcgB ?_);intro a2 b2 c2 hc2 hN2;clear hN hM hla hXnb hK a b;generalize bdR nm m md.hds (kyR m t n)=bd at *;by_cases he:bd=[]
 ·subst he;rw[if_pos rfl,A0Y]at hsn;simp only[A2I,P1]at hN2 ⊢;(repeat'((with_reducible first|apply wr|refine B0 ?_ ?_|apply wb2<;>(intro hb;try simp only[hb]))<;>try simp only[go_sem,seval,List.isEmpty_nil,Bool.not_true,hw]));refine⟨(n+1,a2,b2,eo),b9,by simp only[hsn];exact Sub.refl _,inv ⟨b8,hlt,by simp only[hsn];exact hN2,by simp only[hsn];exact⟨λi hi=>by have:=heo.lt i hi;exact⟨this.1,b8,this.2.2⟩,heo.nil⟩⟩,by simp only;omega⟩
 rw[if_neg he]at hsn;have hne:(!bd.isEmpty)=true:=by simpa using he
 have hadd:=C5f nm (F n) (kyR m t n,bd);rw[<- hsn]at hadd;obtain⟨z,hz⟩:∃z,z=I0 nm bd.flatten (cgP nm (F n)):=⟨_,rfl⟩;rw[<- hz]at hN2 hcgB ⊢;have hz1:cgP nm (F (n+1))=(z.1++[⟨31,0⟩],z.2):=by rw[hz];exact hadd.1
 have hE1:enP nm (F (n+1))=enP nm (F n)++[⟨m,(t:Int)+1,n,((cgP nm (F n)).1.length:Int)⟩]:=hadd.2;refine wAs hne ?_;refine AC.call (c_emit34 _ _ 31 0 z (by have:=hcgB.1;omega) _ _ _ _ _ hN2) ?_;rintro _ _ c3 ⟨rfl,a3,b3,hN3,rfl⟩ hc3;rw[<- hz1]at hN3 ⊢;have hou:GM (ouH Y eo (enP nm (F n)) P3 V4 m7 m8) 2 a3 b3 (mkQ r) (cgP nm (F (n+1))) 8=some (ouB eo (enP nm (F n)).length P3 V4 m7 m8):=V5 hN3 B5i (by decide);have hoe:∀i,eo=some i->GM (ouH Y eo (enP nm (F n)) P3 V4 m7 m8) 2 a3 b3 (mkQ r) (cgP nm (F (n+1))) i=some ⟨4,true,cellsL ((enP nm (F n)).map Ent.v)⟩:=λi hi=>by
  have h:=heo.lt i hi;refine V5 hN3 ?_ (by omega);subst hi;exact C6e (by omega)
 have hfr:=λj (hj:c3<=j)=>A8i (mk:=mkQ r) hN3 hj;obtain⟨E,hE⟩:∃E,E=enP nm (F n):=⟨_,rfl⟩;obtain⟨A,hA⟩:∃A:Nat,A=(cgP nm (F n)).1.length:=⟨_,rfl⟩;rw[<- hE]at hN3 hou hoe hfr heo hel hE1 ⊢;rw[<- hA]at hE1 ⊢;obtain⟨x,hx⟩:∃x,x=cgP nm (F (n+1)):=⟨_,rfl⟩;rw[<- hx]at hN3 hou hoe hfr ⊢;obtain⟨HH,hHH⟩:∃HH,HH=GM (ouH Y eo E P3 V4 m7 m8) 2 a3 b3 (mkQ r) x:=⟨_,rfl⟩;rw[<- hHH]at hou hoe hfr ⊢;have ne0:=M7 8 c3 (c3+1) (by omega);refine wA0 hou ne0 @A0 @A1 ?_;refine S8 (D4 (cs:=cellsL (E.map Ent.v)) (λe=>⟨heo.nil e,by rw[A2K.1 (heo.nil e)];rfl⟩) (λi hi=>?_) (B4f _) (by omega) (by omega) (by omega)) ?_
 ·have:=heo.lt i hi;rw[hnO];exact hoe i hi
 have dm:∀X:Hp,delO X eo 8=X 8:=λX=>A9 (λi hi e=>by have:=heo.lt i hi;omega);simp only[go_sem,seval,dm,hou,ne0,A0];refine wAs hw ?_;refine⟨(n+1,a3,b3,some (c3+1)),b9,?_,inv ⟨b8,hlt,?_,?_⟩,by simp only;omega⟩
 ·dsimp only;rw[<- hx,hE1,hHH];have g:=E0o (mk:=mkQ r) (E':=E++[⟨m,(t:Int)+1,n,(A:Int)⟩]) (i:=c3+1) (B4:=⟨4,true,[I64 m,I64 ((t:Int)+1),I64 n,I64 A]⟩) hN3 (λj hj=>hyf j (by omega)) (λi hi=>by have:=heo.lt i hi;exact⟨this.1,b8,this.2.2⟩) (by omega) (by omega);rw[A0A,A0P,C8]at g;exact g
 ·dsimp only;rw[<- hx,hE1];exact E4p hN3 (λj hj=>hyf j (by omega)) (by omega) (by omega)
 ·dsimp only;exact⟨λi hi=>by cases hi;exact⟨b8,b8,hyf _ (by omega)⟩,λe=>by cases e⟩
theorem D4s(q:List KB):ptK q []=[]:=rfl
theorem c_rcM(r:Ru)(hB:r.sz<4000000)(m nb c:Nat)(md:Md)(Y:Hp)(a b eo:Option Nat)(P3 V4:DV)(m7 m8:Int)(Q:Exit->Go.Sym.St->Prop)(hmd:r.modes[m]? = some md)(hl:md.hds.length<=1000000)
  (hp3:P3.one=true) (hv4:V4.one=true)
  (hb:∀h∈md.hds, ∀y,CgB (I0 (nmR r) h.body y)->GC 36 (mkQ r) [F5 h.body] y (I0 (nmR r) h.body y) (.tup []))
  (hnb:Y nb=some ⟨1,true,md.hds.map λh=>I64 (nmR r h.name)⟩) (hnb2:9<=nb) (hnbc:nb<c) (hyf:∀j,c<=j->Y j=none) (hy2:Y 2=none)
  (hN:GN (ouH Y eo (enP (nmR r) (G5 (nmR r) 0 (r.modes.take m))) P3 V4 m7 m8) 2 a b (cgP (nmR r) (G5 (nmR r) 0 (r.modes.take m))) c)
  (heo:EoN Y eo c (enP (nmR r) (G5 (nmR r) 0 (r.modes.take m))).length)
  (next:∀a' b' eo' c',c<=c'->GN (ouH Y eo' (enP (nmR r) (G5 (nmR r) 0 (r.modes.take (m+1)))) P3 V4 m7 m8) 2 a' b' (cgP (nmR r) (G5 (nmR r) 0 (r.modes.take (m+1)))) c' ->
   EoN Y eo' c' (enP (nmR r) (G5 (nmR r) 0 (r.modes.take (m+1)))).length ->
   ∀T,B5 [(1,.ptr 0 0),(2,.ptr 1 0),(7,.ptr 2 0),(8,.ptr 8 0),(10,I64 m)] T->Q .normal ⟨T,GM (ouH Y eo' (enP (nmR r) (G5 (nmR r) 0 (r.modes.take (m+1)))) P3 V4 m7 m8) 2 a' b' (mkQ r) (cgP (nmR r) (G5 (nmR r) 0 (r.modes.take (m+1)))),c'⟩) :
  IW Tryz.prog 184 (pz Tryz.prog 17 (.o (.i (.i (.o (.o (.o .h))))))) ⟨tm (B2r m md.hds nb),GM (ouH Y eo (enP (nmR r) (G5 (nmR r) 0 (r.modes.take m))) P3 V4 m7 m8) 2 a b (mkQ r) (cgP (nmR r) (G5 (nmR r) 0 (r.modes.take m))),c⟩ Q:=by
 have hT:=λ(t c:Nat) (a b eo:Option Nat) (Q:Exit->Go.Sym.St->Prop) (ht:t<6) (h1:nb<c) (h2:∀j,c<=j->Y j=none)=>c_rcT r hB m t nb c md Y a b eo P3 V4 m7 m8 Q hmd hl ht hp3 hv4 hb hnb hnb2 h1 h2 hy2;obtain⟨F,hF⟩:∃F:Nat->List F4,F=λt=>G5 (nmR r) 0 (r.modes.take m)++ptK (md.hds.map (hdK (nmR r) m)) (Y4 m t 0):=⟨_,rfl⟩;have hFt:∀t,G5 (nmR r) 0 (r.modes.take m)++ptK (md.hds.map (hdK (nmR r) m)) (Y4 m t 0)=F t:=λt=>by rw[hF]
 have hF0:G5 (nmR r) 0 (r.modes.take m)=F 0:=by rw[hF];dsimp only;rw[C6z,D4s,A0Y]
 have hF6:G5 (nmR r) 0 (r.modes.take (m+1))=F 6:=by rw[hF];dsimp only;rw[C7c,B3i _ hmd];rfl
 simp only[hFt]at hT;rw[hF0]at hN heo ⊢;simp only[hF6]at next
 clear hF hF0 hF6 hFt;generalize nmR r=nm at *;refine wAp ?_;refine B6 (λq:Nat × Option Nat × Option Nat × Option Nat=>[(1,.ptr 0 0),(2,.ptr 1 0),(7,.ptr 2 0),(8,.ptr 8 0),(10,I64 m),(11,O0 md.hds),(12,.slc nb 0 md.hds.length),(14,I64 ((q.1:Int)+1))])
  (λq=>GM (ouH Y q.2.2.2 (enP nm (F q.1)) P3 V4 m7 m8) 2 q.2.1 q.2.2.1 (mkQ r) (cgP nm (F q.1)))
  (λq cc=>c<=cc/\q.1<=6/\GN (ouH Y q.2.2.2 (enP nm (F q.1)) P3 V4 m7 m8) 2 q.2.1 q.2.2.1 (cgP nm (F q.1)) cc/\EoN Y q.2.2.2 cc (enP nm (F q.1)).length) (λq=>6-q.1) (0,a,b,eo)
  (by simp[B5,tm,Tm.upd]) (Sub.refl _) ⟨A0D _,A0N _,hN,heo⟩ ?_
 clear hN heo a b eo;rintro⟨t,a,b,eo⟩ cc ⟨hc,ht,hN,heo⟩;replace ht:t<=6:=ht;replace hc:c<=cc:=hc;dsimp only at hN heo ⊢;by_cases hlt:t<6
 rotate_left
 ·have hd:decide ((t:Int)+1<=6)=false:=by simp;omega
  obtain rfl:t=6:=b8
  refine wAs hd ?_;exact next a b eo cc hc hN heo _ (by simp[B5,tm,Tm.upd])
 have hd:decide ((t:Int)+1<=6)=true:=a8
 have hw:=w64 (n:=(t:Int)+1+1);(repeat'((with_reducible first|refine J8 (p:=IW _ _ (pz Tryz.prog 17 (.o (.i (.o (.o (.i (.o .h))))))) _ _) ?_|refine wr ?_|refine B0 ?_ ?_|apply wb2<;>(intro hb;try simp only[hb]))<;>try simp only[go_sem,seval,hd]));refine IW.stage (L:=B2r m md.hds nb++[(14,I64 ((t:Int)+1))]) (by simp[B5,tm,Tm.upd]) (hT t cc a b eo _ hlt (by omega) (λj hj=>hyf j (by omega)) hN heo ?_);intro a2 b2 eo2 c2 hc2 hN2 heo2 T hT2;refine IW.weaken (B6s hT2) (Sub.refl _) ?_;refine wAs hw ?_;exact⟨(t+1,a2,b2,eo2),b9,Sub.refl _,inv ⟨b8,hlt,hN2,heo2⟩,by simp only;omega⟩
theorem c_index34(r:Ru)(hB:r.sz<4000000)(hv:M8 r=true)(h:Hd)(hh:h.trig<3->nmR r h.name=0)(h1:1<=h.trig)(H:Hp)(c t:Nat)(I S:DV)(ht:H t=some ⟨0,true,[D0 r.decls,D8 r.modes,I,S]⟩)(htc:t<c)(hfr:∀j,c<=j->H j=none):
  AC Tryz.prog 35 [.ptr t 0,h.v] H c (λv H' c'=>v=I64 (nmR r h.name)/\H'=H):=by
 have hn:=λH c ht htc=>c_number34 r hB hv h.name H c t I S ht htc;obtain⟨tr,na,bo,ps⟩:=h;dsimp only at hh h1 hn ⊢;generalize nmR r=nm at *;have gd:∀B ds,GL (H.upd c B) ds H ds:=λB ds=>GL.less' λj B hj=>by rw[h_ne (by rintro rfl;rw[hfr _ (A0D _)]at hj;cases hj)];exact hj
 have htn:¬t=c:=b8
 refine AC.go A2 λhfr=>?_;by_cases e1:tr=1
 ·have:=hh (by omega);refine wAx @A0 e1 this ?_;exact⟨_,_,gd _ _,rfl,rfl⟩
 have e1':(tr==1)=false:=by simpa using e1
 by_cases e2:tr=2
 ·have:=hh (by omega);refine wAz @A0 e1' e2 this ?_;exact⟨_,_,gd _ _,rfl,rfl⟩
 have e2':(tr==2)=false:=by simpa using e2
 refine wAx @A0 e1' e2' ?_;refine AC.call (hn _ _ (by rw[h_ne htn];exact ht) (by omega)) ?_;rintro _ _ c2 ⟨rfl,rfl⟩ hc2;refine wAq ?_;exact⟨_,_,gd _ _,rfl,rfl⟩
def nuC(nm:List UInt8->Int)(l:List Hd)(j:Nat):List DV:=(l.take j).map (λh=>I64 (nm h.name))++List.replicate (l.length-j) (I64 0)
theorem D0k(nm:List UInt8->Int)(l:List Hd):nuC nm l 0=List.replicate l.length (I64 0):=by simp[nuC]
theorem D0l(nm:List UInt8->Int)(l:List Hd):nuC nm l l.length=l.map λh=>I64 (nm h.name):=by simp[nuC]
theorem D5b(nm:List UInt8->Int)(l:List Hd){j:Nat}(h:j<=l.length):(nuC nm l j).length=l.length:=by simp[nuC];omega
theorem D5a(nm:List UInt8->Int){l:List Hd}{j:Nat}{h:Hd}(hj:l[j]? = some h):(nuC nm l j).take j++(I64 (nm h.name)).cells++(nuC nm l j).drop (j+1)=nuC nm l (j+1):=by
 have hl:=(A1C.1 hj).1;have e:(l.take j).length=j:=zaj
 obtain⟨d,hd⟩:∃d,l.length-j=d+1:=⟨l.length-j-1,by omega⟩;unfold nuC;rw[List.take_append_of_le_length (by simp;omega),A0J (by rw[A0I,e];exact A0D _),List.drop_append,A0I,e,A1L (by simp;omega),hd,A0R,hj,show j+1-j=1 by omega,A4I,show l.length-(j+1)=d by omega,A0P];simp[DV.cells]
theorem B0v{Y:Hp}{eo:Option Nat}{E:List Ent}{P3 V4:DV}{m7 m8:Int}{j:Nat}{B:Blk}(h3:j≠8)(he:eo≠some j):(ouH Y eo E P3 V4 m7 m8).upd j B=ouH (Y.upd j B) eo E P3 V4 m7 m8:=by
 funext i
 by_cases e:i=j
 ·subst e;rw[A0,X6 h3 he,A0]
 ·rw[h_ne e];unfold ouH;by_cases e3:i=8
  ·subst e3;rw[A0,A0]
  ·rw[h_ne e3,h_ne e3];cases eo with
   |none=>simp only[optH];rw[h_ne e]
   |some k =>
    simp only[optH];by_cases ek:i=k
    ·subst ek;rw[A0,A0]
    ·rw[h_ne ek,h_ne ek,h_ne e]
theorem c_rcF(r:Ru)(hB:r.sz<4000000)(hv:M8 r=true)(m nb c:Nat)(md:Md)(Y:Hp)(a b eo:Option Nat)(P3 V4:DV)(m7 m8:Int)(Q:Exit->Go.Sym.St->Prop)(hmd:r.modes[m]? = some md)(hl:md.hds.length<=1000000)
  (hp3:P3.one=true) (hv4:V4.one=true) (hh:∀h∈md.hds,1<=h.trig/\(h.trig<3->nmR r h.name=0))
  (hb:∀h∈md.hds, ∀y,CgB (I0 (nmR r) h.body y)->GC 36 (mkQ r) [F5 h.body] y (I0 (nmR r) h.body y) (.tup []))
  (hnb:Y nb=none) (hnb2:9<=nb) (hnbc:nb<c) (hyf:∀j,c<=j->Y j=none) (hy2:Y 2=none)
  (hN:GN (ouH (Y.upd nb ⟨1,true,List.replicate md.hds.length (I64 0)⟩) eo (enP (nmR r) (G5 (nmR r) 0 (r.modes.take m))) P3 V4 m7 m8) 2 a b (cgP (nmR r) (G5 (nmR r) 0 (r.modes.take m))) c)
  (heo:EoN (Y.upd nb ⟨1,true,List.replicate md.hds.length (I64 0)⟩) eo c (enP (nmR r) (G5 (nmR r) 0 (r.modes.take m))).length)
  (next:∀B a' b' eo' c',c<=c'->GN (ouH (Y.upd nb B) eo' (enP (nmR r) (G5 (nmR r) 0 (r.modes.take (m+1)))) P3 V4 m7 m8) 2 a' b' (cgP (nmR r) (G5 (nmR r) 0 (r.modes.take (m+1)))) c' ->
   EoN (Y.upd nb B) eo' c' (enP (nmR r) (G5 (nmR r) 0 (r.modes.take (m+1)))).length ->
   ∀T,B5 [(1,.ptr 0 0),(2,.ptr 1 0),(7,.ptr 2 0),(8,.ptr 8 0),(10,I64 m)] T->Q .normal ⟨T,GM (ouH (Y.upd nb B) eo' (enP (nmR r) (G5 (nmR r) 0 (r.modes.take (m+1)))) P3 V4 m7 m8) 2 a' b' (mkQ r) (cgP (nmR r) (G5 (nmR r) 0 (r.modes.take (m+1)))),c'⟩) :
  IW Tryz.prog 184 (pz Tryz.prog 17 (.i (.i (.i (.o (.i .h)))))) ⟨tm (B2r m md.hds nb),GM (ouH (Y.upd nb ⟨1,true,List.replicate md.hds.length (I64 0)⟩) eo (enP (nmR r) (G5 (nmR r) 0 (r.modes.take m))) P3 V4 m7 m8) 2 a b (mkQ r) (cgP (nmR r) (G5 (nmR r) 0 (r.modes.take m))),c⟩ Q:=by
 have hM:=λ(c:Nat) (a b eo:Option Nat) (Q:Exit->Go.Sym.St->Prop) (h1:nb<c) (h2:∀j,c<=j->Y j=none) hN heo=>c_rcM r hB m nb c md (Y.upd nb ⟨1,true,md.hds.map λh=>I64 (nmR r h.name)⟩) a b eo P3 V4 m7 m8 Q hmd hl hp3 hv4 hb A0 hnb2 h1 (λj hj=>by rw[hnO];exact h2 j hj) (by rw[hnO];exact hy2) hN heo;have hi:=λh hm H c t I S ht htc hfr=>c_index34 r hB hv h (hh h hm).2 (hh h hm).1 H c t I S ht htc hfr;clear hh hb;rw[<- D0k (nmR r)]at hN heo ⊢;obtain⟨E,hE⟩:∃E,E=enP (nmR r) (G5 (nmR r) 0 (r.modes.take m)):=⟨_,rfl⟩;obtain⟨x,hx⟩:∃x,x=cgP (nmR r) (G5 (nmR r) 0 (r.modes.take m)):=⟨_,rfl⟩;rw[<- hE, <- hx]at hN ⊢;rw[<- hE]at heo;simp only[<- hE, <- hx]at hM;have next:=λa' b' eo' c' h1 h2 h3=>next ⟨1,true,md.hds.map λh=>I64 (nmR r h.name)⟩ a' b' eo' c' h1 h2 h3
 generalize cgP (nmR r) (G5 (nmR r) 0 (r.modes.take (m+1)))=x2 at *;generalize enP (nmR r) (G5 (nmR r) 0 (r.modes.take (m+1)))=E2 at *;clear hE hx;generalize nmR r=nm at *;refine wAp ?_;refine B6 (λj:Nat=>[(1,.ptr 0 0),(2,.ptr 1 0),(7,.ptr 2 0),(8,.ptr 8 0),(10,I64 m),(11,O0 md.hds),(12,.slc nb 0 md.hds.length),(13,I64 j)])
  (λj=>GM (ouH (Y.upd nb ⟨1,true,nuC nm md.hds j⟩) eo E P3 V4 m7 m8) 2 a b (mkQ r) x)
  (λj cc=>c<=cc/\j<=md.hds.length/\GN (ouH (Y.upd nb ⟨1,true,nuC nm md.hds j⟩) eo E P3 V4 m7 m8) 2 a b x cc/\EoN (Y.upd nb ⟨1,true,nuC nm md.hds j⟩) eo cc E.length) (λj=>md.hds.length-j) 0
  (by simp[B5,tm,Tm.upd]) (Sub.refl _) ⟨A0D _,A0N _,hN,heo⟩ ?_
 clear hN heo;rintro j cc ⟨hc,hj,hN,heo⟩;by_cases hlt:j<md.hds.length
 rotate_left
 ·have hd:=dfz hlt;obtain rfl:j=md.hds.length:=by omega
  rw[D0l]at hN heo ⊢;(repeat'((with_reducible first|refine J8 (p:=IW _ _ (pz Tryz.prog 17 (.o (.i (.i (.o (.o (.o .h))))))) _ _) ?_|refine wr ?_|refine B0 ?_ ?_|apply wb2<;>(intro hb;try simp only[hb]))<;>try simp only[go_sem,seval,hd,A0I]));exact IW.stage (L:=B2r m md.hds nb) (by simp[B5,tm,Tm.upd]) (hM cc a b eo _ (by omega) (λj hj=>hyf j (by omega)) hN heo λa' b' eo' c' h1=>next a' b' eo' c' (by omega))
 have hd:=dtz hlt;have hg:=A0B hlt;have hw:=w64 (n:=(j:Int)+1);have hi:=λH c t I S=>hi _ (A0K hlt) H c t I S;have hput:=D5a nm hg;have hgh:(md.hds.map Hd.v)[j]? = some md.hds[j].v:=v8
 have hnl:=D5b nm md.hds hj;generalize md.hds[j]=h at hg hi hput hgh;have hia:A0u 1 (.slc nb 0 md.hds.length) (I64 (j:Int))=some (.ptr nb j):=by simp[A0u];omega
 have hMt:=A0c (mk:=mkQ r) hN;have hXn:ouH (Y.upd nb ⟨1,true,nuC nm md.hds j⟩) eo E P3 V4 m7 m8 nb=some ⟨1,true,nuC nm md.hds j⟩:=by rw[X6 (by omega) (λe=>by have:=(heo.lt _ e).2.2;rw[A0]at this;cases this)];exact A0
 have hMn:=V5 (mk:=mkQ r) hN hXn (by omega);have hfr:=λj (hj:cc<=j)=>A8i (mk:=mkQ r) hN hj;have hen:eo≠some nb:=λe=>by have:=(heo.lt _ e).2.2;rw[A0]at this;cases this
 have han:a≠some nb:=λe=>by have:=(hN.ha _ e).2.2;rw[hXn]at this;cases this
 have hbn:b≠some nb:=λe=>by have:=(hN.hb _ e).2.2;rw[hXn]at this;cases this
 have hup:∀B,(GM (ouH (Y.upd nb ⟨1,true,nuC nm md.hds j⟩) eo E P3 V4 m7 m8) 2 a b (mkQ r) x).upd nb B=GM (ouH (Y.upd nb B) eo E P3 V4 m7 m8) 2 a b (mkQ r) x:=λB=>by
  rw[D3v (by omega) han hbn,B0v (by omega) hen,A1]
 refine wAr (wJ hd (wJ hgh hia)) ?_;refine AC.call (hi _ _ _ _ _ hMt (by omega) hfr) ?_;rintro _ _ c2 ⟨rfl,rfl⟩ hc2;simp only[go_sem,seval,hia,hMn,hw];refine S8 ((A3c (i:=1) rfl (by omega) rfl).trans (by rw[hput,hup])) ?_;refine wAu hw ?_;have hN2:=hN.le hc2;refine⟨j+1,b9,Sub.refl _,inv ⟨b8,hlt,?_,?_⟩,by omega⟩
 ·refine⟨hN2.tc,λi hi=>?_,λi hi=>?_,hN2.ne,hN2.an,hN2.bn,λi hi=>?_⟩
  ·have q:=hN2.ha i hi;have g:=A2i q.2.2;exact⟨q.1,q.2.1,by rw[X6 g.1 g.2.1,h_ne (λe=>han (by rw[hi,e]))];have:=g.2.2;rwa [h_ne (λe=>han (by rw[hi,e]))]at this⟩
  ·have q:=hN2.hb i hi;have g:=A2i q.2.2;exact⟨q.1,q.2.1,by rw[X6 g.1 g.2.1,h_ne (λe=>hbn (by rw[hi,e]))];have:=g.2.2;rwa [h_ne (λe=>hbn (by rw[hi,e]))]at this⟩
  ·rw[X6 (by omega) (λe=>by have:=heo.lt i e;omega),hnO];exact hyf i (by omega)
 ·exact⟨λi hi=>by have q:=heo.lt i hi;have e:i≠nb:=λe=>hen (by rw[hi,e]);exact⟨q.1,b8,by rw[h_ne e];have:=q.2.2;rwa [h_ne e]at this⟩,heo.nil⟩
def prC(M:List Md):List DV:=M.map λm=>I64 m.prio
theorem C3r(M:List Md):(prC M).length=M.length:=by unfold prC;rw[A0I]
section
variable {X0:Hp} {eo a b po:Option Nat} {E:List Ent} {P3 P4 V4:DV} {m7 m8:Int} {i i0 k c:Nat} {B1 B2 B3:Blk} {x:Cg} {mk:DV->DV->List DV}
theorem A0y(h:ouH (optH X0 po B1) eo E P3 V4 m7 m8 k=none):k≠8/\eo≠some k/\po≠some k/\X0 k=none:=by
 have g:=A2i h;have hp:po≠some k:=by rintro rfl;have:=g.2.2;simp only[optH]at this;rw[A0]at this;cases this
 exact⟨g.1,g.2.1,hp,by have:=g.2.2;rwa [A8 (λi hi e=>hp (by rw[e];exact hi))]at this⟩
theorem E4o(h:GN (ouH (optH X0 po B1) eo E P3 V4 m7 m8) 2 a b x c)(xf:∀j,2<=j->X0 j=none)(he:∀i,eo=some i->9<=i/\i<c)(hi:c<=i)(h4:9<=c):GN (ouH (optH X0 (some i) B2) eo E P4 V4 m7 m8) 2 a b x (i+1) :=
 ⟨b8,λk hk=>by
  have:=h.ha k hk;have g:=A0y this.2.2;exact⟨this.1,b8,by rw[X6 g.1 g.2.1];simp only[optH];rw[hnO];exact g.2.2.2⟩,λk hk=>by
  have:=h.hb k hk;have g:=A0y this.2.2;exact⟨this.1,b8,by rw[X6 g.1 g.2.1];simp only[optH];rw[hnO];exact g.2.2.2⟩,h.ne,h.an,h.bn,λj hj=>by
  rw[X6 (by omega) (λe=>by have:=he _ e;omega)];simp only[optH];rw[hnO];exact xf j (by omega)⟩
theorem E0m(h:GN (ouH (optH X0 po B1) eo E P3 V4 m7 m8) 2 a b x c)(xf:∀j,2<=j->X0 j=none)(hp:∀i,po=some i->9<=i/\i<c)(he:∀i,eo=some i->9<=i/\i<c/\optH X0 po B1 i=none)(h0:c<=i0)(hi:i0<i)(h4:9<=c):
  Sub (GM (ouH (optH X0 (some i) B2) eo E P4 V4 m7 m8) 2 a b mk x) (((delO ((GM (ouH (optH X0 po B1) eo E P3 V4 m7 m8) 2 a b mk x).upd i0 B3) po).upd i B2).upd 8 (ouB eo E.length P4 V4 m7 m8)):=by
 refine A5p ?_ (λk hk=>?_) (λk hk=>?_) (λj Q hj hQ=>?_)
 ·rw[h_ne (by decide),hnO,A9 (λk hk e=>by have:=hp k hk;omega),hnO,A0c h]
 ·have q:=h.ha k hk;have g:=A0y q.2.2;rw[h_ne g.1,hnO,A9 (λk' hk' e=>g.2.2.1 (by rw[e];exact hk')),hnO,A5q h hk]
 ·have q:=h.hb k hk;have g:=A0y q.2.2;rw[h_ne g.1,hnO,A9 (λk' hk' e=>g.2.2.1 (by rw[e];exact hk')),hnO,A8j hk]
 ·by_cases e3:j=8
  ·subst e3;rw[B5i]at hQ;rw[A0];exact hQ
  by_cases ee:eo=some j
  ·have:=he j ee;subst ee;rw[C6e e3]at hQ;rw[h_ne e3,hnO,A9 (λk' hk' e=>by
    have h2:=this.2.2;subst e hk';simp only[optH]at h2;rw[A0]at h2;cases h2),hnO]
   exact V5 h (by rw[C6e e3];exact hQ) hj
  rw[X6 e3 ee]at hQ;simp only[optH]at hQ;by_cases ei:j=i
  ·subst ei;rw[A0]at hQ;rw[h_ne e3,A0];exact hQ
  rw[h_ne ei]at hQ;have hj2:j<2:=A1S λhc=>by rw[xf j hc]at hQ;cases hQ
  have hjp:po≠some j:=λe=>by have:=hp j e;omega
  rw[h_ne e3,h_ne ei,A9 (λk' hk' e=>hjp (by rw[e];exact hk')),hnO];exact V5 h (by rw[X6 e3 ee,A8 (λk' hk' e=>hjp (by rw[e];exact hk'))];exact hQ) hj
end
theorem c_rcG(r:Ru)(hB:r.sz<4000000)(hv:M8 r=true)(c:Nat)(X0:Hp)(V4:DV)(m7 m8:Int)(Q:Exit->Go.Sym.St->Prop)(hml:r.modes.length<=1000000)(hl:∀md∈r.modes,md.hds.length<=1000000)
  (hv4:V4.one=true) (hh:∀md∈r.modes, ∀h∈md.hds,1<=h.trig/\(h.trig<3->nmR r h.name=0))
  (hb:∀md∈r.modes, ∀h∈md.hds, ∀y,CgB (I0 (nmR r) h.body y)->GC 36 (mkQ r) [F5 h.body] y (I0 (nmR r) h.body y) (.tup []))
  (x0:X0 0=some ⟨0,true,[D0 r.decls,D8 r.modes]⟩) (xf:∀j,2<=j->X0 j=none) (hc4:9<=c)
  (next:∀a b eo po c',GN (ouH (optH X0 po ⟨1,true,prC r.modes⟩) eo (enP (nmR r) (G5 (nmR r) 0 r.modes)) (todoV po r.modes.length) V4 m7 m8) 2 a b (cgP (nmR r) (G5 (nmR r) 0 r.modes)) c' ->
   EoN (optH X0 po ⟨1,true,prC r.modes⟩) eo c' (enP (nmR r) (G5 (nmR r) 0 r.modes)).length->(∀i,po=some i->9<=i)->(po=none->r.modes=[]) ->
   IW Tryz.prog 184 (pz Tryz.prog 17 (.i (.i (.i (.i (.i (.i .h))))))) ⟨tm [(2,.ptr 1 0),(7,.ptr 2 0),(8,.ptr 8 0)],GM (ouH (optH X0 po ⟨1,true,prC r.modes⟩) eo (enP (nmR r) (G5 (nmR r) 0 r.modes)) (todoV po r.modes.length) V4 m7 m8) 2 a b (mkQ r) (cgP (nmR r) (G5 (nmR r) 0 r.modes)),c'⟩ Q) :
  IW Tryz.prog 184 (pz Tryz.prog 17 (.o (.o (.i (.o (.o .h)))))) ⟨tm [(1,.ptr 0 0),(2,.ptr 1 0),(7,.ptr 2 0),(8,.ptr 8 0)],GM (ouH X0 none [] .snil V4 m7 m8) 2 none none (mkQ r) ([],[]),c⟩ Q:=by
 have hF:=λ(m nb c:Nat) (md:Md) (Y:Hp) (a b eo:Option Nat) (P3:DV) (Q:Exit->Go.Sym.St->Prop) (hmd:r.modes[m]? = some md) (hp3:P3.one=true)=>c_rcF r hB hv m nb c md Y a b eo P3 V4 m7 m8 Q hmd (hl md (A0S hmd)) hp3 hv4 (hh md (A0S hmd)) (hb md (A0S hmd));obtain⟨F,hFe⟩:∃F:Nat->List F4,F=λm=>G5 (nmR r) 0 (r.modes.take m):=⟨_,rfl⟩;have hFt:∀m,G5 (nmR r) 0 (r.modes.take m)=F m:=λm=>by rw[hFe]
 have hFl:G5 (nmR r) 0 r.modes=F r.modes.length:=by rw[hFe];dsimp only;rw[A1K]
 have e0:cgP (nmR r) (F 0)=([],[]):=by rw[hFe];rfl
 have e1:enP (nmR r) (F 0)=[]:=by rw[hFe];rfl
 simp only[hFt]at hF;rw[hFl]at next
 have hl2:=hl;clear hFe hFt hFl hh hb hl;generalize nmR r=nm at *;refine wAp ?_;refine B6 (λq:Nat × Option Nat × Option Nat × Option Nat × Option Nat=>[(1,.ptr 0 0),(2,.ptr 1 0),(7,.ptr 2 0),(8,.ptr 8 0),(10,I64 q.1)])
  (λq=>GM (ouH (optH X0 q.2.2.2.2 ⟨1,true,prC (r.modes.take q.1)⟩) q.2.2.2.1 (enP nm (F q.1)) (todoV q.2.2.2.2 q.1) V4 m7 m8) 2 q.2.1 q.2.2.1 (mkQ r) (cgP nm (F q.1)))
  (λq cc=>c<=cc/\q.1<=r.modes.length/\GN (ouH (optH X0 q.2.2.2.2 ⟨1,true,prC (r.modes.take q.1)⟩) q.2.2.2.1 (enP nm (F q.1)) (todoV q.2.2.2.2 q.1) V4 m7 m8) 2 q.2.1 q.2.2.1 (cgP nm (F q.1)) cc/\EoN (optH X0 q.2.2.2.2 ⟨1,true,prC (r.modes.take q.1)⟩) q.2.2.2.1 cc (enP nm (F q.1)).length /\
   (∀i,q.2.2.2.2=some i->9<=i/\i<cc)/\(q.2.2.2.2=none->q.1=0)) (λq=>r.modes.length-q.1) (0,none,none,none,none)
  (by simp[B5,tm,Tm.upd]) (by simp only[optH,e0,e1];exact Sub.refl _) ⟨A0D _,A0N _,by
   simp only[optH,e0,e1];exact⟨b8,λi h=>(by cases h),λi h=>(by cases h),λi j h=>(by cases h),λ_=>rfl,λ_=>rfl,λj hj=>by rw[X6 (by omega) (λe=>by cases e)];exact xf j (by omega)⟩,by
   rw[e1];exact⟨λi h=>(by cases h),λ_=>rfl⟩,λi h=>(by cases h),λ_=>rfl⟩ ?_
 clear e0 e1;rintro⟨m,a,b,eo,po⟩ cc ⟨hc,hm,hN,heo,hpo,hpn⟩;replace hm:m<=r.modes.length:=hm;replace hc:c<=cc:=hc;replace hpo:∀i,po=some i->9<=i/\i<cc:=hpo;replace hpn:po=none->m=0:=hpn;dsimp only at hN heo ⊢;have hX0:ouH (optH X0 po ⟨1,true,prC (r.modes.take m)⟩) eo (enP nm (F m)) (todoV po m) V4 m7 m8 0=some ⟨0,true,[D0 r.decls,D8 r.modes]⟩:=by
  rw[X6 (by decide) (λe=>by have:=(heo.lt _ e).1;omega),A8 (λi hi e=>by have:=(hpo i hi).1;omega)];exact x0
 have hM0:=V5 (mk:=mkQ r) hN hX0 (by decide);by_cases hlt:m<r.modes.length
 rotate_left
 ·have hd:=dfz hlt;obtain rfl:m=r.modes.length:=by omega
  rw[A1K]at hN heo hM0 ⊢;(repeat'((with_reducible first|refine J8 (p:=IW _ _ (pz Tryz.prog 17 (.i (.i (.i (.i (.i (.i .h))))))) _ _) ?_|refine wr ?_|refine B0 ?_ ?_|apply wb2<;>(intro hb;try simp only[hb]))<;>try simp only[go_sem,seval,hd,hM0,A0I]));exact IW.stage (by simp[B5,tm,Tm.upd]) (next a b eo po cc hN heo (λi hi=>(hpo i hi).1) (λe=>A2K.1 (hpn e)))
 have hd:=dtz hlt;have hg:=A0B hlt;have hw:=w64 (n:=(m:Int)+1);have hgm:(r.modes.map Md.v)[m]? = some r.modes[m].v:=v8
 generalize r.modes[m]=md at hg hgm;have hF:=λ(nb c:Nat) (Y:Hp) (a b eo:Option Nat) (P3:DV) (Q:Exit->Go.Sym.St->Prop) (hp3:P3.one=true)=>hF m nb c md Y a b eo P3 Q hg hp3;have hM3:=V5 (mk:=mkQ r) hN B5i (by decide);obtain⟨HH,hHH⟩:∃HH,HH=GM (ouH (optH X0 po ⟨1,true,prC (r.modes.take m)⟩) eo (enP nm (F m)) (todoV po m) V4 m7 m8) 2 a b (mkQ r) (cgP nm (F m)):=⟨_,rfl⟩;have hfr:=λj (hj:cc<=j)=>A8i (mk:=mkQ r) hN hj;have hpb:∀i,po=some i->HH i=some ⟨1,true,prC (r.modes.take m)⟩:=λi hi=>by
  rw[hHH];have q:=hpo i hi;refine V5 hN ?_ (by omega);subst hi;rw[X6 (by omega) (λe=>by have:=(heo.lt _ e).2.2;simp only[optH]at this;rw[A0]at this;cases this)];exact A0
 rw[<- hHH]at hM0 hM3 hfr ⊢;have ne0:=M7 8 0 cc (by omega);refine wA1 hd hM0 hM3 hgm ne0 ?_;refine S8 (D4 (cs:=prC (r.modes.take m)) (λe=>⟨hpn e,by rw[hpn e];rfl⟩) (λi hi=>by rw[h_ne (by have:=hpo i hi;omega)];exact hpb i hi) (by rw[C3r,A0W];omega) (by omega) (by omega) (by omega)) ?_;have dm3:∀X:Hp,delO X po 8=X 8:=λX=>A9 (λi hi e=>by have:=hpo i hi;omega);have ne8:¬ 8=cc+8:=b8
 have ne12:¬ 8=cc+12:=b8
 simp only[go_sem,seval,dm3,hM3,ne8,ne12,A0];have hsn:prC (r.modes.take (m+1))=prC (r.modes.take m)++[I64 md.prio]:=by unfold prC;rw[A0R,hg,A0P];rfl
 obtain⟨i',hi'⟩:∃i',i'=cc+12:=⟨_,rfl⟩;have gz:∀ds,GL (((delO (HH.upd (cc+8) ⟨1,true,[I64 md.prio]⟩) po).upd (cc+12) ⟨1,true,prC (r.modes.take m)++[I64 md.prio]⟩).upd 8 ⟨0,true,[.snil,.snil,todoV eo (enP nm (F m)).length,.slc (cc+12) 0 (m+1),V4,I64 m7,I64 m8]⟩) ds
   (GM (ouH (optH X0 (some i') ⟨1,true,prC (r.modes.take (m+1))⟩) eo (enP nm (F m)) (todoV (some i') (m+1)) V4 m7 m8) 2 a b (mkQ r) (cgP nm (F m))) ds:=λds=>GL.less' (by
    rw[hsn,hHH,hi'];exact E0m hN xf hpo heo.lt (by omega) (by omega) (by omega))
 refine IW.keep [1,2,7,8,10] [.ptr 0 0,.ptr 1 0,.ptr 2 0,.ptr 8 0,I64 m] (gz _) ?_;show IW Tryz.prog _ _ ⟨tm [(1,.ptr 0 0),(2,.ptr 1 0),(7,.ptr 2 0),(8,.ptr 8 0),(10,I64 m)],_,_⟩ _;have hN1:=E4o (B2:=⟨1,true,prC (r.modes.take (m+1))⟩) (P4:=todoV (some i') (m+1)) (i:=i') hN xf (λi hi=>by have:=heo.lt i hi;exact⟨this.1,this.2.1⟩) (by omega) (by omega);have heo1:EoN (optH X0 (some i') ⟨1,true,prC (r.modes.take (m+1))⟩) eo (i'+1) (enP nm (F m)).length:=⟨λi hi=>by
  have q:=heo.lt i hi;exact⟨q.1,b8,by simp only[optH];rw[hnO];exact xf i (by omega)⟩,heo.nil⟩
 have hY2:(optH X0 (some i') ⟨1,true,prC (r.modes.take (m+1))⟩) 2=none:=by simp only[optH];rw[hnO];exact xf 2 (by omega)
 have hYf:∀j,i'+1<=j->(optH X0 (some i') ⟨1,true,prC (r.modes.take (m+1))⟩) j=none:=λj hj=>by simp only[optH];rw[hnO];exact xf j (by omega)
 have hY0:ouH (optH X0 (some i') ⟨1,true,prC (r.modes.take (m+1))⟩) eo (enP nm (F m)) (todoV (some i') (m+1)) V4 m7 m8 0=some ⟨0,true,[D0 r.decls,D8 r.modes]⟩:=by
  rw[X6 (by decide) (λe=>by have:=(heo.lt _ e).1;omega)];simp only[optH];rw[hnO];exact x0
 clear hM0;have hM0:=V5 (mk:=mkQ r) hN1 hY0 (by decide);have hp3:(todoV (some i') (m+1)).one=true:=rfl;clear gz dm3 hM3 hpb hfr hN heo hX0;generalize hY:(optH X0 (some i') ⟨1,true,prC (r.modes.take (m+1))⟩)=Y at *;generalize hP3:todoV (some i') (m+1)=P3 at *;have hln:=hl2 md (A0S hg);have hms:C6n 1 8 [DV.int .i64 0] (.int .i64 (md.hds.length:Int)) (.int .i64 (md.hds.length:Int))=some (some md.hds.length,⟨1,true,List.replicate md.hds.length (I64 0)⟩):=by rw[<- C6s];exact E4b (by omega) (by omega) rfl rfl
 have hyn:Y (i'+1)=none:=hYf _ (A0D _);have hen:eo≠some (i'+1):=λe=>by have:=(heo1.lt _ e).2.1;omega
 have hcm:=hN1.com (mk:=mkQ r) (B:=⟨1,true,List.replicate md.hds.length (I64 0)⟩) (A0D _);rw[B0v (by omega) hen]at hcm;have hN2:=hN1.box (c':=i'+2) (B:=⟨1,true,List.replicate md.hds.length (I64 0)⟩) (A0D _) (by omega);rw[B0v (by omega) hen]at hN2;rw[<- hi'];(repeat'((with_reducible first|refine J8 (p:=IW _ _ (pz Tryz.prog 17 (.i (.i (.i (.o (.i .h)))))) _ _) ?_|refine wr ?_|refine B0 ?_ ?_|apply wb2<;>(intro hb;try simp only[hb]))<;>try simp only[go_sem,seval,hM0,hgm,hms,hcm,A0I]));refine IW.stage (L:=B2r m md.hds (i'+1)) (by simp[B5,tm,Tm.upd]) (hF (i'+1) (i'+2) Y a b eo P3 _ hp3 hyn (by omega) (by omega) (λj hj=>hYf j (by omega)) hY2 hN2 ⟨λi hi=>by have q:=heo1.lt i hi;exact⟨q.1,b8,by rw[hnO];exact q.2.2⟩,heo1.nil⟩ ?_);intro B a2 b2 eo2 c2 hc2 hN3 heo3 T hT;refine IW.weaken (B6s hT) (Sub.refl _) ?_;refine wAs hw ?_;have hen3:eo2≠some (i'+1):=λe=>by have:=(heo3.lt _ e).2.2;rw[A0]at this;cases this
 rw[<- B0v (by omega) hen3]at hN3;have hon:ouH Y eo2 (enP nm (F (m+1))) P3 V4 m7 m8 (i'+1)=none:=by rw[X6 (by omega) hen3];exact hyn
 have hdr:=L6 (mk:=mkQ r) hon (by omega) hN3;rw[B0v (by omega) hen3]at hdr;have hun:=hN3.unbox hon (A0D _) (λj hj=>by
  by_cases e:eo2=some j
  ·have:=(heo3.lt _ e).2.1;omega
  ·rw[X6 (by omega) e];exact hYf j (by omega))
 subst hY hP3;refine⟨(m+1,a2,b2,eo2,some i'),b9,?_,inv ⟨b8,hlt,?_,?_,λi hi=>by cases hi;exact⟨b8,by omega⟩,λe=>by cases e⟩,by simp only;omega⟩
 ·exact hdr
 ·exact hun
 ·dsimp only;exact⟨λi hi=>by
   have q:=heo3.lt i hi;have e:i≠i'+1:=by rintro rfl;have:=q.2.2;rw[A0]at this;cases this
   exact⟨q.1,q.2.1,by have:=q.2.2;rwa [h_ne e]at this⟩,heo3.nil⟩
end Go.Proofs.YtdclpmddofggcaaGreatDoor
end
