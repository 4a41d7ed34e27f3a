/-
  HELPERS of the claim: part 8 of its texts.
-/
import Derived.Test.YtkkjpohaffjecaaGreatDoorCmxg
import Derived.Test.YtkkjpohaffjecaaGreatDoorRows
import Derived.Test.YtkkjpohaffjecaaGreatDoorProg
noncomputable section
set_option maxHeartbeats 8000000
set_option maxRecDepth 100000
set_option linter.unusedSimpArgs false
set_option linter.unusedVariables false
namespace Go.Proofs.YtkkjpohaffjecaaGreatDoor
open Go.Eng (IC IOper DReg IFn J0)
open Go.Sym Go.Pb
theorem C4e{H:Hp}{a b:Bool}(h:a=b):∃ H2,GL H [.bool a] H2 [.bool b]:=⟨H,by rw[h];exact GL.refl _ _⟩
theorem B1a{b1 b2 b3:Blk}{cc:Nat}(u:Unit)(h:1<=cc):Sym.Sub (Sym.nil.upd 0 b1) (((Sym.nil.upd 0 b1).upd cc b2).upd cc b3):=by
 intro j b hj;simp only[Hp.upd,Sym.nil]at hj ⊢;split at hj
 ·rename_i h0;rw[if_neg (by omega),if_neg (by omega),if_pos h0];exact hj
 ·cases hj
theorem c_levS(k:Int):PC Tryz.prog 227 [I64 k] (I64 (B0 k)):=by
 refine PC.go A4 ?_;repeat' ((with_reducible first|refine wr ?_|refine wb2 ?_ ?_<;>(intro hb;try simp only[hb])|fail)<;>try simp only[go_sem,seval])
 all_goals refine A6 (congrArg I64 ?_)
 all_goals simp_all[B0]
 all_goals omega
theorem c_namedS(k:Int):PC Tryz.prog 231 [I64 k] (.bool (B1z k)):=by
 refine PC.go A4 ?_;repeat' ((with_reducible first|refine wr ?_|refine wb2 ?_ ?_<;>(intro hb;try simp only[hb])|fail)<;>try simp only[go_sem,seval])
 all_goals refine A6 (congrArg DV.bool ?_)
 all_goals (cases h5:k == 5<;>cases h6:k == 6<;>cases h7:k == 7<;>simp_all[B1z])
theorem c_wrapped(e x:Ex)(i:Nat)(h:e.args[i]? = some x)(hi:i<=1):PC Tryz.prog 226 [e.v,I64 i] (.bool (V5 e.kind x.kind i)):=by
 refine PC.go A4 ?_;rw[Ex.v_w];have h1:=c_levS e.kind;have h2:=c_levS x.kind;repeat' ((with_reducible first|refine wr ?_|refine cpc h1 ?_|refine cpc h2 ?_|refine wb2 ?_ ?_<;>(intro hb;try simp only[hb])|fail)<;>try simp only[go_sem,seval,h,Ex.v_w])
 all_goals refine C4e ?_
 all_goals unfold V5
 all_goals (cases hi1:i == 1<;>cases h3:B0 e.kind == 3<;>simp_all)
 all_goals omega
theorem c_measure:∀ (m:Nat) (e:Ex),e.sz<m->e.sz<=100000000->PC Tryz.prog 224 [e.v] (msV (msM e)):=by
 intro m
 induction m with
 |zero=>intro e h;omega
 |succ m ih =>
 intro e hm hB;have hnl:=e.sz_name;have hx:∀ x∈e.args,PC Tryz.prog 224 [x.v] (msV (msM x)):=fun x hx=>ih x (by have:=Ex.sz_arg hx;omega) (by have:=Ex.sz_arg hx;omega);have hwr:∀ (x:Ex) (i:Nat),e.args[i]? = some x->i<=1->PC Tryz.prog 226 [e.w,I64 i] (.bool (V5 e.kind x.kind i)):=fun x i h hi=>by have:=c_wrapped e x i h hi;rwa [Ex.v_w]at this
 refine PC.ofT A4 rfl (A0B rfl) (by simp[DV.nlL,Ex.nl]) (C9t _) ?_;rw[Ex.v_w];obtain⟨R,hR⟩:∃ R,R=msV (msM e):=⟨_,rfl⟩;rw[<- hR];have hle:=B3t e.kind 0 e.args;have hal:Ex.szs e.args<e.sz:=by cases e with|mk k v n a p=>rw[Ex.sz];show Ex.szs a<_;omega
 have hargs:∀ x∈e.args,x.sz<=Ex.szs e.args:=fun x hx=>Ex.szs_mem hx;cases e with|mk k v n a p =>
 rw[msM]at hR;dsimp only[Ex.w,Ex.kind,Ex.value,Ex.name,Ex.args,Ex.pos]at hx hwr hle hal hargs hnl ⊢;have hl:=c_levS k;have hnk:=c_namedS k;have hin:=c_IsName n (by omega);have none0:kOk k=false\/a.length≠H8 k\/A1o k n=false\/A2a k v=false->R=.tup [I64 0,I64 0,.bool false]:=fun h=>by rw[hR,if_pos h];rfl
 have ci:((H8 k:Nat):Int)<=2:=by unfold H8;(repeat' split)<;>decide
 have kA:∀ nm vl:Bool,A1o k n=nm->A2a k v=vl->kOk k=true->IW Tryz.prog 113 (pz Tryz.prog 224 (.o (.i (.o (.o (.o .h)))))) ⟨tm [(1,.ptr 0 0),(2,I64 0),(3,I64 0),(5,I64 (H8 k)),(7,.bool nm),(8,.bool vl)],Sym.nil.upd 0 ⟨0,true,[I64 k,I64 v,.str n,F7 a,I64 p]⟩,1⟩ (rt [.tmp 2,.tmp 3,.tmp 4] fun v H' x => ∃ H2,GL H' [v] H2 [R]):=by
  intro nm vl hnm hvl hkk;by_cases hlen:a.length=H8 k
  ·have d0:((a.length:Int) != (H8 k:Int))=false:=by simp[hlen]
   cases nm with
   |false =>
    repeat' (apply wr<;>try simp only[go_sem,seval,d0])
    exact A6 (none0 (.inr (.inr (.inl hnm)))).symm
   |true =>
    cases vl with
    |false =>
     repeat' (apply wr<;>try simp only[go_sem,seval,d0])
     exact A6 (none0 (.inr (.inr (.inr hvl)))).symm
    |true =>
     rw[if_neg (by simp[hkk,hnm,hvl,hlen])]at hR;by_cases hc0:H8 k=0
     ·have d1:((H8 k:Int) == 0)=true:=by simp[hc0]
      rw[if_pos hc0]at hR;repeat' (apply wr<;>try simp only[go_sem,seval,d0,d1])
      exact A6 hR.symm
     ·have d1:((H8 k:Int) == 0)=false:=by simp[hc0]
      rw[if_neg hc0]at hR;repeat' (apply wr<;>try simp only[go_sem,seval,d0,d1])
      have hl2:a.length<=2:=by omega
      refine C1 (fun q:Nat × Nat × Nat=>[(1,.ptr 0 0),(5,I64 (H8 k)),(80,F7 a),(81,I64 a.length),(82,I64 q.1),(2,I64 q.2.1),(3,I64 q.2.2)]) (fun _=>Sym.nil.upd 0 ⟨0,true,[I64 k,I64 v,.str n,F7 a,I64 p]⟩)
       (fun q cc=>1<=cc/\q.1<=a.length/\q.2.1<=q.1 * 1000000000/\q.2.2<=1000000000/\msL k 0 a=(match msL k q.1 (a.drop q.1) with
        |none=>none
        |some (o2,d2)=>some (q.2.1+o2,max q.2.2 d2))) (fun q=>a.length-q.1) (0,0,0) (by simp[C6,tm,Tm.upd]) (Sub.refl _)
       ⟨A0G _,A0O _,A0O _,A0O _,by
        rw[A2Y];cases msL k 0 a with
        |none=>rfl
        |some q=>obtain⟨o2,d2⟩:=q;simp⟩ ?_
      rintro⟨i,o,d⟩ cc ⟨h1c,hk,ho,hd3,he⟩;dsimp only at hk ho hd3 he ⊢;by_cases hlt:i<a.length
      ·have hd:=dtz hlt;have hg:=A0C hlt;have hw:=w64 (n:=(i:Int)+1);rw[C0s hg]at he;have hmx:=hx _ (A0Q hlt);have hax:=hargs _ (A0Q hlt);have hwx:=hwr _ i hg (by omega);have hms:=C6p a[i];generalize a[i]=x at hg he hmx hax hwx hms;rw[Ex.v_w]at hmx;have hwx:PC Tryz.prog 226 [DV.agg [I64 k,I64 v,DV.str n,F7 a,I64 p],I64 i] (.bool (V5 k x.kind i)):=hwx;have ne0:=R3 0 cc (by omega);cases hq:msM x with
       |none =>
        rw[hq]at he hmx;dsimp only[msV]at he hmx;rw[he]at hR;repeat' ((with_reducible first|apply wr|refine cpc hmx ?_|fail)<;>try simp only[go_sem,seval,hd,hg,Ex.v_w])
        exact A6 hR.symm
       |some qq =>
        obtain⟨o1,d1'⟩:=qq;rw[hq]at he hmx;dsimp only[msV]at he hmx;have:=hms o1 d1' hq;have w1:=w64 (n:=(o:Int)+(o1:Int));have w2:=w64 (n:=(d1':Int)+1);cases hwb:V5 k x.kind i with
        |true =>
         rw[hwb]at he;repeat' ((with_reducible first|apply wr|refine cpc hmx ?_|refine cpc hwx ?_|fail)<;>try simp only[go_sem,seval,hd,hg,hw,Ex.v_w,ne0,hwb,w1,w2])
         all_goals (refine⟨(i+1,o+o1,max d (d1'+1)),⟨by simp,by simp,?_⟩,?_,inv ⟨by omega,by simp only;omega,by simp only;omega,by simp only;omega,?_⟩,by simp only;omega⟩)
         all_goals first
          |(refine congrArg I64 ?_;dsimp only;split<;>omega)
          |exact B1a () h1c
          |(rw[he];dsimp only;cases msL k (i+1) (a.drop (i+1)) with
           |none=>rfl
           |some q=>obtain⟨o2,d2⟩:=q;simp[A2Q,Nat.max_assoc])
        |false =>
         rw[hwb]at he;repeat' ((with_reducible first|apply wr|refine cpc hmx ?_|refine cpc hwx ?_|fail)<;>try simp only[go_sem,seval,hd,hg,hw,Ex.v_w,ne0,hwb,w1])
         all_goals (refine⟨(i+1,o+o1,max d (d1')),⟨by simp,by simp,?_⟩,?_,inv ⟨by omega,by simp only;omega,by simp only;omega,by simp only;omega,?_⟩,by simp only;omega⟩)
         all_goals first
          |(refine congrArg I64 ?_;dsimp only;split<;>omega)
          |exact B1a () h1c
          |(rw[he];dsimp only;cases msL k (i+1) (a.drop (i+1)) with
           |none=>rfl
           |some q=>obtain⟨o2,d2⟩:=q;simp[A2Q,Nat.max_assoc])
      ·have hd:=dfz hlt;rw[A2J (by omega)]at he;have w1:=w64 (n:=(d:Int)+1);by_cases hc1:H8 k=1
       ·have e1:((H8 k:Int) == 1)=true:=by simp[hc1]
        rw[he,hc1]at hR;repeat' (apply wr<;>try simp only[go_sem,seval,hd,e1,w1])
        refine A6 ?_;rw[hR];simp[msV,msL]
       ·have e1:((H8 k:Int) == 1)=false:=by simp;omega
        rw[he]at hR;simp only[if_neg hc1]at hR;repeat' (apply wr<;>try simp only[go_sem,seval,hd,e1])
        refine A6 ?_;rw[hR];simp[msV,msL]
  ·have d0:((a.length:Int) != (H8 k:Int))=true:=by simp;omega
   repeat' (apply wr<;>try simp only[go_sem,seval,d0])
   exact A6 (none0 (.inr (.inl hlen))).symm
 have kB:∀ nm:Bool,A1o k n=nm->kOk k=true->IW Tryz.prog 113 (pz Tryz.prog 224 (.o (.o (.o (.o (.o .h)))))) ⟨tm [(1,.ptr 0 0),(2,I64 0),(3,I64 0),(5,I64 (H8 k)),(7,.bool nm)],Sym.nil.upd 0 ⟨0,true,[I64 k,I64 v,.str n,F7 a,I64 p]⟩,1⟩ (rt [.tmp 2,.tmp 3,.tmp 4] fun v H' x => ∃ H2,GL H' [v] H2 [R]):=by
  intro nm hnm hkk;repeat' ((with_reducible first|refine G0 (p:=IW _ _ (pz Tryz.prog 224 (.o (.i (.o (.o (.o .h)))))) _ _) ?_|refine wr ?_|refine wb2 ?_ ?_<;>(intro hb;try simp only[hb])|fail)<;>try simp only[go_sem,seval])
  all_goals refine IW.stage (L:=[(1,.ptr 0 0),(2,I64 0),(3,I64 0),(5,I64 (H8 k)),(7,.bool nm),(8,.bool (A2a k v))]) ?_ (kA nm _ hnm rfl hkk)
  all_goals simp_all[C6,tm,Tm.upd,A2a]
  all_goals omega
 have kC:kOk k=true->IW Tryz.prog 113 (pz Tryz.prog 224 (.o (.o (.o (.i .h))))) ⟨tm [(1,.ptr 0 0),(2,I64 0),(3,I64 0),(5,I64 (H8 k))],Sym.nil.upd 0 ⟨0,true,[I64 k,I64 v,.str n,F7 a,I64 p]⟩,1⟩ (rt [.tmp 2,.tmp 3,.tmp 4] fun v H' x => ∃ H2,GL H' [v] H2 [R]):=by
  intro hkk;repeat' ((with_reducible first|refine G0 (p:=IW _ _ (pz Tryz.prog 224 (.o (.o (.o (.o (.o .h)))))) _ _) ?_|refine wr ?_|refine cpc hnk ?_|refine cpc hin ?_|refine wb2 ?_ ?_<;>(intro hb;try simp only[hb])|fail)<;>try simp only[go_sem,seval])
  all_goals refine IW.stage (L:=[(1,.ptr 0 0),(2,I64 0),(3,I64 0),(5,I64 (H8 k)),(7,.bool (A1o k n))]) ?_ (kB _ rfl hkk)
  all_goals simp_all[C6,tm,Tm.upd,A1o]
 by_cases l6:B0 k=6
 ·have m6:(B0 k == 6)=true:=by simpa using l6
  repeat' ((with_reducible first|refine G0 (p:=IW _ _ (pz Tryz.prog 224 (.o (.o (.o (.i .h))))) _ _) ?_|refine wr ?_|refine cpc hl ?_|fail)<;>try simp only[go_sem,seval,m6])
  refine IW.stage ?_ (kC (by simp[kOk];left;omega));simp[C6,tm,Tm.upd,H8,l6]
 have m6:(B0 k == 6)=false:=by simpa using l6
 by_cases l5:B0 k<6
 ·have m5:decide (B0 k<6)=true:=by simpa using l5
  repeat' ((with_reducible first|refine G0 (p:=IW _ _ (pz Tryz.prog 224 (.o (.o (.o (.i .h))))) _ _) ?_|refine wr ?_|refine cpc hl ?_|fail)<;>try simp only[go_sem,seval,m6,m5])
  refine IW.stage ?_ (kC (by simp[kOk];left;omega));simp[C6,tm,Tm.upd,H8,l6,l5]
 have m5:decide (B0 k<6)=false:=by simpa using l5
 repeat' ((with_reducible first|refine G0 (p:=IW _ _ (pz Tryz.prog 224 (.o (.o (.o (.i .h))))) _ _) ?_|refine wr ?_|refine cpc hl ?_|refine wb2 ?_ ?_<;>(intro hb;try simp only[hb])|fail)<;>try simp only[go_sem,seval,m6,m5])
 all_goals first
  |(refine IW.stage ?_ (kC (by simp_all[kOk]<;>omega));simp[C6,tm,Tm.upd,H8,l6,l5];done)
  |(refine A6 (none0 (.inl ?_)).symm;simp_all[kOk]<;>omega)
theorem c_ValidExpr(e:Ex)(hB:e.sz<=100000000):PC Tryz.prog 153 [e.v] (.bool (L0 e)):=by
 refine PC.go A4 ?_;have hm:=c_measure _ e (A1Y _) hB;unfold L0;rw[Ex.v_w]at hm ⊢;cases hq:msM e with
 |none =>
  rw[hq]at hm;dsimp only[msV]at hm;repeat' ((with_reducible first|apply wr|refine cpc hm ?_|fail)<;>try simp only[go_sem,seval])
  all_goals exact A6 rfl
 |some q =>
  obtain⟨o,d⟩:=q;rw[hq]at hm;dsimp only[msV]at hm;repeat' ((with_reducible first|refine wr ?_|refine cpc hm ?_|refine wb2 ?_ ?_<;>(intro hb;try simp only[hb])|fail)<;>try simp only[go_sem,seval])
  all_goals (refine A6 (congrArg DV.bool ?_);by_cases h1:o<=32<;>by_cases h2:d<=16<;>simp_all<;>omega)
end Go.Proofs.YtkkjpohaffjecaaGreatDoor
namespace Go.Pb
open Go.Sym
def Shp.v(s:Shp):DV:=.agg [.bool s.name,.bool s.text,I64 s.args,.bool s.thn,.bool s.els]
end Go.Pb
namespace Go.Proofs.YtkkjpohaffjecaaGreatDoor
open Go.Eng (IC IOper DReg IFn J0)
open Go.Sym Go.Pb
def C5c(k:Int):Bool:=decide (1<=k) && decide (k<=19)
theorem c_shapeOf(k:Int):PC Tryz.prog 210 [I64 k] (.tup [(K4 k).v,.bool (C5c k)]):=by
 refine PC.go A4 ?_;repeat' ((with_reducible first|refine wr ?_|refine wb2 ?_ ?_<;>(intro hb;try simp only[hb])|fail)<;>try simp only[go_sem,seval])
 all_goals refine A6 ?_
 all_goals simp_all[K4,C5c,Shp.v,Tm.upd]
 all_goals omega
theorem c_isText(s:List UInt8)(hs:s.length<=1000000000):PC Tryz.prog 271 [.str s] (.bool (Q6 s)):=by
 refine PC.go A4 ?_;repeat' (apply wr<;>try simp only[go_sem,seval])
 refine C1 (fun k:Nat=>[(0,.str s),(3,I64 k)]) (fun _=>Sym.nil) (fun k _=>k<=s.length/\(s.take k).all txB=true) (fun k=>s.length-k) 0 (by simp[C6,tm,Tm.upd]) (Sub.refl _) ⟨A0O _,rfl⟩ ?_;rintro k cc ⟨hk,he⟩;by_cases hlt:k<s.length
 ·have hd:=dtz hlt;have hg:=A0C hlt;have hw:=w64 (n:=(k:Int)+1);generalize s[k]=x at hg;have hx:txB x=(decide (32<=x.toNat) && decide (x.toNat<=126)):=rfl;repeat' ((with_reducible first|refine wr ?_|refine wb2 ?_ ?_<;>(intro hb;try simp only[hb])|fail)<;>try simp only[go_sem,seval,hd,hg,hw])
  ·refine A6 (congrArg DV.bool ?_);have:=A3h txB s k _ hg (by simp_all<;>omega);simp[Q6,this]
  ·refine A6 (congrArg DV.bool ?_);have:=A3h txB s k _ hg (by simp_all<;>omega);simp[Q6,this]
  ·exact⟨k+1,rfl,Sub.refl _,inv ⟨by omega,by rw[A0w txB s k _ hg,he];simp_all<;>omega⟩,by omega⟩
 have hd:=dfz hlt;have hall:=A7l txB s k (by omega) he;repeat' (apply wr<;>try simp only[go_sem,seval,hd])
 refine A6 (congrArg DV.bool ?_);simp[Q6,hall];omega
theorem c_validDecl(d:Dc)(hB:d.name.length<=1000000000):PC Tryz.prog 66 [d.v] (.bool (A0x d)):=by
 refine PC.go A4 ?_;have hn:=c_IsName d.name hB;repeat' ((with_reducible first|refine wr ?_|refine cpc hn ?_|refine wb2 ?_ ?_<;>(intro hb;try simp only[hb])|fail)<;>try simp only[go_sem,seval])
 all_goals (refine A6 (congrArg DV.bool ?_);simp_all[A0x]<;>omega)
theorem c_vS1(e:Ex)(hB:e.sz<=100000000):PC Tryz.prog 270 [e.v] (.bool (!L0 e)):=by
 refine PC.go A4 ?_;have h:=c_ValidExpr e hB;rw[Ex.v_w]at h ⊢;repeat' ((with_reducible first|apply wr|refine cpc h ?_|fail)<;>try simp only[go_sem,seval])
 exact A6 rfl
theorem C7o(d:Nat)(s:Pb.St):S0 d s=(C5c s.kind && (s.args.length == (K4 s.kind).args && s.args.all L0) &&
   ((if (K4 s.kind).name=true then D0 s.name else s.name == []) && (if (K4 s.kind).text=true then Q6 s.text else s.text == [])) &&
   (((K4 s.kind).thn || s.thn.isEmpty) && ((K4 s.kind).els || s.els.isEmpty)) && (L8 s.thn (d+1) && L8 s.els (d+1))):=by
 cases s with|mk k n t a x y p=>rw[S0];rfl
theorem B0m{α : Type}(g : α -> Bool)(l:List α):l.any (fun x => !g x) = !l.all g:=by
 induction l with
 |nil=>rfl
 |cons x l ih=>rw[List.any_cons,A1X,ih,Bool.not_and]
theorem c_vSt(s:Pb.St)(d:Nat)(hd:d<=1000000000)(hB:s.sz<=100000000)(hX:PC Tryz.prog 135 [H3 s.thn,I64 (d+1:Nat)] (.bool (L8 s.thn (d+1))))(hY:PC Tryz.prog 135 [H3 s.els,I64 (d+1:Nat)] (.bool (L8 s.els (d+1)))):
  PC Tryz.prog 204 [s.v,I64 d] (.bool (S0 d s)):=by
 rw[C7o];have hsa:Ex.szs s.args<s.sz:=by cases s with|mk k n t a x y p=>rw[Pb.St.sz];show Ex.szs a<_;omega
 have hal:=Ex.szs_len s.args;have hxl:=Pb.St.szs_len s.thn;have hyl:=Pb.St.szs_len s.els;have hxs:=s.sz_thn;have hys:=s.sz_els;have hnl:=s.sz_name;have htl:=s.sz_text;have hn:=c_IsName s.name (by omega);have ht:=c_isText s.text (by omega);have hsh:=c_shapeOf s.kind;have hca:=c_CF_ex (f:=270) (a:=[]) (cs:=[]) (g:=fun e => !L0 e) s.args (by omega) rfl rfl (fun x hx=>c_vS1 x (by have:=Ex.szs_mem hx;omega));rw[B0m]at hca;have hw:=w64 (n:=(d:Int)+1);refine PC.ofT A4 rfl (A0B rfl) (by rw[Pb.St.v_w];simp[DV.nlL,DV.nl,Y2,Y1]) rfl ?_;cases s with|mk k n t a x y p =>
 dsimp only[Pb.St.kind,Pb.St.name,Pb.St.text,Pb.St.args,Pb.St.thn,Pb.St.els,Pb.St.pos]at *;have hX:PC Tryz.prog 135 [H3 x,I64 ((d:Int)+1)] (.bool (L8 x (d+1))):=hX;have hY:PC Tryz.prog 135 [H3 y,I64 ((d:Int)+1)] (.bool (L8 y (d+1))):=hY;have ev:(Pb.St.mk k n t a x y p).v=.agg [I64 k,.str n,.str t,F7 a,H3 x,H3 y,I64 p]:=Pb.St.v_w _;rw[ev];generalize L8 x (d+1)=bx at *;generalize L8 y (d+1)=bY at *;generalize C5c k=kb at *;obtain⟨nb,tb,ar,xb,yb,hs⟩:∃ nb tb ar xb yb,K4 k=⟨nb,tb,ar,xb,yb⟩:=⟨_,_,_,_,_,rfl⟩;simp only[hs,Shp.v]at hsh ⊢;have kA:∀ (cc:Nat) (nm tx:Bool),IW Tryz.prog 86 (pz Tryz.prog 204 (.i (.i (.o (.i .h))))) ⟨tm [(1,I64 d),(2,.ptr 0 0),(5,.ptr 1 0),(7,.bool nm),(8,.bool tx)],(Sym.nil.upd 0 ⟨0,true,[I64 k,.str n,.str t,F7 a,H3 x,H3 y,I64 p]⟩).upd 1 ⟨0,true,[.bool nb,.bool tb,I64 ar,.bool xb,.bool yb]⟩,cc⟩ (rt [.tmp 4] fun v H' c => ∃ H2,GL H' [v] H2 [.bool ((nm && tx) && ((xb || x.isEmpty) && (yb || y.isEmpty)) && (bx && bY))]):=by
  intro cc nm tx;have ex:x.isEmpty = !decide ((x.length:Int)>0):=by cases x<;>simp
  have ey:y.isEmpty = !decide ((y.length:Int)>0):=by cases y<;>simp
  rw[ex,ey];cases nm with
  |false =>
   repeat' (apply wr<;>try simp only[go_sem,seval])
   exact A6 (by simp)
  |true =>
  cases tx with
  |false =>
   repeat' (apply wr<;>try simp only[go_sem,seval])
   exact A6 (by simp)
  |true =>
  generalize hlx:decide ((x.length:Int)>0)=lx at *;generalize hly:decide ((y.length:Int)>0)=ly at *;cases bx<;>cases bY<;>cases xb<;>cases lx<;>cases yb<;>cases ly;all_goals (repeat' ((with_reducible first|apply wr|refine cpc hX ?_|refine cpc hY ?_|fail)<;>try simp only[go_sem,seval,hlx,hly,hw,A0F]))
  all_goals exact A6 rfl
 have kB:∀ cc:Nat,IW Tryz.prog 86 (pz Tryz.prog 204 (.i (.i (.i .h)))) ⟨tm [(1,I64 d),(2,.ptr 0 0),(5,.ptr 1 0),(7,.bool (n == [])),(8,.bool (t == []))],(Sym.nil.upd 0 ⟨0,true,[I64 k,.str n,.str t,F7 a,H3 x,H3 y,I64 p]⟩).upd 1 ⟨0,true,[.bool nb,.bool tb,I64 ar,.bool xb,.bool yb]⟩,cc⟩ (rt [.tmp 4] fun v H' c => ∃ H2,GL H' [v] H2 [.bool (((if nb=true then D0 n else n == []) && (if tb=true then Q6 t else t == [])) && ((xb || x.isEmpty) && (yb || y.isEmpty)) && (bx && bY))]):=by
  intro cc;cases nb<;>cases tb;all_goals (repeat' ((with_reducible first|refine G0 (p:=IW _ _ (pz Tryz.prog 204 (.i (.i (.o (.i .h))))) _ _) ?_|refine wr ?_|refine cpc hn ?_|refine cpc ht ?_|fail)<;>try simp only[go_sem,seval]))
  all_goals (refine IW.stage ?_ (kA _ _ _);simp[C6,tm,Tm.upd])
 cases kb with
 |false =>
  repeat' ((with_reducible first|apply wr|refine cpc hsh ?_|fail)<;>try simp only[go_sem,seval])
  exact A6 (by simp)
 |true =>
 by_cases hal2:a.length=ar
 ·have d0:((a.length:Int) != (ar:Int))=false:=by simp[hal2]
  cases hall:a.all L0 with
  |false =>
   rw[hall]at hca;repeat' ((with_reducible first|apply wr|refine cpc hsh ?_|refine cpc hca ?_|fail)<;>try simp only[go_sem,seval,d0,A0F])
   exact A6 (by simp)
  |true =>
   rw[hall]at hca;have e1:(a.length == ar)=true:=by simpa using hal2
   rw[e1];simp only[A1S];repeat' ((with_reducible first|refine G0 (p:=IW _ _ (pz Tryz.prog 204 (.i (.i (.i .h)))) _ _) ?_|refine wr ?_|refine cpc hsh ?_|refine cpc hca ?_|fail)<;>try simp only[go_sem,seval,d0,A0F,A1])
   refine IW.stage (L:=[(1,I64 d),(2,.ptr 0 0),(5,.ptr 1 0),(7,.bool (n == [])),(8,.bool (t == []))]) ?_ (kB _);simp[C6,tm,Tm.upd]
 ·have d0:((a.length:Int) != (ar:Int))=true:=by simp;omega
  repeat' ((with_reducible first|apply wr|refine cpc hsh ?_|fail)<;>try simp only[go_sem,seval,d0,A0F])
  exact A6 (by simp;omega)
theorem c_vB1(s:Pb.St)(d:Nat)(h:PC Tryz.prog 204 [s.v,I64 d] (.bool (S0 d s))):PC Tryz.prog 203 [s.v,.fptr [I64 d]] (.bool (!S0 d s)):=by
 rw[Pb.St.v_w]at h ⊢;refine PC.go A4 ?_;repeat' ((with_reducible first|apply wr|refine cpc h ?_|fail)<;>try simp only[go_sem,seval])
 exact A6 rfl
theorem A7x(d:Nat):∀ l:List Pb.St,K0 d l=l.all (S0 d)
 |[]=>by rw[K0];rfl
 |s :: l=>by rw[K0,A7x d l];rfl
theorem c_validBlock:∀ (m:Nat) (l:List Pb.St) (d:Nat),Pb.St.szs l<m->Pb.St.szs l<=100000000->d+Pb.St.szs l<=1000000000->PC Tryz.prog 135 [H3 l,I64 d] (.bool (L8 l d)):=by
 intro m
 induction m with
 |zero=>intro l d h;omega
 |succ m ih =>
 intro l d hm hB hd;have hl:=Pb.St.szs_len l;have hcf:=c_CF_st (f:=203) (a:=[]) (cs:=[.fptr [I64 d]]) (g:=fun s => !S0 d s) l (by omega) rfl rfl (fun s hs=>by
  have h1:=Pb.St.szs_mem hs;have h2:=s.sz_thn;have h3:=s.sz_els;exact c_vB1 s d (c_vSt s d (by omega) (by omega) (ih _ _ (by omega) (by omega) (by omega)) (ih _ _ (by omega) (by omega) (by omega))))
 rw[B0m, <- A7x]at hcf;refine PC.go A4 ?_;have el:l.isEmpty = !decide ((l.length:Int)>0):=by cases l<;>simp
 have e64:decide (l.length<=64) = !decide ((l.length:Int)>64):=by rw[<- decide_not];exact decide_eq_decide.2 (by omega)
 have e8:decide (d<=8) = !decide ((d:Int)>8):=by rw[<- decide_not];exact decide_eq_decide.2 (by omega)
 unfold L8;rw[el,e64,e8];repeat' ((first|(with_reducible first|refine wr ?_)|(with_reducible refine wb2 ?_ ?_<;>(intro hb;try simp only[hb]))|(refine AC.call (hcf.lend rfl (GL.one (id:=0) (b:=⟨0,true,[I64 d]⟩) rfl rfl (.cons _ _ _ _ (.same _) (.cons _ _ _ _ (.func _ _ _ _ _ .nil (.cons _ _ _ _ (.ptr 0 _ (A0O _) rfl) .nil)) .nil)))) ?_<;>rintro v H' c' ⟨rfl,rfl,rfl⟩ hcc)|fail)<;>try simp only[go_sem,seval,A0F])
 all_goals (refine A6 (congrArg DV.bool ?_);simp_all)
theorem c_validHd(h:Hd)(hB:Pb.St.szs h.body<=100000000):PC Tryz.prog 135 [H3 h.body,I64 1] (.bool (L8 h.body 1)) :=
 c_validBlock _ h.body 1 (A1Y _) hB (by omega)
theorem D3p(h:Hd):h.v=.agg [I64 h.trig,.str h.name,H3 h.body,I64 h.pos]:=rfl
theorem c_validMode(d:Md)(hB:d.sz<=100000000):PC Tryz.prog 69 [d.v] (.bool (U0 d)):=by
 have hsz:d.sz=1+d.name.length+(d.hds.map Hd.sz).sum:=rfl;have hhl:d.hds.length<=(d.hds.map Hd.sz).sum:=G3 fun x _=>by show 1<=1+_+_;omega
 have hn:=c_IsName d.name (by omega);refine PC.go A4 ?_;have ev:d.v=.agg [.str d.name,I64 d.prio,A0z d.hds,I64 d.pos]:=rfl;rw[ev];cases hnm:D0 d.name with
 |false =>
  rw[hnm]at hn;repeat' ((with_reducible first|apply wr|refine cpc hn ?_|fail)<;>try simp only[go_sem,seval])
  exact A6 (by simp[U0,hnm])
 |true =>
 rw[hnm]at hn;by_cases p0:d.prio<0
 ·have q0:decide (d.prio<0)=true:=by simpa using p0
  repeat' ((with_reducible first|apply wr|refine cpc hn ?_|fail)<;>try simp only[go_sem,seval,q0])
  exact A6 (by simp[U0,hnm];omega)
 have q0:decide (d.prio<0)=false:=by simpa using p0
 by_cases p1:d.prio>2147483647
 ·have q1:decide (d.prio>2147483647)=true:=by simpa using p1
  repeat' ((with_reducible first|apply wr|refine cpc hn ?_|fail)<;>try simp only[go_sem,seval,q0,q1])
  exact A6 (by simp[U0,hnm];omega)
 have q1:decide (d.prio>2147483647)=false:=by simpa using p1
 by_cases p2:d.hds.length>32
 ·have q2:decide ((d.hds.length:Int)>32)=true:=by simp;omega
  repeat' ((with_reducible first|apply wr|refine cpc hn ?_|fail)<;>try simp only[go_sem,seval,q0,q1,q2,A0F])
  exact A6 (by simp[U0,hnm];omega)
 have q2:decide ((d.hds.length:Int)>32)=false:=by simp;omega
 have er:U0 d=d.hds.all Z6:=by
  unfold U0;rw[hnm,show decide (0<=d.prio)=true by simp;omega,show decide (d.prio<=2147483647)=true by simp;omega,show decide (d.hds.length<=32)=true by simp;omega];rfl
 rw[er];repeat' ((with_reducible first|apply wr|refine cpc hn ?_|fail)<;>try simp only[go_sem,seval,q0,q1,q2,A0F])
 refine C1 (fun k:Nat=>[(27,A0z d.hds),(28,I64 d.hds.length),(29,I64 k)]) (fun _=>Sym.nil) (fun k _=>k<=d.hds.length/\(d.hds.take k).all Z6=true) (fun k=>d.hds.length-k) 0 (by simp[C6,tm,Tm.upd]) (Sub.nil _) ⟨A0O _,rfl⟩ ?_;rintro k cc ⟨hk,he⟩;by_cases hlt:k<d.hds.length
 ·have hd:=dtz hlt;have hg:=A0C hlt;have hw:=w64 (n:=(k:Int)+1);have hs:d.hds[k].sz<=(d.hds.map Hd.sz).sum:=I5 (A0Q hlt);generalize d.hds[k]=h at hg hs;have hhs:h.sz=1+h.name.length+Pb.St.szs h.body:=rfl;have hn2:=c_IsName h.name (by omega);have hb2:=c_validHd h (by omega);have hf:=A3h Z6 d.hds k _ hg;have ht:=A0w Z6 d.hds k _ hg;have eh:Z6 h=(decide (1<=h.trig) && decide (h.trig<=6) && (if 3<=h.trig then D0 h.name else h.name == []) && L8 h.body 1):=rfl;by_cases t3:3<=h.trig
  ·have u3:decide (h.trig≥3)=true:=by simpa using t3
   rw[if_pos t3]at eh;repeat' ((with_reducible first|refine wr ?_|refine cpc hn2 ?_|refine cpc hb2 ?_|refine wb2 ?_ ?_<;>(intro hb;try simp only[hb])|fail)<;>try simp only[go_sem,seval,hd,hg,hw,u3,D3p,h_same,A1])
   all_goals first
    |(refine A6 (congrArg DV.bool (hf ?_).symm);rw[eh];clear hf ht eh er;simp_all<;>omega)
    |(refine⟨k+1,rfl,Sub.nil _,inv ⟨by omega,?_⟩,by omega⟩;rw[ht,he,eh];clear hf ht eh er;simp_all<;>omega)
  ·have u3:decide (h.trig≥3)=false:=by simpa using t3
   rw[if_neg t3]at eh;repeat' ((with_reducible first|refine wr ?_|refine cpc hb2 ?_|refine wb2 ?_ ?_<;>(intro hb;try simp only[hb])|fail)<;>try simp only[go_sem,seval,hd,hg,hw,u3,D3p,h_same,A1])
   all_goals first
    |(refine A6 (congrArg DV.bool (hf ?_).symm);rw[eh];clear hf ht eh er;simp_all<;>omega)
    |(refine⟨k+1,rfl,Sub.nil _,inv ⟨by omega,?_⟩,by omega⟩;rw[ht,he,eh];clear hf ht eh er;simp_all<;>omega)
 have hd:=dfz hlt;have hall:=A7l Z6 d.hds k (by omega) he;repeat' (apply wr<;>try simp only[go_sem,seval,hd])
 exact A6 (by rw[hall])
theorem c_V1(d:Dc)(hB:d.name.length<=1000000000):PC Tryz.prog 65 [d.v] (.bool (!A0x d)):=by
 have h:=c_validDecl d hB;have ev:d.v=.agg [I64 d.kind,.str d.name,I64 d.value,I64 d.pos]:=rfl;rw[ev]at h ⊢;refine PC.go A4 ?_;repeat' ((with_reducible first|apply wr|refine cpc h ?_|fail)<;>try simp only[go_sem,seval])
 exact A6 rfl
theorem c_V2(d:Md)(hB:d.sz<=100000000):PC Tryz.prog 68 [d.v] (.bool (!U0 d)):=by
 have h:=c_validMode d hB;have ev:d.v=.agg [.str d.name,I64 d.prio,A0z d.hds,I64 d.pos]:=rfl;rw[ev]at h ⊢;refine PC.go A4 ?_;repeat' ((with_reducible first|apply wr|refine cpc h ?_|fail)<;>try simp only[go_sem,seval])
 exact A6 rfl
theorem c_Valid(r:Ru)(hB:r.sz<=100000000):PC Tryz.prog 26 [r.v] (.bool (P9 r)):=by
 obtain⟨D,M⟩:=r;have hDs:(D.map Dc.sz).sum+(M.map Md.sz).sum<=100000000:=hB;have hDl:D.length<=(D.map Dc.sz).sum:=G3 fun x _=>by show 1<=1+_;omega
 have hMl:M.length<=(M.map Md.sz).sum:=G3 fun x _=>by show 1<=1+_+_;omega
 have h1:=c_CF_dc (f:=65) (a:=[]) (cs:=[]) (g:=fun e => !A0x e) D (by omega) rfl rfl (fun x hx=>c_V1 x (by
  have:x.sz<=(D.map Dc.sz).sum:=I5 hx;have e:x.sz=1+x.name.length:=rfl;omega))
 have h2:=c_CF_md (f:=68) (a:=[]) (cs:=[]) (g:=fun e => !U0 e) M (by omega) rfl rfl (fun x hx=>c_V2 x (by
  have:x.sz<=(M.map Md.sz).sum:=I5 hx;omega))
 rw[B0m]at h1 h2;refine PC.go A4 ?_;dsimp only[Ru.v];unfold P9;dsimp only;have e1:decide (D.length<=128) = !decide ((D.length:Int)>128):=by rw[<- decide_not];exact decide_eq_decide.2 (by omega)
 have e2:decide (M.length<=16) = !decide ((M.length:Int)>16):=by rw[<- decide_not];exact decide_eq_decide.2 (by omega)
 rw[e1,e2];generalize D.all A0x=bD at *;generalize M.all U0=bM at *;repeat' ((with_reducible first|refine wr ?_|refine cpc h1 ?_|refine cpc h2 ?_|refine wb2 ?_ ?_<;>(intro hb;try simp only[hb])|fail)<;>try simp only[go_sem,seval,A0F])
 all_goals (refine A6 (congrArg DV.bool ?_);simp_all)
end Go.Proofs.YtkkjpohaffjecaaGreatDoor
set_option linter.unusedSectionVars false
namespace Go.Proofs.YtkkjpohaffjecaaGreatDoor
open Go.Sym Go.Pb Go.RowKit
section
variable {H:Type} {enc:TypeId × Value->H} {W:World} {hT:TabOk W}
theorem A6a:∀ l:List (DataW H),Rows.uptoBulkAll l=(l.map Rows.uptoBulk).sum
 |[]=>by simp[Rows.uptoBulkAll]
 |d :: l=>by rw[Rows.uptoBulkAll,A6a l];simp
theorem S7:Bulky (Rows.uptoBulk (H:=H)) where
 pos:=fun d=>by
  cases d with
  |lit l=>cases l<;>simp[Rows.uptoBulk]
  |nil=>simp[Rows.uptoBulk]
  |ptr d=>simp[Rows.uptoBulk]
  |slice elems spare=>simp[Rows.uptoBulk]
  |agg parts=>simp[Rows.uptoBulk]
  |iface t d=>simp[Rows.uptoBulk]
  |map entries=>simp[Rows.uptoBulk]
  |held h=>simp[Rows.uptoBulk]
 str:=fun l=>by simp[Rows.uptoBulk]
 slc:=fun xs ys=>by simp only[Rows.uptoBulk,A6a];omega
 agg:=fun xs=>by simp only[Rows.uptoBulk,A6a]
abbrev RB(enc:TypeId × Value->H)(W:World)(hT:TabOk W)(t:TypeId)(N:Nat){α : Type}(G : α -> DV)(sz : α -> Nat):Prop:=ReadsB enc Tryz.prog W hT (Rows.uptoBulk (H:=H)) t N G sz
theorem rbI(N:Nat):RB enc W hT 3 N I64 (fun _=>1):=C8l S7 Tryz.underlying3
theorem rbS(N:Nat):RB enc W hT 9 N DV.str (fun s=>s.length+1):=C8k S7 Tryz.underlying9
theorem D6b{fs:Array Field}{k:Nat}(hk:fs.size=k)(h0:((fs.toList.map (·.offset)) == List.range k && fs.toList.all fun f=>Tryz.prog.cellsOf f.type == 1)=true):∀ (j:Nat) f,fs[j]? = some f->f.offset=j/\Tryz.prog.cellsOf f.type=1:=by
 have h:(fs.toList.map (·.offset))=List.range k/\∀ f∈fs.toList,Tryz.prog.cellsOf f.type=1:=by
  rw[A0E]at h0;exact⟨by simpa using h0.1,fun f hf=>by simpa using A0P.1 h0.2 f hf⟩
 intro j f hf;have hf':fs.toList[j]? = some f:=by simpa using hf
 refine⟨?_,h.2 f (A0V hf')⟩;have e:(fs.toList.map (·.offset))[j]? = some f.offset:=by simp[hf']
 rw[h.1]at e;have:=(A0K.1 e);obtain⟨h1,h2⟩:=this;rw[List.getElem_range]at h2;exact h2.symm
theorem D6l{α : Type}{l:List α}(h:l.length=5):∃ a b c d e,l=[a,b,c,d,e]:=by
 match l,h with
 |[a,b,c,d,e],_=>exact⟨a,b,c,d,e,rfl⟩
theorem RB.val{t:TypeId}{N n:Nat}{α : Type}{G : α -> DV}{sz : α -> Nat}{y:Value × DataW H × List MemPlace}(h:RB enc W hT t N G sz)(hn:DataW.trod enc Tryz.prog W 0 (fun _=>true) true n t [y.1]=some y.2)(hb:Rows.uptoBulk y.2.1<=N)(hG:∀ a,(G a).cells=[G a]):
  ∃ a,sz a<=Rows.uptoBulk y.2.1/\VRel (topR W hT) (G a) y.1:=by
 obtain⟨a,r,q⟩:=h n _ _ hn hb;rw[hG]at q;exact⟨a,r,q.2 0 _ _ rfl rfl⟩
theorem D1y{N:Nat}(h:RB enc W hT 73 N Ex.v Ex.sz):RB enc W hT 69 (N+1) (fun l:List Ex=>F7 l) (fun l=>(l.map Ex.sz).sum) :=
 B9v S7 (u:=5) (by omega) Tryz.underlying69 (by kernel_rfl) (fun a=>by rw[Ex.v_w];rfl) (fun a d hd=>by
  rw[Ex.v_w]at hd;have hd:d∈[I64 a.kind,I64 a.value,.str a.name,F7 a.args,I64 a.pos]:=hd;simp at hd;rcases hd with rfl|rfl|rfl|rfl|rfl<;>rfl) h
theorem D1z:∀ N,RB enc W hT 73 N Ex.v Ex.sz
 |0=>fun n cs x h hx=>by have:=S7.pos x.1;omega
 |N+1=>fun n cs x h hx=>by
  obtain⟨m,ys,rfl,hl,hb,hp⟩:=B9w S7 Tryz.underlying73 rfl (D6b rfl (by kernel_rfl)) (by kernel_rfl) h;obtain⟨y0,y1,y2,y3,y4,rfl⟩:=D6l hl;simp only[A0U,List.map_nil,A3A,List.sum_nil]at hb;obtain⟨a0, -,r0⟩:=(rbI _).val (hp 0 _ y0 rfl rfl) (A0G _) (fun _=>rfl);obtain⟨a1, -,r1⟩:=(rbI _).val (hp 1 _ y1 rfl rfl) (A0G _) (fun _=>rfl);obtain⟨a2,s2,r2⟩:=(rbS _).val (hp 2 _ y2 rfl rfl) (A0G _) (fun _=>rfl);obtain⟨a3,s3,r3⟩:=(D1y (D1z N)).val (hp 3 _ y3 rfl rfl) (by omega) (fun _=>rfl);obtain⟨a4, -,r4⟩:=(rbI _).val (hp 4 _ y4 rfl rfl) (A0G _) (fun _=>rfl);refine⟨.mk a0 a1 a2 a3 a4,?_,?_⟩
  ·rw[Ex.sz,Ex.szs_map];omega
  ·rw[Ex.v_w];exact .cons r0 (.cons r1 (.cons r2 (.cons r3 (.cons r4 .nil))))
theorem B0r{l:List (DataW H)}(hk:Rows.uptoSmall H l=true){d:DataW H}(h:d∈l):Rows.uptoBulk d<=1048576:=by
 have hk:Rows.uptoBulkAll l<=1048576:=by simpa[Rows.uptoSmall] using hk
 have:∀ {l:List (DataW H)},d∈l->Rows.uptoBulk d<=Rows.uptoBulkAll l:=by
  intro l h
  induction l with
  |nil=>cases h
  |cons x r ih =>
   simp only[Rows.uptoBulkAll];rcases A1P.1 h with rfl|e
   ·omega
   ·have:=ih e;omega
 exact A1A (this h) hk
end
end Go.Proofs.YtkkjpohaffjecaaGreatDoor
set_option maxHeartbeats 4000000
namespace Go.Proofs.YtkkjpohaffjecaaGreatDoor
open Go.Eng (IC IOper DReg IFn J0)
open Go.Sym
abbrev x52:XT Tryz.prog 52:=mkF
instance t52:FT Tryz.prog 52 x52.d:=x52.ft
abbrev x87:XT Tryz.prog 87:=mkF
instance t87:FT Tryz.prog 87 x87.d:=x87.ft
abbrev x49:XT Tryz.prog 49:=mkF
instance t49:FT Tryz.prog 49 x49.d:=x49.ft
abbrev x40:XT Tryz.prog 40:=mkF
instance t40:FT Tryz.prog 40 x40.d:=x40.ft
abbrev x159:XT Tryz.prog 159:=mkF
instance t159:FT Tryz.prog 159 x159.d:=x159.ft
abbrev x168:XT Tryz.prog 168:=mkF
instance t168:FT Tryz.prog 168 x168.d:=x168.ft
abbrev x89:XT Tryz.prog 89:=mkF
instance t89:FT Tryz.prog 89 x89.d:=x89.ft
abbrev x41:XT Tryz.prog 41:=mkF
instance t41:FT Tryz.prog 41 x41.d:=x41.ft
abbrev x42:XT Tryz.prog 42:=mkF (i:=⟨26,.seq (.reg [oV 4 (.bool false)]) (.seq (.seq (.reg [oM 6 0,oH 7 6,oM 8 1,oH 9 8,oB 10 7 9 .neq]) (.cond (.t 10) (.seq (.reg [oV 4 (.bool false)]) .ret) .skip)) (.seq (.seq (.reg [oI 5 0]) (.blk 0 (.loop (.seq (.seq (.reg [oM 11 5,oM 12 0,oH 13 12,oB 14 11 13 .lss]) (.cond (.t 14) .skip (.exit 0))) (.seq (.blk 1 (.seq (.drw 9 (dQ [oM 17 0,oM 18 5,oA 19 17 18 2,oD 20 19 2,oM 21 1,oM 22 5,oA 23 21 22 2,oD 24 23 2,oP 25 (.eqa true [0,0] (.t 20) (.t 24))] 0)) (.cond (.t 25) (.seq (.reg [oV 4 (.bool false)]) .ret) .skip))) (.reg [oM 15 5,oK 16 15 .add 1,oM 5 16])))))) (.seq (.reg [oV 4 (.bool true)]) .ret))),[.tmp 4]⟩) (by unfold J0;kernel_rfl) (fun h=>by conv=>lhs;cbv)
instance t42:FT Tryz.prog 42 x42.d:=x42.ft
abbrev x7:XT Tryz.prog 7:=mkF
instance t7:FT Tryz.prog 7 x7.d:=x7.ft
open Go.Sym Go.Pb
def GC(f:Nat)(mk:DV->DV->List DV)(args:List DV)(x y:Cg)(r:DV):Prop:=∀ (H0:Hp) (c t:Nat) (a b:Option Nat),GN H0 t a b x c ->
 AC Tryz.prog f (.ptr t 0 :: args) (GM H0 t a b mk x) c (fun v H' c'=>v=r/\∃ a' b',GN H0 t a' b' y c'/\H'=GM H0 t a' b' mk y)
abbrev mkP(e p v m:DV)(t n:Int):DV->DV->List DV:=fun I S=>[I,S,e,p,v,I64 t,I64 n,m]
abbrev mkR(d m:DV):DV->DV->List DV:=fun I S=>[d,m,I,S]
theorem c_emit(e p v m:DV)(t n op k:Int)(x:Cg)(hx:x.1.length<=100000000):GC 52 (mkP e p v m t n) [I64 op,I64 k] x (x.1++[⟨op,k⟩],x.2) (I64 x.1.length):=by
 intro H0 c t' a b h;refine AC.bodyT A4 rfl (A0B rfl) fun hfr=>?_;have hM:=B4t (mk:=mkP e p v m t n) h;have h1:=h.tc;have hw:IntKind.i64.wrap (((x.1.length+1:Nat):Int)-1)=(x.1.length:Int):=by rw[w6z (by omega)];omega
 have ne0:=Q3 t' c (c+1) (by omega);repeat' (apply wr<;>try simp only[go_sem,seval,hM])
 refine E9 (D8 (cs:=A1r x.1) (fun e=>⟨A5r (h.an e),by rw[h.an e];rfl⟩) (fun i hi=>?_) (B2e _) (by omega) (by omega) (by omega)) ?_
 ·have:=h.ha i hi;rw[hnO];exact C3c h hi
 have dm:∀ X,delO X a t'=X t':=fun X=>D1 (fun i hi e=>(h.ha i hi).1 e.symm);simp only[go_sem,seval,dm,hM,ne0];repeat' (apply wr<;>try simp only[go_sem,seval,h_same,hw])
 refine⟨_,_,GL.less' (C2f (y:=(x.1++[⟨op,k⟩],x.2)) (i:=c+1) h (by omega) rfl (by rw[A8m]) (by simp[todoV])),rfl,some (c+1),b,h.newA (by omega) (by omega) rfl,rfl⟩
theorem c_emit34(d m:DV)(op k:Int)(x:Cg)(hx:x.1.length<=100000000):GC 159 (mkR d m) [I64 op,I64 k] x (x.1++[⟨op,k⟩],x.2) (I64 x.1.length):=by
 intro H0 c t' a b h;refine AC.bodyT A4 rfl (A0B rfl) fun hfr=>?_;have hM:=B4t (mk:=mkR d m) h;have h1:=h.tc;have hw:IntKind.i64.wrap (((x.1.length+1:Nat):Int)-1)=(x.1.length:Int):=by rw[w6z (by omega)];omega
 have ne0:=Q3 t' c (c+1) (by omega);repeat' (apply wr<;>try simp only[go_sem,seval,hM])
 refine E9 (D8 (cs:=A1r x.1) (fun e=>⟨A5r (h.an e),by rw[h.an e];rfl⟩) (fun i hi=>?_) (B2e _) (by omega) (by omega) (by omega)) ?_
 ·have:=h.ha i hi;rw[hnO];exact C3c h hi
 have dm:∀ X,delO X a t'=X t':=fun X=>D1 (fun i hi e=>(h.ha i hi).1 e.symm);simp only[go_sem,seval,dm,hM,ne0];repeat' (apply wr<;>try simp only[go_sem,seval,h_same,hw])
 refine⟨_,_,GL.less' (C2f (y:=(x.1++[⟨op,k⟩],x.2)) (i:=c+1) h (by omega) rfl (by rw[A8m]) (by simp[todoV])),rfl,some (c+1),b,h.newA (by omega) (by omega) rfl,rfl⟩
theorem A7f(nm:List UInt8->Int):∀ a b:List Ex,J9 nm (a++b)=J9 nm a++J9 nm b
 |[],b=>rfl
 |x :: a,b=>by rw[List.cons_append,J9,J9,A7f nm a b,A0T]
theorem A8t(nm:List UInt8->Int){l:List Ex}{k:Nat}{x:Ex}(h:l[k]? = some x):J9 nm (l.take (k+1))=J9 nm (l.take k)++cgE nm x:=by
 rw[A0S,h,A7f];simp[J9]
theorem A3e(nm:List UInt8->Int)(l:List Ex)(k:Nat):(J9 nm (l.take k)).length<=(J9 nm l).length:=by
 have h:=A7f nm (l.take k) (l.drop k);rw[A2L]at h;rw[h,A0A];omega
theorem c_gexpr(e p v:DV)(ks vs:List DV)(t n:Int)(nm:List UInt8->Int)(hm:∀ s,Sym.lkV (I64 0) false vs (E7 (.str s) ks 0)=some (I64 (nm s))):∀ (z:Nat) (ex:Ex),ex.sz<z->ex.sz<=100000000->∀ x:Cg,x.1.length+(cgE nm ex).length<=100000000 ->
  GC 87 (mkP e p v (.mp .s ks vs) t n) [ex.v] x (x.1++cgE nm ex,x.2) (.tup []):=by
 intro z
 induction z with
 |zero=>intro ex h;omega
 |succ z ih =>
 intro ex hz hB x hx H0 c t' a b h;have hal:Ex.szs ex.args<ex.sz:=by cases ex with|mk k v n a p=>rw[Ex.sz];show Ex.szs a<_;omega
 have hargs:∀ x∈ex.args,x.sz<=Ex.szs ex.args:=fun x hx=>Ex.szs_mem hx;have hll:=Ex.szs_len ex.args;have hE:=C7d nm ex;rw[hE]at hx ⊢;rw[Ex.v_w];cases ex with|mk k vv nn ar pos =>
 dsimp only[Ex.w,Ex.kind,Ex.value,Ex.name,Ex.args,Ex.pos]at hal hargs hll hx ⊢;clear hE;rw[A0A,A0H]at hx;have h1:=h.tc;refine AC.bodyT A4 rfl (A0B rfl) fun hfr=>?_;repeat' (apply wr<;>try simp only[go_sem,seval])
 obtain⟨B,hBe⟩:∃ B:Blk,B=⟨0,true,[I64 k,I64 vv,.str nn,F7 ar,I64 pos]⟩:=⟨_,rfl⟩;rw[<- hBe,h.com (A0G _)];have hb0:=h.box (B:=B) (A0G c) (A1Y c);refine C1 (fun q:Nat × Option Nat × Option Nat=>[(0,.ptr t' 0),(3,.ptr c 0),(7,F7 ar),(8,I64 ar.length),(9,I64 q.1)]) (fun q=>GM (H0.upd c B) t' q.2.1 q.2.2 (mkP e p v (.mp .s ks vs) t n) (x.1++J9 nm (ar.take q.1),x.2))
  (fun q cc=>c+1<=cc/\q.1<=ar.length/\GN (H0.upd c B) t' q.2.1 q.2.2 (x.1++J9 nm (ar.take q.1),x.2) cc) (fun q=>ar.length-q.1) (0,a,b)
  (by simp[C6,tm,Tm.upd]) (by simp only[A2G,J9,A1B];exact Sub.refl _) ⟨A0G _,A0O _,by simp only[A2G,J9,A1B];exact hb0⟩ ?_
 clear hb0;rintro⟨i,o,b1⟩ cc ⟨hc,hk,hN⟩;dsimp only at hk hN ⊢;have hnn:=hN.tc;have hfr':=fun (j:Nat) (hj:cc<=j)=>D5g (mk:=mkP e p v (.mp .s ks vs) t n) hN hj;by_cases hlt:i<ar.length
 ·have hd:=dtz hlt;have hg:=A0C hlt;have hw:=w64 (n:=(i:Int)+1);have hsn:=A8t nm hg;have hle:=A3e nm ar (i+1);have hmem:=hargs _ (A0Q hlt);generalize ar[i]=y at hg hsn hmem;rw[hsn,A0A]at hle;have hcall:=ih y (by omega) (by omega) (x.1++J9 nm (ar.take i),x.2) (by rw[A0A];omega);rw[Ex.v_w]at hcall;repeat' (apply wr<;>try simp only[go_sem,seval,hd,hg,Ex.v_w,h_same,A1])
  obtain⟨B2,hB2⟩:∃ B:Blk,B=⟨0,true,[I64 y.kind,I64 y.value,.str y.name,F7 y.args,I64 y.pos]⟩:=⟨_,rfl⟩;rw[<- hB2,hN.com (A0G _)];refine AC.call (hcall _ _ _ _ _ (hN.box (A0G _) (A1Y _))) ?_;rintro _ _ c2 ⟨rfl,a2,b2,hN2,rfl⟩ hc2;have hz0:=hN.fr cc (A0G _);simp only[go_sem,seval];repeat' (apply wr<;>try simp only[go_sem,seval,hw])
  dsimp only at hN2 ⊢;rw[A0T, <- hsn]at hN2 ⊢;exact⟨(i+1,a2,b2),by simp[],B0p hz0 (by omega) hN2,inv ⟨by omega,hlt,hN2.unbox hz0 (by omega) hN.fr⟩,by simp only;omega⟩
 ·have hd:=dfz hlt;have hi:i=ar.length:=by omega
  subst hi;rw[A2D]at hN hfr' ⊢;have hM:=B4t (mk:=mkP e p v (.mp .s ks vs) t n) hN;have hcB:GM (H0.upd c B) t' o b1 (mkP e p v (.mp .s ks vs) t n) (x.1++J9 nm ar,x.2) c=some ⟨0,true,[I64 k,I64 vv,.str nn,F7 ar,I64 pos]⟩:=C6g hN (by rw[h_same,hBe]) (by omega);have hz0:=h.fr c (A0G _);have hlk:=hm nn;have fin:∀ (op A:Int),A7t nm k vv nn=⟨op,A⟩->∀ cx,cc<=cx->AC Tryz.prog 52 [.ptr t' 0,I64 op,I64 A] (GM (H0.upd c B) t' o b1 (mkP e p v (.mp .s ks vs) t n) (x.1++J9 nm ar,x.2)) cx (fun v' H' c' => ∃ a' b',GN (H0.upd c B) t' a' b' (x.1++(J9 nm ar++[A7t nm k vv nn]),x.2) c'/\H'=GM (H0.upd c B) t' a' b' (mkP e p v (.mp .s ks vs) t n) (x.1++(J9 nm ar++[A7t nm k vv nn]),x.2)):=fun op A he cx hcx=>by
   rw[he, <- A0T];refine AC.call (c_emit e p v _ t n op A (x.1++J9 nm ar,x.2) (by rw[A0A];omega) _ _ _ _ _ (hN.le hcx)) ?_;rintro _ _ c2 ⟨rfl,a2,b2,hN2,rfl⟩ hc2;exact⟨a2,b2,hN2,rfl⟩
  repeat' ((with_reducible first|refine wr ?_|refine wb2 ?_ ?_<;>(intro hb;try simp only[hb])|fail)<;>try simp only[go_sem,seval,hd,hM,hcB,hlk])
  all_goals
   try refine⟨hfr' _ (by omega),?_⟩
   refine AC.call (fin _ _ ?_ _ ?_) ?_
   ·clear fin hm hN hM hcB hfr' hlk hx hz0 hnn ih hfr h hargs hal hBe;simp_all[A7t]
   ·omega
   rintro _ _ c2 ⟨a2,b2,hN2,rfl⟩ hc2;simp only[go_sem,seval];repeat' (apply wr<;>try simp only[go_sem,seval])
   exact⟨_,_,GL.less' (B0p hz0 (by omega) hN2),rfl,a2,b2,hN2.unbox hz0 (by omega) h.fr,rfl⟩
abbrev x170:XT Tryz.prog 170:=mkF
instance t170:FT Tryz.prog 170 x170.d:=x170.ft
abbrev x95:XT Tryz.prog 95:=mkF
instance t95:FT Tryz.prog 95 x95.d:=x95.ft
abbrev x233:XT Tryz.prog 233:=mkF
instance t233:FT Tryz.prog 233 x233.d:=x233.ft
abbrev x245:XT Tryz.prog 245:=mkF
instance t245:FT Tryz.prog 245 x245.d:=x245.ft
abbrev x244:XT Tryz.prog 244:=mkF
instance t244:FT Tryz.prog 244 x244.d:=x244.ft
abbrev x167:XT Tryz.prog 167:=mkF
instance t167:FT Tryz.prog 167 x167.d:=x167.ft
abbrev x88:XT Tryz.prog 88:=mkF
instance t88:FT Tryz.prog 88 x88.d:=x88.ft
abbrev x46:XT Tryz.prog 46:=mkF
instance t46:FT Tryz.prog 46 x46.d:=x46.ft
abbrev x96:XT Tryz.prog 96:=mkF
instance t96:FT Tryz.prog 96 x96.d:=x96.ft
abbrev x171:XT Tryz.prog 171:=mkF
instance t171:FT Tryz.prog 171 x171.d:=x171.ft
abbrev x102:XT Tryz.prog 102:=mkF
instance t102:FT Tryz.prog 102 x102.d:=x102.ft
abbrev x98:XT Tryz.prog 98:=mkF
instance t98:FT Tryz.prog 98 x98.d:=x98.ft
abbrev x164:XT Tryz.prog 164:=mkF
instance t164:FT Tryz.prog 164 x164.d:=x164.ft
abbrev x240:XT Tryz.prog 240:=mkF
instance t240:FT Tryz.prog 240 x240.d:=x240.ft
abbrev x241:XT Tryz.prog 241:=mkF
instance t241:FT Tryz.prog 241 x241.d:=x241.ft
abbrev x165:XT Tryz.prog 165:=mkF
instance t165:FT Tryz.prog 165 x165.d:=x165.ft
abbrev x86:XT Tryz.prog 86:=mkF
instance t86:FT Tryz.prog 86 x86.d:=x86.ft
end Go.Proofs.YtkkjpohaffjecaaGreatDoor
set_option maxHeartbeats 8000000
namespace Go.Proofs.YtkkjpohaffjecaaGreatDoor
open Go.Eng (IC IOper DReg IFn J0)
open Go.Sym Go.Pb
theorem c_expKR(k:Int):PC Tryz.prog 244 [I64 k] (I64 (kdE k)):=by
 refine PC.go A4 ?_;repeat' ((with_reducible first|refine wr ?_|refine wb2 ?_ ?_<;>(intro hb;try simp only[hb])|fail)<;>try simp only[go_sem,seval])
 all_goals (refine A6 (congrArg I64 ?_);simp_all[kdE])
theorem c_boolR(k:Int):PC Tryz.prog 245 [I64 k] (.bool (C2t k)):=by
 refine PC.go A4 ?_;repeat' ((with_reducible first|refine wr ?_|refine wb2 ?_ ?_<;>(intro hb;try simp only[hb])|fail)<;>try simp only[go_sem,seval])
 all_goals (refine A6 (congrArg DV.bool ?_);simp_all[C2t])
theorem A4w(d:Dc):d.v=.agg [I64 d.kind,.str d.name,I64 d.value,I64 d.pos]:=rfl
theorem C4t(d:Md):d.v=.agg [.str d.name,I64 d.prio,A0z d.hds,I64 d.pos]:=rfl
theorem c_cntR(r:Ru)(k:Int)(h1:r.decls.length<=1000000000)(h2:r.modes.length<=1000000000):PC Tryz.prog 170 [r.v,I64 k] (I64 (cnR r k)):=by
 refine PC.go A4 ?_;obtain⟨D,M⟩:=r;dsimp only[Ru.v]at h1 h2 ⊢;by_cases k9:k=9
 ·subst k9;repeat' (apply wr<;>try simp only[go_sem,seval,A0F])
  exact A6 rfl
 have q9:(k == 9)=false:=by simpa using k9
 have er:cnR ⟨D,M⟩ k=cnD D k:=by rw[cnR,if_neg k9]
 rw[er];repeat' (apply wr<;>try simp only[go_sem,seval,q9])
 refine C1 (fun i:Nat=>[(1,I64 k),(2,.ptr 0 0),(5,I64 (cnD (D.take i) k)),(6,I64 i)]) (fun _=>Sym.nil.upd 0 ⟨0,true,[C5 D,E4 M]⟩) (fun i c=>i<=D.length) (fun i=>D.length-i) 0 (by simp[C6,tm,Tm.upd,cnD]) (Sub.refl _) (A0O _) ?_;rintro i c hk;by_cases hlt:i<D.length
 ·have hd:=dtz hlt;have hg:=A0C hlt;have hw:=w64 (n:=(i:Int)+1);have e0:cnD (D.take (i+1)) k=cnD (D.take i) k+(if D[i].kind == k then 1 else 0):=by
   unfold cnD;rw[A0S,hg,List.countP_append];simp[List.countP_cons]
  have hle:cnD (D.take i) k<=D.length:=by
   refine A1A List.countP_le_length ?_;rw[A0W];omega
  have hw2:=w64 (n:=(cnD (D.take i) k:Int)+1);generalize D[i]=d at hg e0;repeat' ((with_reducible first|refine wr ?_|refine wb2 ?_ ?_<;>(intro hb;try simp only[hb])|fail)<;>try simp only[go_sem,seval,hd,hg,hw,hw2,A4w,A0F])
  all_goals (refine⟨i+1,?_,Sub.refl _,inv (by omega),by omega⟩;simp_all)
 have hd:=dfz hlt;repeat' (apply wr<;>try simp only[go_sem,seval,hd,A0F])
 rw[A0I (by omega)];exact A6 rfl
theorem D1t{ρ : Ren}{v:Value}{a:DV}(h:VRel ρ (.agg [a,.snil]) v):VRel ρ (.agg [a,.lst []]) v:=by
 obtain⟨b,rfl,k1,k2⟩:=h.agg_inv;refine .agg _ _ k1 fun i x y hx hy=>?_
 match i with
 |0=>exact k2 0 _ y hx hy
 |1=>cases hx;exact (k2 1 _ y rfl hy).snil_lst
 |i+2=>simp at hx
theorem C9i{f:Nat}{a x r:DV}(h:PC Tryz.prog f [.agg [a,.lst []],x] r):PC Tryz.prog f [.agg [a,.snil],x] r:=by
 have hn:DV.nlL [.agg [a,.snil],x]=true:=by have:=h.na;simpa[DV.nlL,DV.nl] using this
 have g:GL Sym.nil [.agg [a,.snil],x] Sym.nil [.agg [a,.lst []],x]:=GL.view fun ρ vs hA=>⟨hA.1,fun i d v hd hv=>by
  match i with
  |0=>cases hd;exact D1t (hA.2 0 _ v rfl hv)
  |1=>exact hA.2 1 _ v hd hv
  |i+2=>simp at hd⟩
 exact⟨hn,h.nr,AC.ghost g h.ac⟩
theorem C8q{xs:List DV}{h sz:Nat}(hh:h<=xs.length)(hu:∀ x∈xs,x.cells.length=sz)(H:Hp):A3k H sz (.lst xs) none (some (I64 (h:Int)))=some (.lst (xs.take h)):=by
 have e:unit sz xs=true:=A0P.2 fun x hx=>by simpa using hu x hx
 simp only[A3k,boundOf,Int.natCast_nonneg,if_true,A3F,hh,A0O,and_self,e,Nat.sub_zero,A2Y]
theorem B7a{b1 b2:Blk}{cc:Nat}(h:1<=cc):Sym.Sub (Sym.nil.upd 0 b1) ((Sym.nil.upd 0 b1).upd cc b2):=by
 intro j b hj;simp only[Hp.upd,Sym.nil]at hj ⊢;split at hj
 ·rename_i h0;rw[if_neg (by omega),if_pos h0];exact hj
 ·cases hj
theorem c_lkR(r:Ru)(n:List UInt8)(h1:r.decls.length<=1000000000)(h2:r.modes.length<=1000000000):PC Tryz.prog 95 [r.v,.str n] (.tup [I64 (T7 r n).1,I64 (T7 r n).2]):=by
 refine PC.go A4 ?_;obtain⟨D,M⟩:=r;dsimp only at h1 h2;obtain⟨R,hR⟩:∃ R:DV,R=.tup [I64 (T7 ⟨D,M⟩ n).1,I64 (T7 ⟨D,M⟩ n).2]:=⟨_,rfl⟩;rw[<- hR];unfold T7 at hR;dsimp only[Ru.v]at hR ⊢;repeat' (apply wr<;>try simp only[go_sem,seval])
 refine C1 (fun i:Nat=>[(1,.str n),(2,.ptr 0 0),(6,I64 i)]) (fun _=>Sym.nil.upd 0 ⟨0,true,[C5 D,E4 M]⟩) (fun i c=>1<=c/\i<=D.length/\lkD [] D n=lkD (D.take i) (D.drop i) n) (fun i=>D.length-i) 0 (by simp[C6,tm,Tm.upd]) (Sub.refl _) ⟨A0G _,A0O _,rfl⟩ ?_;rintro i c ⟨h1c,hk,he⟩;by_cases hlt:i<D.length
 ·have hd:=dtz hlt;have hg:=A0C hlt;have hw:=w64 (n:=(i:Int)+1);rw[C1d hg]at he;have hcn:=C9i (c_cntR ⟨D.take i,[]⟩ D[i].kind (by rw[A0W];omega) (A0O _));generalize D[i]=d at hg he hcn;have ne0:=R3 0 c (by omega);have hsl:=fun H=>C8q (xs:=D.map Dc.v) (h:=i) (sz:=4) (by rw[A0F];omega) (A3c _) H;rw[<- List.map_take]at hsl;by_cases hn:d.name=n
  ·have q0:(d.name == n)=true:=by simp[hn]
   rw[if_pos hn]at he;rw[he]at hR;by_cases h6:d.kind<6
   ·have q6:decide (d.kind<6)=true:=by simpa using h6
    rw[if_pos h6]at hR;repeat' (apply wr<;>try simp only[go_sem,seval,hd,hg,q0,q6,A4w,A0F,h_same,A1])
    refine⟨by and_intros<;>(repeat rw[hnO])<;>rfl,?_⟩;repeat' (apply wr<;>try simp only[go_sem,seval])
    exact A6 hR.symm
   ·have q6:decide (d.kind<6)=false:=by simpa using h6
    rw[if_neg h6]at hR;repeat' ((with_reducible first|apply wr|refine cpc hcn ?_|fail)<;>try simp only[go_sem,seval,hd,hg,q0,q6,A4w,A0F,ne0,h_same,A1,hsl])
    refine⟨by and_intros<;>(repeat rw[hnO])<;>rfl,?_⟩;repeat' (apply wr<;>try simp only[go_sem,seval])
    exact A6 hR.symm
  ·have q0:(d.name == n)=false:=by simp[hn]
   rw[if_neg hn]at he;repeat' (apply wr<;>try simp only[go_sem,seval,hd,hg,hw,q0,A4w,A0F,h_same,A1])
   exact⟨i+1,by simp,B7a h1c,inv ⟨by omega,by omega,he⟩,by omega⟩
 have hd:=dfz hlt;rw[A2J (by omega),lkD]at he;rw[he]at hR;repeat' (apply wr<;>try simp only[go_sem,seval,hd,A0F])
 clear he hd hlt hk i;refine C1 (fun i:Nat=>[(1,.str n),(2,.ptr 0 0),(8,I64 i)]) (fun _=>Sym.nil.upd 0 ⟨0,true,[C5 D,E4 M]⟩) (fun i c=>i<=M.length/\lkM 0 M n=lkM i (M.drop i) n) (fun i=>M.length-i) 0 (by simp[C6,tm,Tm.upd]) (Sub.refl _) ⟨A0O _,rfl⟩ ?_;rintro i c ⟨hk,he⟩;by_cases hlt:i<M.length
 ·have hd:=dtz hlt;have hg:=A0C hlt;have hw:=w64 (n:=(i:Int)+1);rw[C1b hg]at he;generalize M[i]=d at hg he;by_cases hn:d.name=n
  ·have q0:(d.name == n)=true:=by simp[hn]
   rw[if_pos hn]at he;rw[he]at hR;repeat' (apply wr<;>try simp only[go_sem,seval,hd,hg,q0,C4t,A0F])
   exact A6 hR.symm
  ·have q0:(d.name == n)=false:=by simp[hn]
   rw[if_neg hn]at he;repeat' (apply wr<;>try simp only[go_sem,seval,hd,hg,hw,q0,C4t,A0F])
   exact⟨i+1,by simp,Sub.refl _,inv ⟨by omega,he⟩,by omega⟩
 have hd:=dfz hlt;rw[A2J (by omega),lkM]at he;rw[he]at hR;repeat' (apply wr<;>try simp only[go_sem,seval,hd,A0F])
 exact A6 hR.symm
theorem c_dnR(r:Ru)(n:List UInt8)(k:Int)(h1:r.decls.length<=1000000000)(h2:r.modes.length<=1000000000):PC Tryz.prog 233 [r.v,.str n,I64 k] (I64 (dnM r n k)):=by
 refine PC.go A4 ?_;have hl:=c_lkR r n h1 h2;dsimp only[Ru.v]at hl ⊢;unfold dnM;generalize T7 r n=q at hl ⊢;obtain⟨a,b⟩:=q;dsimp only at hl ⊢;repeat' ((with_reducible first|refine wr ?_|refine cpc hl ?_|refine wb2 ?_ ?_<;>(intro hb;try simp only[hb])|fail)<;>try simp only[go_sem,seval])
 all_goals (refine A6 (congrArg I64 ?_);simp_all)
theorem B9e{H0 HH:Hp}{o:Option Nat}{x id:Nat}{b1 bx b b':Blk}(hHH:optH H0 o b1=HH)(hn:∀ j,2<=j->H0 j=none)(ho:∀ i,o=some i->2<=i)(hx:2<=x)(h:b=b'):
  Sym.Sub (optH H0 (some id) b) ((delO (HH.upd x bx) o).upd id b'):=by
 subst h;intro j q hj;simp only[optH]at hj;by_cases e:j=id
 ·subst e;rw[h_same]at hj ⊢;exact hj
 ·rw[h_ne e]at hj ⊢;have hj2:j<2:=A3J fun h2=>by rw[hn j h2]at hj;cases hj
  have hHj:HH j=some q:=by rw[<- hHH,B7 (fun i hi=>by have:=ho i hi;omega)];exact hj
  cases o with
  |none=>simp only[delO];rw[hnO];exact hHj
  |some i =>
   have:=ho i rfl;simp only[delO,Hp.del];rw[if_neg (by omega),hnO];exact hHj
theorem c_tyR(r:Ru)(h1:r.decls.length<=1000000000)(h2:r.modes.length<=1000000000):∀ (m:Nat) (e:Ex),e.sz<m->e.sz<=100000000->(∃ q,msM e=some q)->PC Tryz.prog 167 [r.v,e.v] (tyV r e):=by
 intro m
 induction m with
 |zero=>intro e h;omega
 |succ m ih =>
 intro e hm hB ⟨q0,hq0⟩;have hal:Ex.szs e.args<e.sz:=by cases e with|mk k v n a p=>rw[Ex.sz];show Ex.szs a<_;omega
 have hargs:∀ x∈e.args,x.sz<=Ex.szs e.args:=fun x hx=>Ex.szs_mem hx;have hll:=Ex.szs_len e.args;have hms:=B5z hq0;have h22:=C0r hq0;refine PC.ofT A4 rfl (A0B rfl) (by simp[DV.nlL,DV.nl,J6,J5,Ex.nl]) (B8s _ _) ?_;rw[Ex.v_w];obtain⟨R,hR⟩:∃ R,R=tyV r e:=⟨_,rfl⟩;rw[<- hR];cases e with|mk k v n a p =>
 unfold tyV at hR;rw[erE]at hR;have hR:R=(match ((S4 r a).or (dnE r n (kdE k) p)).or (if a.all (fun x=>O2 x.kind == W0 k a)=true then none else some (p,49)) with
  |some (p,c)=>.tup [I64 0,I64 p,I64 c]
  |none=>.tup [I64 (O2 k),I64 0,I64 0]):=hR
 dsimp only[Ex.w,Ex.kind,Ex.value,Ex.name,Ex.args,Ex.pos]at hal hargs hll hms h22 ⊢;have hk1:=c_expKR k;have hdn:=c_dnR r n (kdE k) h1 h2;have hbo:=c_boolR k;have ih:∀ x∈a,PC Tryz.prog 167 [r.v,x.v] (tyV r x):=fun x hx=>ih x (by have:=hargs x hx;omega) (by have:=hargs x hx;omega) (hms x hx);obtain⟨D,M⟩:=r;dsimp only[Ru.v]at hdn ih ⊢;repeat' (apply wr<;>try simp only[go_sem,seval])
 obtain⟨H0,hH0⟩:∃ H0,H0=(Sym.nil.upd 0 ⟨0,true,[C5 D,E4 M]⟩).upd 1 ⟨0,true,[I64 k,I64 v,.str n,F7 a,I64 p]⟩:=⟨_,rfl⟩;have hz0:H0 0=some ⟨0,true,[C5 D,E4 M]⟩:=by rw[hH0];rfl
 have hz1:H0 1=some ⟨0,true,[I64 k,I64 v,.str n,F7 a,I64 p]⟩:=by rw[hH0];rfl
 have hzn:∀ j,2<=j->H0 j=none:=fun j hj=>by rw[hH0,hnO,hnO];rfl
 rw[<- hH0];clear hH0;obtain⟨T,hT⟩:∃ T:List DV,T=a.map (fun x=>I64 (O2 x.kind)):=⟨_,rfl⟩;have hTl:T.length=a.length:=by rw[hT,A0F]
 have hTg:∀ (i:Nat) (x:Ex),a[i]? = some x->T[i]? = some (I64 (O2 x.kind)):=fun i x h=>by rw[hT,A1U,h];rfl
 refine C1 (fun q:Nat × Option Nat=>[(2,.ptr 0 0),(3,.ptr 1 0),(7,todoV q.2 q.1),(8,I64 q.1)]) (fun q=>optH H0 q.2 ⟨1,true,T.take q.1⟩)
  (fun q c=>2<=c/\q.1<=a.length/\(q.2=none↔q.1=0)/\(∀ i,q.2=some i->2<=i/\i<c)/\S4 ⟨D,M⟩ a=S4 ⟨D,M⟩ (a.drop q.1)) (fun q=>a.length-q.1) (0,none)
  (by simp[C6,tm,Tm.upd,todoV]) (Sub.refl _) ⟨A0G _,A0O _,by simp,(fun i hi=>by cases hi),rfl⟩ ?_
 rintro⟨i,o⟩ c ⟨h2c,hk,hno,ho,he⟩;dsimp only at hk hno ho he ⊢;have hb0:optH H0 o ⟨1,true,T.take i⟩ 0=some ⟨0,true,[C5 D,E4 M]⟩:=by rw[B7 (fun i hi=>by have:=ho i hi;omega)];exact hz0
 have hb1:optH H0 o ⟨1,true,T.take i⟩ 1=some ⟨0,true,[I64 k,I64 v,.str n,F7 a,I64 p]⟩:=by rw[B7 (fun i hi=>by have:=ho i hi;omega)];exact hz1
 have hbn:∀ j:Nat,c<=j->optH H0 o ⟨1,true,T.take i⟩ j=none:=fun j hj=>by rw[B7 (fun i hi=>by have:=ho i hi;omega)];exact hzn j (by omega)
 have hbo2:∀ j:Nat,o=some j->optH H0 o ⟨1,true,T.take i⟩ j=some ⟨1,true,T.take i⟩:=fun j hj=>by subst hj;exact h_same
 generalize hHH:optH H0 o ⟨1,true,T.take i⟩=HH at hb0 hb1 hbn hbo2 ⊢;by_cases hlt:i<a.length
 ·have hd:=dtz hlt;have hg:=A0C hlt;have hw:=w64 (n:=(i:Int)+1);have hc:=ih _ (A0Q hlt);have hTi:=hTg _ _ hg;rw[B8a hg]at he;generalize a[i]=x at hg hc hTi he;rw[Ex.v_w]at hc;unfold tyV at hc;cases hq:erE ⟨D,M⟩ x with
  |some q =>
   obtain⟨px,cx⟩:=q;have hnz:(cx != 0)=true:=by simpa using C0o _ x _ _ hq
   rw[hq]at hc he;rw[he]at hR;repeat' ((with_reducible first|apply wr|refine cpc hc ?_|fail)<;>try simp only[go_sem,seval,hb0,hb1,hd,hg,Ex.v_w,A0F])
   refine⟨by (try and_intros)<;>exact hbn _ (by omega),by (try and_intros)<;>exact hbn _ (by omega),?_⟩;repeat' (apply wr<;>try simp only[go_sem,seval,hnz])
   exact A6 hR.symm
  |none =>
   rw[hq]at hc he;repeat' ((with_reducible first|apply wr|refine cpc hc ?_|fail)<;>try simp only[go_sem,seval,hb0,hb1,hd,hg,Ex.v_w,A0F])
   refine⟨by (try and_intros)<;>exact hbn _ (by omega),by (try and_intros)<;>exact hbn _ (by omega),?_⟩;repeat' (apply wr<;>try simp only[go_sem,seval])
   refine E9 (D8 (cs:=T.take i) (fun e=>by have:=hno.1 e;subst this;exact⟨rfl,rfl⟩) (fun j hj=>by have:=ho j hj;rw[hnO];exact hbo2 j hj) (by rw[A0W];omega) (by omega) (by omega) (by omega)) ?_;simp only[go_sem,seval];repeat' (apply wr<;>try simp only[go_sem,seval,hw])
   refine⟨(i+1,some (c+14+1)),by simp[todoV],?_,inv ⟨by omega,by omega,by simp,(fun j hj=>by cases hj;omega),he⟩,by simp only;omega⟩;exact B9e hHH hzn (fun i hi=>(ho i hi).1) (by omega) (by simp only;rw[A0S,hTi];rfl)
 have hd:=dfz hlt;rw[A2J (by omega),S4]at he;rw[he,Option.none_or]at hR;have hi:i=a.length:=by omega
 subst hi;rw[A0I (by omega)]at hbo2;repeat' ((with_reducible first|apply wr|refine cpc hk1 ?_|fail)<;>try simp only[go_sem,seval,hb0,hb1,hd,A0F])
 refine⟨by (try and_intros)<;>exact hbn _ (by omega),?_⟩;cases hdz:(dnM ⟨D,M⟩ n (kdE k) != 0) with
 |false =>
  have e0:dnE ⟨D,M⟩ n (kdE k) p=none:=by rw[dnE,if_pos (by simpa using hdz)]
  rw[e0,Option.none_or]at hR;have kL:∀ cc:Nat,c<=cc->IW Tryz.prog 94 (.loop (pz Tryz.prog 167 (.i (.i (.o (.i (.i .h))))))) ⟨tm [(3,.ptr 1 0),(7,todoV o a.length),(13,I64 (W0 k a)),(14,I64 0)],HH,cc⟩ (bk 2 (sq Tryz.prog 94 (pz Tryz.prog 167 (.i (.i (.o (.i (.o (.o .h))))))) (rt [.tmp 4,.tmp 5,.tmp 6] fun v H' x => ∃ H2,GL H' [v] H2 [R]))):=by
   intro cc hcc;generalize W0 k a=wnt at hR ⊢;refine C1 (fun i:Nat=>[(3,.ptr 1 0),(7,todoV o a.length),(13,I64 wnt),(14,I64 i)]) (fun _=>HH) (fun i c2=>c<=c2/\i<=a.length/\(a.take i).all (fun x=>O2 x.kind == wnt)=true) (fun i=>a.length-i) 0 (by simp[C6,tm,Tm.upd]) (Sub.refl _) ⟨hcc,A0O _,rfl⟩ ?_;rintro i cc ⟨hcc,hi,hall⟩;by_cases hlt:i<a.length
   ·have hd:=dtz hlt;have hg:=A0C hlt;have hw:=w64 (n:=(i:Int)+1);have hTi:=hTg _ _ hg;obtain⟨j,hj⟩:∃ j,o=some j:=by
     cases o with
     |none=>have:=hno.1 rfl;omega
     |some j=>exact⟨j,rfl⟩
    have hbj:=hbo2 j hj;subst hj;have hlen:A4u (todoV (some j) a.length)=some (I64 (a.length:Int)):=A3o (fun h=>by cases h);have hia:L2 1 (.slc j 0 a.length) (I64 (i:Int))=some (.ptr j i):=by simp[L2];omega
    generalize a[i]=x at hg hTi;by_cases hx:O2 x.kind=wnt
    ·have hxn:(O2 x.kind != wnt)=false:=by simp[hx]
     repeat' (apply wr<;>try simp only[go_sem,seval,hd,hia,hbj,hTi,hw,hxn])
     exact⟨i+1,by simp,Sub.refl _,inv ⟨by omega,by omega,by rw[A0w _ a i _ hg,hall];simp[hx]⟩,by omega⟩
    ·have hxn:(O2 x.kind != wnt)=true:=by simp[hx]
     repeat' (apply wr<;>try simp only[go_sem,seval,hb1,hd,hia,hbj,hTi,hxn])
     refine⟨by (try and_intros)<;>exact hbn _ (by omega),?_⟩;repeat' (apply wr<;>try simp only[go_sem,seval])
     rw[A3h _ a i _ hg (by simp[hx]),if_neg (by decide)]at hR;exact A6 hR.symm
   have hd:=dfz hlt;have hlen:A4u (todoV o a.length)=some (I64 (a.length:Int)):=A3o (fun h=>by have:=hno.1 h;omega);have hall2:=A7l _ a i (by omega) hall;rw[if_pos hall2]at hR;repeat' ((with_reducible first|refine wr ?_|refine cpc hbo ?_|refine wb2 ?_ ?_<;>(intro hb;try simp only[hb])|fail)<;>try simp only[go_sem,seval,hb1,hd,hlen])
   all_goals (refine A6 ?_;rw[hR];simp_all[O2])
  by_cases ka:k=11\/k=23\/k=24
  ·have ew:W0 k a=2:=by unfold W0;rw[if_pos ka]
   rw[ew]at kL;rcases ka with rfl|rfl|rfl
   all_goals (repeat' ((with_reducible first|apply wr|refine cpc hdn ?_|fail)<;>try simp only[go_sem,seval,hb1,hdz]))
   all_goals exact kL (c+8) (by omega)
  have ka1:(k == 11)=false:=by simp;omega
  have ka2:(k == 23)=false:=by simp;omega
  have ka3:(k == 24)=false:=by simp;omega
  by_cases kb:k=21\/k=22
  ·have hl2:=h22 kb;obtain⟨j,hj⟩:∃ j,o=some j:=by
    cases o with
    |none=>have:=hno.1 rfl;omega
    |some j=>exact⟨j,rfl⟩
   obtain⟨x0,l0,rfl⟩:∃ x l,a=x :: l:=by
    cases a with
    |nil=>simp at hl2
    |cons x l=>exact⟨x,l,rfl⟩
   have ew:W0 k (x0 :: l0)=O2 x0.kind:=by unfold W0;rw[if_neg ka,if_pos kb]
   rw[ew]at kL;have hbj:=hbo2 j hj;subst hj;have hT0:∃ T',T=I64 (O2 x0.kind) :: T':=⟨l0.map (fun x=>I64 (O2 x.kind)),by rw[hT];rfl⟩;obtain⟨T',hT'⟩:=hT0;rw[hT']at hbj;have hia:L2 1 (.slc j 0 (l0.length+1)) (.int .i64 0)=some (.ptr j 0):=by
    simp[L2]
   rcases kb with rfl|rfl
   all_goals (repeat' ((with_reducible first|apply wr|refine cpc hdn ?_|fail)<;>try simp only[go_sem,seval,hb1,hdz,hia,hbj]))
   all_goals exact kL (c+8) (by omega)
  have ew:W0 k a=1:=by unfold W0;rw[if_neg ka,if_neg kb]
  rw[ew]at kL;have kb1:(k == 21)=false:=by simp;omega
  have kb2:(k == 22)=false:=by simp;omega
  repeat' ((with_reducible first|apply wr|refine cpc hdn ?_|fail)<;>try simp only[go_sem,seval,hb1,hdz,ka1,ka2,ka3,kb1,kb2])
  all_goals exact kL (c+8) (by omega)
 |true =>
  have e0:dnE ⟨D,M⟩ n (kdE k) p=some (p,dnM ⟨D,M⟩ n (kdE k)):=by rw[dnE,if_neg (by simpa using hdz)]
  rw[e0]at hR;repeat' ((with_reducible first|apply wr|refine cpc hdn ?_|fail)<;>try simp only[go_sem,seval,hb1,hdz])
  refine⟨by (try and_intros)<;>exact hbn _ (by omega),by (try and_intros)<;>exact hbn _ (by omega),?_⟩;repeat' (apply wr<;>try simp only[go_sem,seval])
  exact A6 hR.symm
theorem c_vdR(r:Ru)(hB:r.sz<4000000):PC Tryz.prog 27 [r.v] (.bool (P9 r)):=by
 have:=c_ValidR31 r hB
 rwa [C3e]at this
theorem B4w(r:Ru)(e:Ex):(B0t r e).nl=true:=by unfold B0t;split;exact B8s _ _;rfl
theorem B4v{e:Ex}(h:L0 e=true):∃ q,msM e=some q:=by
 unfold L0 at h;cases hm:msM e with
 |none=>rw[hm]at h;cases h
 |some q=>exact⟨q,rfl⟩
theorem c_veR(e:Ex)(hB:e.sz<4000000):PC Tryz.prog 166 [e.v] (.bool (L0 e)):=by
 have:=c_ValidE31 e hB
 rwa [B8o]at this
theorem D1v(r:Ru)(e:Ex):∃ a b c:Int,tyV r e=.tup [I64 a,I64 b,I64 c]:=by
 unfold tyV;split
 ·exact⟨_,_,_,rfl⟩
 ·exact⟨_,_,_,rfl⟩
theorem c_TypeOfR(r:Ru)(e:Ex)(hB:r.sz<4000000)(hE:e.sz<4000000):PC Tryz.prog 88 [r.v,e.v] (B0t r e):=by
 refine PC.ofT A4 rfl (A0B rfl) (by simp[DV.nlL,DV.nl,J6,J5,Ex.nl]) (B4w _ _) ?_;have hv:=c_vdR r hB;have hve:=c_veR e hE;have hty:=c_tyR r (by have:=B9c r;omega) (by have:=B9b r;omega) (e.sz+1) e (A1Y _) (by omega);have hx:L0 e=true->∃ q,msM e=some q:=B4v;unfold B0t;obtain⟨a,b,c,habc⟩:=D1v r e;rw[habc]at hty ⊢;generalize P9 r=bv at *;generalize L0 e=be at *;obtain⟨D,M⟩:=r;rw[Ex.v_w]at hve hty ⊢;dsimp only[Ru.v]at hv hty ⊢;cases bv with
 |false =>
  repeat' ((with_reducible first|apply wr|refine cpc hv ?_|fail)<;>try simp only[go_sem,seval])
  exact A6 rfl
 |true =>
  cases be with
  |false =>
   repeat' ((with_reducible first|apply wr|refine cpc hv ?_|refine cpc hve ?_|fail)<;>try simp only[go_sem,seval])
   exact A6 rfl
  |true =>
   have hty:=hty (hx rfl);repeat' ((with_reducible first|apply wr|refine cpc hv ?_|refine cpc hve ?_|refine cpc hty ?_|fail)<;>try simp only[go_sem,seval])
   exact A6 rfl
def C0x(r:Ru)(n:List UInt8):DV:=if P9 r=true then .tup [I64 (T7 r n).1,I64 (T7 r n).2] else .tup [I64 0,I64 0]
theorem C9z(r:Ru)(n:List UInt8):(C0x r n).nl=true:=by unfold C0x;split<;>rfl
theorem c_LookupR(r:Ru)(n:List UInt8)(hB:r.sz<4000000):PC Tryz.prog 46 [r.v,.str n] (C0x r n):=by
 refine PC.ofT A4 rfl (A0B rfl) (by simp[DV.nlL,DV.nl,J6,J5]) (C9z _ _) ?_;have hv:=c_vdR r hB;have hl:=c_lkR r n (by have:=B9c r;omega) (by have:=B9b r;omega);unfold C0x;generalize P9 r=bv at *;obtain⟨D,M⟩:=r;dsimp only[Ru.v]at hv hl ⊢;cases bv<;>(repeat' ((with_reducible first|apply wr|refine cpc hv ?_|refine cpc hl ?_|fail)<;>try simp only[go_sem,seval]));all_goals exact A6 rfl
theorem C2r:B4n (inj (Value.map none))=some (none,⟨0,true,[.mnil]⟩):=rfl
abbrev beC(r:Ru):List DV:=[.snil,.snil,.snil,B2d (r.modes.map Md.prio),B2d ((r.decls.filter fun d=>d.kind=6).map Dc.value),I64 (cnD r.decls 7:Int),I64 (cnD r.decls 8:Int),.mp .s (mkK (inL (nmL r))) (mvV (inL (nmL r)))]
theorem c_begin0(r:Ru)(h1:r.decls.length<=1000000)(h2:r.modes.length<=1000000):
  AC Tryz.prog 49 [r.v] Sym.nil 0 (fun v H' _ => ∃ id,v=.ptr id 0/\H'=Sym.nil.upd id ⟨0,true,beC r⟩):=by
 obtain⟨R,hR⟩:∃ R,R=nmL r:=⟨_,rfl⟩;unfold beC;rw[<- hR];unfold nmL at hR;obtain⟨D,M⟩:=r;dsimp only at h1 h2 hR ⊢;dsimp only[Ru.v];refine AC.bodyT A4 rfl (A0B rfl) fun hfr=>?_;repeat' (apply wr<;>try simp only[go_sem,seval])
 refine C1 (fun q:Nat × NmL × Option Nat × List Int=>[(1,.ptr 0 0),(3,.ptr 2 0),(4,.mid 3),(19,C5 D),(20,I64 D.length),(21,I64 q.1)]) (fun q=>bgM D M q.2.1 (ahM (D.take q.1)) none [] q.2.2.1 q.2.2.2)
  (fun q c=>q.1<=D.length/\BN none [] q.2.2.1 q.2.2.2 c/\nmD [] [] D=nmD (D.take q.1) q.2.1 (D.drop q.1)/\q.2.2.2=((D.take q.1).filter fun d=>d.kind=6).map Dc.value) (fun q=>D.length-q.1) (0,[],none,[])
  (by simp[C6,tm,Tm.upd]) (A7i rfl rfl rfl rfl (fun i h=>by cases h) (fun i h=>by cases h)) ⟨A0O _,⟨by omega,fun i h=>(by cases h),fun i h=>(by cases h),fun i j h=>(by cases h),fun _=>rfl,fun _=>rfl⟩,rfl,rfl⟩ ?_
 rintro⟨i,l,o,vs⟩ c ⟨hk,hN,he,hvs⟩;dsimp only at hk hN he hvs ⊢;have h4c:=hN.c4;by_cases hlt:i<D.length
 ·have hd:=dtz hlt;have hg:=A0C hlt;have hw:=w64 (n:=(i:Int)+1);rw[B1w hg]at he;have hah:ahM (D.take (i+1))=ahS (ahM (D.take i)) D[i].kind:=by rw[A0S,hg];exact A7m _ _
  have hvn:((D.take (i+1)).filter fun d=>d.kind=6).map Dc.value=vs++(if D[i].kind=6 then [D[i].value] else []):=by
   rw[A0S,hg,List.filter_append,A0R, <- hvs]
   congr 1
   by_cases h:D[i].kind=6<;>simp[h]
  have hvl:vs.length<=D.length:=by
   rw[hvs,A0F];exact A1A (List.length_filter_le _ _) (by rw[A0W];omega)
  have hlk:=B6r D[i].kind (ahM (D.take i));have hmu:=C7f D[i].kind (ahM (D.take i));have hcn:=B4s (D.take i) D[i].kind;have hcl:=C2o (D.take i) D[i].kind;rw[A0W]at hcl;generalize D[i]=d at hg he hah hlk hmu hcn hcl hvn;rw[hcn]at hlk hmu;have hw2:=w64 (n:=(cnD (D.take i) d.kind:Int)+1);have hb0:=bg0 (D:=D) (M:=M) (l:=l) (a:=ahM (D.take i)) hN;have hb1:=bg1 (D:=D) (M:=M) (l:=l) (a:=ahM (D.take i)) hN;have hb2:=bg2 (D:=D) (M:=M) (l:=l) (a:=ahM (D.take i)) hN;have hb3:=bg3 (D:=D) (M:=M) (l:=l) (a:=ahM (D.take i)) hN;have hbV:=fun q (hi:o=some q)=>bgV (D:=D) (M:=M) (l:=l) (a:=ahM (D.take i)) (o2:=none) (ps:=[]) (vs:=vs) hi;have hbn:=fun j (hj:c<=j)=>bgN (D:=D) (M:=M) (l:=l) (a:=ahM (D.take i)) hN hj;have hno:=hN.no;have hho:=hN.ho;generalize hHH:bgM D M l (ahM (D.take i)) none [] o vs=HH at hb0 hb1 hb2 hb3 hbn hbV ⊢;have ne0:=A4t 0 1 2 3 c (c+1) (by omega);generalize hQ:lp _ _ _ _ _ _=Q;have tail:∀ (X:Hp) (c1:Nat) (o':Option Nat),c<c1->BN none [] o' (vs++(if d.kind=6 then [d.value] else [])) c1->(∀ i,o'=some i->i≠c)->X 0=some ⟨0,true,[C5 D,E4 M]⟩->X 1=some (A6m l) ->
    X 2=some ⟨0,true,bgC none [] o' (vs++(if d.kind=6 then [d.value] else [])) 0 0 (.mid 1)⟩->X 3=some ⟨0,true,[.mpc (.i .i64) (ahK (ahS (ahM (D.take i)) d.kind)) (ahV (ahS (ahM (D.take i)) d.kind))]⟩ ->
    X c=some ⟨0,true,[I64 d.kind,.str d.name,I64 d.value,I64 d.pos]⟩->(∀ i,o'=some i->X i=some ⟨1,true,(vs++(if d.kind=6 then [d.value] else [])).map I64⟩)->(∀ j,c1<=j->X j=none) ->
    IW Tryz.prog 139 (pz Tryz.prog 49 (.o (.i (.i (.o (.o .h)))))) ⟨tm [(1,.ptr 0 0),(3,.ptr 2 0),(4,.mid 3),(6,.ptr c 0),(7,I64 (P0 (D.take i) d)),(19,C5 D),(20,I64 D.length),(21,I64 i)],X,c1⟩ (bk 1 (sq Tryz.prog 139 (pz Tryz.prog 49 (.i (.o (.i (.i (.o .h)))))) Q)):=by
   intro X c1 o' hc1 hN' hoc x0 x1 x2 x3 xc xo xf;rw[<- hvn]at hN' x2 xo;subst hQ;cases hl:l.lookup d.name with
   |some y =>
    obtain⟨e1,e2⟩:=B1s (q:=(d.kind,P0 (D.take i) d)) hl;repeat' (apply wr<;>try simp only[go_sem,seval,x1,x2,xc,e2])
    refine⟨xf _ (by omega),?_⟩;repeat' (apply wr<;>try simp only[go_sem,seval,hw])
    refine⟨(i+1,S2 l d.name (d.kind,P0 (D.take i) d),o',((D.take (i+1)).filter fun d=>d.kind=6).map Dc.value),by simp[],?_,inv ⟨hlt,hN'.le (by omega),he,rfl⟩,by simp only;omega⟩;dsimp only;rw[hah,e1];exact A7i x0 x1 x2 x3 (fun i h=>by cases h) xo
   |none =>
    obtain⟨e1,e2,e3⟩:=B1t (q:=(d.kind,P0 (D.take i) d)) hl;repeat' (apply wr<;>try simp only[go_sem,seval,x1,x2,xc,e3])
    refine⟨xf _ (by omega),?_⟩;repeat' (apply wr<;>try simp only[go_sem,seval,x1,x2,xc,e3,hw])
    refine⟨(i+1,S2 l d.name (d.kind,P0 (D.take i) d),o',((D.take (i+1)).filter fun d=>d.kind=6).map Dc.value),by simp[],?_,inv ⟨hlt,hN'.le (by omega),he,rfl⟩,by simp only;omega⟩;dsimp only;rw[hah];exact A7i (by rw[hnO];exact x0) (by rw[h_same,e1]) (by rw[hnO];exact x2) (by rw[hnO];exact x3) (fun i h=>by cases h) (fun i h=>by have:=hN'.ho i h;rw[hnO];exact xo i h)
  have LL:∀ z:Int,z=P0 (D.take i) d->C6 [(1,DV.ptr 0 0),(3,.ptr 2 0),(4,.mid 3),(6,.ptr c 0),(7,I64 (P0 (D.take i) d)),(19,C5 D),(20,I64 D.length),(21,I64 i)] (tm [(1,DV.ptr 0 0),(3,.ptr 2 0),(4,.mid 3),(6,.ptr c 0),(7,I64 z),(19,C5 D),(20,I64 D.length),(21,I64 i)]):=fun z h=>by rw[h];simp[C6,tm,Tm.upd]
  by_cases k6:d.kind=6
  ·have d6:(d.kind == 6)=true:=by simpa using k6
   have hnum:P0 (D.take i) d=(cnD (D.take i) d.kind:Int):=by rw[P0,if_pos (.inl k6)]
   repeat' ((with_reducible first|refine G0 (p:=IW _ _ (pz Tryz.prog 49 (.o (.i (.i (.o (.o .h)))))) _ _) ?_|refine wr ?_|fail)<;>try simp only[go_sem,seval,hb2,hb3,hd,hg,hw2,hlk,hmu,d6,A4w,ne0,h_same,A1])
   refine B2t (D8 (cs:=vs.map I64) (fun e=>⟨A5r (hno e),by rw[hno e];rfl⟩) (fun i hi=>?_) (by rw[A0F,Nat.mul_one]) (by omega) (by omega) (by omega)) ?_
   ·have:=hho i hi;rw[hnO,hnO,hnO];exact hbV i hi
   have dm2:∀ X:Hp,delO X o 2=X 2:=fun X=>D1 (fun q hq e=>by have:=hho q hq;omega);simp only[go_sem,seval,dm2,hb2,ne0];generalize hY:Hp.upd (delO _ _) (c+1+14) _=Y;have yo:∀ j,j≠c+1+14->j≠c+1+8->(∀ q,o=some q->j≠q)->Y j=((HH.upd c ⟨0,true,[I64 d.kind,.str d.name,I64 d.value,I64 d.pos]⟩).upd 3 ⟨0,true,[.mpc (.i .i64) (ahK (ahS (ahM (D.take i)) d.kind)) (ahV (ahS (ahM (D.take i)) d.kind))]⟩) j:=fun j e1 e2 e3=>by
    rw[<- hY,h_ne e1,D1 e3,h_ne e2]
   have yl:∀ j,j<=c->(∀ q,o=some q->j≠q)->Y j=((HH.upd c ⟨0,true,[I64 d.kind,.str d.name,I64 d.value,I64 d.pos]⟩).upd 3 ⟨0,true,[.mpc (.i .i64) (ahK (ahS (ahM (D.take i)) d.kind)) (ahV (ahS (ahM (D.take i)) d.kind))]⟩) j:=fun j e1 e3=>yo j (by omega) (by omega) e3;have y0:Y 0=some ⟨0,true,[C5 D,E4 M]⟩:=by rw[yl 0 (by omega) (fun q hq=>by have:=hho q hq;omega),hnO,hnO];exact hb0
   have y1:Y 1=some (A6m l):=by rw[yl 1 (by omega) (fun q hq=>by have:=hho q hq;omega),hnO,hnO];exact hb1
   have y2:Y 2=some ⟨0,true,bgC none [] o vs 0 0 (.mid 1)⟩:=by rw[yl 2 (by omega) (fun q hq=>by have:=hho q hq;omega),hnO,hnO];exact hb2
   have y3:Y 3=some ⟨0,true,[.mpc (.i .i64) (ahK (ahS (ahM (D.take i)) d.kind)) (ahV (ahS (ahM (D.take i)) d.kind))]⟩:=by rw[yl 3 (by omega) (fun q hq=>by have:=hho q hq;omega),h_same]
   have yc:Y c=some ⟨0,true,[I64 d.kind,.str d.name,I64 d.value,I64 d.pos]⟩:=by rw[yl c (by omega) (fun q hq=>by have:=hho q hq;omega),hnO,h_same]
   have yn:∀ j,c+1<=j->j≠c+1+14->j≠c+1+8->Y j=none:=fun j hj e1 e2=>by rw[yo j e1 e2 (fun q hq=>by have:=hho q hq;omega),hnO,hnO];exact hbn _ (by omega)
   have ya:Y (c+1+14)=some ⟨1,true,vs.map I64++[I64 d.value]⟩:=by rw[<- hY,h_same]
   refine⟨yn _ (by omega) (by omega) (by omega),?_⟩;simp only[if_pos k6]at tail;have hN1:BN none [] (some (c+1+14)) (vs++[d.value]) (c+1+14+1):=hN.newV (by omega) (by omega);refine IW.stage (L:=[(1,.ptr 0 0),(3,.ptr 2 0),(4,.mid 3),(6,.ptr c 0),(7,I64 (P0 (D.take i) d)),(19,C5 D),(20,I64 D.length),(21,I64 i)]) (by rw[hnum];simp[C6,tm,Tm.upd]) (tail _ _ (some (c+1+14)) (by omega) hN1 (fun q hq=>by cases hq;omega) ?_ ?_ ?_ ?_ ?_ (fun q hq=>?_) (fun q hq=>?_))
   ·rw[hnO];exact y0
   ·rw[hnO];exact y1
   ·rw[h_same];simp[todoV]
   ·rw[hnO];exact y3
   ·rw[hnO];exact yc
   ·cases hq;rw[hnO,ya];simp
   ·rw[hnO];exact yn q (by omega) (by omega) (by omega)
  have d6:(d.kind == 6)=false:=by simpa using k6
  simp only[if_neg k6,A1B]at tail;by_cases k7:d.kind=7
  ·have d7:(d.kind == 7)=true:=by simpa using k7
   have hnum:P0 (D.take i) d=(cnD (D.take i) d.kind:Int):=by rw[P0,if_pos (.inr (.inl k7))]
   repeat' ((with_reducible first|refine G0 (p:=IW _ _ (pz Tryz.prog 49 (.o (.i (.i (.o (.o .h)))))) _ _) ?_|refine wr ?_|fail)<;>try simp only[go_sem,seval,hb3,hd,hg,hw2,hlk,hmu,d6,d7,A4w,ne0,h_same,A1])
   refine IW.stage (L:=[(1,.ptr 0 0),(3,.ptr 2 0),(4,.mid 3),(6,.ptr c 0),(7,I64 (P0 (D.take i) d)),(19,C5 D),(20,I64 D.length),(21,I64 i)]) (by rw[hnum];simp[C6,tm,Tm.upd]) (tail _ _ o (by omega) (hN.le (by omega)) (fun q hq=>by have:=hho q hq;omega) ?_ ?_ ?_ ?_ ?_ (fun q hq=>?_) (fun q hq=>?_))
   ·rw[hnO,hnO];exact hb0
   ·rw[hnO,hnO];exact hb1
   ·rw[hnO,hnO];exact hb2
   ·rw[h_same]
   ·rw[hnO,h_same]
   ·have:=hho q hq;rw[hnO,hnO];exact hbV q hq
   ·rw[hnO,hnO];exact hbn q (by omega)
  have d7:(d.kind == 7)=false:=by simpa using k7
  by_cases k8:d.kind=8
  ·have d8:(d.kind == 8)=true:=by simpa using k8
   have hnum:P0 (D.take i) d=(cnD (D.take i) d.kind:Int):=by rw[P0,if_pos (.inr (.inr k8))]
   repeat' ((with_reducible first|refine G0 (p:=IW _ _ (pz Tryz.prog 49 (.o (.i (.i (.o (.o .h)))))) _ _) ?_|refine wr ?_|fail)<;>try simp only[go_sem,seval,hb3,hd,hg,hw2,hlk,hmu,d6,d7,d8,A4w,ne0,h_same,A1])
   refine IW.stage (L:=[(1,.ptr 0 0),(3,.ptr 2 0),(4,.mid 3),(6,.ptr c 0),(7,I64 (P0 (D.take i) d)),(19,C5 D),(20,I64 D.length),(21,I64 i)]) (by rw[hnum];simp[C6,tm,Tm.upd]) (tail _ _ o (by omega) (hN.le (by omega)) (fun q hq=>by have:=hho q hq;omega) ?_ ?_ ?_ ?_ ?_ (fun q hq=>?_) (fun q hq=>?_))
   ·rw[hnO,hnO];exact hb0
   ·rw[hnO,hnO];exact hb1
   ·rw[hnO,hnO];exact hb2
   ·rw[h_same]
   ·rw[hnO,h_same]
   ·have:=hho q hq;rw[hnO,hnO];exact hbV q hq
   ·rw[hnO,hnO];exact hbn q (by omega)
  ·have d8:(d.kind == 8)=false:=by simpa using k8
   have hnum:P0 (D.take i) d=d.value:=by rw[P0,if_neg (by omega)]
   repeat' ((with_reducible first|refine G0 (p:=IW _ _ (pz Tryz.prog 49 (.o (.i (.i (.o (.o .h)))))) _ _) ?_|refine wr ?_|fail)<;>try simp only[go_sem,seval,hb3,hd,hg,hw2,hlk,hmu,d6,d7,d8,A4w,ne0,h_same,A1])
   refine IW.stage (L:=[(1,.ptr 0 0),(3,.ptr 2 0),(4,.mid 3),(6,.ptr c 0),(7,I64 (P0 (D.take i) d)),(19,C5 D),(20,I64 D.length),(21,I64 i)]) (by rw[hnum];simp[C6,tm,Tm.upd]) (tail _ _ o (by omega) (hN.le (by omega)) (fun q hq=>by have:=hho q hq;omega) ?_ ?_ ?_ ?_ ?_ (fun q hq=>?_) (fun q hq=>?_))
   ·rw[hnO,hnO];exact hb0
   ·rw[hnO,hnO];exact hb1
   ·rw[hnO,hnO];exact hb2
   ·rw[h_same]
   ·rw[hnO,h_same]
   ·have:=hho q hq;rw[hnO,hnO];exact hbV q hq
   ·rw[hnO,hnO];exact hbn q (by omega)
 have hd:=dfz hlt;have hi:i=D.length:=by omega
 subst hi;rw[List.drop_length,nmD]at he;rw[he]at hR;rw[A2D]at hvs ⊢;clear he hlt hk;have hvl:vs.length<=D.length:=by
  rw[hvs,A0F];exact List.length_filter_le _ _
 have hb0:=bg0 (D:=D) (M:=M) (l:=l) (a:=ahM D) hN;repeat' (apply wr<;>try simp only[go_sem,seval,hd,A0F,hb0])
 obtain⟨A,hA⟩:∃ A,A=ahM D:=⟨_,rfl⟩;have hA7:=B6r 7 A;have hA8:=B6r 8 A;rw[hA,B4s]at hA7 hA8;rw[<- hA]at hb0 hA7 hA8 ⊢;clear hb0 h4c hd;refine C1 (fun q:Nat × NmL × Option Nat × List Int=>[(3,.ptr 2 0),(4,.mid 3),(86,E4 M),(87,I64 M.length),(88,I64 q.1)]) (fun q=>bgM D M q.2.1 A q.2.2.1 q.2.2.2 o vs)
  (fun q c=>q.1<=M.length/\BN q.2.2.1 q.2.2.2 o vs c/\R=nmX q.1 q.2.1 (M.drop q.1)/\q.2.2.2=(M.take q.1).map Md.prio) (fun q=>M.length-q.1) (0,l,none,[])
  (by simp[C6,tm,Tm.upd]) (Sub.refl _) ⟨A0O _,hN,hR,rfl⟩ ?_
 clear hN hR;rintro⟨i,l,o2,ps⟩ c ⟨hk,hN,he,hps⟩;dsimp only at hk hN he hps ⊢;have h4c:=hN.c4;have hb0:=bg0 (D:=D) (M:=M) (l:=l) (a:=A) hN;have hb1:=bg1 (D:=D) (M:=M) (l:=l) (a:=A) hN;have hb2:=bg2 (D:=D) (M:=M) (l:=l) (a:=A) hN;have hb3:=bg3 (D:=D) (M:=M) (l:=l) (a:=A) hN;have hbV:=fun q (hi:o=some q)=>bgV (D:=D) (M:=M) (l:=l) (a:=A) (o2:=o2) (ps:=ps) (vs:=vs) hi;have hbP:=fun q (hi:o2=some q)=>bgP (D:=D) (M:=M) (l:=l) (a:=A) hN hi;have hbn:=fun j (hj:c<=j)=>bgN (D:=D) (M:=M) (l:=l) (a:=A) hN hj;have hno:=hN.n2;have hho:=hN.h2;have hho1:=hN.ho;have hne12:=hN.ne;by_cases hlt:i<M.length
 ·have hd:=dtz hlt;have hg:=A0C hlt;have hw:=w64 (n:=(i:Int)+1);rw[B1v hg]at he;have hpn:(M.take (i+1)).map Md.prio=ps++[M[i].prio]:=by rw[A0S,hg,A0R, <- hps];rfl
  have hpl:ps.length<=M.length:=by rw[hps,A0F,A0W];omega
  generalize M[i]=d at hg he hpn;generalize hHH:bgM D M l A o2 ps o vs=HH at hb0 hb1 hb2 hb3 hbn hbV hbP ⊢;have ne0:=A4t 0 1 2 3 c (c+1) (by omega);repeat' ((with_reducible first|refine G0 (p:=IW _ _ (pz Tryz.prog 49 (.i (.i (.i (.i (.i .h)))))) _ _) ?_|refine wr ?_|fail)<;>try simp only[go_sem,seval,hb2,hd,hg,C4t,ne0,h_same,A1])
  refine B2t (D8 (cs:=ps.map I64) (fun e=>⟨A5r (hno e),by rw[hno e];rfl⟩) (fun i hi=>?_) (by rw[A0F,Nat.mul_one]) (by omega) (by omega) (by omega)) ?_
  ·have:=hho i hi
   repeat rw[hnO]
   exact hbP i hi
  have dm2:∀ X:Hp,delO X o2 2=X 2:=fun X=>D1 (fun q hq e=>by have:=hho q hq;omega);simp only[go_sem,seval,dm2,hb2,ne0];generalize hY:Hp.upd (delO _ _) (c+1+14) _=Y;have yo:∀ j,j≠c+1+14->j≠c+1+8->(∀ q,o2=some q->j≠q)->Y j=(HH.upd c ⟨0,true,[.str d.name,I64 d.prio,A0z d.hds,I64 d.pos]⟩) j:=fun j e1 e2 e3=>by
   rw[<- hY,h_ne e1,D1 e3,h_ne e2]
  have yl:∀ j,j<c->(∀ q,o2=some q->j≠q)->Y j=HH j:=fun j e1 e3=>by rw[yo j (by omega) (by omega) e3,hnO]
  have y0:Y 0=some ⟨0,true,[C5 D,E4 M]⟩:=by rw[yl 0 (by omega) (fun q hq=>by have:=hho q hq;omega)];exact hb0
  have y1:Y 1=some (A6m l):=by rw[yl 1 (by omega) (fun q hq=>by have:=hho q hq;omega)];exact hb1
  have y3:Y 3=some ⟨0,true,[.mpc (.i .i64) (ahK A) (ahV A)]⟩:=by rw[yl 3 (by omega) (fun q hq=>by have:=hho q hq;omega)];exact hb3
  have yc:Y c=some ⟨0,true,[.str d.name,I64 d.prio,A0z d.hds,I64 d.pos]⟩:=by rw[yo c (by omega) (by omega) (fun q hq=>by have:=hho q hq;omega),h_same]
  have yn:∀ j,c+1<=j->j≠c+1+14->j≠c+1+8->Y j=none:=fun j hj e1 e2=>by rw[yo j e1 e2 (fun q hq=>by have:=hho q hq;omega),hnO];exact hbn _ (by omega)
  have ya:Y (c+1+14)=some ⟨1,true,ps.map I64++[I64 d.prio]⟩:=by rw[<- hY,h_same]
  have yV:∀ q,o=some q->Y q=some ⟨1,true,vs.map I64⟩:=fun q hq=>by
   have:=hho1 q hq;rw[yl q (by omega) (fun z hz e=>hne12 z q hz hq e.symm)];exact hbV q hq
  refine⟨yn _ (by omega) (by omega) (by omega),?_⟩;obtain⟨Z,hZ⟩:∃ Z:Hp,Z=Y.upd 2 ⟨0,true,[.snil,.snil,.snil,.slc (c+1+14) 0 (ps.length+1),todoV o vs.length,I64 0,I64 0,.mid 1]⟩:=⟨_,rfl⟩;rw[<- hZ];have z0:Z 0=some ⟨0,true,[C5 D,E4 M]⟩:=by rw[hZ,hnO];exact y0
  have z1:Z 1=some (A6m l):=by rw[hZ,hnO];exact y1
  have z2:Z 2=some ⟨0,true,bgC (some (c+1+14)) (ps++[d.prio]) o vs 0 0 (.mid 1)⟩:=by rw[hZ,h_same];simp[todoV]
  have z3:Z 3=some ⟨0,true,[.mpc (.i .i64) (ahK A) (ahV A)]⟩:=by rw[hZ,hnO];exact y3
  have zc:Z c=some ⟨0,true,[.str d.name,I64 d.prio,A0z d.hds,I64 d.pos]⟩:=by rw[hZ,hnO];exact yc
  have zp:∀ q,some (c+1+14)=some q->Z q=some ⟨1,true,(ps++[d.prio]).map I64⟩:=fun q hq=>by cases hq;rw[hZ,hnO,ya];simp
  have zV:∀ q,o=some q->Z q=some ⟨1,true,vs.map I64⟩:=fun q hq=>by have:=hho1 q hq;rw[hZ,hnO];exact yV q hq
  have zn:∀ j,c+1+14+1<=j->Z j=none:=fun j hj=>by rw[hZ,hnO];exact yn j (by omega) (by omega) (by omega)
  have hN1:BN (some (c+1+14)) (ps++[d.prio]) o vs (c+1+14+1):=hN.newP (by omega) (by omega);clear hZ ya yn yV yc y0 y1 y3 yl yo hY;rw[<- hpn]at hN1 z2 zp;cases hl:l.lookup d.name with
  |some y =>
   obtain⟨e1,e2⟩:=B1s (q:=((9:Int),(i:Int))) hl;repeat' (apply wr<;>try simp only[go_sem,seval,z1,z2,zc,e2])
   refine⟨zn _ (by omega),?_⟩;repeat' (apply wr<;>try simp only[go_sem,seval,hw])
   refine⟨(i+1,S2 l d.name (9,(i:Int)),some (c+1+14),(M.take (i+1)).map Md.prio),by simp[],?_,inv ⟨hlt,hN1.le (by omega),he,rfl⟩,by simp only;omega⟩;dsimp only;rw[e1];exact A7i z0 z1 z2 z3 zp zV
  |none =>
   obtain⟨e1,e2,e3⟩:=B1t (q:=((9:Int),(i:Int))) hl;repeat' (apply wr<;>try simp only[go_sem,seval,z1,z2,zc,e3])
   refine⟨zn _ (by omega),?_⟩;repeat' (apply wr<;>try simp only[go_sem,seval,z1,z2,zc,e3,hw])
   refine⟨(i+1,S2 l d.name (9,(i:Int)),some (c+1+14),(M.take (i+1)).map Md.prio),by simp[],?_,inv ⟨hlt,hN1.le (by omega),he,rfl⟩,by simp only;omega⟩;dsimp only;exact A7i (by rw[hnO];exact z0) (by rw[h_same,e1]) (by rw[hnO];exact z2) (by rw[hnO];exact z3) (fun q h=>by have:=hN1.h2 q h;rw[hnO];exact zp q h) (fun q h=>by have:=hho1 q h;rw[hnO];exact zV q h)
 have hd:=dfz hlt;have hi:i=M.length:=by omega
 subst hi;rw[List.drop_length,nmX]at he;rw[A2D]at hps;subst he;repeat' (apply wr<;>try simp only[go_sem,seval,hd,hb2,hb3,hA7,hA8])
 rw[A1, <- hps, <- hvs];have hno':=hN.no;obtain⟨Z,hZ⟩:∃ Z:Hp,Z=((Sym.nil.upd 0 ⟨0,true,[C5 D,E4 M]⟩).upd 1 (A6m R)).upd 3 ⟨0,true,[.mpc (.i .i64) (ahK A) (ahV A)]⟩:=⟨_,rfl⟩;have hz:∀ j,4<=j->Z j=none:=fun j hj=>by rw[hZ,hnO,hnO,hnO];rfl
 have e:(bgM D M R A o2 ps o vs).upd 2 ⟨0,true,[.snil,.snil,.snil,todoV o2 ps.length,todoV o vs.length,I64 (cnD D 7),I64 (cnD D 8),.mid 1]⟩ =
   optH (optH (Z.upd 2 ⟨0,true,[.snil,.snil,.snil]++[todoV o2 ps.length]++[todoV o vs.length,I64 (cnD D 7),I64 (cnD D 8),.mid 1]⟩) o2 ⟨1,true,cellsL (ps.map I64)⟩) o ⟨1,true,cellsL (vs.map I64)⟩:=by
  rw[A7g,A7g,hZ]
  funext j
  unfold bgM;cases o2<;>cases o<;>simp only[optH,Hp.upd]<;>(repeat' split)<;>first|rfl|(subst_vars;simp_all;done)|simp_all
 rw[e];have com:∀ (B P:Blk),optH (Z.upd 2 B) o2 P=(optH Z o2 P).upd 2 B:=fun B P=>by
  cases o2 with
  |none=>rfl
  |some i =>
   have:=hho i rfl
   funext j
   simp only[optH,Hp.upd]
   (repeat' split)<;>first|rfl|omega
 have one2:(todoV o2 ps.length).one=true:=by cases o2<;>rfl
 rw[com];have g1:GL (optH ((optH Z o2 ⟨1,true,cellsL (ps.map I64)⟩).upd 2 ⟨0,true,[.snil,.snil,.snil,todoV o2 ps.length]++[todoV o vs.length]++[I64 (cnD D 7),I64 (cnD D 8),.mid 1]⟩) o ⟨1,true,cellsL (vs.map I64)⟩) [.ptr 2 0]
   ((optH Z o2 ⟨1,true,cellsL (ps.map I64)⟩).upd 2 ⟨0,true,[.snil,.snil,.snil,todoV o2 ps.length]++[.lst (vs.map I64)]++[I64 (cnD D 7),I64 (cnD D 8),.mid 1]⟩) [.ptr 2 0] :=
  g_fin (fun d hd=>by simp at hd;rcases hd with rfl|rfl|rfl|rfl|rfl<;>first|rfl|exact one2) (fun e=>by rw[hno' e];rfl) (fun i hi=>⟨by have:=hho1 i hi;omega,by rw[B7 (fun q hq e=>hne12 q i hq hi e.symm)];exact hz i (hho1 i hi).1⟩) (by simp) (fun x hx=>by obtain⟨y, -,rfl⟩:=A1D.1 hx;rfl)
 have g2:GL (optH (Z.upd 2 ⟨0,true,[.snil,.snil,.snil]++[todoV o2 ps.length]++[.lst (vs.map I64),I64 (cnD D 7),I64 (cnD D 8),.mid 1]⟩) o2 ⟨1,true,cellsL (ps.map I64)⟩) [.ptr 2 0]
   (Z.upd 2 ⟨0,true,[.snil,.snil,.snil]++[.lst (ps.map I64)]++[.lst (vs.map I64),I64 (cnD D 7),I64 (cnD D 8),.mid 1]⟩) [.ptr 2 0] :=
  g_fin (fun d hd=>by simp at hd;rcases hd with rfl|rfl|rfl|rfl|rfl<;>rfl) (fun e=>by rw[hno e];rfl) (fun i hi=>⟨by have:=hho i hi;omega,hz i (hho i hi).1⟩) (by simp) (fun x hx=>by obtain⟨y, -,rfl⟩:=A1D.1 hx;rfl)
 have g3:GL (Z.upd 2 ⟨0,true,[.snil,.snil,.snil,.lst (ps.map I64),.lst (vs.map I64),I64 (cnD D 7),I64 (cnD D 8)]++[.mid 1]++[]⟩) [.ptr 2 0]
   (Sym.nil.upd 2 ⟨0,true,[.snil,.snil,.snil,.lst (ps.map I64),.lst (vs.map I64),I64 (cnD D 7),I64 (cnD D 8)]++[.mp .s (mkK (inL R)) (mvV (inL R))]++[]⟩) [.ptr 2 0] :=
  GL.frzmC (id:=1) (k:=2) (u:=0) (by rw[hnO,hZ];rfl) h_same (by omega) h_same (fun j hj=>.inl (by rw[h_ne hj];rfl))
 rw[com]at g2;exact⟨_,_,(g1.trans g2).trans g3,2,rfl,rfl⟩
theorem D1h(r:Ru):∀ d∈beC r,d.nl=true:=by
 intro d hd;simp only[beC,A1P,List.not_mem_nil,or_false]at hd;rcases hd with rfl|rfl|rfl|rfl|rfl|rfl|rfl|rfl
 ·rfl
 ·rfl
 ·rfl
 ·exact B1x _
 ·exact B1x _
 ·rfl
 ·rfl
 ·unfold mkK mvV inL;simp only[DV.nl];rw[A2E,A2E];rw[show ((fun p:List UInt8 × DV=>DV.str p.1)∘fun p:List UInt8 × (Int × Int)=>(p.1,I64 p.2.2))=fun p=>DV.str p.1 from rfl,show ((fun p:List UInt8 × DV=>p.2)∘fun p:List UInt8 × (Int × Int)=>(p.1,I64 p.2.2))=fun p=>I64 p.2.2 from rfl];rw[H9 (fun _=>rfl),H9 (fun _=>rfl)];rfl
theorem c_begin(r:Ru)(h1:r.decls.length<=1000000)(h2:r.modes.length<=1000000)(H:Hp)(c:Nat):
  AC Tryz.prog 49 [r.v] H c (fun v H' c'=>v=.ptr c 0/\H'=H.upd c ⟨0,true,beC r⟩/\c'=c+1) :=
 AC.own (V:=fun id=>.ptr id 0) (c_begin0 r h1 h2) (by simp[DV.nlL,DV.nl,J6,J5]) (D1h r) (fun ρ ρ' id id' v h1 h2 h3=>by
  cases h3 with
  |ptr _ _ t q hm=>exact .ptr id' 0 t (h1▸q) hm) H c
end Go.Proofs.YtkkjpohaffjecaaGreatDoor
set_option maxHeartbeats 4000000
namespace Go.Proofs.YtkkjpohaffjecaaGreatDoor
open Go.Eng (IC IOper DReg IFn J0)
open Go.Sym Go.Pb
abbrev mkQ(r:Ru):DV->DV->List DV:=mkR (C5 r.decls) (E4 r.modes)
theorem c_number34(r:Ru)(hB:r.sz<4000000)(hv:P9 r=true)(s:List UInt8)(H:Hp)(c t:Nat)(I S:DV)(ht:H t=some ⟨0,true,[C5 r.decls,E4 r.modes,I,S]⟩)(htc:t<c):
  AC Tryz.prog 168 [.ptr t 0,.str s] H c (fun v H' c'=>v=I64 (nmR r s)/\H'=H):=by
 have hl:=c_LookupR r s hB;unfold C0x at hl;rw[if_pos hv]at hl;refine AC.bodyT A4 rfl (A0B rfl) fun hfr=>?_;repeat' ((with_reducible first|apply wr|refine cpc hl ?_|fail)<;>try simp only[go_sem,seval,ht])
 exact⟨_,_,GL.refl _ _,rfl,rfl⟩
theorem c_rexpr(r:Ru)(hB:r.sz<4000000)(hv:P9 r=true):∀ (z:Nat) (ex:Ex),ex.sz<z->ex.sz<=100000000->∀ x:Cg,x.1.length+(cgE (nmR r) ex).length<=100000000 ->
  GC 89 (mkQ r) [ex.v] x (x.1++cgE (nmR r) ex,x.2) (.tup []):=by
 intro z
 induction z with
 |zero=>intro ex h;omega
 |succ z ih =>
 intro ex hz hB2 x hx H0 c t' a b h;have hal:Ex.szs ex.args<ex.sz:=by cases ex with|mk k v n a p=>rw[Ex.sz];show Ex.szs a<_;omega
 have hargs:∀ x∈ex.args,x.sz<=Ex.szs ex.args:=fun x hx=>Ex.szs_mem hx;have hll:=Ex.szs_len ex.args;have hE:=C7d (nmR r) ex;rw[hE]at hx ⊢;rw[Ex.v_w];cases ex with|mk k vv nn ar pos =>
 dsimp only[Ex.w,Ex.kind,Ex.value,Ex.name,Ex.args,Ex.pos]at hal hargs hll hx ⊢;clear hE;rw[A0A,A0H]at hx;have h1:=h.tc;refine AC.bodyT A4 rfl (A0B rfl) fun hfr=>?_;repeat' (apply wr<;>try simp only[go_sem,seval])
 obtain⟨B,hBe⟩:∃ B:Blk,B=⟨0,true,[I64 k,I64 vv,.str nn,F7 ar,I64 pos]⟩:=⟨_,rfl⟩;rw[<- hBe,h.com (A0G _)];have hb0:=h.box (B:=B) (A0G c) (A1Y c);refine C1 (fun q:Nat × Option Nat × Option Nat=>[(0,.ptr t' 0),(3,.ptr c 0),(4,I64 q.1)]) (fun q=>GM (H0.upd c B) t' q.2.1 q.2.2 (mkQ r) (x.1++J9 (nmR r) (ar.take q.1),x.2))
  (fun q cc=>c+1<=cc/\q.1<=ar.length/\GN (H0.upd c B) t' q.2.1 q.2.2 (x.1++J9 (nmR r) (ar.take q.1),x.2) cc) (fun q=>ar.length-q.1) (0,a,b)
  (by simp[C6,tm,Tm.upd]) (by simp only[A2G,J9,A1B];exact Sub.refl _) ⟨A0G _,A0O _,by simp only[A2G,J9,A1B];exact hb0⟩ ?_
 clear hb0;rintro⟨i,o,b1⟩ cc ⟨hc,hk,hN⟩;dsimp only at hk hN ⊢;have hnn:=hN.tc;have hfr':=fun (j:Nat) (hj:cc<=j)=>D5g (mk:=mkQ r) hN hj;have hM:=B4t (mk:=mkQ r) hN;have hcB:GM (H0.upd c B) t' o b1 (mkQ r) (x.1++J9 (nmR r) (ar.take i),x.2) c=some ⟨0,true,[I64 k,I64 vv,.str nn,F7 ar,I64 pos]⟩:=C6g hN (by rw[h_same,hBe]) (by omega);by_cases hlt:i<ar.length
 ·have hd:=dtz hlt;have hg:=A0C hlt;have hw:=w64 (n:=(i:Int)+1);have hsn:=A8t (nmR r) hg;have hle:=A3e (nmR r) ar (i+1);have hmem:=hargs _ (A0Q hlt);generalize ar[i]=y at hg hsn hmem;rw[hsn,A0A]at hle;have hcall:=ih y (by omega) (by omega) (x.1++J9 (nmR r) (ar.take i),x.2) (by rw[A0A];omega);rw[Ex.v_w]at hcall;repeat' (apply wr<;>try simp only[go_sem,seval,hd,hg,Ex.v_w,A0F,hcB])
  refine AC.call (hcall _ _ _ _ _ hN) ?_;rintro _ _ c2 ⟨rfl,a2,b2,hN2,rfl⟩ hc2;simp only[go_sem,seval];repeat' (apply wr<;>try simp only[go_sem,seval,hw])
  dsimp only at hN2 ⊢;rw[A0T, <- hsn]at hN2 ⊢;exact⟨(i+1,a2,b2),by simp[],Sub.refl _,inv ⟨by omega,hlt,hN2⟩,by simp only;omega⟩
 ·have hd:=dfz hlt;have hi:i=ar.length:=by omega
  subst hi;rw[A2D]at hN hfr' hM hcB ⊢;have hz0:=h.fr c (A0G _);have hnum:=fun cx (hx:cc<=cx)=>c_number34 r hB hv nn _ cx t' _ _ hM (by omega);have fin:∀ (op A:Int),A7t (nmR r) k vv nn=⟨op,A⟩->∀ cx,cc<=cx->AC Tryz.prog 159 [.ptr t' 0,I64 op,I64 A] (GM (H0.upd c B) t' o b1 (mkQ r) (x.1++J9 (nmR r) ar,x.2)) cx (fun v' H' c' => ∃ a' b',GN (H0.upd c B) t' a' b' (x.1++(J9 (nmR r) ar++[A7t (nmR r) k vv nn]),x.2) c'/\H'=GM (H0.upd c B) t' a' b' (mkQ r) (x.1++(J9 (nmR r) ar++[A7t (nmR r) k vv nn]),x.2)):=fun op A he cx hcx=>by
   rw[he, <- A0T];refine AC.call (c_emit34 _ _ op A (x.1++J9 (nmR r) ar,x.2) (by rw[A0A];omega) _ _ _ _ _ (hN.le hcx)) ?_;rintro _ _ c2 ⟨rfl,a2,b2,hN2,rfl⟩ hc2;exact⟨a2,b2,hN2,rfl⟩
  repeat' ((with_reducible first|refine wr ?_|refine wb2 ?_ ?_<;>(intro hb;try simp only[hb])|fail)<;>try simp only[go_sem,seval,hd,hcB])
  all_goals
   first
   |refine AC.call (hnum cc (A0G _)) ?_
    rintro _ _ c3 ⟨rfl,rfl⟩ hc3;simp only[go_sem,seval];repeat' (apply wr<;>try simp only[go_sem,seval])
    refine AC.call (fin _ _ ?_ _ hc3) ?_
   |refine AC.call (fin _ _ ?_ _ (A0G _)) ?_
   ·clear fin hN hM hcB hfr' hx hz0 hnn ih hfr h hargs hal hBe hnum;simp_all[A7t]
   rintro _ _ c2 ⟨a2,b2,hN2,rfl⟩ hc2;simp only[go_sem,seval];repeat' (apply wr<;>try simp only[go_sem,seval])
   exact⟨_,_,GL.less' (B0p hz0 (by omega) hN2),rfl,a2,b2,hN2.unbox hz0 (by omega) h.fr,rfl⟩
end Go.Proofs.YtkkjpohaffjecaaGreatDoor
set_option maxHeartbeats 8000000
namespace Go.Proofs.YtkkjpohaffjecaaGreatDoor
open Go.Eng (IC IOper DReg IFn J0)
open Go.Sym Go.Pb
abbrev B7r(l:List (List UInt8 × (Int × Int))):Blk:=⟨0,true,[.mpc .s (mkK (U3 l)) (mvV (U3 l))]⟩
theorem c_set(n:List UInt8)(q:Int × Int)(l:List (List UInt8 × (Int × Int)))(H:Hp)(cc b t:Nat)(hb:H b=some ⟨0,true,[.mid t]⟩)(ht:H t=some (B7r l))(hbc:b<cc)(htc:t<cc):
  AC Tryz.prog 171 [.str n,A3v q,.ptr b 0] H cc (fun v H' c'=>v=.tup []/\H'=H.upd t (B7r (S2 l n q))):=by
 refine AC.bodyT A4 rfl (A0B rfl) fun hfr=>?_;have hbt:b≠t:=fun e=>by rw[e,ht]at hb;cases hb
 cases hl:l.lookup n with
 |some y =>
  have hs:S2 l n q=l:=by rw[S2,if_pos (by rw[hl];rfl)]
  have h1:Sym.lkV (.agg [I64 0,I64 0]) true (mvV (U3 l)) (E7 (.str n) (mkK (U3 l)) 0)=some (.tup [A3v y,.bool true]):=A5p (ok:=true) (by rw[T5,hl];rfl);unfold A3v at h1 ⊢;rw[hs,upd_same ht];have ne0:=W7 b t cc (cc+1) (by omega);repeat' (apply wr<;>try simp only[go_sem,seval,hb,ht,h1,ne0,h_same,A1])
  refine⟨_,_,GL.less' fun j b hj=>?_,rfl,rfl⟩;have:=A9t hfr hj;have h2:j≠cc+1:=by rintro rfl;rw[hfr _ (by omega)]at hj;cases hj
  rw[h_ne h2,h_ne this];exact hj
 |none =>
  have hs:S2 l n q=l++[(n,q)]:=by rw[S2,if_neg (by rw[hl];simp)]
  have hl':(U3 l).lookup n=none:=by rw[T5,hl];rfl
  have h1:Sym.lkV (.agg [I64 0,I64 0]) true (mvV (U3 l)) (E7 (.str n) (mkK (U3 l)) 0)=some (.tup [.agg [I64 0,I64 0],.bool false]):=A5q (ok:=true) hl';have h2:=B6b hl';have e1:mkK (U3 (l++[(n,q)]))=mkK (U3 l)++[.str n]:=by simp[mkK,U3]
  have e2:mvV (U3 (l++[(n,q)]))=mvV (U3 l)++[A3v q]:=by simp[mvV,U3]
  unfold A3v at e2 ⊢;rw[hs];unfold B7r;rw[e1,e2];have ne0:=W7 b t cc (cc+1) (by omega);repeat' (apply wr<;>try simp only[go_sem,seval,hb,ht,h2,ne0,h_same,A1])
  refine⟨_,_,GL.less' fun j b hj=>?_,rfl,rfl⟩;by_cases e:j=t
  ·subst e;rw[h_same]at hj ⊢;exact hj
  ·rw[h_ne e]at hj ⊢;have:=A9t hfr hj;have h2:j≠cc+1:=by rintro rfl;rw[hfr _ (by omega)]at hj;cases hj
   rw[h_ne h2,h_ne this];exact hj
def nmH(D:List Dc)(M:List Md)(l:List (List UInt8 × (Int × Int)))(a:List (Int × Nat)):Hp:=(((Sym.nil.upd 0 ⟨0,true,[C5 D,E4 M]⟩).upd 1 (B7r l)).upd 2 ⟨0,true,[.mid 1]⟩).upd 3 ⟨0,true,[.mpc (.i .i64) (ahK a) (ahV a)]⟩
section
variable {D:List Dc} {M:List Md} {l:List (List UInt8 × (Int × Int))} {a:List (Int × Nat)}
theorem C9q:nmH D M l a 0=some ⟨0,true,[C5 D,E4 M]⟩:=rfl
theorem C9p:nmH D M l a 1=some (B7r l):=rfl
theorem C9o:nmH D M l a 2=some ⟨0,true,[.mid 1]⟩:=rfl
theorem D2u:nmH D M l a 3=some ⟨0,true,[.mpc (.i .i64) (ahK a) (ahV a)]⟩:=rfl
theorem C9n(j:Nat)(h:4<=j):nmH D M l a j=none:=by
 unfold nmH;rw[hnO,hnO,hnO,hnO];rfl
theorem A3t{H:Hp}(h0:H 0=some ⟨0,true,[C5 D,E4 M]⟩)(h1:H 1=some (B7r l))(h2:H 2=some ⟨0,true,[.mid 1]⟩)(h3:H 3=some ⟨0,true,[.mpc (.i .i64) (ahK a) (ahV a)]⟩):Sym.Sub (nmH D M l a) H:=by
 intro j b hj;have hlt:j<4:=A3J fun h=>by rw[C9n j h]at hj;cases hj
 match j,hlt with
 |0,_=>rw[h0];exact hj
 |1,_=>rw[h1];exact hj
 |2,_=>rw[h2];exact hj
 |3,_=>rw[h3];exact hj
end
theorem C9m(r:Ru):(nmV r).nl=true:=by
 unfold nmV mkK mvV U3;simp only[DV.nl];rw[A2E,A2E];rw[show ((fun p:List UInt8 × DV=>DV.str p.1)∘fun p:List UInt8 × (Int × Int)=>(p.1,A3v p.2))=fun p=>DV.str p.1 from rfl,show ((fun p:List UInt8 × DV=>p.2)∘fun p:List UInt8 × (Int × Int)=>(p.1,A3v p.2))=fun p=>A3v p.2 from rfl];rw[H9 (fun _=>rfl),H9 (fun _=>rfl)];rfl
theorem c_names(r:Ru)(h1:r.decls.length<=1000000000)(h2:r.modes.length<=1000000000):PC Tryz.prog 96 [r.v] (nmV r):=by
 refine PC.ofT A4 rfl (A0B rfl) (by simp[DV.nlL,DV.nl,J6,J5]) (C9m _) ?_;obtain⟨R,hR⟩:∃ R,R=nmL r:=⟨_,rfl⟩;unfold nmV;rw[<- hR];unfold nmL at hR;obtain⟨D,M⟩:=r;dsimp only at h1 h2 hR;dsimp only[Ru.v];repeat' (apply wr<;>try simp only[go_sem,seval,C2r])
 refine C1 (fun q:Nat × List (List UInt8 × (Int × Int))=>[(1,.ptr 0 0),(3,.ptr 2 0),(4,.mid 3),(5,.func 171 [] [.ptr 2 0]),(15,C5 D),(16,I64 D.length),(17,I64 q.1)]) (fun q=>nmH D M q.2 (ahM (D.take q.1)))
  (fun q c=>4<=c/\q.1<=D.length/\nmD [] [] D=nmD (D.take q.1) q.2 (D.drop q.1)) (fun q=>D.length-q.1) (0,[])
  (by simp[C6,tm,Tm.upd]) (A3t rfl rfl rfl rfl) ⟨by omega,A0O _,rfl⟩ ?_
 rintro⟨i,l⟩ c ⟨h1c,hk,he⟩;dsimp only at hk he ⊢;by_cases hlt:i<D.length
 ·have hd:=dtz hlt;have hg:=A0C hlt;have hw:=w64 (n:=(i:Int)+1);rw[B1w hg]at he;have hah:ahM (D.take (i+1))=ahS (ahM (D.take i)) D[i].kind:=by rw[A0S,hg];exact A7m _ _
  have hlk:=B6r D[i].kind (ahM (D.take i));have hmu:=C7f D[i].kind (ahM (D.take i));have hcn:=B4s (D.take i) D[i].kind;have hcl:=C2o (D.take i) D[i].kind;rw[A0W]at hcl;generalize D[i]=d at hg he hah hlk hmu hcn hcl;rw[hcn]at hlk hmu;have hw2:=w64 (n:=(cnD (D.take i) d.kind:Int)+1);have hb0:nmH D M l (ahM (D.take i)) 0=_:=C9q;have hb1:nmH D M l (ahM (D.take i)) 1=_:=C9p;have hb2:nmH D M l (ahM (D.take i)) 2=_:=C9o;have hb3:nmH D M l (ahM (D.take i)) 3=_:=D2u;have hbn:∀ j,4<=j->nmH D M l (ahM (D.take i)) j=none:=fun j=>C9n j;generalize nmH D M l (ahM (D.take i))=HH at hb0 hb1 hb2 hb3 hbn ⊢;have ne0:=A4t 0 1 2 3 c (c+1) (by omega);by_cases hkk:d.kind=6\/d.kind=7\/d.kind=8
  ·have hnum:P0 (D.take i) d=(cnD (D.take i) d.kind:Int):=by rw[P0,if_pos hkk]
   rw[hnum]at he;by_cases k6:d.kind=6
   ·have k6:(d.kind == 6)=true:=by simpa using k6
    repeat' (apply wr<;>try simp only[go_sem,seval,hb3,hd,hg,hw2,hlk,hmu,k6,A4w,ne0,h_same,A1])
    refine AC.call (c_set d.name (d.kind,(cnD (D.take i) d.kind:Int)) l _ _ 2 1 (by rw[hnO,hnO,hnO];exact hb2) (by rw[hnO,hnO,hnO];exact hb1) (by omega) (by omega)) ?_;rintro v H' c' ⟨rfl,rfl⟩ hcc;simp only[go_sem,seval];repeat' (apply wr<;>try simp only[go_sem,seval,hw])
    refine⟨(i+1,S2 l d.name (d.kind,(cnD (D.take i) d.kind:Int))),by simp[],?_,inv ⟨by omega,by omega,he⟩,by simp only;omega⟩;dsimp only;rw[hah];refine A3t ?_ h_same ?_ ?_
    ·rw[hnO,hnO,hnO,hnO];exact hb0
    ·rw[hnO,hnO,hnO,hnO];exact hb2
    ·rw[hnO,h_same]
   have k6:(d.kind == 6)=false:=by simpa using k6
   by_cases k7:d.kind=7
   ·have k7:(d.kind == 7)=true:=by simpa using k7
    repeat' (apply wr<;>try simp only[go_sem,seval,hb3,hd,hg,hw2,hlk,hmu,k6,k7,A4w,ne0,h_same,A1])
    refine AC.call (c_set d.name (d.kind,(cnD (D.take i) d.kind:Int)) l _ _ 2 1 (by rw[hnO,hnO,hnO];exact hb2) (by rw[hnO,hnO,hnO];exact hb1) (by omega) (by omega)) ?_;rintro v H' c' ⟨rfl,rfl⟩ hcc;simp only[go_sem,seval];repeat' (apply wr<;>try simp only[go_sem,seval,hw])
    refine⟨(i+1,S2 l d.name (d.kind,(cnD (D.take i) d.kind:Int))),by simp[],?_,inv ⟨by omega,by omega,he⟩,by simp only;omega⟩;dsimp only;rw[hah];refine A3t ?_ h_same ?_ ?_
    ·rw[hnO,hnO,hnO,hnO];exact hb0
    ·rw[hnO,hnO,hnO,hnO];exact hb2
    ·rw[hnO,h_same]
   have k7:(d.kind == 7)=false:=by simpa using k7
   have k8:(d.kind == 8)=true:=by simp at k6 k7 ⊢;omega
   repeat' (apply wr<;>try simp only[go_sem,seval,hb3,hd,hg,hw2,hlk,hmu,k6,k7,k8,A4w,ne0,h_same,A1])
   refine AC.call (c_set d.name (d.kind,(cnD (D.take i) d.kind:Int)) l _ _ 2 1 (by rw[hnO,hnO,hnO];exact hb2) (by rw[hnO,hnO,hnO];exact hb1) (by omega) (by omega)) ?_;rintro v H' c' ⟨rfl,rfl⟩ hcc;simp only[go_sem,seval];repeat' (apply wr<;>try simp only[go_sem,seval,hw])
   refine⟨(i+1,S2 l d.name (d.kind,(cnD (D.take i) d.kind:Int))),by simp[],?_,inv ⟨by omega,by omega,he⟩,by simp only;omega⟩;dsimp only;rw[hah];refine A3t ?_ h_same ?_ ?_
   ·rw[hnO,hnO,hnO,hnO];exact hb0
   ·rw[hnO,hnO,hnO,hnO];exact hb2
   ·rw[hnO,h_same]
  ·have hnum:P0 (D.take i) d=d.value:=by rw[P0,if_neg hkk]
   rw[hnum]at he;have k6:(d.kind == 6)=false:=by simp;omega
   have k7:(d.kind == 7)=false:=by simp;omega
   have k8:(d.kind == 8)=false:=by simp;omega
   repeat' (apply wr<;>try simp only[go_sem,seval,hb3,hd,hg,hw2,hlk,hmu,k6,k7,k8,A4w,ne0,h_same,A1])
   refine AC.call (c_set d.name (d.kind,d.value) l _ _ 2 1 (by rw[hnO,hnO,hnO];exact hb2) (by rw[hnO,hnO,hnO];exact hb1) (by omega) (by omega)) ?_;rintro v H' c' ⟨rfl,rfl⟩ hcc;simp only[go_sem,seval];repeat' (apply wr<;>try simp only[go_sem,seval,hw])
   refine⟨(i+1,S2 l d.name (d.kind,d.value)),by simp[],?_,inv ⟨by omega,by omega,he⟩,by simp only;omega⟩;dsimp only;rw[hah];refine A3t ?_ h_same ?_ ?_
   ·rw[hnO,hnO,hnO,hnO];exact hb0
   ·rw[hnO,hnO,hnO,hnO];exact hb2
   ·rw[hnO,h_same]
 have hd:=dfz hlt;rw[A2J (by omega),nmD]at he;rw[he]at hR;repeat' (apply wr<;>try simp only[go_sem,seval,hd,A0F,C9q])
 clear he hd hlt hk;generalize ahM (D.take i)=A;clear i;refine C1 (fun q:Nat × List (List UInt8 × (Int × Int))=>[(3,.ptr 2 0),(5,.func 171 [] [.ptr 2 0]),(56,E4 M),(57,I64 M.length),(58,I64 q.1)]) (fun q=>nmH D M q.2 A)
  (fun q c=>4<=c/\q.1<=M.length/\R=nmX q.1 q.2 (M.drop q.1)) (fun q=>M.length-q.1) (0,l)
  (by simp[C6,tm,Tm.upd]) (Sub.refl _) ⟨h1c,A0O _,hR⟩ ?_
 clear hR h1c c l;rintro⟨i,l⟩ c ⟨h1c,hk,he⟩;dsimp only at hk he ⊢;by_cases hlt:i<M.length
 ·have hd:=dtz hlt;have hg:=A0C hlt;have hw:=w64 (n:=(i:Int)+1);rw[B1v hg]at he;generalize M[i]=d at hg he;have hb0:nmH D M l A 0=_:=C9q;have hb1:nmH D M l A 1=_:=C9p;have hb2:nmH D M l A 2=_:=C9o;have hb3:nmH D M l A 3=_:=D2u;have hbn:∀ j,4<=j->nmH D M l A j=none:=fun j=>C9n j;generalize nmH D M l A=HH at hb0 hb1 hb2 hb3 hbn ⊢;have ne0:=A4t 0 1 2 3 c (c+1) (by omega);repeat' (apply wr<;>try simp only[go_sem,seval,hd,hg,C4t,h_same,A1])
  refine AC.call (c_set d.name (9,(i:Int)) l _ _ 2 1 (by rw[hnO];exact hb2) (by rw[hnO];exact hb1) (by omega) (by omega)) ?_;rintro v H' c' ⟨rfl,rfl⟩ hcc;simp only[go_sem,seval];repeat' (apply wr<;>try simp only[go_sem,seval,hw])
  refine⟨(i+1,S2 l d.name (9,(i:Int))),by simp[],?_,inv ⟨by omega,by omega,he⟩,by simp only;omega⟩;refine A3t ?_ h_same ?_ ?_
  ·rw[hnO,hnO];exact hb0
  ·rw[hnO,hnO];exact hb2
  ·rw[hnO,hnO];exact hb3
 have hd:=dfz hlt;rw[A2J (by omega),nmX]at he;subst he;have hb2:nmH D M R A 2=_:=C9o;repeat' (apply wr<;>try simp only[go_sem,seval,hd,hb2])
 exact C0m C9p
def ckB(r:Ru)(s:Int × Int):Blk:=⟨0,true,[nmV r,I64 s.1,I64 s.2]⟩
theorem C2h{r:Ru}{n:List UInt8}{k p:Int}(h:k=0\/(T7 r n).1=k):dnE r n k p=none:=by unfold dnE dnM;rw[if_pos h];rfl
theorem D4r{r:Ru}{n:List UInt8}{k p:Int}(h:¬ (k=0\/(T7 r n).1=k))(h2:(T7 r n).1=0):dnE r n k p=some (p,8):=by unfold dnE dnM;rw[if_neg h,if_pos h2];rfl
theorem D4s{r:Ru}{n:List UInt8}{k p:Int}(h:¬ (k=0\/(T7 r n).1=k))(h2:¬ (T7 r n).1=0):dnE r n k p=some (p,44):=by unfold dnE dnM;rw[if_neg h,if_neg h2];rfl
theorem B0a{H:Hp}{cc t:Nat}{b b':Blk}{ds:List DV}(hfr:∀ i,cc<=i->H i=none)(htc:t<cc):GL ((H.upd cc b).upd t b') ds (H.upd t b') ds:=GL.less' fun j q hj=>by
 by_cases e:j=t
 ·subst e;rw[h_same]at hj ⊢;exact hj
 ·rw[h_ne e]at hj ⊢;rw[h_ne (A9t hfr hj)];exact hj
theorem c_inE32(k:Int):PC Tryz.prog 240 [I64 k] (I64 (kdE k)):=by
 refine PC.go A4 ?_;repeat' ((with_reducible first|refine wr ?_|refine wb2 ?_ ?_<;>(intro hb;try simp only[hb])|fail)<;>try simp only[go_sem,seval])
 all_goals (refine A6 (congrArg I64 ?_);simp_all[kdE])
theorem c_truth32(k:Int):PC Tryz.prog 241 [I64 k] (.bool (C3k k)):=by
 refine PC.go A4 ?_;repeat' ((with_reducible first|refine wr ?_|refine wb2 ?_ ?_<;>(intro hb;try simp only[hb])|fail)<;>try simp only[go_sem,seval])
 all_goals (refine A6 (congrArg DV.bool ?_);simp_all[C3k]<;>omega)
theorem c_typ32(k:Int)(h:k<=24):PC Tryz.prog 165 [I64 k] (I64 (O2 k)):=by
 refine PC.go A4 ?_;have ht:=c_truth32 k;rw[C3j h]at ht;repeat' ((with_reducible first|refine wr ?_|refine cpc ht ?_|refine wb2 ?_ ?_<;>(intro hb;try simp only[hb])|fail)<;>try simp only[go_sem,seval])
 all_goals (refine A6 (congrArg I64 ?_);simp_all[O2])
theorem c_fail32(r:Ru)(s:Int × Int)(H:Hp)(cc t:Nat)(ht:H t=some (ckB r s))(htc:t<cc)(p e:Int):AC Tryz.prog 102 [.ptr t 0,I64 p,I64 e] H cc (fun v H' c'=>v=.tup []/\H'=H.upd t (ckB r (upS s (some (p,e))))):=by
 refine AC.bodyT A4 rfl (A0B rfl) fun hfr=>?_;unfold ckB at ht ⊢;cases h:(s.2 == 0) with
 |true =>
  have e0:upS s (some (p,e))=(p,e):=by unfold upS;rw[if_pos (by simpa using h)];rfl
  rw[e0];repeat' (apply wr<;>try simp only[go_sem,seval,ht,h,h_same,A1])
  exact⟨_,_,GL.refl _ _,rfl,rfl⟩
 |false =>
  have e0:upS s (some (p,e))=s:=by unfold upS;rw[if_neg (by simpa using h)]
  rw[e0,upd_same ht];repeat' (apply wr<;>try simp only[go_sem,seval,ht,h])
  exact⟨_,_,GL.refl _ _,rfl,rfl⟩
theorem c_den32(r:Ru)(hk:B0o r.decls)(s:Int × Int)(H:Hp)(cc t:Nat)(ht:H t=some (ckB r s))(htc:t<cc)(n:List UInt8)(k p:Int):AC Tryz.prog 98 [.ptr t 0,.str n,I64 k,I64 p] H cc (fun v H' c'=>v=.tup []/\H'=H.upd t (ckB r (upS s (dnE r n k p)))):=by
 refine AC.bodyT A4 rfl (A0B rfl) fun hfr=>?_;have ht':=ht;unfold ckB nmV at ht';have ne0:=R3 t cc (by omega);cases hl:(nmL r).lookup n with
 |some q =>
  obtain⟨h1,h2⟩:=B5u hk hl;have hlk:Sym.lkV (.agg [I64 0,I64 0]) true (mvV (U3 (nmL r))) (E7 (.str n) (mkK (U3 (nmL r))) 0)=some (.tup [A3v q,.bool true]):=A5p (ok:=true) (by rw[T5,hl];rfl);unfold A3v at hlk;by_cases hk0:k=0
  ·subst hk0;have e0:dnE r n 0 p=none:=C2h (.inl rfl);rw[e0,W4,upd_same ht];repeat' (apply wr<;>try simp only[go_sem,seval,ht',hlk,h_same,A1])
   exact⟨_,_,A3w hfr,rfl,rfl⟩
  have q0:(k == 0)=false:=by simpa using hk0
  by_cases hq:q.1=k
  ·have e0:dnE r n k p=none:=C2h (.inr (by rw[h1];exact hq));rw[e0,W4,upd_same ht];have q1:(q.1 != k)=false:=by simp[hq]
   repeat' (apply wr<;>try simp only[go_sem,seval,ht',hlk,q0,q1,h_same,A1])
   exact⟨_,_,A3w hfr,rfl,rfl⟩
  ·have e0:dnE r n k p=some (p,44):=D4s (by rw[h1];simp[hk0,hq]) (by rw[h1];exact h2);rw[e0];have q1:(q.1 != k)=true:=by simp[hq]
   repeat' (apply wr<;>try simp only[go_sem,seval,ht',hlk,q0,q1,h_same,A1])
   refine AC.call (c_fail32 r s _ _ t (by rw[hnO];exact ht) (by omega) p 44) ?_;rintro v H' c' ⟨rfl,rfl⟩ hcc;simp only[go_sem,seval];repeat' (apply wr<;>try simp only[go_sem,seval])
   exact⟨_,_,B0a hfr htc,rfl,rfl⟩
 |none =>
  have h1:=B5v hk hl;have hlk:Sym.lkV (.agg [I64 0,I64 0]) true (mvV (U3 (nmL r))) (E7 (.str n) (mkK (U3 (nmL r))) 0)=some (.tup [.agg [I64 0,I64 0],.bool false]):=A5q (ok:=true) (by rw[T5,hl];rfl);by_cases hk0:k=0
  ·subst hk0;have e0:dnE r n 0 p=none:=C2h (.inl rfl);rw[e0,W4,upd_same ht];repeat' (apply wr<;>try simp only[go_sem,seval,ht',hlk,h_same,A1])
   exact⟨_,_,A3w hfr,rfl,rfl⟩
  have q0:(k == 0)=false:=by simpa using hk0
  have e0:dnE r n k p=some (p,8):=D4r (by rw[h1];simp;omega) (by rw[h1]);rw[e0];repeat' (apply wr<;>try simp only[go_sem,seval,ht',hlk,q0,h_same,A1])
  refine AC.call (c_fail32 r s _ _ t (by rw[hnO];exact ht) (by omega) p 8) ?_;rintro v H' c' ⟨rfl,rfl⟩ hcc;simp only[go_sem,seval];repeat' (apply wr<;>try simp only[go_sem,seval])
  exact⟨_,_,B0a hfr htc,rfl,rfl⟩
theorem B5c{G:Hp}{t c:Nat}{b0 b1 b:Blk}(hG:∀ j,c<=j->G j=none)(htc:t<c):Sym.Sub (G.upd t b) (((G.upd t b0).upd c b1).upd t b):=by
 intro j q hj;by_cases e:j=t
 ·subst e;rw[h_same]at hj ⊢;exact hj
 ·rw[h_ne e]at hj;have:j<c:=A3J fun h=>by rw[hG j h]at hj;cases hj
  rw[h_ne e,hnO,h_ne e];exact hj
theorem C3p{G:Hp}{t c:Nat}{b0 b1:Blk}(hG:∀ j,c<=j->G j=none)(htc:t<c):Sym.Sub (G.upd t b0) ((G.upd t b0).upd c b1):=by
 intro j q hj;have:j<c:=A3J fun h=>by rw[hnO,hG j h]at hj;cases hj
 rw[hnO];exact hj
theorem c_exp32(r:Ru)(hk:B0o r.decls):∀ (m:Nat) (e:Ex),e.sz<m->e.sz<=100000000->(∃ q,msM e=some q)->∀ (s:Int × Int) (H:Hp) (cc t:Nat) (ht:H t=some (ckB r s)) (htc:t<cc),
  AC Tryz.prog 164 [.ptr t 0,e.v] H cc (fun v H' c'=>v=.tup []/\H'=H.upd t (ckB r (upS s (erE r e)))):=by
 intro m
 induction m with
 |zero=>intro e h;omega
 |succ m ih =>
 intro e hm hB ⟨q0,hq0⟩ s H cc t ht htc;have hal:Ex.szs e.args<e.sz:=by cases e with|mk k v n a p=>rw[Ex.sz];show Ex.szs a<_;omega
 have hargs:∀ x∈e.args,x.sz<=Ex.szs e.args:=fun x hx=>Ex.szs_mem hx;have hll:=Ex.szs_len e.args;have hms:=B5z hq0;have h22:=C0r hq0;have hknd:∀ x∈e.args,x.kind<=24:=fun x hx=>by obtain⟨q,hq⟩:=hms x hx;exact B5y hq
 rw[D4q,Ex.v_w];dsimp only[Ex.w];have ih:∀ x∈e.args, ∀ (s:Int × Int) (H:Hp) (cc t:Nat) (ht:H t=some (ckB r s)) (htc:t<cc),AC Tryz.prog 164 [.ptr t 0,x.v] H cc (fun v H' c'=>v=.tup []/\H'=H.upd t (ckB r (upS s (erE r x)))):=fun x hx=>ih x (by have:=hargs x hx;omega) (by have:=hargs x hx;omega) (hms x hx);have hk1:=c_inE32 e.kind;have hden:=fun (s:Int × Int) (H:Hp) (cc t:Nat) (ht:H t=some (ckB r s)) (htc:t<cc)=>c_den32 r hk s H cc t ht htc e.name (kdE e.kind) e.pos;generalize ek:e.kind=k at *;generalize e.value=v at *;generalize e.name=n at *;generalize e.args=a at *;generalize e.pos=p at *;refine AC.bodyT A4 rfl (A0B rfl) fun hfr=>?_;repeat' (apply wr<;>try simp only[go_sem,seval])
 obtain⟨G,hG⟩:∃ G,G=H.upd cc ⟨0,true,[I64 k,I64 v,.str n,F7 a,I64 p]⟩:=⟨_,rfl⟩;have hGc:∀ b,(G.upd t b) cc=some ⟨0,true,[I64 k,I64 v,.str n,F7 a,I64 p]⟩:=fun b=>by rw[hnO,hG,h_same]
 have hGn:∀ j,cc+1<=j->G j=none:=fun j hj=>by rw[hG,hnO];exact hfr j (by omega)
 have hGt:G=G.upd t (ckB r s):=by rw[upd_same];rw[hG,hnO];exact ht
 rw[<- hG,hGt];refine C1 (fun i:Nat=>[(0,.ptr t 0),(3,.ptr cc 0),(10,F7 a),(11,I64 a.length),(12,I64 i)]) (fun i=>G.upd t (ckB r (upS s (S4 r (a.take i))))) (fun i c=>cc+1<=c/\i<=a.length) (fun i=>a.length-i) 0 (by simp[C6,tm,Tm.upd]) (by rw[A2G,S4,W4];exact Sub.refl _) ⟨by omega,A0O _⟩ ?_;rintro i c ⟨h1c,hki⟩;by_cases hlt:i<a.length
 ·have hd:=dtz hlt;have hg:=A0C hlt;have hw:=w64 (n:=(i:Int)+1);have hc:=ih _ (A0Q hlt);have het:=A8p (r:=r) hg;generalize a[i]=x at hg hc het;rw[Ex.v_w]at hc;have ne0:=R3 t c (by omega);repeat' (apply wr<;>try simp only[go_sem,seval,hd,hg,Ex.v_w,h_same,A1])
  refine AC.call (hc (upS s (S4 r (a.take i))) _ _ t (by rw[hnO,h_same]) (by omega)) ?_;rintro v' H' c' ⟨rfl,rfl⟩ hcc;simp only[go_sem,seval];repeat' (apply wr<;>try simp only[go_sem,seval,hw])
  refine⟨i+1,by simp,?_,inv ⟨by omega,by omega⟩,by omega⟩;rw[A8y (B1r _ _), <- het];exact B5c (fun j hj=>hGn j (by omega)) (by omega)
 have hd:=dfz hlt;rw[A0I (by omega)];repeat' ((with_reducible first|apply wr|refine cpc hk1 ?_|fail)<;>try simp only[go_sem,seval,hd,hGc])
 refine⟨by and_intros<;>(rw[hnO];exact hGn _ (by omega)),?_⟩;refine AC.call (hden (upS s (S4 r a)) _ _ t h_same (by omega)) ?_;rintro v' H' c' ⟨rfl,rfl⟩ hcc;rw[A1,A8y (B1r _ _)];obtain⟨s1,hs1⟩:∃ s1,s1=upS s ((S4 r a).or (dnE r n (kdE k) p)):=⟨_,rfl⟩;have nz1:NzE ((S4 r a).or (dnE r n (kdE k) p)):=(B1r _ _).or (C6n _ _ _ _);rw[<- hs1, <- A8y nz1, <- hs1];clear hs1;have kL:∀ c2:Nat,c+9<=c2->IW Tryz.prog 61 (.loop (pz Tryz.prog 164 (.i (.o (.i (.o (.i .h))))))) ⟨tm [(0,.ptr t 0),(3,.ptr cc 0),(6,I64 (W0 k a)),(45,F7 a),(46,I64 a.length),(47,I64 0)],G.upd t (ckB r s1),c2⟩ (bk 3 (rt [] fun v H' c' => ∃ v2 H2,GL H' [v] H2 [v2]/\v2=.tup []/\H2=H.upd t (ckB r (upS s1 (if (a.all fun x=>O2 x.kind == W0 k a)=true then none else some (p,49)))))):=by
  intro c2 hc2;generalize W0 k a=wnt;refine C1 (fun i:Nat=>[(0,.ptr t 0),(3,.ptr cc 0),(6,I64 wnt),(45,F7 a),(46,I64 a.length),(47,I64 i)]) (fun i=>G.upd t (ckB r (upS s1 (if ((a.take i).all fun x=>O2 x.kind == wnt)=true then none else some (p,49))))) (fun i c=>cc+1<=c/\i<=a.length) (fun i=>a.length-i) 0 (by simp[C6,tm,Tm.upd]) (by rw[A2G,List.all_nil,if_pos rfl,W4];exact Sub.refl _) ⟨by omega,A0O _⟩ ?_;rintro i c3 ⟨h3c,hki3⟩;by_cases hlt3:i<a.length
  ·have hd3:=dtz hlt3;have hg3:=A0C hlt3;have hw3:=w64 (n:=(i:Int)+1);have hat:=A0w (fun x:Ex=>O2 x.kind == wnt) a i _ hg3;have hty:=c_typ32 _ (hknd _ (A0Q hlt3));generalize a[i]=x at hg3 hat hty;obtain⟨o,ho⟩:∃ o:Er,o=if ((a.take i).all fun x=>O2 x.kind == wnt)=true then none else some (p,49):=⟨_,rfl⟩
   rw[<- ho];have ne0:=Q3 t c3 cc (by omega);by_cases hx:O2 x.kind=wnt
   ·have hxn:(O2 x.kind != wnt)=false:=by simp[hx]
    repeat' ((with_reducible first|apply wr|refine cpc hty ?_|fail)<;>try simp only[go_sem,seval,hd3,hg3,hw3,Ex.v_w,h_same,A1,hxn])
    refine⟨i+1,by simp,?_,inv ⟨by omega,by omega⟩,by omega⟩;rw[hat,show (O2 x.kind == wnt)=true by simpa using hx,A1T, <- ho];exact C3p (fun j hj=>hGn j (by omega)) (by omega)
   ·have hxn:(O2 x.kind != wnt)=true:=by simp[hx]
    repeat' ((with_reducible first|apply wr|refine cpc hty ?_|fail)<;>try simp only[go_sem,seval,hd3,hg3,Ex.v_w,ne0,h_same,A1,hGc,hxn])
    refine AC.call (c_fail32 r (upS s1 o) _ _ t (by rw[hnO,h_same]) (by omega) p 49) ?_;rintro v' H' c4 ⟨rfl,rfl⟩ hcc4;simp only[go_sem,seval];repeat' (apply wr<;>try simp only[go_sem,seval,hw3])
    refine⟨i+1,by simp,?_,inv ⟨by omega,by omega⟩,by omega⟩;have eo:upS (upS s1 o) (some (p,49))=upS s1 (some (p,49)):=by
     rw[ho];split
     ·rw[W4]
     ·exact B8q s1 p 49 (by decide)
    rw[hat,show (O2 x.kind == wnt)=false by simpa using hx,A3G,if_neg (by decide),eo];exact B5c (fun j hj=>hGn j (by omega)) (by omega)
  have hd3:=dfz hlt3;rw[A0I (by omega)];repeat' (apply wr<;>try simp only[go_sem,seval,hd3])
  refine⟨_,_,?_,rfl,rfl⟩;rw[hG];exact B0a hfr htc
 simp only[go_sem,seval];by_cases ka:k=11\/k=23\/k=24
 ·have ew:W0 k a=2:=by unfold W0;rw[if_pos ka]
  rw[ew]at kL ⊢;rcases ka with rfl|rfl|rfl
  all_goals (repeat' (apply wr<;>try simp only[go_sem,seval,hGc]))
  all_goals exact kL _ hcc
 have ka1:(k == 11)=false:=by simp;omega
 have ka2:(k == 23)=false:=by simp;omega
 have ka3:(k == 24)=false:=by simp;omega
 by_cases kb:k=21\/k=22
 ·have hl2:=h22 kb;obtain⟨x0,l0,ha⟩:∃ x l,a=x :: l:=by
   cases a with
   |nil=>simp at hl2
   |cons x l=>exact⟨x,l,rfl⟩
  have ew:W0 k a=O2 x0.kind:=by rw[ha];unfold W0;rw[if_neg ka,if_pos kb]
  have hg0:a[0]? = some x0:=by rw[ha];rfl
  have hty:=c_typ32 _ (hknd x0 (by rw[ha];exact A0M));rw[ew]at kL ⊢;rcases kb with rfl|rfl
  all_goals (repeat' ((with_reducible first|apply wr|refine cpc hty ?_|fail)<;>try simp only[go_sem,seval,hGc,ka1,ka2,ka3,hg0,Ex.v_w]))
  all_goals exact kL _ hcc
 have ew:W0 k a=1:=by unfold W0;rw[if_neg ka,if_neg kb]
 rw[ew]at kL ⊢;have kb1:(k == 21)=false:=by simp;omega
 have kb2:(k == 22)=false:=by simp;omega
 repeat' (apply wr<;>try simp only[go_sem,seval,hGc,ka1,ka2,ka3,kb1,kb2])
 exact kL _ hcc
def D1i(f:Nat)(a:List DV):Option DV :=
 if f == 282 then match a with
  |[.str s]=>if s == B8j then some (.lst (E6.map DV.str)) else none
  |_=>none
 else if f == 329 then match a with
  |[.str s,.int .u8 z]=>if ((UInt8.ofNat z.toNat).toNat:Int) == z then some (I64 (Lib.indexByte s (UInt8.ofNat z.toNat))) else none
  |_=>none
 else if f == 328 then match a with
  |[.str s,.int .i64 x,.int .i64 y]=>if x == 10 && y == 64 && s != [] && Nat.ble s.length 100 && s.all dgB && Nat.ble (O9 s) 9223372036854775807 then some (.tup [I64 (O9 s),.inil]) else none
  |_=>none
 else none
theorem C6c:D1m Tryz.prog D1i:=by
 intro f a r h;unfold D1i at h;split at h
 ·rename_i e;obtain rfl:=eq_of_beq e;split at h
  ·split at h
   ·rename_i e;obtain rfl:=eq_of_beq e;cases h;exact c_Fields
   ·cases h
  ·cases h
 ·split at h
  ·rename_i e;obtain rfl:=eq_of_beq e;split at h
   ·split at h
    ·rename_i s z e;cases h;have:=c_IndexByte s (UInt8.ofNat z.toNat)
     rwa [eq_of_beq e]at this
    ·cases h
   ·cases h
  ·split at h
   ·rename_i e;obtain rfl:=eq_of_beq e;split at h
    ·split at h
     ·rename_i s x y e;simp only[A0E,A1F,bne_iff_ne,ne_eq,A0P]at e;obtain⟨⟨⟨⟨⟨e1,e2⟩,e3⟩,e4⟩,e5⟩,e6⟩:=e;cases h;subst e1 e2;exact c_ParseOk s (A1A (A0B e4) (by decide)) e5 e3 (A0B e6)
     ·cases h
    ·cases h
   ·cases h
theorem c_sane34:PC Tryz.prog 35 [] (.bool true):=PC.run A4 D1i C6c 3000 60 _ _ _ rfl rfl (by kernel_rfl)
theorem c_SameI(a b:List Ins)(n1:a.length<=9223372036854775807):PC Tryz.prog 42 [C1h a,C1h b] (.bool (decide (a=b))):=by
 refine PC.go A4 ?_;by_cases hl:a.length=b.length
 case neg =>
  have hne:((a.length:Int) != (b.length:Int))=true:=by simp;omega
  repeat' (apply wr<;>try simp only[go_sem,seval,A0F,hne])
  rw[decide_eq_false (fun e=>hl (by rw[e]))];exact A6 rfl
 have hne:((a.length:Int) != (b.length:Int))=false:=by simp;omega
 repeat' (apply wr<;>try simp only[go_sem,seval,A0F,hne])
 refine C1 (fun k:Nat=>[(0,.lst (a.map Ins.v)),(1,.lst (b.map Ins.v)),(5,I64 k)]) (fun _=>nil) (fun k cc=>k<=a.length/\a.take k=b.take k) (fun k=>a.length-k) 0 (by simp[C6,tm,Tm.upd]) (Sub.nil _) (by simp) ?_;rintro k cc ⟨hk,he⟩;by_cases hlt:k<a.length
 ·have hd:=dtz hlt;have hlt2:k<b.length:=by omega
  have hg:=A0C hlt;have hg2:=A0C hlt2;have hw:=w64 (n:=(k:Int)+1);repeat' ((with_reducible first|refine wr ?_|refine wb2 ?_ ?_<;>(intro hb;try simp only[hb])|fail)<;>try simp only[go_sem,seval,A0F,hd,hg,hg2,hw,D8c])
  all_goals first
   |(refine⟨k+1,rfl,Sub.nil _,inv ⟨hlt,(B8b hg hg2 he).2 ?_⟩,by omega⟩;simpa[C1i] using hb)
   |(rw[decide_eq_false (C5q hg hg2 ?_)];exact A6 rfl;simpa[C1i] using hb)
 have hd:=dfz hlt;repeat' (apply wr<;>try simp only[go_sem,seval,A0F,hd])
 rw[decide_eq_true (C5r hl (by omega) he)];exact A6 rfl
theorem c_TypeOf32(r:Ru)(e:Ex)(hB:r.sz<4000000)(hE:e.sz<4000000):PC Tryz.prog 86 [r.v,e.v] (B0t r e):=by
 have hv:=c_Valid r (by omega);have hve:=c_ValidExpr e (by omega);have hdl:=B9c r;have hml:=B9b r;have hnm:=c_names r (by omega) (by omega);refine PC.ofT A4 rfl (A0B rfl) (by simp[Ru.v,DV.nlL,DV.nl,J6,J5,Ex.nl]) (B4w _ _) ?_;have hrv:r.v=.agg [C5 r.decls,E4 r.modes]:=rfl;unfold B0t;cases hvd:P9 r with
 |false =>
  rw[hvd]at hv;rw[hrv]at hv ⊢;rw[Ex.v_w]at hve ⊢;repeat' ((with_reducible first|refine wr ?_|refine cpc hv ?_|refine cpc hve ?_|refine k_cu ?_ ?_|refine wb2 ?_ ?_<;>(intro hb;try simp only[hb])|fail)<;>try simp only[go_sem,seval])
  exact A6 rfl
 |true =>
 have hk:=B8n hvd;rw[hvd]at hv;cases hev:L0 e with
 |false =>
  rw[hev]at hve;rw[hrv]at hv ⊢;rw[Ex.v_w]at hve ⊢;repeat' ((with_reducible first|refine wr ?_|refine cpc hv ?_|refine cpc hve ?_|refine k_cu ?_ ?_|refine wb2 ?_ ?_<;>(intro hb;try simp only[hb])|fail)<;>try simp only[go_sem,seval])
  exact A6 rfl
 |true =>
 rw[hev]at hve;obtain⟨q,hq⟩:=B4v hev;have hex:=c_exp32 r hk _ e (A1Y _) (by omega) ⟨q,hq⟩ (0,0);have hty:=c_typ32 e.kind (B5y hq);rw[show (true && true)=true from rfl,if_pos rfl];have hnz:=C0o r e;unfold tyV;obtain⟨K,V,hKV⟩:∃ K V,nmV r=.mp .s K V:=⟨_,_,rfl⟩;have hck:∀ s:Int × Int,(⟨0,true,[.mp .s K V,I64 s.1,I64 s.2]⟩:Blk)=ckB r s:=fun s=>by unfold ckB;rw[hKV]
 rw[hKV]at hnm;rw[hrv]at hv hnm ⊢;rw[Ex.v_w]at hve hex ⊢;repeat' ((with_reducible first|refine wr ?_|refine cpc hv ?_|refine cpc hve ?_|refine cpc hnm ?_|refine k_cu ?_ ?_|refine wb2 ?_ ?_<;>(intro hb;try simp only[hb])|fail)<;>try simp only[go_sem,seval])
 refine AC.call (hex _ _ 2 (by rw[h_same];exact congrArg some (hck (0,0))) (by omega)) ?_;rintro v' H' c' ⟨rfl,rfl⟩ hcc;rw[A1, <- hck];cases her:erE r e with
 |some q =>
  obtain⟨p,c⟩:=q;have hnc:(c != 0)=true:=by simpa using hnz _ _ her
  have hup:upS (0,0) (some (p,c))=(p,c):=rfl;rw[hup];dsimp only;simp only[go_sem,seval,hnc];repeat' ((with_reducible first|refine wr ?_|refine cpc hty ?_|refine k_cu ?_ ?_|refine wb2 ?_ ?_<;>(intro hb;try simp only[hb])|fail)<;>try simp only[go_sem,seval,hnc])
  refine⟨by (try and_intros)<;>(repeat rw[hnO])<;>rfl,?_⟩;repeat' ((with_reducible first|refine wr ?_|refine cpc hty ?_|refine k_cu ?_ ?_|refine wb2 ?_ ?_<;>(intro hb;try simp only[hb])|fail)<;>try simp only[go_sem,seval,hnc])
  exact A6 rfl
 |none =>
  have hup:upS (0,0) none=(0,0):=rfl;rw[hup];dsimp only;simp only[go_sem,seval];repeat' ((with_reducible first|refine wr ?_|refine cpc hty ?_|refine k_cu ?_ ?_|refine wb2 ?_ ?_<;>(intro hb;try simp only[hb])|fail)<;>try simp only[go_sem,seval])
  exact A6 rfl
theorem c_PExpr(r:Ru)(e:Ex)(hB:r.sz<4000000)(hE:e.sz<4000000):PC Tryz.prog 40 [r.v,e.v] (cxV (cxM r e)):=by
 refine PC.ofT A4 rfl (A0B rfl) (by simp[Ru.v,DV.nlL,DV.nl,J6,J5,Ex.nl]) (C2l _) ?_;have ht:=c_TypeOf32 r e hB hE;unfold B0t tyV at ht;unfold cxM;by_cases hv:(P9 r && L0 e)=true
 rotate_left
 ·rw[if_neg hv]at ht ⊢;obtain⟨D,M⟩:=r;rw[Ex.v_w]at ht ⊢;dsimp only[Ru.v,Ex.w,cxV]at ht ⊢;repeat' ((with_reducible first|refine wr ?_|refine cpc ht ?_|refine k_cu ?_ ?_|refine wb2 ?_ ?_<;>(intro hb;try simp only[hb])|fail)<;>try simp only[go_sem,seval])
  exact A2k
 rw[if_pos hv]at ht ⊢;rw[A0E]at hv;have hnum:=C9l (r:=r) (B8n hv.1);have hdm:=B8m hv.1;have hbe:=c_begin r (by omega) (by omega);have hnz:=C0o r e;cases he:erE r e with
 |some q =>
  obtain⟨p,c⟩:=q;rw[he]at ht hnz;have hcz:(c != 0)=true:=by simpa using hnz _ _ rfl
  obtain⟨D,M⟩:=r;rw[Ex.v_w]at ht ⊢;dsimp only[Ru.v,Ex.w,cxV]at ht ⊢;repeat' ((with_reducible first|refine wr ?_|refine cpc ht ?_|refine k_cu ?_ ?_|refine wb2 ?_ ?_<;>(intro hb;try simp only[hb])|fail)<;>try simp only[go_sem,seval,hcz])
  exact A2k
 |none =>
  rw[he]at ht;have hln:=B0h (nm:=nmR r) e;have hge:=c_gexpr .snil (B2d (r.modes.map Md.prio)) (B2d ((r.decls.filter fun d=>d.kind=6).map Dc.value)) (mkK (inL (nmL r))) (mvV (inL (nmL r))) (cnD r.decls 7:Int) (cnD r.decls 8:Int) (nmR r) hnum _ e (A1Y _) (by omega) ([],[]) (by dsimp only[List.length_nil];omega);unfold beC at hbe;generalize nmR r=nm at *;obtain⟨D,M⟩:=r;rw[Ex.v_w]at ht hge ⊢;dsimp only[Ru.v,Ex.w,cxV]at ht hbe hge ⊢;repeat' ((with_reducible first|refine wr ?_|refine cpc ht ?_|refine k_cu ?_ ?_|refine wb2 ?_ ?_<;>(intro hb;try simp only[hb])|fail)<;>try simp only[go_sem,seval])
  refine AC.call (hbe _ _) ?_;rintro _ _ _ ⟨rfl,rfl,rfl⟩ -;simp only[go_sem,seval];repeat' ((with_reducible first|refine wr ?_|refine k_cu ?_ ?_|refine wb2 ?_ ?_<;>(intro hb;try simp only[hb])|fail)<;>try simp only[go_sem,seval])
  obtain⟨X0,hX⟩:∃ X:Hp,X=(Sym.nil.upd 0 ⟨0,true,[C5 D,E4 M]⟩).upd 1 ⟨0,true,[I64 e.kind,I64 e.value,.str e.name,F7 e.args,I64 e.pos]⟩:=⟨_,rfl⟩;rw[<- hX];have xf:∀ j,2<=j->X0 j=none:=fun j hj=>by rw[hX,hnO,hnO];rfl
  have hN:GN X0 2 none none ([],[]) 3:=⟨by omega,fun i h=>(by cases h),fun i h=>(by cases h),fun i j h=>(by cases h),fun _=>rfl,fun _=>rfl,fun j hj=>xf j (by omega)⟩;refine AC.call (hge _ _ _ _ _ hN) ?_;rintro _ _ c2 ⟨rfl,a,b,hN2,rfl⟩ hc2;have o1:∀ (o:Option Nat) (n:Nat),(todoV o n).one=true:=fun o n=>by cases o<;>rfl
  simp only[go_sem,seval];repeat' ((with_reducible first|refine G0 (p:=IW _ _ (pz Tryz.prog 40 (.i (.o (.o (.o .h))))) _ _) ?_|refine wr ?_|refine k_cu ?_ ?_|refine wb2 ?_ ?_<;>(intro hb;try simp only[hb])|fail)<;>try simp only[go_sem,seval])
  try unfold A7u
  generalize hmk:mkP .snil (B2d (M.map Md.prio)) (B2d ((D.filter fun d=>d.kind=6).map Dc.value)) (.mp .s (mkK (inL (nmL ⟨D,M⟩))) (mvV (inL (nmL ⟨D,M⟩)))) (cnD D 7:Int) (cnD D 8:Int)=mk at hge ⊢;have g1:=C1u (H:=GM X0 2 a b mk ([]++cgE nm e,[])) (k:=2) (o:=a) (n:=(cgE nm e).length) (u:=2) (u':=2) (pre:=[]) (suf:=[todoV b 0,.snil,B2d (M.map Md.prio),B2d ((D.filter fun d=>d.kind=6).map Dc.value),I64 (cnD D 7),I64 (cnD D 8),.mp .s (mkK (inL (nmL ⟨D,M⟩))) (mvV (inL (nmL ⟨D,M⟩)))]) (xs:=(cgE nm e).map Ins.v) (ds:=[.ptr 2 0])
   (by rw[B4t hN2, <- hmk];rfl) (fun i hi=>⟨C3c hN2 hi,(hN2.ha i hi).1⟩) (fun h=>by have:=hN2.an h;rw[show cgE nm e=[] from this];rfl) (fun d hd=>by simp at hd;rcases hd with rfl|rfl|rfl|rfl|rfl|rfl|rfl<;>(first|exact o1 _ _|rfl)) (by simp) (fun y hy=>by obtain⟨z, -,rfl⟩:=A1D.1 hy;rfl)
  refine IW.keep [10] [.ptr 2 0] g1 ?_;show IW Tryz.prog _ _ ⟨tm [(10,.ptr 2 0)],_,_⟩ _;repeat' ((with_reducible first|refine wr ?_|refine k_cu ?_ ?_|refine wb2 ?_ ?_<;>(intro hb;try simp only[hb])|fail)<;>try simp only[go_sem,seval,h_same])
  exact⟨_,GL.refl _ _⟩
theorem c_RExpr(r:Ru)(e:Ex)(hB:r.sz<4000000)(hE:e.sz<4000000):PC Tryz.prog 41 [r.v,e.v] (cxV (cxM r e)):=by
 refine PC.ofT A4 rfl (A0B rfl) (by simp[Ru.v,DV.nlL,DV.nl,J6,J5,Ex.nl]) (C2l _) ?_;have ht:=c_TypeOfR r e hB hE;unfold B0t tyV at ht;unfold cxM;by_cases hv:(P9 r && L0 e)=true
 rotate_left
 ·rw[if_neg hv]at ht ⊢;obtain⟨D,M⟩:=r;rw[Ex.v_w]at ht ⊢;dsimp only[Ru.v,Ex.w,cxV]at ht ⊢;repeat' ((with_reducible first|refine wr ?_|refine cpc ht ?_|refine k_cu ?_ ?_|refine wb2 ?_ ?_<;>(intro hb;try simp only[hb])|fail)<;>try simp only[go_sem,seval])
  exact A2k
 rw[if_pos hv]at ht ⊢;rw[A0E]at hv;have hnz:=C0o r e;cases he:erE r e with
 |some q =>
  obtain⟨p,c⟩:=q;rw[he]at ht hnz;have hcz:(c != 0)=true:=by simpa using hnz _ _ rfl
  obtain⟨D,M⟩:=r;rw[Ex.v_w]at ht ⊢;dsimp only[Ru.v,Ex.w,cxV]at ht ⊢;repeat' ((with_reducible first|refine wr ?_|refine cpc ht ?_|refine k_cu ?_ ?_|refine wb2 ?_ ?_<;>(intro hb;try simp only[hb])|fail)<;>try simp only[go_sem,seval,hcz])
  exact A2k
 |none =>
  rw[he]at ht;have hln:=B0h (nm:=nmR r) e;have hge:=c_rexpr r hB hv.1 _ e (A1Y _) (by omega) ([],[]) (by dsimp only[List.length_nil];omega);generalize nmR r=nm at *;have hrv:r.v=.agg [C5 r.decls,E4 r.modes]:=rfl;rw[hrv,Ex.v_w]at ht ⊢;rw[Ex.v_w]at hge;dsimp only[Ex.w,cxV]at ht hge ⊢;repeat' ((with_reducible first|refine wr ?_|refine cpc ht ?_|refine k_cu ?_ ?_|refine wb2 ?_ ?_<;>(intro hb;try simp only[hb])|fail)<;>try simp only[go_sem,seval])
  obtain⟨X0,hX⟩:∃ X:Hp,X=(Sym.nil.upd 0 ⟨0,true,[C5 r.decls,E4 r.modes]⟩).upd 1 ⟨0,true,[I64 e.kind,I64 e.value,.str e.name,F7 e.args,I64 e.pos]⟩:=⟨_,rfl⟩;rw[<- hX];have xf:∀ j,2<=j->X0 j=none:=fun j hj=>by rw[hX,hnO,hnO];rfl
  have hN:GN X0 2 none none ([],[]) 3:=⟨by omega,fun i h=>(by cases h),fun i h=>(by cases h),fun i j h=>(by cases h),fun _=>rfl,fun _=>rfl,fun j hj=>xf j (by omega)⟩;refine AC.call (hge _ _ _ _ _ hN) ?_;rintro _ _ c2 ⟨rfl,a,b,hN2,rfl⟩ hc2;have o1:∀ (o:Option Nat) (n:Nat),(todoV o n).one=true:=fun o n=>by cases o<;>rfl
  simp only[go_sem,seval];repeat' ((with_reducible first|refine G0 (p:=IW _ _ (pz Tryz.prog 41 (.i (.o (.o (.o .h))))) _ _) ?_|refine wr ?_|refine k_cu ?_ ?_|refine wb2 ?_ ?_<;>(intro hb;try simp only[hb])|fail)<;>try simp only[go_sem,seval])
  unfold A7u;have g1:=C1u (H:=GM X0 2 a b (mkQ r) (cgE nm e,[])) (k:=2) (o:=a) (n:=(cgE nm e).length) (u:=2) (u':=2) (pre:=[C5 r.decls,E4 r.modes]) (suf:=[todoV b 0]) (xs:=(cgE nm e).map Ins.v) (ds:=[.ptr 2 0])
   (B4t hN2) (fun i hi=>⟨C3c hN2 hi,(hN2.ha i hi).1⟩) (fun h=>by have:=hN2.an h;rw[show cgE nm e=[] from this];rfl) (fun d hd=>by simp at hd;rcases hd with rfl|rfl|rfl<;>(first|exact o1 _ _|rfl)) (by simp) (fun y hy=>by obtain⟨z, -,rfl⟩:=A1D.1 hy;rfl)
  refine IW.keep [10] [.ptr 2 0] g1 ?_;show IW Tryz.prog _ _ ⟨tm [(10,.ptr 2 0)],_,_⟩ _;repeat' ((with_reducible first|refine wr ?_|refine k_cu ?_ ?_|refine wb2 ?_ ?_<;>(intro hb;try simp only[hb])|fail)<;>try simp only[go_sem,seval,h_same])
  exact⟨_,GL.refl _ _⟩
end Go.Proofs.YtkkjpohaffjecaaGreatDoor
set_option maxHeartbeats 4000000
namespace Go.Proofs.YtkkjpohaffjecaaGreatDoor
open Go.Eng (IC IOper DReg IFn J0)
open Go.Sym
abbrev x24:XT Tryz.prog 24:=mkF
instance t24:FT Tryz.prog 24 x24.d:=x24.ft
abbrev x61:XT Tryz.prog 61:=mkF
instance t61:FT Tryz.prog 61 x61.d:=x61.ft
abbrev x85:XT Tryz.prog 85:=mkF
instance t85:FT Tryz.prog 85 x85.d:=x85.ft
abbrev x38:XT Tryz.prog 38:=mkF
instance t38:FT Tryz.prog 38 x38.d:=x38.ft
abbrev x39:XT Tryz.prog 39:=mkF
instance t39:FT Tryz.prog 39 x39.d:=x39.ft
abbrev x197:XT Tryz.prog 197:=mkF
instance t197:FT Tryz.prog 197 x197.d:=x197.ft
abbrev x131:XT Tryz.prog 131:=mkF
instance t131:FT Tryz.prog 131 x131.d:=x131.ft
abbrev x63:XT Tryz.prog 63:=mkF
instance t63:FT Tryz.prog 63 x63.d:=x63.ft
abbrev x25:XT Tryz.prog 25:=mkF
instance t25:FT Tryz.prog 25 x25.d:=x25.ft
abbrev x13:XT Tryz.prog 13:=mkF
instance t13:FT Tryz.prog 13 x13.d:=x13.ft
end Go.Proofs.YtkkjpohaffjecaaGreatDoor
set_option maxHeartbeats 8000000
namespace Go.Proofs.YtkkjpohaffjecaaGreatDoor
open Go.Eng (IC IOper DReg IFn J0)
open Go.Sym Go.Pb
abbrev mkB(L:List UInt8)(w i:Nat):Blk:=⟨0,true,[.lst (bytesC L),I64 i,I64 w]⟩
theorem B4k{L:List UInt8}{i:Nat}{b:UInt8}(h:L[i]? = some b):(bytesC L)[i]? = some (.int .u8 (b.toNat:Int)):=by
 simp[bytesC,h]
theorem c_Next(L:List UInt8)(hL:L.length<=300)(w i:Nat)(hi:i<=300)(n:Nat)(hn:0<n)(hn2:n<=1000)(H:Hp)(cc t:Nat)(ht:H t=some (mkB L w i))(htc:t<cc):
  AC Tryz.prog 61 [.ptr t 0,I64 n] H cc (fun v H' c'=>v=I64 (nxK L n i).1/\H'=H.upd t (mkB L w (nxK L n i).2)):=by
 refine AC.bodyT A4 rfl (A0B rfl) fun hfr=>?_;have hlen:(bytesC L).length=L.length:=by simp[bytesC]
 unfold nxK;by_cases hlt:i<L.length
 ·have hd:decide ((i:Int)≥L.length)=false:=by simp;omega
  have hg:=B4k (A0C hlt);rw[dif_pos hlt];generalize L[i]=b at hg;have hw:=w64 (n:=(i:Int)+1);have hw3:IntKind.i64.wrap ((i:Int)+1-1)=(i:Int):=by rw[w6z (by omega)];omega
  have hb:=b.toNat_lt;have hw4:=w64 (n:=(b.toNat:Int));have hrm:binR .rem (.int .i64 (b.toNat:Int)) (I64 (n:Int))=some (I64 ((b.toNat % n:Nat):Int)):=by
   rw[A6k (by omega)];rfl
  repeat' (apply wr<;>try simp only[go_sem,seval,ht,hd,hg,hw,hw3,hw4,hrm,hlen,h_same])
  exact⟨_,_,GL.refl _ _,rfl,rfl⟩
 ·have hd:decide ((i:Int)≥L.length)=true:=by simp;omega
  rw[dif_neg hlt];repeat' (apply wr<;>try simp only[go_sem,seval,ht,hd,hlen])
  exact⟨_,_,GL.refl _ _,rfl,(upd_same ht).symm⟩
theorem F3{L:List UInt8}(hL:L.length<=300){n i:Nat}(hi:i<=300):(nxK L n i).2<=300:=by
 unfold nxK;split<;>simp<;>omega
theorem c_name32(L:List UInt8)(hL:L.length<=300)(w i:Nat)(hw:w<=100)(hi:i<=300)(p:List UInt8)(hp:p.length<=100)(n:Nat)(hn:0<n)(hn2:n<=1000)(H:Hp)(cc t:Nat)(ht:H t=some (mkB L w i))(htc:t<cc):
  AC Tryz.prog 85 [.ptr t 0,.str p,I64 n] H cc (fun v H' c'=>v=.str (nmK L w p n i).1/\H'=H.upd t (mkB L w (nmK L w p n i).2)):=by
 refine AC.bodyT A4 rfl (A0B rfl) fun hfr=>?_;unfold nmK;by_cases h0:0<w
 ·have q0:decide ((w:Int)>0)=true:=by simpa using h0
  repeat' (apply wr<;>try simp only[go_sem,seval,ht,q0])
  refine AC.call (c_Next L hL w i hi w h0 (by omega) _ _ t ht (by omega)) ?_;rintro v' H' c2 ⟨rfl,rfl⟩ hc2;have hi2:=F3 hL (n:=w) hi;have hw1:=w64 (n:=(w:Int)-1);simp only[go_sem,seval,h_same];repeat' (apply wr<;>try simp only[go_sem,seval,h_same,A1,hw1])
  refine⟨by and_intros<;>(rw[hnO];exact hfr _ (by omega)),?_⟩;by_cases hq:(nxK L w i).1+1=w
  ·have qq:(((nxK L w i).1:Int) == IntKind.i64.wrap ((w:Int)-1))=true:=by rw[hw1];simp;omega
   rw[if_pos ⟨h0,hq⟩];repeat' (apply wr<;>try simp only[go_sem,seval,qq])
   refine AC.call (c_Next L hL w _ hi2 10 (by decide) (by decide) _ _ t (by rw[hnO];exact h_same) (by omega)) ?_;rintro v' H' c3 ⟨rfl,rfl⟩ hc3;have hlt:=O8 L (nxK L w i).2 (n:=10) (by decide);generalize (nxK L 10 (nxK L w i).2)=kq at hlt ⊢;obtain⟨k,i3⟩:=kq;dsimp only at hlt ⊢;have hia:L2 1 (.slc c2 0 10) (I64 (k:Int))=some (.ptr c2 k):=by simp[L2];omega
   have hld:([.str [115,119,48],.str [99,111,105,108,48],.str [108,97,109,112,48],.str [118,48],.str [116,109,48],.str [101,118,48],.str [109,111,100,101,48],.str [110,111,110,101],.str [115,110,100,48],.str [115,104,111,119,48]]:List DV)[k]? = some (.str (W1.getD k [])):=by
    match k,hlt with
    |0,_=>rfl
    |1,_=>rfl
    |2,_=>rfl
    |3,_=>rfl
    |4,_=>rfl
    |5,_=>rfl
    |6,_=>rfl
    |7,_=>rfl
    |8,_=>rfl
    |9,_=>rfl
   have ne0:=R3 t c2 (by omega);generalize hWL:([.str [115,119,48],.str [99,111,105,108,48],.str [108,97,109,112,48],.str [118,48],.str [116,109,48],.str [101,118,48],.str [109,111,100,101,48],.str [110,111,110,101],.str [115,110,100,48],.str [115,104,111,119,48]]:List DV)=WL at hld ⊢;simp only[go_sem,seval,h_same,ne0,hia,hld];repeat' (apply wr<;>try simp only[go_sem,seval])
   refine⟨_,_,GL.less' (fun j b hj=>?_),rfl,rfl⟩;by_cases e:j=t
   ·subst e;rw[h_same]at hj ⊢;exact hj
   ·rw[h_ne e]at hj;have:j≠c2:=by rintro rfl;rw[hfr _ (by omega)]at hj;cases hj
    rw[h_ne e,h_ne this,h_ne e];exact hj
  ·have qq:(((nxK L w i).1:Int) == IntKind.i64.wrap ((w:Int)-1))=false:=by rw[hw1];simp;omega
   rw[if_neg (fun h=>hq h.2),if_pos h0];repeat' (apply wr<;>try simp only[go_sem,seval,qq])
   refine AC.call (c_Next L hL w _ hi2 n hn hn2 _ _ t h_same (by omega)) ?_;rintro v' H' c3 ⟨rfl,rfl⟩ hc3;have hlt:=O8 L (nxK L w i).2 hn;have hdc:=c_Dec' ((nxK L n (nxK L w i).2).1:Int) (by omega) (by omega);have hdl:=L6 (n:=((nxK L n (nxK L w i).2).1:Int)) (by omega) (by omega);have hadd:=N0 (s:=p) (t:=O3 ((nxK L n (nxK L w i).2).1:Int)) (by omega);simp only[go_sem,seval,A1];repeat' ((with_reducible first|apply wr|refine cpc hdc ?_|fail)<;>try simp only[go_sem,seval,hadd])
   exact⟨_,_,GL.refl _ _,rfl,rfl⟩
 ·have q0:decide ((w:Int)>0)=false:=by simpa using h0
  rw[if_neg (fun h=>h0 h.1),if_neg h0];repeat' (apply wr<;>try simp only[go_sem,seval,ht,q0])
  refine⟨by and_intros<;>exact hfr _ (by omega),?_⟩;repeat' (apply wr<;>try simp only[go_sem,seval])
  refine AC.call (c_Next L hL w i hi n hn hn2 _ _ t ht (by omega)) ?_;rintro v' H' c2 ⟨rfl,rfl⟩ hc2;have hlt:=O8 L i hn;have hdc:=c_Dec' ((nxK L n i).1:Int) (by omega) (by omega);have hdl:=L6 (n:=((nxK L n i).1:Int)) (by omega) (by omega);have hadd:=N0 (s:=p) (t:=O3 ((nxK L n i).1:Int)) (by omega);simp only[go_sem,seval];repeat' ((with_reducible first|apply wr|refine cpc hdc ?_|fail)<;>try simp only[go_sem,seval,hadd])
  exact⟨_,_,GL.refl _ _,rfl,rfl⟩
theorem A2m{L:List UInt8}(hL:L.length<=300){w n i:Nat}{p:List UInt8}(hi:i<=300):(nmK L w p n i).2<=300:=by
 unfold nmK;dsimp only;split
 ·exact F3 hL (F3 hL hi)
 ·split
  ·exact F3 hL (F3 hL hi)
  ·exact F3 hL hi
theorem U8{L:List UInt8}{w n i:Nat}{p:List UInt8}(hn:0<n)(hn2:n<=1000):(nmK L w p n i).1.length<=p.length+100:=by
 unfold nmK;dsimp only;split
 ·have:=O8 L (nxK L w i).2 (n:=10) (by decide);generalize (nxK L 10 (nxK L w i).2).1=k at this
  match k,this with
  |0,_=>simp[W1]
  |1,_=>simp[W1]
  |2,_=>simp[W1]
  |3,_=>simp[W1]
  |4,_=>simp[W1]
  |5,_=>simp[W1]
  |6,_=>simp[W1]
  |7,_=>simp[W1]
  |8,_=>simp[W1]
  |9,_=>simp[W1]
 ·have:=O8 L (if 0<w then (nxK L w i).2 else i) hn;have h:=L6 (n:=((nxK L n (if 0<w then (nxK L w i).2 else i)).1:Int)) (by omega) (by omega);rw[A0A];omega
theorem c_bl0(L:List UInt8)(hL:L.length<=300)(w:Nat)(hw:w<=100)(i:Nat)(hi:i<=300)(d:Int)(hd:d<=0)(H:Hp)(cc t:Nat)(ht:H t=some (mkB L w i))(htc:t<cc):
  AC Tryz.prog 39 [.ptr t 0,I64 d] H cc (fun v H' c'=>v=.str (bl0 L w i).1/\H'=H.upd t (mkB L w (bl0 L w i).2)):=by
 refine AC.bodyT A4 rfl (A0B rfl) fun hfr=>?_;have qd:decide (d<=0)=true:=by simpa using hd
 unfold bl0;repeat' (apply wr<;>try simp only[go_sem,seval,qd])
 refine AC.call (c_Next L hL w i hi 5 (by decide) (by decide) _ _ t ht (by omega)) ?_;rintro v' H' c2 ⟨rfl,rfl⟩ hc2;have hi2:=F3 hL (n:=5) hi;generalize nxK L 5 i=k at hi2 ⊢;obtain⟨k,i2⟩:=k;dsimp only at hi2 ⊢;by_cases k0:k=0
 ·subst k0;simp only[go_sem,seval];repeat' (apply wr<;>try simp only[go_sem,seval])
  exact⟨_,_,GL.refl _ _,rfl,rfl⟩
 have q0:((k:Int) == 0)=false:=by simpa using k0
 rw[if_neg k0];by_cases k1:k=1
 ·subst k1;simp only[go_sem,seval];repeat' (apply wr<;>try simp only[go_sem,seval])
  exact⟨_,_,GL.refl _ _,rfl,rfl⟩
 have q1:((k:Int) == 1)=false:=by simp;omega
 rw[if_neg k1];by_cases k2:k=2
 ·subst k2;rw[if_pos rfl];simp only[go_sem,seval];repeat' (apply wr<;>try simp only[go_sem,seval])
  refine AC.call (c_name32 L hL w i2 hw hi2 [109,111,100,101] (by decide) 3 (by decide) (by decide) _ _ t h_same (by omega)) ?_;rintro v' H' c3 ⟨rfl,rfl⟩ hc3;have hl:=U8 (L:=L) (w:=w) (i:=i2) (p:=[109,111,100,101]) (n:=3) (by decide) (by decide);generalize nmK L w [109,111,100,101] 3 i2=a at hl ⊢;have hadd:=N0 (s:=[97,99,116,105,118,101,32]) (t:=a.1) (by simp at hl ⊢;omega);simp only[go_sem,seval,A1,hadd];repeat' (apply wr<;>try simp only[go_sem,seval])
  exact⟨_,_,GL.refl _ _,rfl,rfl⟩
 have q2:((k:Int) == 2)=false:=by simp;omega
 rw[if_neg k2];simp only[go_sem,seval];repeat' (apply wr<;>try simp only[go_sem,seval,q0,q1,q2])
 refine AC.call (c_name32 L hL w i2 hw hi2 [115,119] (by decide) 4 (by decide) (by decide) _ _ t h_same (by omega)) ?_;rintro v' H' c3 ⟨rfl,rfl⟩ hc3;have hl:=U8 (L:=L) (w:=w) (i:=i2) (p:=[115,119]) (n:=4) (by decide) (by decide);generalize nmK L w [115,119] 4 i2=a at hl ⊢;have hadd:=N0 (s:=[99,108,111,115,101,100,32]) (t:=a.1) (by simp at hl ⊢;omega);simp only[go_sem,seval,A1,hadd];repeat' (apply wr<;>try simp only[go_sem,seval])
 exact⟨_,_,GL.refl _ _,rfl,rfl⟩
theorem A0r{H:Hp}{cc t c2:Nat}{b0 b1 b:Blk}{ds:List DV}(hfr:∀ i,cc<=i->H i=none)(htc:t<cc)(hc:cc<=c2):GL (((H.upd t b0).upd c2 b1).upd t b) ds (H.upd t b) ds:=GL.less' fun j q hj=>by
 by_cases e:j=t
 ·subst e;rw[h_same]at hj ⊢;exact hj
 ·rw[h_ne e]at hj;have:j≠c2:=by rintro rfl;rw[hfr _ (by omega)]at hj;cases hj
  rw[h_ne e,h_ne this,h_ne e];exact hj
theorem c_in0(L:List UInt8)(hL:L.length<=300)(w:Nat)(hw:w<=100)(i:Nat)(hi:i<=300)(d:Int)(hd:d<=0)(hd2 : -1000<=d)(H:Hp)(cc t:Nat)(ht:H t=some (mkB L w i))(htc:t<cc):
  AC Tryz.prog 38 [.ptr t 0,I64 d] H cc (fun v H' c'=>v=.str (in0 L w i).1/\H'=H.upd t (mkB L w (in0 L w i).2)):=by
 refine AC.bodyT A4 rfl (A0B rfl) fun hfr=>?_;have qd:decide (d<=0)=true:=by simpa using hd
 have kI:∀ (j c0:Nat),j<=300->cc<=c0->IW Tryz.prog 86 (pz Tryz.prog 38 (.i (.i (.o .h)))) ⟨tm [(0,.ptr t 0),(1,I64 d)],H.upd t (mkB L w j),c0⟩ (rt [.tmp 4] fun v H' c' => ∃ v2 H2,GL H' [v] H2 [v2]/\v2=.str (in1 L w j).1/\H2=H.upd t (mkB L w (in1 L w j).2)):=by
  intro j c0 hj hc0;unfold in1;repeat' (apply wr<;>try simp only[go_sem,seval,qd])
  refine AC.call (c_Next L hL w j hj 7 (by decide) (by decide) _ _ t h_same (by omega)) ?_;rintro v' H' c2 ⟨rfl,rfl⟩ hc2;rw[A1];have hi2:=F3 hL (n:=7) hj;generalize nxK L 7 j=k at hi2 ⊢;obtain⟨k,i2⟩:=k;dsimp only at hi2 ⊢;by_cases k0:k=0
  ·subst k0;rw[if_pos (.inl rfl)];simp only[go_sem,seval];repeat' (apply wr<;>try simp only[go_sem,seval])
   refine AC.call (c_name32 L hL w i2 hw hi2 [118] (by decide) 3 (by decide) (by decide) _ _ t h_same (by omega)) ?_;rintro v' H' c3 ⟨rfl,rfl⟩ hc3;rw[A1];simp only[go_sem,seval];repeat' (apply wr<;>try simp only[go_sem,seval])
   exact⟨_,_,GL.refl _ _,rfl,rfl⟩
  have q0:((k:Int) == 0)=false:=by simpa using k0
  by_cases k1:k=1
  ·subst k1;rw[if_pos (.inr rfl)];simp only[go_sem,seval];repeat' (apply wr<;>try simp only[go_sem,seval])
   refine AC.call (c_name32 L hL w i2 hw hi2 [118] (by decide) 3 (by decide) (by decide) _ _ t h_same (by omega)) ?_;rintro v' H' c3 ⟨rfl,rfl⟩ hc3;rw[A1];simp only[go_sem,seval];repeat' (apply wr<;>try simp only[go_sem,seval])
   exact⟨_,_,GL.refl _ _,rfl,rfl⟩
  have q1:((k:Int) == 1)=false:=by simp;omega
  rw[if_neg (by omega)];by_cases k2:k=2
  ·subst k2;simp only[go_sem,seval];repeat' (apply wr<;>try simp only[go_sem,seval])
   exact⟨_,_,GL.refl _ _,rfl,rfl⟩
  have q2:((k:Int) == 2)=false:=by simp;omega
  rw[if_neg k2];by_cases k3:k=3
  ·subst k3;simp only[go_sem,seval];repeat' (apply wr<;>try simp only[go_sem,seval])
   exact⟨_,_,GL.refl _ _,rfl,rfl⟩
  have q3:((k:Int) == 3)=false:=by simp;omega
  rw[if_neg k3];by_cases k4:k=4
  ·subst k4;rw[if_pos rfl];simp only[go_sem,seval];repeat' (apply wr<;>try simp only[go_sem,seval])
   refine AC.call (c_name32 L hL w i2 hw hi2 [116,109] (by decide) 2 (by decide) (by decide) _ _ t h_same (by omega)) ?_;rintro v' H' c3 ⟨rfl,rfl⟩ hc3;have hl:=U8 (L:=L) (w:=w) (i:=i2) (p:=[116,109]) (n:=2) (by decide) (by decide);generalize nmK L w [116,109] 2 i2=a at hl ⊢;have hadd:=N0 (s:=[108,101,102,116,32]) (t:=a.1) (by simp at hl ⊢;omega);simp only[go_sem,seval,A1,hadd];repeat' (apply wr<;>try simp only[go_sem,seval])
   exact⟨_,_,GL.refl _ _,rfl,rfl⟩
  have q4:((k:Int) == 4)=false:=by simp;omega
  rw[if_neg k4];by_cases k5:k=5
  ·subst k5;rw[if_pos rfl];simp only[go_sem,seval];repeat' (apply wr<;>try simp only[go_sem,seval])
   refine AC.call (c_Next L hL w i2 hi2 4 (by decide) (by decide) _ _ t (by rw[hnO];exact h_same) (by omega)) ?_;rintro v' H' c3 ⟨rfl,rfl⟩ hc3;have hlt:=O8 L i2 (n:=4) (by decide);generalize (nxK L 4 i2)=kq at hlt ⊢;obtain⟨k,i3⟩:=kq;dsimp only at hlt ⊢;have hia:L2 1 (.slc c2 0 4) (I64 (k:Int))=some (.ptr c2 k):=by simp[L2];omega
   have hld:([.str [50,49,52,55,52,56,51,54,52,55],.str [49,48,48,48,48,48,48],.str [54,53,53,51,54],.str [49,48,48,48,48,48]]:List DV)[k]? = some (.str (D1g.getD k [])):=by
    match k,hlt with
    |0,_=>rfl
    |1,_=>rfl
    |2,_=>rfl
    |3,_=>rfl
   have ne0:=R3 t c2 (by omega);generalize hWL:([.str [50,49,52,55,52,56,51,54,52,55],.str [49,48,48,48,48,48,48],.str [54,53,53,51,54],.str [49,48,48,48,48,48]]:List DV)=WL at hld ⊢;simp only[go_sem,seval,h_same,ne0,hia,hld];repeat' (apply wr<;>try simp only[go_sem,seval])
   exact⟨_,_,A0r hfr htc (by omega),rfl,rfl⟩
  have q5:((k:Int) == 5)=false:=by simp;omega
  rw[if_neg k5];simp only[go_sem,seval];repeat' (apply wr<;>try simp only[go_sem,seval,q0,q1,q2,q3,q4,q5])
  refine AC.call (c_Next L hL w i2 hi2 12 (by decide) (by decide) _ _ t h_same (by omega)) ?_;rintro v' H' c3 ⟨rfl,rfl⟩ hc3;rw[A1];have hlt:=O8 L i2 (n:=12) (by decide);have hdc:=c_Dec' ((nxK L 12 i2).1:Int) (by omega) (by omega);simp only[go_sem,seval];repeat' ((with_reducible first|apply wr|refine cpc hdc ?_|fail)<;>try simp only[go_sem,seval])
  exact⟨_,_,GL.refl _ _,rfl,rfl⟩
 unfold in0 wlK;by_cases h0:0<w
 ·have q0:decide ((w:Int)>0)=true:=by simpa using h0
  have hw4:IntKind.i64.wrap (4 * (w:Int))=((4 * w:Nat):Int):=by rw[w6z (by omega)];omega
  repeat' (apply wr<;>try simp only[go_sem,seval,ht,q0,hw4])
  refine AC.call (c_Next L hL w i hi (4 * w) (by omega) (by omega) _ _ t ht (by omega)) ?_;rintro v' H' c2 ⟨rfl,rfl⟩ hc2;have hi2:=F3 hL (n:=4 * w) hi;generalize nxK L (4 * w) i=k at hi2 ⊢;obtain⟨k,i2⟩:=k;dsimp only at hi2 ⊢;by_cases k1:k=1
  ·subst k1;rw[if_pos ⟨h0,rfl⟩];have hw1:=w64 (n:=d-1);simp only[go_sem,seval];repeat' (apply wr<;>try simp only[go_sem,seval,hw1])
   refine AC.call (c_bl0 L hL w hw i2 hi2 (d-1) (by omega) _ _ t h_same (by omega)) ?_;rintro v' H' c3 ⟨rfl,rfl⟩ hc3;rw[A1];simp only[go_sem,seval];repeat' (apply wr<;>try simp only[go_sem,seval])
   exact⟨_,_,GL.refl _ _,rfl,rfl⟩
  have q1:((k:Int) == 1)=false:=by simp;omega
  rw[if_neg (fun h=>k1 h.2),if_pos h0];simp only[go_sem,seval,q1];repeat' ((with_reducible first|refine G0 (p:=IW _ _ (pz Tryz.prog 38 (.i (.i (.o .h)))) _ _) ?_|refine wr ?_|fail)<;>try simp only[go_sem,seval])
  exact IW.stage (by simp[C6,tm,Tm.upd]) (kI i2 _ hi2 hc2)
 ·have q0:decide ((w:Int)>0)=false:=by simpa using h0
  rw[if_neg (fun h=>h0 h.1),if_neg h0];have hHt:H=H.upd t (mkB L w i):=(upd_same ht).symm;repeat' ((with_reducible first|refine G0 (p:=IW _ _ (pz Tryz.prog 38 (.i (.i (.o .h)))) _ _) ?_|refine wr ?_|fail)<;>try simp only[go_sem,seval,ht,q0])
  have:=kI i cc hi (A0G _);rw[upd_same ht]at this;exact IW.stage (by simp[C6,tm,Tm.upd]) this
def lnB:Nat->Nat
 |0=>300
 |d+1=>2 * lnB d+300
theorem C4w(d:Nat):300<=lnB d:=by cases d<;>simp only[lnB]<;>omega
def A7o(n:Nat)(f:Nat->Mk):Prop:=∀ i,i<=300->(f i).1.length<=n/\(f i).2<=300
theorem A9q{L:List UInt8}(hL:L.length<=300)(w:Nat):A7o 300 (bl0 L w):=by
 intro i hi;unfold bl0;dsimp only;have h2:=F3 hL (n:=5) hi;split
 ·exact⟨by simp,h2⟩
 ·split
  ·exact⟨by simp,h2⟩
  ·split
   ·have:=U8 (L:=L) (w:=w) (i:=(nxK L 5 i).2) (p:=[109,111,100,101]) (n:=3) (by decide) (by decide);exact⟨by simp at this ⊢;omega,A2m hL h2⟩
   ·have:=U8 (L:=L) (w:=w) (i:=(nxK L 5 i).2) (p:=[115,119]) (n:=4) (by decide) (by decide);exact⟨by simp at this ⊢;omega,A2m hL h2⟩
theorem L5{l:List (List UInt8)}{n:Nat}(h:∀ x∈l,x.length<=n)(k:Nat):(l.getD k []).length<=n:=by
 rw[A0Y];cases hk:l[k]? with
 |none=>simp
 |some x=>exact h x (A0V hk)
theorem C9k{L:List UInt8}(hL:L.length<=300)(w:Nat):A7o 300 (in1 L w):=by
 intro i hi;unfold in1;dsimp only;have h2:=F3 hL (n:=7) hi;split
 ·have:=U8 (L:=L) (w:=w) (i:=(nxK L 7 i).2) (p:=[118]) (n:=3) (by decide) (by decide);exact⟨by simp at this ⊢;omega,A2m hL h2⟩
 ·split
  ·exact⟨by simp,h2⟩
  ·split
   ·exact⟨by simp,h2⟩
   ·split
    ·have:=U8 (L:=L) (w:=w) (i:=(nxK L 7 i).2) (p:=[116,109]) (n:=2) (by decide) (by decide);exact⟨by simp at this ⊢;omega,A2m hL h2⟩
    ·split
     ·exact⟨A1A (L5 (n:=300) (by decide) _) (by decide),F3 hL h2⟩
     ·have hlt:=O8 L (nxK L 7 i).2 (n:=12) (by decide);have h:=L6 (n:=((nxK L 12 (nxK L 7 i).2).1:Int)) (by omega) (by omega);exact⟨A1A h (by decide),F3 hL h2⟩
theorem C6m{L:List UInt8}(hL:L.length<=300){w n:Nat}{f g:Nat->Mk}(hf:A7o n f)(hg:A7o n g):A7o n (wlK L w f g):=by
 intro i hi;unfold wlK;dsimp only;have h2:=F3 hL (n:=4 * w) hi;split
 ·exact hf _ h2
 ·split
  ·exact hg _ h2
  ·exact hg _ hi
theorem A7o.mono{n m:Nat}{f:Nat->Mk}(h:A7o n f)(hnm:n<=m):A7o m f:=fun i hi=>⟨A1A (h i hi).1 hnm,(h i hi).2⟩
theorem A9p{L:List UInt8}(hL:L.length<=300)(w:Nat):A7o 300 (in0 L w):=C6m hL (A9q hL w) (C9k hL w)
theorem A0n{L:List UInt8}(hL:L.length<=300)(w:Nat):∀ d,A7o (lnB d) (inK L w d)/\A7o (lnB d) (blK L w d)
 |0=>⟨fun i hi=>by rw[inK];exact A9p hL w i hi,fun i hi=>by rw[blK];exact A9q hL w i hi⟩
 |d+1=>by
  obtain⟨h1,h2⟩:=A0n hL w d;have h300:=C4w d;have e:lnB (d+1)=2 * lnB d+300:=rfl;refine⟨fun i hi=>?_,fun i hi=>?_⟩
  ·rw[inK];refine C6m hL (h2.mono (by omega)) (fun i hi=>?_) i hi;dsimp only;have hk:=F3 hL (n:=5) hi;split
   ·exact (A9p hL w).mono (by omega) _ hk
   ·split
    ·have:=A9p hL w _ hk;exact⟨by simp;omega,this.2⟩
    ·have ha:=h1 _ hk;have hc:=h1 _ ha.2;refine⟨?_,F3 hL hc.2⟩;have ho:=L5 (l:=B4r) (n:=5) (by decide) (nxK L 5 (inK L w d (inK L w d (nxK L 5 i).2).2).2).1;simp only[A0A,A0D,List.length_nil];omega
  ·rw[blK];dsimp only;have hk:=F3 hL (n:=6) hi;split
   ·have:=A9q hL w _ hk;exact⟨by simp;omega,this.2⟩
   ·split
    ·have ha:=h2 _ hk;have hc:=h2 _ ha.2;exact⟨by simp only[A0A,A0D,List.length_nil];omega,hc.2⟩
    ·split
     ·have ha:=h2 _ hk;have hc:=h2 _ ha.2;exact⟨by simp only[A0A,A0D,List.length_nil];omega,hc.2⟩
     ·have ha:=h1 _ hk;have ho:=F3 hL (n:=6) ha.2;have hc:=h1 _ ho;have hg:=L5 (l:=B8g) (n:=5) (by decide) (nxK L 6 (inK L w d (nxK L 6 i).2).2).1;exact⟨by simp only[A0A,A0D,List.length_nil];omega,hc.2⟩
def InC(L:List UInt8)(w d:Nat):Prop:=∀ (i:Nat) (hi:i<=300) (H:Hp) (cc t:Nat) (ht:H t=some (mkB L w i)) (htc:t<cc),
  AC Tryz.prog 38 [.ptr t 0,I64 d] H cc (fun v H' c'=>v=.str (inK L w d i).1/\H'=H.upd t (mkB L w (inK L w d i).2))
def BlC(L:List UInt8)(w d:Nat):Prop:=∀ (i:Nat) (hi:i<=300) (H:Hp) (cc t:Nat) (ht:H t=some (mkB L w i)) (htc:t<cc),
  AC Tryz.prog 39 [.ptr t 0,I64 d] H cc (fun v H' c'=>v=.str (blK L w d i).1/\H'=H.upd t (mkB L w (blK L w d i).2))
theorem B6h{G:Hp}{k t:Nat}{b:Blk}(h:¬ t=k):K7 (G.upd k b) [k] t=G t:=by
 simp only[K7];rw[if_neg (by simpa using h),h_ne h]
theorem A5o{X:Hp}{k t:Nat}{B:Blk}(h:¬ t=k):G5 [k] X ((K7 X [k]).upd t B)=X.upd t B:=by
 funext j
 simp only[G5];by_cases e:j=k
 ·subst e;rw[if_pos (by simp),h_ne (Ne.symm h)]
 ·rw[if_neg (by simpa using e)];by_cases e2:j=t
  ·subst e2;rw[h_same,h_same]
  ·rw[h_ne e2,h_ne e2];simp only[K7];rw[if_neg (by simpa using e)]
theorem c_bl1(L:List UInt8)(hL:L.length<=300)(w:Nat)(hw:w<=100)(d:Nat)(hd:d<=10)(h1:InC L w d)(h2:BlC L w d):BlC L w (d+1):=by
 intro i hi H cc t ht htc;obtain⟨o1,o2⟩:=A0n hL w d;have hB:lnB d<=1000000:=by
  have:∀ d,d<=10->lnB d<=1000000:=by decide
  exact this d hd
 refine AC.bodyT A4 rfl (A0B rfl) fun hfr=>?_;have qd:decide (((d+1:Nat):Int)<=0)=false:=by simp<;>omega
 have hw1:IntKind.i64.wrap (((d+1:Nat):Int)-1)=(d:Int):=by rw[w6z (by omega)];omega
 rw[blK];dsimp only;generalize hD:((d+1:Nat):Int)=D at qd hw1 ⊢;repeat' (apply wr<;>try simp only[go_sem,seval,qd])
 refine AC.call (c_Next L hL w i hi 6 (by decide) (by decide) _ _ t ht (by omega)) ?_;rintro v' H' c2 ⟨rfl,rfl⟩ hc2;have hi2:=F3 hL (n:=6) hi;generalize nxK L 6 i=k at hi2 ⊢;obtain⟨k,i2⟩:=k;dsimp only at hi2 ⊢;by_cases k0:k=0
 ·subst k0;rw[if_pos rfl];simp only[go_sem,seval];repeat' (apply wr<;>try simp only[go_sem,seval])
  refine AC.call (c_bl0 L hL w hw i2 hi2 0 (by omega) _ _ t h_same (by omega)) ?_;rintro v' H' c3 ⟨rfl,rfl⟩ hc3;have hl:=(A9q hL w i2 hi2).1;have hadd:=N0 (s:=[33]) (t:=(bl0 L w i2).1) (by simp;omega);rw[A1];simp only[go_sem,seval,hadd];repeat' (apply wr<;>try simp only[go_sem,seval])
  exact⟨_,_,GL.refl _ _,rfl,rfl⟩
 have q0:((k:Int) == 0)=false:=by simpa using k0
 rw[if_neg k0];by_cases k1:k=1
 ·subst k1;rw[if_pos rfl];simp only[go_sem,seval];repeat' (apply wr<;>try simp only[go_sem,seval,hw1])
  refine AC.call (h2 i2 hi2 _ _ t h_same (by omega)) ?_;rintro v' H' c3 ⟨rfl,rfl⟩ hc3;have hl:=o2 i2 hi2;generalize blK L w d i2=a at hl ⊢;have a1:=N0 (s:=[40]) (t:=a.1) (by simp;omega);have a2:=N0 (s:=40 :: a.1) (t:=[32,38,38,32]) (by simp;omega);rw[A1];simp only[go_sem,seval];repeat' (apply wr<;>try simp only[go_sem,seval,hw1,a1,a2])
  refine AC.call (h2 a.2 hl.2 _ _ t h_same (by omega)) ?_;rintro v' H' c4 ⟨rfl,rfl⟩ hc4;have hl2:=o2 a.2 hl.2;generalize blK L w d a.2=c at hl2 ⊢;have a3:=N0 (s:=40 :: (a.1++[32,38,38,32])) (t:=c.1) (by simp;omega);have a4:=N0 (s:=40 :: (a.1++[32,38,38,32]++c.1)) (t:=[41]) (by simp;omega);rw[A1];simp only[go_sem,seval,a3,a4];repeat' (apply wr<;>try simp only[go_sem,seval])
  refine⟨_,_,GL.refl _ _,?_,rfl⟩;simp
 have q1:((k:Int) == 1)=false:=by simp;omega
 rw[if_neg k1];by_cases k2:k=2
 ·subst k2;rw[if_pos rfl];simp only[go_sem,seval];repeat' (apply wr<;>try simp only[go_sem,seval,hw1])
  refine AC.call (h2 i2 hi2 _ _ t h_same (by omega)) ?_;rintro v' H' c3 ⟨rfl,rfl⟩ hc3;have hl:=o2 i2 hi2;generalize blK L w d i2=a at hl ⊢;have a1:=N0 (s:=[40]) (t:=a.1) (by simp;omega);have a2:=N0 (s:=40 :: a.1) (t:=[32,124,124,32]) (by simp;omega);rw[A1];simp only[go_sem,seval];repeat' (apply wr<;>try simp only[go_sem,seval,hw1,a1,a2])
  refine AC.call (h2 a.2 hl.2 _ _ t h_same (by omega)) ?_;rintro v' H' c4 ⟨rfl,rfl⟩ hc4;have hl2:=o2 a.2 hl.2;generalize blK L w d a.2=c at hl2 ⊢;have a3:=N0 (s:=40 :: (a.1++[32,124,124,32])) (t:=c.1) (by simp;omega);have a4:=N0 (s:=40 :: (a.1++[32,124,124,32]++c.1)) (t:=[41]) (by simp;omega);rw[A1];simp only[go_sem,seval,a3,a4];repeat' (apply wr<;>try simp only[go_sem,seval])
  refine⟨_,_,GL.refl _ _,?_,rfl⟩;simp
 have q2:((k:Int) == 2)=false:=by simp;omega
 rw[if_neg k2];simp only[go_sem,seval];repeat' (apply wr<;>try simp only[go_sem,seval,q0,q1,q2,hw1])
 refine AC.call (h1 i2 hi2 _ _ t h_same (by omega)) ?_;rintro v' H' c3 ⟨rfl,rfl⟩ hc3;have hl:=o1 i2 hi2;generalize inK L w d i2=a at hl ⊢;have a1:=N0 (s:=a.1) (t:=[32]) (by simp;omega);rw[A1];simp only[go_sem,seval];repeat' (apply wr<;>try simp only[go_sem,seval,hw1,a1])
 refine AC.call (c_Next L hL w a.2 hl.2 6 (by decide) (by decide) _ _ t (by rw[B6h (by omega)];exact h_same) (by omega)) ?_;rintro v' H' c4 ⟨rfl,rfl⟩ hc4;have hlt:=O8 L a.2 (n:=6) (by decide);have ho2:=F3 hL (n:=6) hl.2;generalize nxK L 6 a.2=kq at hlt ho2 ⊢;obtain⟨k3,i3⟩:=kq;dsimp only at hlt ho2 ⊢;have hmg:∀ (X:Hp) (B:Blk),G5 [c3+2] X ((K7 X [c3+2]).upd t B)=X.upd t B:=fun X B=>A5o (by omega);have hia:L2 1 (.slc (c3+2) 0 6) (I64 (k3:Int))=some (.ptr (c3+2) k3):=by simp[L2];omega
 have hld:([.str [60],.str [60,61],.str [62],.str [62,61],.str [61,61],.str [33,61]]:List DV)[k3]? = some (.str (B8g.getD k3 [])):=by
  match k3,hlt with
  |0,_=>rfl
  |1,_=>rfl
  |2,_=>rfl
  |3,_=>rfl
  |4,_=>rfl
  |5,_=>rfl
 have hg:=L5 (l:=B8g) (n:=5) (by decide) k3;generalize B8g.getD k3 []=og at hg hld ⊢;generalize hWL:([.str [60],.str [60,61],.str [62],.str [62,61],.str [61,61],.str [33,61]]:List DV)=WL at hld ⊢;have ne0:=R3 t (c3+2) (by omega);have a2:=N0 (s:=a.1++[32]) (t:=og) (by simp;omega);have a3:=N0 (s:=a.1++[32]++og) (t:=[32]) (by simp;omega);simp only[go_sem,seval,hmg,h_same,ne0,hia,hld,a1,a2,a3,hw1];refine⟨by and_intros<;>first|rfl|(rw[<- hWL];done)|((repeat rw[hnO]);exact hfr _ (by omega)),?_⟩;refine AC.call (h1 i3 ho2 _ _ t (by simp only[K7];rw[if_neg (by simp;omega)];exact h_same) (by omega)) ?_;rintro v' H' c5 ⟨rfl,rfl⟩ hc5;have hl3:=o1 i3 ho2;generalize inK L w d i3=c at hl3 ⊢;have a4:=N0 (s:=a.1++[32]++og++[32]) (t:=c.1) (by simp;omega);simp only[go_sem,seval,hmg,h_same,A1,ne0,hia,hld,a1,a2,a3,a4];refine⟨by and_intros<;>first|rfl|(rw[<- hWL];done)|((repeat rw[hnO]);exact hfr _ (by omega)),?_⟩;repeat' (apply wr<;>try simp only[go_sem,seval])
 exact⟨_,_,A0r hfr htc (by omega),by simp,rfl⟩
def in2(L:List UInt8)(w d i:Nat):Mk :=
 let k:=nxK L 5 i
 if k.1=0 then in0 L w k.2
 else if k.1=1 then let a:=in0 L w k.2;([45]++a.1,a.2)
 else
  let a:=inK L w d k.2
  let c:=inK L w d a.2
  let o:=nxK L 5 c.2
  (((((([40]++a.1)++[32])++B4r.getD o.1 [])++[32])++c.1)++[41],o.2)
theorem c_in2(L:List UInt8)(hL:L.length<=300)(w:Nat)(hw:w<=100)(d:Nat)(hd:d<=10)(h1:InC L w d)(h2:BlC L w d):InC L w (d+1):=by
 intro i hi H cc t ht htc;obtain⟨o1,o2⟩:=A0n hL w d;have hB:lnB d<=1000000:=by
  have:∀ d,d<=10->lnB d<=1000000:=by decide
  exact this d hd
 refine AC.bodyT A4 rfl (A0B rfl) fun hfr=>?_;have qd:decide (((d+1:Nat):Int)<=0)=false:=by simp<;>omega
 have hw1:IntKind.i64.wrap (((d+1:Nat):Int)-1)=(d:Int):=by rw[w6z (by omega)];omega
 rw[show inK L w (d+1) i=wlK L w (blK L w d) (in2 L w d) i from by rw[inK];rfl];generalize hD:((d+1:Nat):Int)=D at qd hw1 ⊢;have kI:∀ (j c0:Nat),j<=300->cc<=c0->IW Tryz.prog 86 (pz Tryz.prog 38 (.i (.i (.o .h)))) ⟨tm [(0,.ptr t 0),(1,I64 D)],H.upd t (mkB L w j),c0⟩ (rt [.tmp 4] fun v H' c' => ∃ v2 H2,GL H' [v] H2 [v2]/\v2=.str (in2 L w d j).1/\H2=H.upd t (mkB L w (in2 L w d j).2)):=by
  intro j c0 hj hc0;unfold in2;repeat' (apply wr<;>try simp only[go_sem,seval,qd])
  refine AC.call (c_Next L hL w j hj 5 (by decide) (by decide) _ _ t h_same (by omega)) ?_;rintro v' H' c2 ⟨rfl,rfl⟩ hc2;rw[A1];have hi2:=F3 hL (n:=5) hj;generalize nxK L 5 j=k at hi2 ⊢;obtain⟨k,i2⟩:=k;dsimp only at hi2 ⊢;by_cases k0:k=0
  ·subst k0;rw[if_pos rfl];simp only[go_sem,seval];repeat' (apply wr<;>try simp only[go_sem,seval])
   refine AC.call (c_in0 L hL w hw i2 hi2 0 (by omega) (by omega) _ _ t h_same (by omega)) ?_;rintro v' H' c3 ⟨rfl,rfl⟩ hc3;rw[A1];simp only[go_sem,seval];repeat' (apply wr<;>try simp only[go_sem,seval])
   exact⟨_,_,GL.refl _ _,rfl,rfl⟩
  have q0:((k:Int) == 0)=false:=by simpa using k0
  rw[if_neg k0];by_cases k1:k=1
  ·subst k1;rw[if_pos rfl];simp only[go_sem,seval];repeat' (apply wr<;>try simp only[go_sem,seval])
   refine AC.call (c_in0 L hL w hw i2 hi2 0 (by omega) (by omega) _ _ t h_same (by omega)) ?_;rintro v' H' c3 ⟨rfl,rfl⟩ hc3;rw[A1];have hl:=(A9p hL w i2 hi2).1;have hadd:=N0 (s:=[45]) (t:=(in0 L w i2).1) (by simp;omega);simp only[go_sem,seval,hadd];repeat' (apply wr<;>try simp only[go_sem,seval])
   exact⟨_,_,GL.refl _ _,rfl,rfl⟩
  have q1:((k:Int) == 1)=false:=by simp;omega
  rw[if_neg k1];simp only[go_sem,seval];repeat' (apply wr<;>try simp only[go_sem,seval,q0,q1,hw1])
  refine AC.call (h1 i2 hi2 _ _ t h_same (by omega)) ?_;rintro v' H' c3 ⟨rfl,rfl⟩ hc3;have hl:=o1 i2 hi2;generalize inK L w d i2=a at hl ⊢;rw[A1];simp only[go_sem,seval];repeat' (apply wr<;>try simp only[go_sem,seval,hw1])
  refine AC.call (h1 a.2 hl.2 _ _ t h_same (by omega)) ?_;rintro v' H' c4 ⟨rfl,rfl⟩ hc4;have hl2:=o1 a.2 hl.2;generalize inK L w d a.2=c at hl2 ⊢;rw[A1];have a1:=N0 (s:=[40]) (t:=a.1) (by simp;omega);have a2:=N0 (s:=40 :: a.1) (t:=[32]) (by simp;omega);simp only[go_sem,seval];repeat' (apply wr<;>try simp only[go_sem,seval,a1,a2])
  refine AC.call (c_Next L hL w c.2 hl2.2 5 (by decide) (by decide) _ _ t (by rw[hnO];exact h_same) (by omega)) ?_;rintro v' H' c5 ⟨rfl,rfl⟩ hc5;have hlt:=O8 L c.2 (n:=5) (by decide);generalize nxK L 5 c.2=kq at hlt ⊢;obtain⟨k3,i3⟩:=kq;dsimp only at hlt ⊢;have hia:L2 1 (.slc c4 0 5) (I64 (k3:Int))=some (.ptr c4 k3):=by simp[L2];omega
  have hld:([.str [43],.str [45],.str [42],.str [47],.str [37]]:List DV)[k3]? = some (.str (B4r.getD k3 [])):=by
   match k3,hlt with
   |0,_=>rfl
   |1,_=>rfl
   |2,_=>rfl
   |3,_=>rfl
   |4,_=>rfl
  have hg:=L5 (l:=B4r) (n:=5) (by decide) k3;generalize B4r.getD k3 []=og at hg hld ⊢;generalize hWL:([.str [43],.str [45],.str [42],.str [47],.str [37]]:List DV)=WL at hld ⊢;have ne0:=R3 t c4 (by omega);have a3:=N0 (s:=40 :: (a.1++[32])) (t:=og) (by simp;omega);have a4:=N0 (s:=40 :: (a.1++[32]++og)) (t:=[32]) (by simp;omega);have a5:=N0 (s:=40 :: (a.1++[32]++og++[32])) (t:=c.1) (by simp;omega);have a6:=N0 (s:=40 :: (a.1++[32]++og++[32]++c.1)) (t:=[41]) (by simp;omega);simp only[go_sem,seval,h_same,ne0,hia,hld,a3,a4,a5,a6];repeat' (apply wr<;>try simp only[go_sem,seval])
  exact⟨_,_,A0r hfr htc (by omega),by simp,rfl⟩
 unfold wlK;by_cases h0:0<w
 ·have q0:decide ((w:Int)>0)=true:=by simpa using h0
  have hw4:IntKind.i64.wrap (4 * (w:Int))=((4 * w:Nat):Int):=by rw[w6z (by omega)];omega
  repeat' (apply wr<;>try simp only[go_sem,seval,ht,q0,hw4])
  refine AC.call (c_Next L hL w i hi (4 * w) (by omega) (by omega) _ _ t ht (by omega)) ?_;rintro v' H' c2 ⟨rfl,rfl⟩ hc2;have hi2:=F3 hL (n:=4 * w) hi;generalize nxK L (4 * w) i=k at hi2 ⊢;obtain⟨k,i2⟩:=k;dsimp only at hi2 ⊢;by_cases k1:k=1
  ·subst k1;rw[if_pos ⟨h0,rfl⟩];simp only[go_sem,seval];repeat' (apply wr<;>try simp only[go_sem,seval,hw1])
   refine AC.call (h2 i2 hi2 _ _ t h_same (by omega)) ?_;rintro v' H' c3 ⟨rfl,rfl⟩ hc3;rw[A1];simp only[go_sem,seval];repeat' (apply wr<;>try simp only[go_sem,seval])
   exact⟨_,_,GL.refl _ _,rfl,rfl⟩
  have q1:((k:Int) == 1)=false:=by simp;omega
  rw[if_neg (fun h=>k1 h.2),if_pos h0];simp only[go_sem,seval,q1];repeat' ((with_reducible first|refine G0 (p:=IW _ _ (pz Tryz.prog 38 (.i (.i (.o .h)))) _ _) ?_|refine wr ?_|fail)<;>try simp only[go_sem,seval])
  exact IW.stage (by simp[C6,tm,Tm.upd]) (kI i2 _ hi2 hc2)
 ·have q0:decide ((w:Int)>0)=false:=by simpa using h0
  rw[if_neg (fun h=>h0 h.1),if_neg h0];repeat' ((with_reducible first|refine G0 (p:=IW _ _ (pz Tryz.prog 38 (.i (.i (.o .h)))) _ _) ?_|refine wr ?_|fail)<;>try simp only[go_sem,seval,ht,q0])
  have:=kI i cc hi (A0G _);rw[upd_same ht]at this;exact IW.stage (by simp[C6,tm,Tm.upd]) this
theorem c_exK(L:List UInt8)(hL:L.length<=300)(w:Nat)(hw:w<=100):∀ d,d<=10->InC L w d/\BlC L w d
 |0,_=>⟨fun i hi H cc t ht htc=>by rw[inK];exact c_in0 L hL w hw i hi 0 (by omega) (by omega) H cc t ht htc,fun i hi H cc t ht htc=>by rw[blK];exact c_bl0 L hL w hw i hi 0 (by omega) H cc t ht htc⟩
 |d+1,h=>by
  obtain⟨h1,h2⟩:=c_exK L hL w hw d (by omega);exact⟨c_in2 L hL w hw d (by omega) h1 h2,c_bl1 L hL w hw d (by omega) h1 h2⟩
def MC(f:Nat)(xs:List DV)(L:List UInt8)(w n:Nat)(Q:List UInt8->Prop):Prop:=∀ (i:Nat) (hi:i<=300) (H:Hp) (cc t:Nat) (ht:H t=some (mkB L w i)) (htc:t<cc),
  AC Tryz.prog f (.ptr t 0 :: xs) H cc (fun v H' c' => ∃ s j,Q s/\s.length<=n/\j<=300/\v=.str s/\H'=H.upd t (mkB L w j))
def NmS(L:List UInt8)(w:Nat)(p:List UInt8)(n:Nat)(s:List UInt8):Prop:=∃ i,i<=300/\s=(nmK L w p n i).1
def InS(L:List UInt8)(w d:Nat)(s:List UInt8):Prop:=∃ i,i<=300/\s=(inK L w d i).1
def BlS(L:List UInt8)(w d:Nat)(s:List UInt8):Prop:=∃ i,i<=300/\s=(blK L w d i).1
theorem K6(L:List UInt8)(hL:L.length<=300)(w:Nat)(hw:w<=100)(p:List UInt8)(hp:p.length<=100)(n:Nat)(hn:0<n)(hn2:n<=1000):MC 85 [.str p,I64 n] L w 200 (NmS L w p n):=by
 intro i hi H cc t ht htc;refine (c_name32 L hL w i hw hi p hp n hn hn2 H cc t ht htc).mono ?_;rintro v H' c' ⟨rfl,rfl⟩;have:=U8 (L:=L) (w:=w) (i:=i) (p:=p) (n:=n) hn hn2;exact⟨_,_,⟨i,hi,rfl⟩,by omega,A2m hL hi,rfl,rfl⟩
theorem C0y{d:Nat}(h:d<=2):lnB d<=2100:=by
 have:∀ d,d<=2->lnB d<=2100:=by decide
 exact this d h
theorem V0(L:List UInt8)(hL:L.length<=300)(w:Nat)(hw:w<=100)(d:Nat)(hd:d<=2):MC 38 [I64 d] L w 2100 (InS L w d):=by
 intro i hi H cc t ht htc;refine ((c_exK L hL w hw d (by omega)).1 i hi H cc t ht htc).mono ?_;rintro v H' c' ⟨rfl,rfl⟩;have h1:=(A0n hL w d).1 i hi;have h2:=C0y hd;exact⟨_,_,⟨i,hi,rfl⟩,by omega,h1.2,rfl,rfl⟩
theorem A9w(L:List UInt8)(hL:L.length<=300)(w:Nat)(hw:w<=100)(d:Nat)(hd:d<=2):MC 39 [I64 d] L w 2100 (BlS L w d):=by
 intro i hi H cc t ht htc;refine ((c_exK L hL w hw d (by omega)).2 i hi H cc t ht htc).mono ?_;rintro v H' c' ⟨rfl,rfl⟩;have h1:=(A0n hL w d).2 i hi;have h2:=C0y hd;exact⟨_,_,⟨i,hi,rfl⟩,by omega,h1.2,rfl,rfl⟩
theorem R4(L:List UInt8)(hL:L.length<=300)(w:Nat)(n:Nat)(hn:0<n)(hn2:n<=1000)(i:Nat)(hi:i<=300)(H:Hp)(cc t:Nat)(ht:H t=some (mkB L w i))(htc:t<cc):
  AC Tryz.prog 61 [.ptr t 0,I64 n] H cc (fun v H' c' => ∃ k j,k<n/\j<=300/\v=I64 (k:Nat)/\H'=H.upd t (mkB L w j)):=by
 refine (c_Next L hL w i hi n hn hn2 H cc t ht htc).mono ?_;rintro v H' c' ⟨rfl,rfl⟩;exact⟨_,_,O8 L i hn,F3 hL hi,rfl,rfl⟩
theorem D5(a b:List UInt8)(h:a.length+b.length<=100000000):∃ x,x=a++b/\x.length=a.length+b.length/\binR .add (.str a) (.str b)=some (.str x) :=
 ⟨_,rfl,by simp,N0 (by omega)⟩
def C5n:List (List UInt8):=[[102,105,114,101,32],[104,111,108,100,32],[114,101,108,101,97,115,101,32]]
def C3w:List (List UInt8):=[[114,117,110,32],[104,97,108,116,32]]
def C3h:List (List UInt8):=[[103,111],[106,97,99,107,112,111,116],[97,92,34,98],[]]
def B7i:List (List UInt8 × List UInt8 × Nat):=[([115,116,111,112,32],[116,109],2),([98,101,103,105,110,32],[109,111,100,101],3),([101,110,100,32],[109,111,100,101],3),([112,111,115,116,32],[101,118],2),([112,108,97,121,32],[115,110,100],2)]
inductive StG (L:List UInt8) (w:Nat) (K:List UInt8->Prop):List UInt8->Prop where
 |ifA {b x:List UInt8}:BlS L w 1 b->K x->StG L w K ((([105,102,32]++b)++[32])++x)
 |ifB {b x y:List UInt8}:BlS L w 1 b->K x->K y->StG L w K ((((([105,102,32]++b)++[32])++x)++[32,101,108,115,101,32])++y)
 |ifC {b x c y:List UInt8}:BlS L w 1 b->K x->BlS L w 0 c->K y->StG L w K ((((((([105,102,32]++b)++[32])++x)++[32,101,108,115,101,32,105,102,32])++c)++[32])++y)
 |rep {e x:List UInt8}:InS L w 0 e->K x->StG L w K ((([114,101,112,101,97,116,32]++e)++[32])++x)
 |sco {e:List UInt8}:InS L w 1 e->StG L w K (([115,99,111,114,101,32]++e)++[59])
 |fir {k:Nat} {n:List UInt8}:k<3->NmS L w [99,111,105,108] 3 n->StG L w K ((C5n.getD k []++n)++[59])
 |lig {n e:List UInt8}:NmS L w [108,97,109,112] 4 n->InS L w 0 e->StG L w K (((([108,105,103,104,116,32]++n)++[32])++e)++[59])
 |bli {n e f:List UInt8}:NmS L w [108,97,109,112] 4 n->InS L w 0 e->InS L w 0 f->StG L w K (((((([98,108,105,110,107,32]++n)++[32])++e)++[44,32])++f)++[59])
 |sta {n e:List UInt8}:NmS L w [116,109] 2 n->InS L w 1 e->StG L w K (((([115,116,97,114,116,32]++n)++[32])++e)++[59])
 |one {q:List UInt8 × List UInt8 × Nat} {n:List UInt8}:q∈B7i->NmS L w q.2.1 q.2.2 n->StG L w K ((q.1++n)++[59])
 |run {k:Nat} {n:List UInt8}:k<2->NmS L w [115,104,111,119] 2 n->StG L w K ((C3w.getD k []++n)++[59])
 |txt {k:Nat} {e:List UInt8}:k<4->InS L w 0 e->StG L w K (((([116,101,120,116,32,34]++C3h.getD k [])++[34,44,32])++e)++[59])
 |con:StG L w K [99,111,110,115,117,109,101,59]
 |asg {n e:List UInt8}:NmS L w [118] 3 n->InS L w 2 e->StG L w K (((n++[32,61,32])++e)++[59])
theorem c_Stmt(L:List UInt8)(hL:L.length<=300)(w:Nat)(hw:w<=100)(D:Int)(hD2:D<=10)(hD3 : -10<=D)(kb:Nat)(hkb:kb<=10000000)(K:List UInt8->Prop)(hK:D<=0\/MC 131 [I64 (D-1)] L w kb K):
  MC 197 [I64 D] L w (2 * kb+8000) (StG L w K):=by
 intro i hi H cc t ht htc;refine AC.bodyT A4 rfl (A0B rfl) fun hfr=>?_;have hw1:IntKind.i64.wrap (D-1)=D-1:=w6z (by omega);obtain⟨qd,hqd⟩:∃ b:Bool,decide (D<=0)=b:=⟨_,rfl⟩;have hqt:qd=true->D<=0:=fun e=>by rw[e]at hqd;simpa using hqd
 have hqf:qd=false->¬ D<=0:=fun e=>by rw[e]at hqd;simpa using hqd
 repeat' (apply wr<;>try simp only[go_sem,seval])
 refine AC.call (R4 L hL w 20 (by decide) (by decide) i hi _ _ t ht (by omega)) ?_;rintro v' H' c2 ⟨k,j,hlt,hj,rfl,rfl⟩ hc2;by_cases k4:k=4
 ·subst k4;cases qd;all_goals
   simp only[go_sem,seval];repeat' (apply wr<;>try simp only[go_sem,seval,hqd])
   refine AC.call (V0 L hL w hw 1 (by decide) j hj _ _ t h_same (by omega)) ?_;rintro v' H' c3 ⟨r1,j1,g1,l1,b1,rfl,rfl⟩ hc3;rw[A1];obtain⟨x1,e1,m1,a1⟩:=D5 [115,99,111,114,101,32] r1 (by (try simp)<;>omega);try simp only[A0D,List.length_nil]at m1
   obtain⟨x2,e2,m2,a2⟩:=D5 x1 [59] (by (try simp)<;>omega);try simp only[A0D,List.length_nil]at m2
   simp only[go_sem,seval,a1,a2];repeat' (apply wr<;>try simp only[go_sem,seval])
   exact⟨_,_,GL.refl _ _,x2,j1,by rw[e2,e1];exact .sco g1,by omega,b1,rfl,rfl⟩
 by_cases k5:k=5
 ·subst k5;cases qd;all_goals
   simp only[go_sem,seval];repeat' (apply wr<;>try simp only[go_sem,seval,hqd])
   refine AC.call (V0 L hL w hw 1 (by decide) j hj _ _ t h_same (by omega)) ?_;rintro v' H' c3 ⟨r1,j1,g1,l1,b1,rfl,rfl⟩ hc3;rw[A1];obtain⟨x1,e1,m1,a1⟩:=D5 [115,99,111,114,101,32] r1 (by (try simp)<;>omega);try simp only[A0D,List.length_nil]at m1
   obtain⟨x2,e2,m2,a2⟩:=D5 x1 [59] (by (try simp)<;>omega);try simp only[A0D,List.length_nil]at m2
   simp only[go_sem,seval,a1,a2];repeat' (apply wr<;>try simp only[go_sem,seval])
   exact⟨_,_,GL.refl _ _,x2,j1,by rw[e2,e1];exact .sco g1,by omega,b1,rfl,rfl⟩
 by_cases k7:k=7
 ·subst k7;cases qd;all_goals
   simp only[go_sem,seval];repeat' (apply wr<;>try simp only[go_sem,seval,hqd])
   refine AC.call (K6 L hL w hw [108,97,109,112] (by decide) 4 (by decide) (by decide) j hj _ _ t h_same (by omega)) ?_;rintro v' H' c3 ⟨r1,j1,g1,l1,b1,rfl,rfl⟩ hc3;rw[A1];obtain⟨x1,e1,m1,a1⟩:=D5 [108,105,103,104,116,32] r1 (by (try simp)<;>omega);try simp only[A0D,List.length_nil]at m1
   obtain⟨x2,e2,m2,a2⟩:=D5 x1 [32] (by (try simp)<;>omega);try simp only[A0D,List.length_nil]at m2
   simp only[go_sem,seval,a1,a2];repeat' (apply wr<;>try simp only[go_sem,seval,a1,a2,hw1])
   refine AC.call (V0 L hL w hw 0 (by decide) j1 b1 _ _ t h_same (by omega)) ?_;rintro v' H' c4 ⟨r2,j2,g2,l2,b2,rfl,rfl⟩ hc4;rw[A1];obtain⟨x3,e3,m3,a3⟩:=D5 x2 r2 (by (try simp)<;>omega);try simp only[A0D,List.length_nil]at m3
   obtain⟨x4,e4,m4,a4⟩:=D5 x3 [59] (by (try simp)<;>omega);try simp only[A0D,List.length_nil]at m4
   simp only[go_sem,seval,a3,a4];repeat' (apply wr<;>try simp only[go_sem,seval])
   exact⟨_,_,GL.refl _ _,x4,j2,by rw[e4,e3,e2,e1];exact .lig g1 g2,by omega,b2,rfl,rfl⟩
 by_cases k8:k=8
 ·subst k8;cases qd;all_goals
   simp only[go_sem,seval];repeat' (apply wr<;>try simp only[go_sem,seval,hqd])
   refine AC.call (K6 L hL w hw [108,97,109,112] (by decide) 4 (by decide) (by decide) j hj _ _ t h_same (by omega)) ?_;rintro v' H' c3 ⟨r1,j1,g1,l1,b1,rfl,rfl⟩ hc3;rw[A1];obtain⟨x1,e1,m1,a1⟩:=D5 [98,108,105,110,107,32] r1 (by (try simp)<;>omega);try simp only[A0D,List.length_nil]at m1
   obtain⟨x2,e2,m2,a2⟩:=D5 x1 [32] (by (try simp)<;>omega);try simp only[A0D,List.length_nil]at m2
   simp only[go_sem,seval,a1,a2];repeat' (apply wr<;>try simp only[go_sem,seval,a1,a2,hw1])
   refine AC.call (V0 L hL w hw 0 (by decide) j1 b1 _ _ t h_same (by omega)) ?_;rintro v' H' c4 ⟨r2,j2,g2,l2,b2,rfl,rfl⟩ hc4;rw[A1];obtain⟨x3,e3,m3,a3⟩:=D5 x2 r2 (by (try simp)<;>omega);try simp only[A0D,List.length_nil]at m3
   obtain⟨x4,e4,m4,a4⟩:=D5 x3 [44,32] (by (try simp)<;>omega);try simp only[A0D,List.length_nil]at m4
   simp only[go_sem,seval,a3];repeat' (apply wr<;>try simp only[go_sem,seval,a4])
   refine AC.call (V0 L hL w hw 0 (by decide) j2 b2 _ _ t h_same (by omega)) ?_;rintro v' H' c5 ⟨r3,j3,g3,l3,b3,rfl,rfl⟩ hc5;rw[A1];obtain⟨x5,e5,m5,a5⟩:=D5 x4 r3 (by (try simp)<;>omega);try simp only[A0D,List.length_nil]at m5
   obtain⟨x6,e6,m6,a6⟩:=D5 x5 [59] (by (try simp)<;>omega);try simp only[A0D,List.length_nil]at m6
   simp only[go_sem,seval,a5,a6];repeat' (apply wr<;>try simp only[go_sem,seval])
   exact⟨_,_,GL.refl _ _,x6,j3,by rw[e6,e5,e4,e3,e2,e1];exact .bli g1 g2 g3,by omega,b3,rfl,rfl⟩
 by_cases k9:k=9
 ·subst k9;cases qd;all_goals
   simp only[go_sem,seval];repeat' (apply wr<;>try simp only[go_sem,seval,hqd])
   refine AC.call (K6 L hL w hw [116,109] (by decide) 2 (by decide) (by decide) j hj _ _ t h_same (by omega)) ?_;rintro v' H' c3 ⟨r1,j1,g1,l1,b1,rfl,rfl⟩ hc3;rw[A1];obtain⟨x1,e1,m1,a1⟩:=D5 [115,116,97,114,116,32] r1 (by (try simp)<;>omega);try simp only[A0D,List.length_nil]at m1
   obtain⟨x2,e2,m2,a2⟩:=D5 x1 [32] (by (try simp)<;>omega);try simp only[A0D,List.length_nil]at m2
   simp only[go_sem,seval,a1,a2];repeat' (apply wr<;>try simp only[go_sem,seval,a1,a2,hw1])
   refine AC.call (V0 L hL w hw 1 (by decide) j1 b1 _ _ t h_same (by omega)) ?_;rintro v' H' c4 ⟨r2,j2,g2,l2,b2,rfl,rfl⟩ hc4;rw[A1];obtain⟨x3,e3,m3,a3⟩:=D5 x2 r2 (by (try simp)<;>omega);try simp only[A0D,List.length_nil]at m3
   obtain⟨x4,e4,m4,a4⟩:=D5 x3 [59] (by (try simp)<;>omega);try simp only[A0D,List.length_nil]at m4
   simp only[go_sem,seval,a3,a4];repeat' (apply wr<;>try simp only[go_sem,seval])
   exact⟨_,_,GL.refl _ _,x4,j2,by rw[e4,e3,e2,e1];exact .sta g1 g2,by omega,b2,rfl,rfl⟩
 by_cases k10:k=10
 ·subst k10;cases qd;all_goals
   simp only[go_sem,seval];repeat' (apply wr<;>try simp only[go_sem,seval,hqd])
   refine AC.call (K6 L hL w hw [116,109] (by decide) 2 (by decide) (by decide) j hj _ _ t h_same (by omega)) ?_;rintro v' H' c3 ⟨r1,j1,g1,l1,b1,rfl,rfl⟩ hc3;rw[A1];obtain⟨x1,e1,m1,a1⟩:=D5 [115,116,111,112,32] r1 (by (try simp)<;>omega);try simp only[A0D,List.length_nil]at m1
   obtain⟨x2,e2,m2,a2⟩:=D5 x1 [59] (by (try simp)<;>omega);try simp only[A0D,List.length_nil]at m2
   simp only[go_sem,seval,a1,a2];repeat' (apply wr<;>try simp only[go_sem,seval])
   exact⟨_,_,GL.refl _ _,x2,j1,by rw[e2,e1];exact .one (q:=([115,116,111,112,32],[116,109],2)) (by simp[B7i]) g1,by omega,b1,rfl,rfl⟩
 by_cases k11:k=11
 ·subst k11;cases qd;all_goals
   simp only[go_sem,seval];repeat' (apply wr<;>try simp only[go_sem,seval,hqd])
   refine AC.call (K6 L hL w hw [109,111,100,101] (by decide) 3 (by decide) (by decide) j hj _ _ t h_same (by omega)) ?_;rintro v' H' c3 ⟨r1,j1,g1,l1,b1,rfl,rfl⟩ hc3;rw[A1];obtain⟨x1,e1,m1,a1⟩:=D5 [98,101,103,105,110,32] r1 (by (try simp)<;>omega);try simp only[A0D,List.length_nil]at m1
   obtain⟨x2,e2,m2,a2⟩:=D5 x1 [59] (by (try simp)<;>omega);try simp only[A0D,List.length_nil]at m2
   simp only[go_sem,seval,a1,a2];repeat' (apply wr<;>try simp only[go_sem,seval])
   exact⟨_,_,GL.refl _ _,x2,j1,by rw[e2,e1];exact .one (q:=([98,101,103,105,110,32],[109,111,100,101],3)) (by simp[B7i]) g1,by omega,b1,rfl,rfl⟩
 by_cases k12:k=12
 ·subst k12;cases qd;all_goals
   simp only[go_sem,seval];repeat' (apply wr<;>try simp only[go_sem,seval,hqd])
   refine AC.call (K6 L hL w hw [109,111,100,101] (by decide) 3 (by decide) (by decide) j hj _ _ t h_same (by omega)) ?_;rintro v' H' c3 ⟨r1,j1,g1,l1,b1,rfl,rfl⟩ hc3;rw[A1];obtain⟨x1,e1,m1,a1⟩:=D5 [101,110,100,32] r1 (by (try simp)<;>omega);try simp only[A0D,List.length_nil]at m1
   obtain⟨x2,e2,m2,a2⟩:=D5 x1 [59] (by (try simp)<;>omega);try simp only[A0D,List.length_nil]at m2
   simp only[go_sem,seval,a1,a2];repeat' (apply wr<;>try simp only[go_sem,seval])
   exact⟨_,_,GL.refl _ _,x2,j1,by rw[e2,e1];exact .one (q:=([101,110,100,32],[109,111,100,101],3)) (by simp[B7i]) g1,by omega,b1,rfl,rfl⟩
 by_cases k13:k=13
 ·subst k13;cases qd;all_goals
   simp only[go_sem,seval];repeat' (apply wr<;>try simp only[go_sem,seval,hqd])
   refine AC.call (K6 L hL w hw [101,118] (by decide) 2 (by decide) (by decide) j hj _ _ t h_same (by omega)) ?_;rintro v' H' c3 ⟨r1,j1,g1,l1,b1,rfl,rfl⟩ hc3;rw[A1];obtain⟨x1,e1,m1,a1⟩:=D5 [112,111,115,116,32] r1 (by (try simp)<;>omega);try simp only[A0D,List.length_nil]at m1
   obtain⟨x2,e2,m2,a2⟩:=D5 x1 [59] (by (try simp)<;>omega);try simp only[A0D,List.length_nil]at m2
   simp only[go_sem,seval,a1,a2];repeat' (apply wr<;>try simp only[go_sem,seval])
   exact⟨_,_,GL.refl _ _,x2,j1,by rw[e2,e1];exact .one (q:=([112,111,115,116,32],[101,118],2)) (by simp[B7i]) g1,by omega,b1,rfl,rfl⟩
 by_cases k14:k=14
 ·subst k14;cases qd;all_goals
   simp only[go_sem,seval];repeat' (apply wr<;>try simp only[go_sem,seval,hqd])
   refine AC.call (K6 L hL w hw [115,110,100] (by decide) 2 (by decide) (by decide) j hj _ _ t h_same (by omega)) ?_;rintro v' H' c3 ⟨r1,j1,g1,l1,b1,rfl,rfl⟩ hc3;rw[A1];obtain⟨x1,e1,m1,a1⟩:=D5 [112,108,97,121,32] r1 (by (try simp)<;>omega);try simp only[A0D,List.length_nil]at m1
   obtain⟨x2,e2,m2,a2⟩:=D5 x1 [59] (by (try simp)<;>omega);try simp only[A0D,List.length_nil]at m2
   simp only[go_sem,seval,a1,a2];repeat' (apply wr<;>try simp only[go_sem,seval])
   exact⟨_,_,GL.refl _ _,x2,j1,by rw[e2,e1];exact .one (q:=([112,108,97,121,32],[115,110,100],2)) (by simp[B7i]) g1,by omega,b1,rfl,rfl⟩
 by_cases k17:k=17
 ·subst k17;cases qd;all_goals
   simp only[go_sem,seval];repeat' (apply wr<;>try simp only[go_sem,seval,hqd])
   exact⟨_,_,GL.refl _ _,_,j,.con,by first|(simp;done)|(simp;omega),hj,rfl,rfl⟩
 by_cases k6:k=6
 ·subst k6;cases qd;all_goals
   simp only[go_sem,seval];repeat' (apply wr<;>try simp only[go_sem,seval,hqd])
   refine AC.call (R4 L hL w 3 (by decide) (by decide) j hj _ _ t (by rw[B6h (by omega)];exact h_same) (by omega)) ?_;rintro v' H' c3 ⟨k3,j1,hlt3,b1,rfl,rfl⟩ hc3;have hmg:∀ (X:Hp) (B:Blk),G5 [c2] X ((K7 X [c2]).upd t B)=X.upd t B:=fun X B=>A5o (by omega);have hia:L2 1 (.slc c2 0 3) (I64 (k3:Int))=some (.ptr c2 k3):=by simp[L2];omega
   have hld:([.str [102,105,114,101,32],.str [104,111,108,100,32],.str [114,101,108,101,97,115,101,32]]:List DV)[k3]? = some (.str (C5n.getD k3 [])):=by
    match k3,hlt3 with
    |0,_=>rfl
    |1,_=>rfl
    |2,_=>rfl
   have hg:=L5 (l:=C5n) (n:=10) (by decide) k3;generalize hog:C5n.getD k3 []=og at hg hld;generalize hWL:([.str [102,105,114,101,32],.str [104,111,108,100,32],.str [114,101,108,101,97,115,101,32]]:List DV)=WL at hld ⊢;have ne0:=R3 t c2 (by omega);simp only[go_sem,seval,hmg,h_same,ne0,hia,hld];refine⟨by and_intros<;>first|rfl|(rw[<- hWL];done)|((repeat rw[hnO]);exact hfr _ (by omega)),?_⟩;refine AC.call (K6 L hL w hw [99,111,105,108] (by decide) 3 (by decide) (by decide) j1 b1 _ _ t (by simp only[K7];rw[if_neg (by simp;omega)];exact h_same) (by omega)) ?_;rintro v' H' c4 ⟨r1,j2,g1,l1,b2,rfl,rfl⟩ hc4;obtain⟨x1,e1,m1,a1⟩:=D5 og r1 (by (try simp)<;>omega);try simp only[A0D,List.length_nil]at m1
   obtain⟨x2,e2,m2,a2⟩:=D5 x1 [59] (by (try simp)<;>omega);try simp only[A0D,List.length_nil]at m2
   simp only[go_sem,seval,hmg,h_same,A1,ne0,hia,hld,a1,a2];refine⟨by and_intros<;>first|rfl|(rw[<- hWL];done)|((repeat rw[hnO]);exact hfr _ (by omega)),?_⟩;repeat' (apply wr<;>try simp only[go_sem,seval])
   exact⟨_,_,A0r hfr htc (by omega),x2,j2,by rw[e2,e1, <- hog];exact .fir hlt3 g1,by omega,b2,rfl,rfl⟩
 by_cases k15:k=15
 ·subst k15;cases qd;all_goals
   simp only[go_sem,seval];repeat' (apply wr<;>try simp only[go_sem,seval,hqd])
   refine AC.call (R4 L hL w 2 (by decide) (by decide) j hj _ _ t (by rw[B6h (by omega)];exact h_same) (by omega)) ?_;rintro v' H' c3 ⟨k3,j1,hlt3,b1,rfl,rfl⟩ hc3;have hmg:∀ (X:Hp) (B:Blk),G5 [c2] X ((K7 X [c2]).upd t B)=X.upd t B:=fun X B=>A5o (by omega);have hia:L2 1 (.slc c2 0 2) (I64 (k3:Int))=some (.ptr c2 k3):=by simp[L2];omega
   have hld:([.str [114,117,110,32],.str [104,97,108,116,32]]:List DV)[k3]? = some (.str (C3w.getD k3 [])):=by
    match k3,hlt3 with
    |0,_=>rfl
    |1,_=>rfl
   have hg:=L5 (l:=C3w) (n:=10) (by decide) k3;generalize hog:C3w.getD k3 []=og at hg hld;generalize hWL:([.str [114,117,110,32],.str [104,97,108,116,32]]:List DV)=WL at hld ⊢;have ne0:=R3 t c2 (by omega);simp only[go_sem,seval,hmg,h_same,ne0,hia,hld];refine⟨by and_intros<;>first|rfl|(rw[<- hWL];done)|((repeat rw[hnO]);exact hfr _ (by omega)),?_⟩;refine AC.call (K6 L hL w hw [115,104,111,119] (by decide) 2 (by decide) (by decide) j1 b1 _ _ t (by simp only[K7];rw[if_neg (by simp;omega)];exact h_same) (by omega)) ?_;rintro v' H' c4 ⟨r1,j2,g1,l1,b2,rfl,rfl⟩ hc4;obtain⟨x1,e1,m1,a1⟩:=D5 og r1 (by (try simp)<;>omega);try simp only[A0D,List.length_nil]at m1
   obtain⟨x2,e2,m2,a2⟩:=D5 x1 [59] (by (try simp)<;>omega);try simp only[A0D,List.length_nil]at m2
   simp only[go_sem,seval,hmg,h_same,A1,ne0,hia,hld,a1,a2];refine⟨by and_intros<;>first|rfl|(rw[<- hWL];done)|((repeat rw[hnO]);exact hfr _ (by omega)),?_⟩;repeat' (apply wr<;>try simp only[go_sem,seval])
   exact⟨_,_,A0r hfr htc (by omega),x2,j2,by rw[e2,e1, <- hog];exact .run hlt3 g1,by omega,b2,rfl,rfl⟩
 by_cases k16:k=16
 ·subst k16;cases qd;all_goals
   simp only[go_sem,seval];repeat' (apply wr<;>try simp only[go_sem,seval,hqd])
   refine AC.call (R4 L hL w 4 (by decide) (by decide) j hj _ _ t (by rw[B6h (by omega)];exact h_same) (by omega)) ?_;rintro v' H' c3 ⟨k3,j1,hlt3,b1,rfl,rfl⟩ hc3;have hmg:∀ (X:Hp) (B:Blk),G5 [c2] X ((K7 X [c2]).upd t B)=X.upd t B:=fun X B=>A5o (by omega);have hia:L2 1 (.slc c2 0 4) (I64 (k3:Int))=some (.ptr c2 k3):=by simp[L2];omega
   have hld:([.str [103,111],.str [106,97,99,107,112,111,116],.str [97,92,34,98],.str []]:List DV)[k3]? = some (.str (C3h.getD k3 [])):=by
    match k3,hlt3 with
    |0,_=>rfl
    |1,_=>rfl
    |2,_=>rfl
    |3,_=>rfl
   have hg:=L5 (l:=C3h) (n:=10) (by decide) k3;generalize hog:C3h.getD k3 []=og at hg hld;generalize hWL:([.str [103,111],.str [106,97,99,107,112,111,116],.str [97,92,34,98],.str []]:List DV)=WL at hld ⊢;have ne0:=R3 t c2 (by omega);obtain⟨x1,e1,m1,a1⟩:=D5 [116,101,120,116,32,34] og (by (try simp)<;>omega);try simp only[A0D,List.length_nil]at m1
   obtain⟨x2,e2,m2,a2⟩:=D5 x1 [34,44,32] (by (try simp)<;>omega);try simp only[A0D,List.length_nil]at m2
   simp only[go_sem,seval,hmg,h_same,ne0,hia,hld,a1,a2];refine⟨by and_intros<;>first|rfl|(rw[<- hWL];done)|((repeat rw[hnO]);exact hfr _ (by omega)),?_⟩;refine AC.call (V0 L hL w hw 0 (by decide) j1 b1 _ _ t (by simp only[K7];rw[if_neg (by simp;omega)];exact h_same) (by omega)) ?_;rintro v' H' c4 ⟨r1,j2,g1,l1,b2,rfl,rfl⟩ hc4;obtain⟨x3,e3,m3,a3⟩:=D5 x2 r1 (by (try simp)<;>omega);try simp only[A0D,List.length_nil]at m3
   obtain⟨x4,e4,m4,a4⟩:=D5 x3 [59] (by (try simp)<;>omega);try simp only[A0D,List.length_nil]at m4
   simp only[go_sem,seval,hmg,h_same,A1,ne0,hia,hld,a1,a2,a3,a4];refine⟨by and_intros<;>first|rfl|(rw[<- hWL];done)|((repeat rw[hnO]);exact hfr _ (by omega)),?_⟩;repeat' (apply wr<;>try simp only[go_sem,seval])
   exact⟨_,_,A0r hfr htc (by omega),x4,j2,by rw[e4,e3,e2,e1, <- hog];exact .txt hlt3 g1,by omega,b2,rfl,rfl⟩
 by_cases k18:k=18
 ·subst k18;cases qd;all_goals
   simp only[go_sem,seval];repeat' (apply wr<;>try simp only[go_sem,seval,hqd])
   refine AC.call (K6 L hL w hw [118] (by decide) 3 (by decide) (by decide) j hj _ _ t h_same (by omega)) ?_;rintro v' H' c3 ⟨r1,j1,g1,l1,b1,rfl,rfl⟩ hc3;rw[A1];obtain⟨x1,e1,m1,a1⟩:=D5 r1 [32,61,32] (by (try simp)<;>omega);try simp only[A0D,List.length_nil]at m1
   simp only[go_sem,seval,a1];repeat' (apply wr<;>try simp only[go_sem,seval,a1,hw1])
   refine AC.call (V0 L hL w hw 2 (by decide) j1 b1 _ _ t h_same (by omega)) ?_;rintro v' H' c4 ⟨r2,j2,g2,l2,b2,rfl,rfl⟩ hc4;rw[A1];obtain⟨x2,e2,m2,a2⟩:=D5 x1 r2 (by (try simp)<;>omega);try simp only[A0D,List.length_nil]at m2
   obtain⟨x3,e3,m3,a3⟩:=D5 x2 [59] (by (try simp)<;>omega);try simp only[A0D,List.length_nil]at m3
   simp only[go_sem,seval,a2,a3];repeat' (apply wr<;>try simp only[go_sem,seval])
   exact⟨_,_,GL.refl _ _,x3,j2,by rw[e3,e2,e1];exact .asg g1 g2,by omega,b2,rfl,rfl⟩
 by_cases k19:k=19
 ·subst k19;cases qd;all_goals
   simp only[go_sem,seval];repeat' (apply wr<;>try simp only[go_sem,seval,hqd])
   refine AC.call (K6 L hL w hw [118] (by decide) 3 (by decide) (by decide) j hj _ _ t h_same (by omega)) ?_;rintro v' H' c3 ⟨r1,j1,g1,l1,b1,rfl,rfl⟩ hc3;rw[A1];obtain⟨x1,e1,m1,a1⟩:=D5 r1 [32,61,32] (by (try simp)<;>omega);try simp only[A0D,List.length_nil]at m1
   simp only[go_sem,seval,a1];repeat' (apply wr<;>try simp only[go_sem,seval,a1,hw1])
   refine AC.call (V0 L hL w hw 2 (by decide) j1 b1 _ _ t h_same (by omega)) ?_;rintro v' H' c4 ⟨r2,j2,g2,l2,b2,rfl,rfl⟩ hc4;rw[A1];obtain⟨x2,e2,m2,a2⟩:=D5 x1 r2 (by (try simp)<;>omega);try simp only[A0D,List.length_nil]at m2
   obtain⟨x3,e3,m3,a3⟩:=D5 x2 [59] (by (try simp)<;>omega);try simp only[A0D,List.length_nil]at m3
   simp only[go_sem,seval,a2,a3];repeat' (apply wr<;>try simp only[go_sem,seval])
   exact⟨_,_,GL.refl _ _,x3,j2,by rw[e3,e2,e1];exact .asg g1 g2,by omega,b2,rfl,rfl⟩
 by_cases k0:k=0
 ·subst k0;cases qd;all_goals
   simp only[go_sem,seval];repeat' (apply wr<;>try simp only[go_sem,seval,hqd])
   refine AC.call (K6 L hL w hw [118] (by decide) 3 (by decide) (by decide) j hj _ _ t h_same (by omega)) ?_;rintro v' H' c3 ⟨r1,j1,g1,l1,b1,rfl,rfl⟩ hc3;rw[A1];obtain⟨x1,e1,m1,a1⟩:=D5 r1 [32,61,32] (by (try simp)<;>omega);try simp only[A0D,List.length_nil]at m1
   simp only[go_sem,seval,a1];repeat' (apply wr<;>try simp only[go_sem,seval,a1,hw1])
   refine AC.call (V0 L hL w hw 2 (by decide) j1 b1 _ _ t h_same (by omega)) ?_;rintro v' H' c4 ⟨r2,j2,g2,l2,b2,rfl,rfl⟩ hc4;rw[A1];obtain⟨x2,e2,m2,a2⟩:=D5 x1 r2 (by (try simp)<;>omega);try simp only[A0D,List.length_nil]at m2
   obtain⟨x3,e3,m3,a3⟩:=D5 x2 [59] (by (try simp)<;>omega);try simp only[A0D,List.length_nil]at m3
   simp only[go_sem,seval,a2,a3];repeat' (apply wr<;>try simp only[go_sem,seval])
   exact⟨_,_,GL.refl _ _,x3,j2,by rw[e3,e2,e1];exact .asg g1 g2,by omega,b2,rfl,rfl⟩
 by_cases k3:k=3
 ·subst k3;cases qd
  rotate_left
  ·simp only[go_sem,seval];repeat' (apply wr<;>try simp only[go_sem,seval,hqd])
   refine AC.call (K6 L hL w hw [118] (by decide) 3 (by decide) (by decide) j hj _ _ t h_same (by omega)) ?_;rintro v' H' c3 ⟨r1,j1,g1,l1,b1,rfl,rfl⟩ hc3;rw[A1];obtain⟨x1,e1,m1,a1⟩:=D5 r1 [32,61,32] (by (try simp)<;>omega);try simp only[A0D,List.length_nil]at m1
   simp only[go_sem,seval,a1];repeat' (apply wr<;>try simp only[go_sem,seval,a1,hw1])
   refine AC.call (V0 L hL w hw 2 (by decide) j1 b1 _ _ t h_same (by omega)) ?_;rintro v' H' c4 ⟨r2,j2,g2,l2,b2,rfl,rfl⟩ hc4;rw[A1];obtain⟨x2,e2,m2,a2⟩:=D5 x1 r2 (by (try simp)<;>omega);try simp only[A0D,List.length_nil]at m2
   obtain⟨x3,e3,m3,a3⟩:=D5 x2 [59] (by (try simp)<;>omega);try simp only[A0D,List.length_nil]at m3
   simp only[go_sem,seval,a2,a3];repeat' (apply wr<;>try simp only[go_sem,seval])
   exact⟨_,_,GL.refl _ _,x3,j2,by rw[e3,e2,e1];exact .asg g1 g2,by omega,b2,rfl,rfl⟩
  have hK':=hK.resolve_left (hqf rfl);simp only[go_sem,seval];repeat' (apply wr<;>try simp only[go_sem,seval,hqd])
  refine AC.call (V0 L hL w hw 0 (by decide) j hj _ _ t h_same (by omega)) ?_;rintro v' H' c3 ⟨r1,j1,g1,l1,b1,rfl,rfl⟩ hc3;rw[A1];obtain⟨x1,e1,m1,a1⟩:=D5 [114,101,112,101,97,116,32] r1 (by (try simp)<;>omega);try simp only[A0D,List.length_nil]at m1
  obtain⟨x2,e2,m2,a2⟩:=D5 x1 [32] (by (try simp)<;>omega);try simp only[A0D,List.length_nil]at m2
  simp only[go_sem,seval,a1,a2,hw1];repeat' (apply wr<;>try simp only[go_sem,seval,a1,a2,hw1])
  refine AC.call (hK' j1 b1 _ _ t h_same (by omega)) ?_;rintro v' H' c4 ⟨r2,j2,g2,l2,b2,rfl,rfl⟩ hc4;rw[A1];obtain⟨x3,e3,m3,a3⟩:=D5 x2 r2 (by (try simp)<;>omega);try simp only[A0D,List.length_nil]at m3
  simp only[go_sem,seval,a3];repeat' (apply wr<;>try simp only[go_sem,seval])
  exact⟨_,_,GL.refl _ _,x3,j2,by rw[e3,e2,e1];exact .rep g1 g2,by omega,b2,rfl,rfl⟩
 by_cases k1:k=1
 ·subst k1;cases qd
  rotate_left
  ·simp only[go_sem,seval];repeat' (apply wr<;>try simp only[go_sem,seval,hqd])
   refine AC.call (K6 L hL w hw [118] (by decide) 3 (by decide) (by decide) j hj _ _ t h_same (by omega)) ?_;rintro v' H' c3 ⟨r1,j1,g1,l1,b1,rfl,rfl⟩ hc3;rw[A1];obtain⟨x1,e1,m1,a1⟩:=D5 r1 [32,61,32] (by (try simp)<;>omega);try simp only[A0D,List.length_nil]at m1
   simp only[go_sem,seval,a1];repeat' (apply wr<;>try simp only[go_sem,seval,a1,hw1])
   refine AC.call (V0 L hL w hw 2 (by decide) j1 b1 _ _ t h_same (by omega)) ?_;rintro v' H' c4 ⟨r2,j2,g2,l2,b2,rfl,rfl⟩ hc4;rw[A1];obtain⟨x2,e2,m2,a2⟩:=D5 x1 r2 (by (try simp)<;>omega);try simp only[A0D,List.length_nil]at m2
   obtain⟨x3,e3,m3,a3⟩:=D5 x2 [59] (by (try simp)<;>omega);try simp only[A0D,List.length_nil]at m3
   simp only[go_sem,seval,a2,a3];repeat' (apply wr<;>try simp only[go_sem,seval])
   exact⟨_,_,GL.refl _ _,x3,j2,by rw[e3,e2,e1];exact .asg g1 g2,by omega,b2,rfl,rfl⟩
  have hK':=hK.resolve_left (hqf rfl);simp only[go_sem,seval];repeat' (apply wr<;>try simp only[go_sem,seval,hqd])
  refine AC.call (A9w L hL w hw 1 (by decide) j hj _ _ t h_same (by omega)) ?_;rintro v' H' c3 ⟨r1,j1,g1,l1,b1,rfl,rfl⟩ hc3;rw[A1];obtain⟨x1,e1,m1,a1⟩:=D5 [105,102,32] r1 (by (try simp)<;>omega);try simp only[A0D,List.length_nil]at m1
  obtain⟨x2,e2,m2,a2⟩:=D5 x1 [32] (by (try simp)<;>omega);try simp only[A0D,List.length_nil]at m2
  simp only[go_sem,seval,a1,a2,hw1];repeat' (apply wr<;>try simp only[go_sem,seval,a1,a2,hw1])
  refine AC.call (hK' j1 b1 _ _ t h_same (by omega)) ?_;rintro v' H' c4 ⟨r2,j2,g2,l2,b2,rfl,rfl⟩ hc4;rw[A1];obtain⟨x3,e3,m3,a3⟩:=D5 x2 r2 (by (try simp)<;>omega);try simp only[A0D,List.length_nil]at m3
  simp only[go_sem,seval,a3];repeat' (apply wr<;>try simp only[go_sem,seval])
  refine AC.call (R4 L hL w 3 (by decide) (by decide) j2 b2 _ _ t h_same (by omega)) ?_;rintro v' H' c5 ⟨q,j3,hq,b3,rfl,rfl⟩ hc5;rw[A1];by_cases q1:q=1
  ·subst q1;obtain⟨x4,e4,m4,a4⟩:=D5 x3 [32,101,108,115,101,32] (by (try simp)<;>omega);try simp only[A0D,List.length_nil]at m4
   simp only[go_sem,seval];repeat' (apply wr<;>try simp only[go_sem,seval,a4,hw1])
   refine AC.call (hK' j3 b3 _ _ t h_same (by omega)) ?_;rintro v' H' c6 ⟨r4,j4,g4,l4,b4,rfl,rfl⟩ hc6;rw[A1];obtain⟨x5,e5,m5,a5⟩:=D5 x4 r4 (by (try simp)<;>omega);try simp only[A0D,List.length_nil]at m5
   simp only[go_sem,seval,a5];repeat' (apply wr<;>try simp only[go_sem,seval])
   exact⟨_,_,GL.refl _ _,x5,j4,by rw[e5,e4,e3,e2,e1];exact .ifB g1 g2 g4,by omega,b4,rfl,rfl⟩
  by_cases q2:q=2
  ·subst q2;obtain⟨x4,e4,m4,a4⟩:=D5 x3 [32,101,108,115,101,32,105,102,32] (by (try simp)<;>omega);try simp only[A0D,List.length_nil]at m4
   simp only[go_sem,seval];repeat' (apply wr<;>try simp only[go_sem,seval,a4])
   refine AC.call (A9w L hL w hw 0 (by decide) j3 b3 _ _ t h_same (by omega)) ?_;rintro v' H' c6 ⟨r4,j4,g4,l4,b4,rfl,rfl⟩ hc6;rw[A1];obtain⟨x5,e5,m5,a5⟩:=D5 x4 r4 (by (try simp)<;>omega);try simp only[A0D,List.length_nil]at m5
   obtain⟨x6,e6,m6,a6⟩:=D5 x5 [32] (by (try simp)<;>omega);try simp only[A0D,List.length_nil]at m6
   simp only[go_sem,seval,a5,a6,hw1];repeat' (apply wr<;>try simp only[go_sem,seval,a5,a6,hw1])
   refine AC.call (hK' j4 b4 _ _ t h_same (by omega)) ?_;rintro v' H' c7 ⟨r5,j5,g5,l5,b5,rfl,rfl⟩ hc7;rw[A1];obtain⟨x7,e7,m7,a7⟩:=D5 x6 r5 (by (try simp)<;>omega);try simp only[A0D,List.length_nil]at m7
   simp only[go_sem,seval,a7];repeat' (apply wr<;>try simp only[go_sem,seval])
   exact⟨_,_,GL.refl _ _,x7,j5,by rw[e7,e6,e5,e4,e3,e2,e1];exact .ifC g1 g2 g4 g5,by omega,b5,rfl,rfl⟩
  obtain rfl:q=0:=by omega
  simp only[go_sem,seval];repeat' (apply wr<;>try simp only[go_sem,seval])
  exact⟨_,_,GL.refl _ _,x3,j3,by rw[e3,e2,e1];exact .ifA g1 g2,by omega,b3,rfl,rfl⟩
 by_cases k2:k=2
 ·subst k2;cases qd
  rotate_left
  ·simp only[go_sem,seval];repeat' (apply wr<;>try simp only[go_sem,seval,hqd])
   refine AC.call (K6 L hL w hw [118] (by decide) 3 (by decide) (by decide) j hj _ _ t h_same (by omega)) ?_;rintro v' H' c3 ⟨r1,j1,g1,l1,b1,rfl,rfl⟩ hc3;rw[A1];obtain⟨x1,e1,m1,a1⟩:=D5 r1 [32,61,32] (by (try simp)<;>omega);try simp only[A0D,List.length_nil]at m1
   simp only[go_sem,seval,a1];repeat' (apply wr<;>try simp only[go_sem,seval,a1,hw1])
   refine AC.call (V0 L hL w hw 2 (by decide) j1 b1 _ _ t h_same (by omega)) ?_;rintro v' H' c4 ⟨r2,j2,g2,l2,b2,rfl,rfl⟩ hc4;rw[A1];obtain⟨x2,e2,m2,a2⟩:=D5 x1 r2 (by (try simp)<;>omega);try simp only[A0D,List.length_nil]at m2
   obtain⟨x3,e3,m3,a3⟩:=D5 x2 [59] (by (try simp)<;>omega);try simp only[A0D,List.length_nil]at m3
   simp only[go_sem,seval,a2,a3];repeat' (apply wr<;>try simp only[go_sem,seval])
   exact⟨_,_,GL.refl _ _,x3,j2,by rw[e3,e2,e1];exact .asg g1 g2,by omega,b2,rfl,rfl⟩
  have hK':=hK.resolve_left (hqf rfl);simp only[go_sem,seval];repeat' (apply wr<;>try simp only[go_sem,seval,hqd])
  refine AC.call (A9w L hL w hw 1 (by decide) j hj _ _ t h_same (by omega)) ?_;rintro v' H' c3 ⟨r1,j1,g1,l1,b1,rfl,rfl⟩ hc3;rw[A1];obtain⟨x1,e1,m1,a1⟩:=D5 [105,102,32] r1 (by (try simp)<;>omega);try simp only[A0D,List.length_nil]at m1
  obtain⟨x2,e2,m2,a2⟩:=D5 x1 [32] (by (try simp)<;>omega);try simp only[A0D,List.length_nil]at m2
  simp only[go_sem,seval,a1,a2,hw1];repeat' (apply wr<;>try simp only[go_sem,seval,a1,a2,hw1])
  refine AC.call (hK' j1 b1 _ _ t h_same (by omega)) ?_;rintro v' H' c4 ⟨r2,j2,g2,l2,b2,rfl,rfl⟩ hc4;rw[A1];obtain⟨x3,e3,m3,a3⟩:=D5 x2 r2 (by (try simp)<;>omega);try simp only[A0D,List.length_nil]at m3
  simp only[go_sem,seval,a3];repeat' (apply wr<;>try simp only[go_sem,seval])
  refine AC.call (R4 L hL w 3 (by decide) (by decide) j2 b2 _ _ t h_same (by omega)) ?_;rintro v' H' c5 ⟨q,j3,hq,b3,rfl,rfl⟩ hc5;rw[A1];by_cases q1:q=1
  ·subst q1;obtain⟨x4,e4,m4,a4⟩:=D5 x3 [32,101,108,115,101,32] (by (try simp)<;>omega);try simp only[A0D,List.length_nil]at m4
   simp only[go_sem,seval];repeat' (apply wr<;>try simp only[go_sem,seval,a4,hw1])
   refine AC.call (hK' j3 b3 _ _ t h_same (by omega)) ?_;rintro v' H' c6 ⟨r4,j4,g4,l4,b4,rfl,rfl⟩ hc6;rw[A1];obtain⟨x5,e5,m5,a5⟩:=D5 x4 r4 (by (try simp)<;>omega);try simp only[A0D,List.length_nil]at m5
   simp only[go_sem,seval,a5];repeat' (apply wr<;>try simp only[go_sem,seval])
   exact⟨_,_,GL.refl _ _,x5,j4,by rw[e5,e4,e3,e2,e1];exact .ifB g1 g2 g4,by omega,b4,rfl,rfl⟩
  by_cases q2:q=2
  ·subst q2;obtain⟨x4,e4,m4,a4⟩:=D5 x3 [32,101,108,115,101,32,105,102,32] (by (try simp)<;>omega);try simp only[A0D,List.length_nil]at m4
   simp only[go_sem,seval];repeat' (apply wr<;>try simp only[go_sem,seval,a4])
   refine AC.call (A9w L hL w hw 0 (by decide) j3 b3 _ _ t h_same (by omega)) ?_;rintro v' H' c6 ⟨r4,j4,g4,l4,b4,rfl,rfl⟩ hc6;rw[A1];obtain⟨x5,e5,m5,a5⟩:=D5 x4 r4 (by (try simp)<;>omega);try simp only[A0D,List.length_nil]at m5
   obtain⟨x6,e6,m6,a6⟩:=D5 x5 [32] (by (try simp)<;>omega);try simp only[A0D,List.length_nil]at m6
   simp only[go_sem,seval,a5,a6,hw1];repeat' (apply wr<;>try simp only[go_sem,seval,a5,a6,hw1])
   refine AC.call (hK' j4 b4 _ _ t h_same (by omega)) ?_;rintro v' H' c7 ⟨r5,j5,g5,l5,b5,rfl,rfl⟩ hc7;rw[A1];obtain⟨x7,e7,m7,a7⟩:=D5 x6 r5 (by (try simp)<;>omega);try simp only[A0D,List.length_nil]at m7
   simp only[go_sem,seval,a7];repeat' (apply wr<;>try simp only[go_sem,seval])
   exact⟨_,_,GL.refl _ _,x7,j5,by rw[e7,e6,e5,e4,e3,e2,e1];exact .ifC g1 g2 g4 g5,by omega,b5,rfl,rfl⟩
  obtain rfl:q=0:=by omega
  simp only[go_sem,seval];repeat' (apply wr<;>try simp only[go_sem,seval])
  exact⟨_,_,GL.refl _ _,x3,j3,by rw[e3,e2,e1];exact .ifA g1 g2,by omega,b3,rfl,rfl⟩
 omega
def A2w(ss:List (List UInt8)):List UInt8:=ss.foldl (fun a x=>(a++[32])++x) [123]
theorem A6z(ss:List (List UInt8))(x:List UInt8):A2w (ss++[x])=(A2w ss++[32])++x:=by unfold A2w;rw[List.foldl_append];rfl
def BkG(P:List UInt8->Prop)(s:List UInt8):Prop:=∃ ss:List (List UInt8),ss.length<=3/\(∀ x∈ss,P x)/\s=A2w ss++[32,125]
theorem B6c(L:List UInt8)(hL:L.length<=300)(w:Nat)(D:Int)(sb:Nat)(hsb:sb<=10000000)(P:List UInt8->Prop)(hS:MC 197 [I64 D] L w sb P):
  MC 131 [I64 D] L w (3 * sb+10) (BkG P):=by
 intro i hi H cc t ht htc;refine AC.bodyT A4 rfl (A0B rfl) fun hfr=>?_;repeat' (apply wr<;>try simp only[go_sem,seval])
 refine AC.call (R4 L hL w 4 (by decide) (by decide) i hi _ _ t ht (by omega)) ?_;rintro v' H' c2 ⟨k,j,hlt,hj,rfl,rfl⟩ hc2;simp only[go_sem,seval];repeat' (apply wr<;>try simp only[go_sem,seval])
 refine C1 (fun q:Nat × Nat × List (List UInt8)=>[(0,.ptr t 0),(1,I64 D),(5,.str (A2w q.2.2)),(6,I64 q.1)]) (fun q=>H.upd t (mkB L w q.2.1))
  (fun q c=>cc<=c/\q.1+q.2.2.length<=3/\q.2.1<=300/\(∀ x∈q.2.2,P x)/\(A2w q.2.2).length<=1+q.2.2.length * (sb+1)) (fun q=>q.1) (k,j,[])
  (by simp[C6,tm,Tm.upd,A2w]) (Sub.refl _) ⟨hc2,(by show k+0<=3;omega),hj,(fun x hx=>absurd hx (List.not_mem_nil)),(by show 1<=1+0 * _;omega)⟩ ?_
 rintro⟨n,i2,ss⟩ c ⟨hc,hn,hi2,hP,hl⟩;dsimp only at hc hn hi2 hP hl ⊢;have hs3:ss.length * (sb+1)<=3 * (sb+1):=A1Q _ (by omega);by_cases h0:0<n
 ·have qn:decide ((n:Int)>0)=true:=by simpa using h0
  have hs2:ss.length * (sb+1)<=2 * (sb+1):=A1Q _ (by omega);obtain⟨n,rfl⟩:∃ m,n=m+1:=⟨n-1,by omega⟩;have hw1:IntKind.i64.wrap (((n+1:Nat):Int)-1)=(n:Int):=by rw[w6z (by omega)];omega
  generalize hn1:((n+1:Nat):Int)=N1 at qn hw1 ⊢;obtain⟨x1,e1,m1,a1⟩:=D5 (A2w ss) [32] (by (try simp)<;>omega);try simp only[A0D,List.length_nil]at m1
  repeat' (apply wr<;>try simp only[go_sem,seval,qn,a1])
  refine AC.call (hS i2 hi2 _ _ t h_same (by omega)) ?_;rintro v' H' c3 ⟨r,i3,g,l,hi3,rfl,rfl⟩ hc3;obtain⟨x2,e2,m2,a2⟩:=D5 x1 r (by omega);rw[A1];simp only[go_sem,seval,a2];repeat' (apply wr<;>try simp only[go_sem,seval,hw1])
  refine⟨(n,i3,ss++[r]),?_,Sub.refl _,inv ⟨by omega,by simp;omega,hi3,?_,?_⟩,by simp only;omega⟩
  ·rw[e1]at e2;simp[A6z,e2]
  ·intro x hx;rcases A1R.1 hx with hx|hx
   ·exact hP x hx
   ·rw[A1H.1 hx];exact g
  ·rw[A6z, <- e1, <- e2,A0A,A0H,A2F];omega
 ·obtain rfl:n=0:=by omega
  obtain⟨x1,e1,m1,a1⟩:=D5 (A2w ss) [32,125] (by (try simp)<;>omega);try simp only[A0D,List.length_nil]at m1
  repeat' (apply wr<;>try simp only[go_sem,seval,a1])
  exact⟨_,_,GL.refl _ _,x1,i2,⟨ss,by omega,hP,e1⟩,by omega,hi2,rfl,rfl⟩
def StD(L:List UInt8)(w:Nat):Nat->List UInt8->Prop
 |0=>StG L w fun _=>False
 |d+1=>StG L w (BkG (StD L w d))
def sbD:Nat->Nat
 |0=>8000
 |d+1=>2 * (3 * sbD d+10)+8000
theorem C0v(L:List UInt8)(hL:L.length<=300)(w:Nat)(hw:w<=100):∀ d:Nat,d<=2->MC 197 [I64 d] L w (sbD d) (StD L w d)
 |0,_=>c_Stmt L hL w hw 0 (by omega) (by omega) 0 (by omega) _ (.inl (by omega))
 |d+1,h=>by
  have hs:∀ d,d<=2->sbD d<=1000000:=by decide
  have h1:=C0v L hL w hw d (by omega);have h2:=B6c L hL w (d:Int) (sbD d) (by have:=hs d (by omega);omega) _ h1;have e:(((d+1:Nat):Int)-1)=(d:Int):=by omega
  refine c_Stmt L hL w hw ((d+1:Nat):Int) (by omega) (by omega) (3 * sbD d+10) (by have:=hs d (by omega);omega) _ (.inr ?_);rw[e];exact h2
theorem C9x(L:List UInt8)(hL:L.length<=300)(w:Nat)(hw:w<=100):MC 131 [I64 2] L w 2000000 (BkG (StD L w 2)):=by
 intro i hi H cc t ht htc;refine (B6c L hL w ((2:Nat):Int) (sbD 2) (by decide) _ (C0v L hL w hw 2 (by omega)) i hi H cc t ht htc).mono ?_;rintro v H' c' ⟨s,j,h1,h2,h3⟩;exact⟨s,j,h1,A1A h2 (by decide),h3⟩
def B8v:List (List UInt8):=[[115,116,97,114,116],[115,116,111,112],[99,108,111,115,101,32,115,119,48],[111,112,101,110,32,115,119,48],[99,108,111,115,101,32,115,119,49],[99,108,111,115,101,32,115,119,50],[116,105,109,101,114,32,116,109,48],[116,105,109,101,114,32,116,109,49],[101,118,101,110,116,32,101,118,48],[101,118,101,110,116,32,101,118,49],[111,112,101,110,32,115,119,51]]
def C7t:List DV:=[.str [115,116,97,114,116],.str [115,116,111,112],.str [99,108,111,115,101,32,115,119,48],.str [111,112,101,110,32,115,119,48],.str [99,108,111,115,101,32,115,119,49],.str [99,108,111,115,101,32,115,119,50],.str [116,105,109,101,114,32,116,109,48],.str [116,105,109,101,114,32,116,109,49],.str [101,118,101,110,116,32,101,118,48],.str [101,118,101,110,116,32,101,118,49],.str [111,112,101,110,32,115,119,51]]
theorem B8u{k:Nat}(h:k<11):C7t[k]? = some (.str (B8v.getD k [])):=by
 match k,h with
 |0,_=>rfl
 |1,_=>rfl
 |2,_=>rfl
 |3,_=>rfl
 |4,_=>rfl
 |5,_=>rfl
 |6,_=>rfl
 |7,_=>rfl
 |8,_=>rfl
 |9,_=>rfl
 |10,_=>rfl
inductive HdG (L:List UInt8) (w k:Nat):List UInt8->Prop where
 |std {x:List UInt8}:BkG (StD L w 2) x->HdG L w k ((([111,110,32]++B8v.getD (k % 11) [])++[32])++x)
 |wild {n x:List UInt8}:0<w->NmS L w [115,119] 4 n->BkG (StD L w 2) x->HdG L w k ((([111,110,32]++([99,108,111,115,101,32]++n))++[32])++x)
theorem B7s(L:List UInt8)(hL:L.length<=300)(w:Nat)(hw:w<=100)(k:Nat)(hk:k<=1000):MC 63 [I64 k] L w 2001000 (HdG L w k):=by
 intro i hi H cc t ht htc;refine AC.bodyT A4 rfl (A0B rfl) fun hfr=>?_;have hrm:binR .rem (I64 (k:Int)) (.int .i64 11)=some (I64 ((k % 11:Nat):Int)):=by rw[A6k (by decide)];rfl
 repeat' (apply wr<;>try simp only[go_sem,seval,hrm])
 have hm11:=Nat.mod_lt k (show 0<11 by decide);have hld:=B8u hm11;have hg:=L5 (l:=B8v) (n:=10) (by decide) (k % 11);have hcon:∀ x,BkG (StD L w 2) x->HdG L w k ((([111,110,32]++B8v.getD (k % 11) [])++[32])++x):=fun x hx=>.std hx;generalize k % 11=m at hm11 hld hg hcon ⊢;generalize B8v.getD m []=tr at hld hg hcon ⊢;have hia:L2 1 (.slc cc 0 11) (I64 (m:Int))=some (.ptr cc m):=by simp[L2];omega
 rw[show ([.str [115,116,97,114,116],.str [115,116,111,112],.str [99,108,111,115,101,32,115,119,48],.str [111,112,101,110,32,115,119,48],.str [99,108,111,115,101,32,115,119,49],.str [99,108,111,115,101,32,115,119,50],.str [116,105,109,101,114,32,116,109,48],.str [116,105,109,101,114,32,116,109,49],.str [101,118,101,110,116,32,101,118,48],.str [101,118,101,110,116,32,101,118,49],.str [111,112,101,110,32,115,119,51]]:List DV)=C7t from rfl];generalize C7t=WL at hld ⊢;have ne0:=R3 t cc (by omega);have kB:∀ (i2 c0:Nat) (tx:List UInt8),i2<=300->cc+1<=c0->tx.length<=300->(∀ x,BkG (StD L w 2) x->HdG L w k ((([111,110,32]++tx)++[32])++x)) ->
   IW Tryz.prog 34 (pz Tryz.prog 63 (.i (.i (.o .h)))) ⟨tm [(0,.ptr t 0),(5,.str tx)],(H.upd cc ⟨1,true,WL⟩).upd t (mkB L w i2),c0⟩ (rt [.tmp 4] fun v H' c' => ∃ v2 H2,GL H' [v] H2 [v2]/\∃ s j,HdG L w k s/\s.length<=2001000/\j<=300/\v2=.str s/\H2=H.upd t (mkB L w j)):=by
  intro i2 c0 tx hi2 hc0 htx hx;obtain⟨x1,e1,m1,a1⟩:=D5 [111,110,32] tx (by (try simp)<;>omega);try simp only[A0D,List.length_nil]at m1
  obtain⟨x2,e2,m2,a2⟩:=D5 x1 [32] (by (try simp)<;>omega);try simp only[A0D,List.length_nil]at m2
  repeat' (apply wr<;>try simp only[go_sem,seval,a1,a2])
  refine AC.call (C9x L hL w hw i2 hi2 _ _ t h_same (by omega)) ?_;rintro v' H' c3 ⟨r,j,g,l,b,rfl,rfl⟩ hc3;obtain⟨x3,e3,m3,a3⟩:=D5 x2 r (by omega);rw[A1];simp only[go_sem,seval,a3];repeat' (apply wr<;>try simp only[go_sem,seval])
  refine⟨_,_,GL.less' (fun j2 q hj=>?_),x3,j,by rw[e3,e2,e1];exact hx r g,by omega,b,rfl,rfl⟩;by_cases e:j2=t
  ·subst e;rw[h_same]at hj ⊢;exact hj
  ·rw[h_ne e]at hj ⊢;have:j2≠cc:=by rintro rfl;rw[hfr _ (by omega)]at hj;cases hj
   rw[h_ne this];exact hj
 simp only[go_sem,seval,hia,hld,h_same];by_cases h0:0<w
 ·have q0:decide ((w:Int)>0)=true:=by simpa using h0
  repeat' (apply wr<;>try simp only[go_sem,seval,ne0,ht,q0])
  refine AC.call (R4 L hL w w h0 (by omega) i hi _ _ t (by rw[hnO];exact ht) (by omega)) ?_;rintro v' H' c2 ⟨q,j,hq,hj,rfl,rfl⟩ hc2;by_cases q1:q=1
  ·subst q1;simp only[go_sem,seval];repeat' (apply wr<;>try simp only[go_sem,seval])
   refine AC.call (K6 L hL w hw [115,119] (by decide) 4 (by decide) (by decide) j hj _ _ t h_same (by omega)) ?_;rintro v' H' c3 ⟨r,j2,g,l,b,rfl,rfl⟩ hc3;obtain⟨x1,e1,m1,a1⟩:=D5 [99,108,111,115,101,32] r (by (try simp)<;>omega);try simp only[A0D,List.length_nil]at m1
   rw[A1];simp only[go_sem,seval,a1];repeat' ((with_reducible first|refine G0 (p:=IW _ _ (pz Tryz.prog 63 (.i (.i (.o .h)))) _ _) ?_|refine wr ?_|fail)<;>try simp only[go_sem,seval,a1])
   exact IW.stage (by simp[C6,tm,Tm.upd]) (kB j2 _ x1 b (by omega) (by omega) (fun x hx=>by rw[e1];exact .wild h0 g hx))
  ·have qq:((q:Int) == 1)=false:=by simp;omega
   simp only[go_sem,seval,qq];repeat' ((with_reducible first|refine G0 (p:=IW _ _ (pz Tryz.prog 63 (.i (.i (.o .h)))) _ _) ?_|refine wr ?_|fail)<;>try simp only[go_sem,seval])
   exact IW.stage (by simp[C6,tm,Tm.upd]) (kB j _ tr hj (by omega) (by omega) hcon)
 ·have q0:decide ((w:Int)>0)=false:=by simpa using h0
  repeat' ((with_reducible first|refine G0 (p:=IW _ _ (pz Tryz.prog 63 (.i (.i (.o .h)))) _ _) ?_|refine wr ?_|fail)<;>try simp only[go_sem,seval,ne0,ht,q0])
  have:=kB i (cc+1) tr hi (A0G _) (by omega) hcon;rw[upd_same (by rw[hnO];exact ht)]at this;exact IW.stage (by simp[C6,tm,Tm.upd]) this
def ruA:List UInt8:=[115,119,105,116,99,104,32,115,119,48,32,51,59,32,115,119,105,116,99,104,32,115,119,49,32,57,59,32,115,119,105,116,99,104,32,115,119,50,32,52,48,59,32,115,119,105,116,99,104,32,115,119,51,32,54,51,59,10,99,111,105,108,32,99,111,105,108,48,32,48,59,32,99,111,105,108,32,99,111,105,108,49,32,55,59,32,99,111,105,108,32,99,111,105,108,50,32,51,49,59,10,108,97,109,112,32,108,97,109,112,48,32,48,59,32,108,97,109,112,32,108,97,109,112,49,32,57,59,32,108,97,109,112,32,108,97,109,112,50,32,51,51,59,32,108,97,109,112,32,108,97,109,112,51,32,54,51,59,10,115,111,117,110,100,32,115,110,100,48,32,48,59,32,115,111,117,110,100,32,115,110,100,49,32,53,59,32,115,104,111,119,32,115,104,111,119,48,32,48,59,32,115,104,111,119,32,115,104,111,119,49,32,49,59,10]
def ruB:List UInt8:=[118,97,114,32,118,48,32]
def ruC:List UInt8:=[59,32,118,97,114,32,118,49,32,49,59,32,118,97,114,32,118,50,32,48,59,32,116,105,109,101,114,32,116,109,48,59,32,116,105,109,101,114,32,116,109,49,59,32,101,118,101,110,116,32,101,118,48,59,32,101,118,101,110,116,32,101,118,49,59,10]
def v0L:List (List UInt8):=[[48],[53],[45,55],[50,49,52,55,52,56,51,54,52,55]]
def v0V:List DV:=[.str [48],.str [53],.str [45,55],.str [50,49,52,55,52,56,51,54,52,55]]
theorem C3g{k:Nat}(h:k<4):v0V[k]? = some (.str (v0L.getD k [])):=by
 match k,h with
 |0,_=>rfl
 |1,_=>rfl
 |2,_=>rfl
 |3,_=>rfl
def A0c(s:List UInt8)(hs:List (List UInt8)):List UInt8:=hs.foldl (fun a x=>(a++x)++[10]) s
theorem B4b(s:List UInt8)(hs:List (List UInt8))(x:List UInt8):A0c s (hs++[x])=(A0c s hs++x)++[10]:=by unfold A0c;rw[List.foldl_append];rfl
def C0u(s:List UInt8)(i p:Nat):List UInt8:=((((s++[109,111,100,101,32,109,111,100,101])++O3 (i:Int))++[32])++O3 (p:Int))++[32,123,10]
inductive RuP (L:List UInt8) (w:Nat):Nat->List UInt8->Prop where
 |head {k:Nat}:k<4->RuP L w 0 (((ruA++ruB)++v0L.getD k [])++ruC)
 |mode {i p k:Nat} {s:List UInt8} {hs:List (List UInt8)}:RuP L w i s->p<4->k<11->hs.length<=4->(∀ j x,hs[j]? = some x->HdG L w (k+j) x)->RuP L w (i+1) (A0c (C0u s i p) hs++[125,10])
theorem C4v(L:List UInt8)(hL:L.length<=300)(w:Nat)(hw:w<=100):MC 25 [] L w 30000000 (RuP L w 3):=by
 intro i hi H cc t ht htc;refine AC.bodyT A4 rfl (A0B rfl) fun hfr=>?_;obtain⟨x1,e1,m1,a1⟩:=D5 ruA ruB (by decide);have l1:x1.length<=300:=by rw[m1];decide
 replace a1:binR .add (.str [115,119,105,116,99,104,32,115,119,48,32,51,59,32,115,119,105,116,99,104,32,115,119,49,32,57,59,32,115,119,105,116,99,104,32,115,119,50,32,52,48,59,32,115,119,105,116,99,104,32,115,119,51,32,54,51,59,10,99,111,105,108,32,99,111,105,108,48,32,48,59,32,99,111,105,108,32,99,111,105,108,49,32,55,59,32,99,111,105,108,32,99,111,105,108,50,32,51,49,59,10,108,97,109,112,32,108,97,109,112,48,32,48,59,32,108,97,109,112,32,108,97,109,112,49,32,57,59,32,108,97,109,112,32,108,97,109,112,50,32,51,51,59,32,108,97,109,112,32,108,97,109,112,51,32,54,51,59,10,115,111,117,110,100,32,115,110,100,48,32,48,59,32,115,111,117,110,100,32,115,110,100,49,32,53,59,32,115,104,111,119,32,115,104,111,119,48,32,48,59,32,115,104,111,119,32,115,104,111,119,49,32,49,59,10]) (.str [118,97,114,32,118,48,32])=some (.str x1):=a1;dsimp only at a1;repeat' (apply wr<;>try simp only[go_sem,seval,a1])
 refine AC.call (R4 L hL w 4 (by decide) (by decide) i hi _ _ t (by rw[hnO];exact ht) (by omega)) ?_;rintro v' H' c3 ⟨k3,j1,hlt3,b1,rfl,rfl⟩ hc3;have hia:L2 1 (.slc (cc) 0 4) (I64 (k3:Int))=some (.ptr (cc) k3):=by simp[L2];omega
 have hld:=C3g hlt3;have hg:=L5 (l:=v0L) (n:=10) (by decide) k3;have hcon:RuP L w 0 (((ruA++ruB)++v0L.getD k3 [])++ruC):=.head hlt3;generalize hog:v0L.getD k3 []=og at hg hld hcon;generalize hWL:v0V=WL at hld;have hWL2:[.str [48],.str [53],.str [45,55],.str [50,49,52,55,52,56,51,54,52,55]]=WL:=hWL;have ne0:=R3 t cc (by omega);obtain⟨x2,e2,m2,a2⟩:=D5 x1 og (by omega);have l2:ruC.length<=100:=by decide
 obtain⟨x3,e3,m3,a3⟩:=D5 x2 ruC (by omega);replace a3:binR .add (.str x2) (.str [59,32,118,97,114,32,118,49,32,49,59,32,118,97,114,32,118,50,32,48,59,32,116,105,109,101,114,32,116,109,48,59,32,116,105,109,101,114,32,116,109,49,59,32,101,118,101,110,116,32,101,118,48,59,32,101,118,101,110,116,32,101,118,49,59,10])=some (.str x3):=a3;dsimp only at a3;simp only[go_sem,seval,h_same,ne0,hia,hWL2,hld,a2,a3];have hfin:∀ (B:Blk) ds,GL ((H.upd cc ⟨1,true,WL⟩).upd t B) ds (H.upd t B) ds:=fun B ds=>GL.less' (fun j2 q hj=>by
  by_cases e:j2=t
  ·subst e;rw[h_same]at hj ⊢;exact hj
  ·rw[h_ne e]at hj ⊢;have:j2≠cc:=by rintro rfl;rw[hfr _ (by omega)]at hj;cases hj
   rw[h_ne this];exact hj)
 generalize H.upd cc ⟨1,true,WL⟩=G at hfin ⊢;have hx3:RuP L w 0 x3:=by rw[e3,e2,e1];exact hcon
 have l3:x3.length<=500:=by omega
 clear hcon e1 e2 e3 a1 a2 a3 hld hWL hWL2 hia;repeat' (apply wr<;>try simp only[go_sem,seval])
 refine C1 (fun q:Nat × Nat × List UInt8=>[(0,.ptr t 0),(3,.str q.2.2),(4,I64 q.1)]) (fun q=>G.upd t (mkB L w q.2.1))
  (fun q c=>cc<=c/\q.1<=3/\q.2.1<=300/\RuP L w q.1 q.2.2/\q.2.2.length<=500+q.1 * 8100000) (fun q=>3-q.1) (0,j1,x3)
  (by simp[C6,tm,Tm.upd]) (Sub.refl _) ⟨(by omega),(by omega),b1,hx3,(by show x3.length<=500+0 * _;omega)⟩ ?_
 rintro⟨i,j,s⟩ c ⟨hc,hi3,hj,hR,hl⟩;dsimp only at hc hi3 hj hR hl ⊢;have hl3:s.length<=25000000:=by have:i * 8100000<=3 * 8100000:=A1Q _ hi3;omega
 by_cases h3:i<3
 ·have qi:decide ((i:Int)<3)=true:=by simp;omega
  have hdi:=c_Dec' (i:Int) (by omega) (by omega);have hdil:=L6 (n:=(i:Int)) (by omega) (by omega);obtain⟨y1,f1,n1,c1⟩:=D5 s [109,111,100,101,32,109,111,100,101] (by (try simp)<;>omega);try simp only[A0D,List.length_nil]at n1
  obtain⟨y2,f2,n2,c2⟩:=D5 y1 (O3 (i:Int)) (by omega);obtain⟨y3,f3,n3,c3⟩:=D5 y2 [32] (by (try simp)<;>omega);try simp only[A0D,List.length_nil]at n3
  repeat' ((with_reducible first|apply wr|refine cpc hdi ?_|fail)<;>try simp only[go_sem,seval,qi,c1,c2,c3])
  refine AC.call (R4 L hL w 4 (by decide) (by decide) j hj _ _ t h_same (by omega)) ?_;rintro v' H' c4 ⟨p,j2,hp,b2,rfl,rfl⟩ hc4;rw[A1];have hdp:=c_Dec' (p:Int) (by omega) (by omega);have hdpl:=L6 (n:=(p:Int)) (by omega) (by omega);obtain⟨y4,f4,n4,c5⟩:=D5 y3 (O3 (p:Int)) (by omega);obtain⟨y5,f5,n5,c6⟩:=D5 y4 [32,123,10] (by (try simp)<;>omega);try simp only[A0D,List.length_nil]at n5
  simp only[go_sem,seval];repeat' ((with_reducible first|apply wr|refine cpc hdp ?_|fail)<;>try simp only[go_sem,seval,c5,c6])
  refine AC.call (R4 L hL w 11 (by decide) (by decide) j2 b2 _ _ t h_same (by omega)) ?_;rintro v' H' c7 ⟨k,j3,hk,b3,rfl,rfl⟩ hc7;rw[A1];simp only[go_sem,seval];repeat' (apply wr<;>try simp only[go_sem,seval])
  refine AC.call (R4 L hL w 5 (by decide) (by decide) j3 b3 _ _ t h_same (by omega)) ?_;rintro v' H' c8 ⟨n,j4,hn,b4,rfl,rfl⟩ hc8;rw[A1];simp only[go_sem,seval];repeat' (apply wr<;>try simp only[go_sem,seval])
  have hy:y5=C0u s i p:=by rw[f5,f4,f3,f2,f1];rfl
  have ly:y5.length<=s.length+200:=by omega
  refine C1 (fun q:Nat × Nat × List (List UInt8)=>[(0,.ptr t 0),(3,.str (A0c y5 q.2.2)),(4,I64 i),(5,I64 (k+q.2.2.length:Nat)),(6,I64 q.1)]) (fun q=>G.upd t (mkB L w q.2.1))
   (fun q n=>cc<=n/\q.1+q.2.2.length<=4/\q.2.1<=300/\(∀ j x,q.2.2[j]? = some x->HdG L w (k+j) x)/\(A0c y5 q.2.2).length<=y5.length+q.2.2.length * 2001001) (fun q=>q.1) (n,j4,[])
   (by simp[C6,tm,Tm.upd,A0c]) (Sub.refl _) ⟨(by omega),(by show n+0<=4;omega),b4,(fun j x h=>by cases h),(by show y5.length<=y5.length+0 * _;omega)⟩ ?_
  clear hc8 b4 hn n j4 c8;rintro⟨n,j5,hs⟩ c8 ⟨hc8,hn,b5,hH,lh⟩;dsimp only at hc8 hn b5 hH lh ⊢;have hs4:hs.length * 2001001<=4 * 2001001:=A1Q _ (by omega);by_cases h0:0<n
  ·have qn:decide ((n:Int)>0)=true:=by simpa using h0
   have hs3:hs.length * 2001001<=3 * 2001001:=A1Q _ (by omega);obtain⟨n,rfl⟩:∃ m,n=m+1:=⟨n-1,by omega⟩;have hw1:IntKind.i64.wrap (((n+1:Nat):Int)-1)=(n:Int):=by rw[w6z (by omega)];omega
   have hw2:IntKind.i64.wrap (((k+hs.length:Nat):Int)+1)=((k+hs.length+1:Nat):Int):=by rw[w6z (by omega)];omega
   generalize hn1:((n+1:Nat):Int)=N1 at qn hw1 ⊢;generalize hk1:k+hs.length=K1 at hw2 ⊢;repeat' (apply wr<;>try simp only[go_sem,seval,qn])
   refine AC.call (B7s L hL w hw K1 (by omega) j5 b5 _ _ t h_same (by omega)) ?_;rintro v' H' c9 ⟨r,j6,g,l,b6,rfl,rfl⟩ hc9;obtain⟨z1,g1,o1,d1⟩:=D5 (A0c y5 hs) r (by omega);obtain⟨z2,g2,o2,d2⟩:=D5 z1 [10] (by (try simp)<;>omega);try simp only[A0D,List.length_nil]at o2
   rw[A1];simp only[go_sem,seval,d1,d2];repeat' (apply wr<;>try simp only[go_sem,seval,hw1,hw2])
   have e1:A0c y5 (hs++[r])=z2:=by rw[B4b,g2,g1]
   have e2:(hs++[r]).length=hs.length+1:=by simp
   refine⟨(n,j6,hs++[r]),?_,Sub.refl _,inv ⟨(by omega),(by show n+(hs++[r]).length<=4;omega),b6,(fun j x hx=>?_),(by show (A0c y5 (hs++[r])).length<=y5.length+(hs++[r]).length * 2001001;rw[e1,e2,A2F];omega)⟩,(by simp only;omega)⟩
   ·simp only[e1,e2];simp[];omega
   ·by_cases hj2:j<hs.length
    ·rw[A2C hj2]at hx;exact hH j x hx
    ·rw[A2K (by omega)]at hx;have hj3:j-hs.length=0:=by
      have:=(A0K.1 hx).1;simp at this;omega
     rw[hj3]at hx;cases hx;obtain rfl:j=hs.length:=by omega
     rw[hk1];exact g
  ·obtain rfl:n=0:=by omega
   obtain⟨z1,g1,o1,d1⟩:=D5 (A0c y5 hs) [125,10] (by (try simp)<;>omega);try simp only[A0D,List.length_nil]at o1
   have hw2:IntKind.i64.wrap ((i:Int)+1)=((i+1:Nat):Int):=by rw[w6z (by omega)];omega
   repeat' (apply wr<;>try simp only[go_sem,seval,d1,hw2])
   refine⟨(i+1,j5,z1),(by simp[]),Sub.refl _,inv ⟨(by omega),(by omega),b5,(by show RuP L w (i+1) z1;rw[g1,hy];exact .mode hR hp hk (by omega) hH),(by show z1.length<=500+(i+1) * 8100000;rw[A2F];omega)⟩,(by simp only;omega)⟩
 ·obtain rfl:i=3:=by omega
  repeat' (apply wr<;>try simp only[go_sem,seval])
  exact⟨_,_,hfin _ _,s,j,hR,by omega,hj,rfl,rfl⟩
theorem c_New(l:List UInt8)(hl:l.length<=9223372036854775807)(H:Hp)(cc:Nat):
  AC Tryz.prog 24 [.lst (bytesC l)] H cc (fun v H' c' => ∃ t,cc<=t/\t<c'/\v=.ptr t 0/\H'=H.upd t (mkB (l.take 300) 0 0)):=by
 refine AC.bodyT A4 rfl (A0B rfl) fun hfr=>?_;have hlen:(bytesC l).length=l.length:=by simp[bytesC]
 have hmin:(if (300:Int)<((l.length:Nat):Int) then (300:Int) else ((l.length:Nat):Int))=((min l.length 300:Nat):Int):=by split<;>omega
 have hsl:A3k H 1 (.lst (bytesC l)) none (some (I64 ((min l.length 300:Nat):Int)))=some (.lst (bytesC (l.take 300))):=by
  have hb:boundOf (bytesC l).length (some (I64 ((min l.length 300:Nat):Int)))=some (min l.length 300):=by simp[boundOf]
  have hu:Sym.unit 1 (bytesC l)=true:=by simp only[Sym.unit,bytesC,List.all_map];exact A0P.2 fun x _=>rfl
  simp only[A3k,hb];have h0:boundOf 0 none=some 0:=rfl;rw[h0];dsimp only;rw[if_pos ⟨by rw[hlen];omega,A0O _,hu⟩];rw[A2Y,Nat.sub_zero];unfold bytesC;rw[<- List.map_take];have e:l.take (min l.length 300)=l.take 300:=by
   rcases Nat.le_total l.length 300 with h|h
   ·rw[Nat.min_eq_left h,A0I (A0G _),A0I h]
   ·rw[Nat.min_eq_right h]
  rw[e]
 repeat' (apply wr<;>try simp only[go_sem,seval,hlen,hmin,hsl])
 exact⟨_,_,GL.refl _ _,cc,A0G _,A1Y _,rfl,rfl⟩
theorem c_Made(l:List UInt8)(hl:l.length<=9223372036854775807)(u:UInt8)(H:Hp)(cc:Nat):
  AC Tryz.prog 13 [.lst (bytesC l),.int .u8 (u.toNat:Int)] H cc (fun v H' c' => ∃ s,RuP (l.take 300) (u.toNat % 20) 3 s/\v=(Z4 s).1.v/\H'=H):=by
 refine AC.bodyT A4 rfl (A0B rfl) fun hfr=>?_;have hb:=u.toNat_lt;have h300:(l.take 300).length<=300:=by rw[A0W];omega
 repeat' (apply wr<;>try simp only[go_sem,seval])
 refine AC.call (c_New l hl _ _) ?_;rintro v' H' c2 ⟨t,ht1,ht2,rfl,rfl⟩ hc2;have hrm:binR .rem (.int .u8 (u.toNat:Int)) (.int .u8 20)=some (.int .u8 ((u.toNat % 20:Nat):Int)):=by rw[A6k (by decide)];rfl
 have hw1:IntKind.i64.wrap ((u.toNat % 20:Nat):Int)=((u.toNat % 20:Nat):Int):=w6z (by omega);simp only[go_sem,seval];repeat' (apply wr<;>try simp only[go_sem,seval,h_same,A1,hrm,hw1])
 refine AC.call (C4v (l.take 300) h300 (u.toNat % 20) (by omega) 0 (by omega) _ _ t h_same (by omega)) ?_;rintro v' H' c3 ⟨s,j,g,ls,b,rfl,rfl⟩ hc3;have hp:=c_Parse s (by omega);have hpv:C4g (Z4 s)=.tup [(Z4 s).1.v,I64 (Z4 s).2.1,I64 (Z4 s).2.2]:=rfl;rw[hpv]at hp;generalize hr:(Z4 s).1=r at hp;generalize (Z4 s).2.1=r1 at hp;generalize (Z4 s).2.2=r2 at hp;have hrv:r.v=.agg [C5 r.decls,E4 r.modes]:=rfl;rw[hrv]at hp;rw[A1];have ne0:=Q3 cc t c3 (by omega);simp only[go_sem,seval];repeat' ((with_reducible first|apply wr|refine cpc hp ?_|fail)<;>try simp only[go_sem,seval,ne0,h_same,A1])
 rw[E0 (rv2 rfl h_same)];refine⟨_,_,GL.less' (fun j2 q hj=>?_),s,g,by rw[hr],rfl⟩;have hj2:j2<cc:=Classical.byContradiction fun h=>by rw[hfr _ (by omega)]at hj;cases hj
 dsimp only;rw[hnO,hnO,hnO,hnO];exact hj
theorem C2q(l:List UInt8):DV.nlL (bytesC l)=true:=H9 (fun _=>rfl) l
theorem c_exB(r:Ru)(e:Ex)(hR:r.sz<4000000)(hE:e.sz<4000000)(c2 b c:Nat)(H:Hp)(x y z:DV)(Q:Exit->Go.Sym.St->Prop)(h2:H c2=some ⟨0,true,[C5 r.decls,E4 r.modes]⟩)
  (hb:H b=some ⟨0,true,[I64 e.kind,I64 e.value,.str e.name,F7 e.args,I64 e.pos]⟩)
  (next:∀ ex,ex=Exit.normal\/ex=Exit.exit 1->∀ T c',c<=c'->C6 [(7,.ptr c2 0),(50,x),(51,y),(52,z)] T->Q ex ⟨T,H,c'⟩) :
  IW Tryz.prog 90 (pz Tryz.prog 7 (.o (.o (.i (.i .h))))) ⟨tm [(7,.ptr c2 0),(16,.ptr b 0),(50,x),(51,y),(52,z)],H,c⟩ Q:=by
 have h1:=c_PExpr r e hR hE;have h3:=c_RExpr r e hR hE;have hs:=c_SameI (cxM r e).1 (cxM r e).1 (by
  have h:(cxM r e).1.length<=e.sz:=by
   unfold cxM;split
   ·split
    ·exact A0O _
    ·exact B0h e
   ·exact A0O _
  omega)
 rw[decide_eq_true rfl]at hs;rw[Ex.v_w]at h1 h3;have hrv:r.v=.agg [C5 r.decls,E4 r.modes]:=rfl;rw[hrv]at h1 h3;dsimp only[Ex.w,cxV]at h1 h3;generalize (cxM r e).1=q1 at *;generalize (cxM r e).2.1=q2 at *;generalize (cxM r e).2.2=q3 at *;by_cases ha:4<e.args.length
 ·have hd:decide ((e.args.length:Int)>4)=true:=by simp;omega
  repeat' ((with_reducible first|refine wr ?_|refine k_cu ?_ ?_|refine wb2 ?_ ?_<;>(intro hb;try simp only[hb])|fail)<;>try simp only[go_sem,seval,h2,hb,hd,A0F])
  exact next _ (.inr rfl) _ _ (by omega) (by simp[C6,tm,Tm.upd])
 ·have hd:decide ((e.args.length:Int)>4)=false:=by simp;omega
  repeat' ((with_reducible first|refine wr ?_|refine cpc h1 ?_|refine cpc h3 ?_|refine cpc hs ?_|refine k_cu ?_ ?_|refine wb2 ?_ ?_<;>(intro hb;try simp only[hb])|fail)<;>try simp only[go_sem,seval,h2,hb,hd,A0F])
  exact next _ (.inl rfl) _ _ (by omega) (by simp[C6,tm,Tm.upd])
theorem c_CompileExprs(l:List UInt8)(hl:l.length<=9223372036854775807)(raw:Ex)(hB:raw.sz<4000000)(u:UInt8):PC Tryz.prog 7 [.lst (bytesC l),raw.v,.int .u8 (u.toNat:Int)] (.bool true):=by
 have hs:=c_sane34;refine PC.ofT A4 rfl (A0B rfl) (by simp[DV.nlL,DV.nl,C2q,Ex.nl]) rfl ?_;have hm0:=c_Made l hl 0;rw[show ((0:UInt8).toNat:Int)=0 from rfl]at hm0;have hrv:∀ r:Ru,r.v=.agg [C5 r.decls,E4 r.modes]:=fun _=>rfl;have h300:(l.take 300).length<=300:=by rw[A0W];omega
 have hub:=u.toNat_lt;have hrm:binR .rem (.int .u8 (u.toNat:Int)) (.int .u8 9)=some (.int .u8 ((u.toNat % 9:Nat):Int)):=by rw[A6k (by decide)];rfl
 have hw1:IntKind.i64.wrap ((u.toNat % 9:Nat):Int)=((u.toNat % 9:Nat):Int):=w6z (by omega);have hu9:u.toNat % 9<9:=Nat.mod_lt _ (by decide);generalize u.toNat % 9=w at hrm hw1 hu9;rw[Ex.v_w];dsimp only[Ex.w];repeat' ((with_reducible first|refine wr ?_|refine k_cu ?_ ?_|refine wb2 ?_ ?_<;>(intro hb;try simp only[hb])|fail)<;>try simp only[go_sem,seval])
 refine AC.call (hm0 _ _) ?_;rintro v' H' c2 ⟨s,hg,rfl,rfl⟩ hc2;have hz:=C4h s;generalize hr:(Z4 s).1=r at hz;rw[hrv];simp only[go_sem,seval];repeat' ((with_reducible first|refine wr ?_|refine k_cu ?_ ?_|refine wb2 ?_ ?_<;>(intro hb;try simp only[hb])|fail)<;>try simp only[go_sem,seval])
 refine AC.call (c_New l hl _ _) ?_;rintro v' H' c3 ⟨t,ht1,ht2,rfl,rfl⟩ hc3;have nt2:¬ c2=t:=by omega
 have nt2':¬ t=c2:=by omega
 have nt0:¬ 0=t:=by omega
 have nt0':¬ t=0:=by omega
 have n20:¬ 0=c2:=by omega
 have n20':¬ c2=0:=by omega
 simp only[go_sem,seval,h_same,A1];repeat' ((with_reducible first|refine wr ?_|refine k_cu ?_ ?_|refine wb2 ?_ ?_<;>(intro hb;try simp only[hb])|fail)<;>try simp only[go_sem,seval,nt2,nt2',nt0,nt0',h_same,A1,hrm,hw1])
 obtain⟨X,hX⟩:∃ X:Hp,X=(Sym.nil.upd 0 ⟨0,true,[I64 raw.kind,I64 raw.value,.str raw.name,F7 raw.args,I64 raw.pos]⟩).upd c2 ⟨0,true,[C5 r.decls,E4 r.modes]⟩:=⟨_,rfl⟩;rw[<- hX];have x0:X 0=some ⟨0,true,[I64 raw.kind,I64 raw.value,.str raw.name,F7 raw.args,I64 raw.pos]⟩:=by rw[hX,h_ne n20];exact h_same
 have x2:X c2=some ⟨0,true,[C5 r.decls,E4 r.modes]⟩:=by rw[hX];exact h_same
 have xf:∀ j,c3<=j->X j=none:=fun j hj=>by rw[hX,hnO,hnO];rfl
 clear hX;have hK:=c_exK (l.take 300) h300 w (by omega) 3 (by omega);have hP:=C1l (l.take 300) w 3;have hO:=A0n h300 w 3;refine AC.call (hK.1 0 (by omega) _ _ t h_same (by omega)) ?_;rintro v' H' c4 ⟨rfl,rfl⟩ hc4;have hpot:=hP.1 0;have hok:=(hO.1 0 (by omega)).2;have pa:=c_ParseExpr (inK (l.take 300) w 3 0).1 (by omega);have za:=B5q (inK (l.take 300) w 3 0).1;generalize A9l (inK (l.take 300) w 3 0).1=qa at pa za;obtain⟨A,a1,a2⟩:=qa;dsimp only[B5r]at pa za;rw[Ex.v_w]at pa;dsimp only[Ex.w]at pa;rw[A1];have nt4:¬ t=c4:=by omega
 simp only[go_sem,seval];repeat' ((with_reducible first|refine wr ?_|refine cpc pa ?_|refine k_cu ?_ ?_|refine wb2 ?_ ?_<;>(intro hb;try simp only[hb])|fail)<;>try simp only[go_sem,seval,A1])
 refine AC.call (hK.2 _ hok _ _ t (by rw[h_ne nt4];exact h_same) (by omega)) ?_;rintro v' H' c5 ⟨rfl,rfl⟩ hc5;have hpot2:=hP.2 (inK (l.take 300) w 3 0).2;have hok2:=(hO.2 _ hok).2;have pb:=c_ParseExpr (blK (l.take 300) w 3 (inK (l.take 300) w 3 0).2).1 (by omega);have zb:=B5q (blK (l.take 300) w 3 (inK (l.take 300) w 3 0).2).1;generalize A9l (blK (l.take 300) w 3 (inK (l.take 300) w 3 0).2).1=qb at pb zb;obtain⟨B,b1,b2⟩:=qb;dsimp only[B5r]at pb zb;rw[Ex.v_w]at pb;dsimp only[Ex.w]at pb;have n4t:¬ c4=t:=by omega
 have n04:¬ 0=c4:=by omega
 have n45:¬ c4=c5:=by omega
 have n05:¬ 0=c5:=by omega
 simp only[go_sem,seval];repeat' ((with_reducible first|refine wr ?_|refine cpc pb ?_|refine k_cu ?_ ?_|refine wb2 ?_ ?_<;>(intro hb;try simp only[hb])|fail)<;>try simp only[go_sem,seval,x0,x2,nt0,n04,n45,n05,n4t,h_same,A1])
 have n2t:¬ c2=t:=by omega
 have n24:¬ c2=c4:=by omega
 have n25:¬ c2=c5:=by omega
 have n26:¬ c2=c5+1:=by omega
 generalize hM:Hp.upd _ (c5+1) _=M;have m2:M c2=some ⟨0,true,[C5 r.decls,E4 r.modes]⟩:=by rw[<- hM,h_ne n26,h_ne n25,h_ne n2t,h_ne n24,h_ne n2t];exact x2
 have ml:M (c5+1)=some ⟨5,true,[I64 A.kind,I64 A.value,.str A.name,F7 A.args,I64 A.pos,I64 B.kind,I64 B.value,.str B.name,F7 B.args,I64 B.pos,I64 raw.kind,I64 raw.value,.str raw.name,F7 raw.args,I64 raw.pos]⟩:=by rw[<- hM];exact h_same
 have mf:∀ j,c5+2<=j->M j=none:=fun j hj=>by rw[<- hM,hnO,hnO,hnO,hnO,hnO];exact xf j (by omega)
 obtain⟨id,hid⟩:∃ id,id=c5+1:=⟨_,rfl⟩;rw[<- hid]at ml ⊢;have hlt2:c2<id:=by omega
 have mf:∀ j,id<j->M j=none:=fun j hj=>mf j (by omega);clear hM xf x0 x2 pa pb;have hE:=fun (e:Ex) (he:e.sz<4000000) (b c:Nat) (H:Hp) (x y z:DV) Q h2 hb=>c_exB r e (by omega) he c2 b c H x y z Q h2 hb;refine C1 (fun i:Nat=>[(7,.ptr c2 0),(50,.slc id 0 3),(51,I64 3),(52,I64 i)]) (fun _=>M) (fun i c=>i<=3/\id<c) (fun i=>3-i) 0 (by simp[C6,tm,Tm.upd]) (Sub.refl _) ⟨A0O _,by omega⟩ ?_;rintro i cc ⟨hi,hcc⟩;have nci:¬ cc=id:=by omega
 have nci':¬ id=cc:=by omega
 have ncc:¬ c2=cc:=by omega
 match i,hi with
 |3,_ =>
  repeat' ((with_reducible first|refine wr ?_|refine cpc hs ?_|refine k_cu ?_ ?_|refine wb2 ?_ ?_<;>(intro hb;try simp only[hb])|fail)<;>try simp only[go_sem,seval])
  exact A6 rfl
 |0,_ =>
  repeat' ((with_reducible first|refine G0 (p:=IW _ _ (pz Tryz.prog 7 (.o (.o (.i (.i .h))))) _ _) ?_|refine wr ?_|refine k_cu ?_ ?_|refine wb2 ?_ ?_<;>(intro hb;try simp only[hb])|fail)<;>try simp only[go_sem,seval,ml,nci,nci',h_same,A1])
  refine IW.stage (L:=[(7,.ptr c2 0),(16,.ptr cc 0),(50,.slc id 0 3),(51,I64 3),(52,I64 0)]) (by simp[C6,tm,Tm.upd]) (hE A (by omega) cc _ _ _ _ _ _ (by rw[h_ne ncc];exact m2) h_same ?_);rintro ex (rfl|rfl) T c' hc' hT
  ·refine IW.weaken (A4f hT) (Sub.refl _) ?_;repeat' ((with_reducible first|refine wr ?_|refine k_cu ?_ ?_|refine wb2 ?_ ?_<;>(intro hb;try simp only[hb])|fail)<;>try simp only[go_sem,seval])
   exact⟨1,rfl,(Sub.refl M).upd _ (mf cc hcc),inv ⟨by omega,by omega⟩,by omega⟩
  ·refine IW.weaken (A4f hT) (Sub.refl _) ?_;repeat' ((with_reducible first|refine wr ?_|refine k_cu ?_ ?_|refine wb2 ?_ ?_<;>(intro hb;try simp only[hb])|fail)<;>try simp only[go_sem,seval])
   exact⟨1,rfl,(Sub.refl M).upd _ (mf cc hcc),inv ⟨by omega,by omega⟩,by omega⟩
 |1,_ =>
  repeat' ((with_reducible first|refine G0 (p:=IW _ _ (pz Tryz.prog 7 (.o (.o (.i (.i .h))))) _ _) ?_|refine wr ?_|refine k_cu ?_ ?_|refine wb2 ?_ ?_<;>(intro hb;try simp only[hb])|fail)<;>try simp only[go_sem,seval,ml,nci,nci',h_same,A1])
  refine IW.stage (L:=[(7,.ptr c2 0),(16,.ptr cc 0),(50,.slc id 0 3),(51,I64 3),(52,I64 1)]) (by simp[C6,tm,Tm.upd]) (hE B (by omega) cc _ _ _ _ _ _ (by rw[h_ne ncc];exact m2) h_same ?_);rintro ex (rfl|rfl) T c' hc' hT
  ·refine IW.weaken (A4f hT) (Sub.refl _) ?_;repeat' ((with_reducible first|refine wr ?_|refine k_cu ?_ ?_|refine wb2 ?_ ?_<;>(intro hb;try simp only[hb])|fail)<;>try simp only[go_sem,seval])
   exact⟨2,rfl,(Sub.refl M).upd _ (mf cc hcc),inv ⟨by omega,by omega⟩,by omega⟩
  ·refine IW.weaken (A4f hT) (Sub.refl _) ?_;repeat' ((with_reducible first|refine wr ?_|refine k_cu ?_ ?_|refine wb2 ?_ ?_<;>(intro hb;try simp only[hb])|fail)<;>try simp only[go_sem,seval])
   exact⟨2,rfl,(Sub.refl M).upd _ (mf cc hcc),inv ⟨by omega,by omega⟩,by omega⟩
 |2,_ =>
  repeat' ((with_reducible first|refine G0 (p:=IW _ _ (pz Tryz.prog 7 (.o (.o (.i (.i .h))))) _ _) ?_|refine wr ?_|refine k_cu ?_ ?_|refine wb2 ?_ ?_<;>(intro hb;try simp only[hb])|fail)<;>try simp only[go_sem,seval,ml,nci,nci',h_same,A1])
  refine IW.stage (L:=[(7,.ptr c2 0),(16,.ptr cc 0),(50,.slc id 0 3),(51,I64 3),(52,I64 2)]) (by simp[C6,tm,Tm.upd]) (hE raw (by omega) cc _ _ _ _ _ _ (by rw[h_ne ncc];exact m2) h_same ?_);rintro ex (rfl|rfl) T c' hc' hT
  ·refine IW.weaken (A4f hT) (Sub.refl _) ?_;repeat' ((with_reducible first|refine wr ?_|refine k_cu ?_ ?_|refine wb2 ?_ ?_<;>(intro hb;try simp only[hb])|fail)<;>try simp only[go_sem,seval])
   exact⟨3,rfl,(Sub.refl M).upd _ (mf cc hcc),inv ⟨by omega,by omega⟩,by omega⟩
  ·refine IW.weaken (A4f hT) (Sub.refl _) ?_;repeat' ((with_reducible first|refine wr ?_|refine k_cu ?_ ?_|refine wb2 ?_ ?_<;>(intro hb;try simp only[hb])|fail)<;>try simp only[go_sem,seval])
   exact⟨3,rfl,(Sub.refl M).upd _ (mf cc hcc),inv ⟨by omega,by omega⟩,by omega⟩
end Go.Proofs.YtkkjpohaffjecaaGreatDoor
end
