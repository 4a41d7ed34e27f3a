/-
  HELPERS of the claim: part 10 of its texts.
-/
import Derived.Test.YtnkkfehegdplgaaGreatDoorCcdi
import Derived.Test.YtnkkfehegdplgaaGreatDoorProg
noncomputable section
set_option maxHeartbeats 8000000
set_option maxRecDepth 100000
set_option linter.unusedSimpArgs false
set_option linter.unusedVariables false
namespace Go.Proofs.YtnkkfehegdplgaaGreatDoor
open Go.Eng (IC IOper DReg IFn P0)
open Go.Sym Go.Pb
end Go.Proofs.YtnkkfehegdplgaaGreatDoor
namespace Go.Pb
open Go.Sym
def Shp.v(s:Shp):DV:=.agg [.bool s.name,.bool s.text,I64 s.args,.bool s.thn,.bool s.els]
end Go.Pb
namespace Go.Proofs.YtnkkfehegdplgaaGreatDoor
open Go.Eng (IC IOper DReg IFn P0)
open Go.Sym Go.Pb
def E2b(k:Int):Bool:=decide (1<=k)&&decide (k<=19)
theorem c_shapeOf(k:Int):PC Tryz.prog 202 [I64 k] (.tup [(O6 k).v,.bool (E2b k)]):=by
 refine PC.go A3 ?_;repeat'((with_reducible first|apply wr|refine k_cu ?_ ?_|apply wb2<;>(intro hb;try simp only[hb]))<;>try simp only[go_sem,seval])
 all_goals refine A4 ?_
 all_goals simp_all[O6,E2b,Shp.v,tm,Tm.upd]
 all_goals omega
theorem c_isText(s:List UInt8)(hs:s.length<=1000000000):PC Tryz.prog 206 [.str s] (.bool (Y7 s)):=by
 refine PC.go A3 ?_;refine wAp ?_;refine A9 (λk:Nat=>[(0,.str s),(3,I64 k)]) (λ_=>Sym.nil) (λk _=>k<=s.length/\(s.take k).all txB=true) (λk=>s.length-k) 0 (by simp[B5,tm,Tm.upd]) (Sub.refl _) ⟨A0Q _,rfl⟩ ?_;rintro k cc ⟨hk,he⟩;by_cases hlt:k<s.length
 ·have hd:=dtz hlt;have hg:=A0B hlt;have hw:=w64 (n:=(k:Int)+1);generalize s[k]=x at hg;have hx:txB x=(decide (32<=x.toNat)&&decide (x.toNat<=126)):=rfl;repeat'((with_reducible first|apply wr|refine k_cu ?_ ?_|apply wb2<;>(intro hb;try simp only[hb]))<;>try simp only[go_sem,seval,hd,hg,hw])
  ·refine A4 (congrArg DV.bool ?_);have:=A3y txB s k _ hg (by simp_all<;>omega);simp[Y7,this]
  ·refine A4 (congrArg DV.bool ?_);have:=A3y txB s k _ hg (by simp_all<;>omega);simp[Y7,this]
  ·exact⟨k+1,rfl,Sub.refl _,inv ⟨a8,by rw[A6t txB s k _ hg,he];simp_all<;>omega⟩,by omega⟩
 have hd:=dfz hlt;have hall:=A9r txB s k (by omega) he;refine wAs hd ?_;refine A4 (congrArg DV.bool ?_);simp[Y7,hall];omega
theorem c_validDecl(d:Dc)(hB:d.name.length<=1000000000):PC Tryz.prog 74 [d.v] (.bool (A2j d)):=by
 refine PC.go A3 ?_;have hn:=c_IsName d.name hB;repeat'((with_reducible first|apply wr|refine cpc hn ?_|refine k_cu ?_ ?_|apply wb2<;>(intro hb;try simp only[hb]))<;>try simp only[go_sem,seval])
 all_goals(refine A4 (congrArg DV.bool ?_);simp_all[A2j]<;>omega)
theorem c_vS1(e:Ex)(hB:e.sz<=100000000):PC Tryz.prog 204 [e.v] (.bool (!Z9 e)):=by
 refine PC.go A3 ?_;have h:=c_ValidExpr e hB;rw[Ex.v_w]at h ⊢;refine wA5 h ?_;exact A4 rfl
theorem E6f(d:Nat)(s:Pb.St):V5 d s=(E2b s.kind&&(s.args.length==(O6 s.kind).args&&s.args.all Z9) &&
   ((if(O6 s.kind).name=true then D8 s.name else s.name == [])&&(if(O6 s.kind).text=true then Y7 s.text else s.text == [])) &&
   (((O6 s.kind).thn||s.thn.isEmpty)&&((O6 s.kind).els||s.els.isEmpty))&&(T4 s.thn (d+1)&&T4 s.els (d+1))):=by
 cases s with|mk k n t a x y p=>rw[V5];rfl
theorem A6s{α:Type}(g : α->Bool)(l:List α):l.any (λx => !g x) = !l.all g:=by
 induction l with
 |nil=>rfl
 |cons x l ih=>rw[List.any_cons,A2Q,ih,Bool.not_and]
theorem c_vSt(s:Pb.St)(d:Nat)(hd:d<=1000000000)(hB:s.sz<=100000000)(hX:PC Tryz.prog 122 [G7 s.thn,I64 (d+1:Nat)] (.bool (T4 s.thn (d+1))))(hY:PC Tryz.prog 122 [G7 s.els,I64 (d+1:Nat)] (.bool (T4 s.els (d+1)))):
  PC Tryz.prog 175 [s.v,I64 d] (.bool (V5 d s)):=by
 rw[E6f];have hsa:Ex.szs s.args<s.sz:=by cases s with|mk k n t a x y p=>rw[Pb.St.sz];show Ex.szs a<_;omega
 have hal:=Ex.szs_len s.args;have hxl:=Pb.St.szs_len s.thn;have hyl:=Pb.St.szs_len s.els;have hxs:=s.sz_thn;have hys:=s.sz_els;have hnl:=s.sz_name;have htl:=s.sz_text;have hn:=c_IsName s.name (by omega);have ht:=c_isText s.text (by omega);have hsh:=c_shapeOf s.kind;have hca:=c_CF_ex (f:=204) (a:=[]) (cs:=[]) (g:=λe => !Z9 e) s.args (by omega) rfl rfl (λx hx=>c_vS1 x (by have:=Ex.szs_mem hx;omega));rw[A6s]at hca;have hw:=w64 (n:=(d:Int)+1);refine PC.ofT A3 rfl (A0F rfl) (by rw[Pb.St.v_w];simp[DV.nlL,DV.nl,A4n,A2t]) rfl ?_;cases s with|mk k n t a x y p =>
 dsimp only[Pb.St.kind,Pb.St.name,Pb.St.text,Pb.St.args,Pb.St.thn,Pb.St.els,Pb.St.pos]at *;have hX:PC Tryz.prog 122 [G7 x,I64 ((d:Int)+1)] (.bool (T4 x (d+1))):=hX;have hY:PC Tryz.prog 122 [G7 y,I64 ((d:Int)+1)] (.bool (T4 y (d+1))):=hY;have ev:(Pb.St.mk k n t a x y p).v=.agg [I64 k,.str n,.str t,L9 a,G7 x,G7 y,I64 p]:=Pb.St.v_w _;rw[ev];generalize T4 x (d+1)=bx at *;generalize T4 y (d+1)=bY at *;generalize E2b k=kb at *;obtain⟨nb,tb,ar,xb,yb,hs⟩:∃nb tb ar xb yb,O6 k=⟨nb,tb,ar,xb,yb⟩:=⟨_,_,_,_,_,rfl⟩;simp only[hs,Shp.v]at hsh ⊢;have kA:∀(cc:Nat) (nm tx:Bool),IW Tryz.prog 86 (pz Tryz.prog 175 (.i (.i (.o (.i .h))))) ⟨tm [(1,I64 d),(2,.ptr 0 0),(5,.ptr 1 0),(7,.bool nm),(8,.bool tx)],(Sym.nil.upd 0 ⟨0,true,[I64 k,.str n,.str t,L9 a,G7 x,G7 y,I64 p]⟩).upd 1 ⟨0,true,[.bool nb,.bool tb,I64 ar,.bool xb,.bool yb]⟩,cc⟩ (rt [.tmp 4] λv H' c => ∃H2,GL H' [v] H2 [.bool ((nm&&tx)&&((xb||x.isEmpty)&&(yb||y.isEmpty))&&(bx&&bY))]):=by
  intro cc nm tx;have ex:x.isEmpty = !decide ((x.length:Int)>0):=by cases x<;>simp
  have ey:y.isEmpty = !decide ((y.length:Int)>0):=by cases y<;>simp
  rw[ex,ey];cases nm with
  |false =>
   refine wAp ?_;exact A4 (by simp)
  |true =>
  cases tx with
  |false =>
   refine wAp ?_;exact A4 (by simp)
  |true =>
  generalize hlx:decide ((x.length:Int)>0)=lx at *;generalize hly:decide ((y.length:Int)>0)=ly at *;cases bx<;>cases bY<;>cases xb<;>cases lx<;>cases yb<;>cases ly;all_goals(refine wBc hX hY (wJ hlx (wJ hly hw)) ?_)
  all_goals exact A4 rfl
 have kB:∀cc:Nat,IW Tryz.prog 86 (pz Tryz.prog 175 (.i (.i (.i .h)))) ⟨tm [(1,I64 d),(2,.ptr 0 0),(5,.ptr 1 0),(7,.bool (n == [])),(8,.bool (t == []))],(Sym.nil.upd 0 ⟨0,true,[I64 k,.str n,.str t,L9 a,G7 x,G7 y,I64 p]⟩).upd 1 ⟨0,true,[.bool nb,.bool tb,I64 ar,.bool xb,.bool yb]⟩,cc⟩ (rt [.tmp 4] λv H' c => ∃H2,GL H' [v] H2 [.bool (((if nb=true then D8 n else n == [])&&(if tb=true then Y7 t else t == []))&&((xb||x.isEmpty)&&(yb||y.isEmpty))&&(bx&&bY))]):=by
  intro cc;cases nb<;>cases tb;all_goals((repeat'((with_reducible first|refine O8 (p:=IW _ _ (pz Tryz.prog 175 (.i (.i (.o (.i .h))))) _ _) ?_|refine wr ?_|refine cpc hn ?_|refine cpc ht ?_|refine k_cu ?_ ?_|apply wb2<;>(intro hb;try simp only[hb]))<;>try simp only[go_sem,seval])))
  all_goals(refine IW.stage ?_ (kA _ _ _);simp[B5,tm,Tm.upd])
 cases kb with
 |false =>
  refine wA5 hsh ?_;exact A4 (by simp)
 |true =>
 by_cases hal2:a.length=ar
 ·have d0:((a.length:Int) != (ar:Int))=false:=by simp[hal2]
  cases hall:a.all Z9 with
  |false =>
   rw[hall]at hca;refine wBc hsh hca d0 ?_;exact A4 (by simp)
  |true =>
   rw[hall]at hca;have e1:(a.length==ar)=true:=by simpa using hal2
   rw[e1];simp only[A2D];(repeat'((with_reducible first|refine O8 (p:=IW _ _ (pz Tryz.prog 175 (.i (.i (.i .h)))) _ _) ?_|refine wr ?_|refine cpc hsh ?_|refine cpc hca ?_|refine k_cu ?_ ?_|apply wb2<;>(intro hb;try simp only[hb]))<;>try simp only[go_sem,seval,d0,A0N,A1]));refine IW.stage (L:=[(1,I64 d),(2,.ptr 0 0),(5,.ptr 1 0),(7,.bool (n == [])),(8,.bool (t == []))]) ?_ (kB _);simp[B5,tm,Tm.upd]
 ·have d0:((a.length:Int) != (ar:Int))=true:=by simp;omega
  refine wA7 hsh d0 ?_;exact A4 (by simp;omega)
theorem c_vB1(s:Pb.St)(d:Nat)(h:PC Tryz.prog 175 [s.v,I64 d] (.bool (V5 d s))):PC Tryz.prog 174 [s.v,.fptr [I64 d]] (.bool (!V5 d s)):=by
 rw[Pb.St.v_w]at h ⊢;refine PC.go A3 ?_;refine wA5 h ?_;exact A4 rfl
theorem B6a(d:Nat):∀l:List Pb.St,I8 d l=l.all (V5 d)
 |[]=>by rw[I8];rfl
 |s::l=>by rw[I8,B6a d l];rfl
theorem c_validBlock:∀(m:Nat) (l:List Pb.St) (d:Nat),Pb.St.szs l<m->Pb.St.szs l<=100000000->d+Pb.St.szs l<=1000000000->PC Tryz.prog 122 [G7 l,I64 d] (.bool (T4 l d)):=by
 intro m
 induction m with
 |zero=>intro l d h;omega
 |succ m ih =>
 intro l d hm hB hd;have hl:=Pb.St.szs_len l;have hcf:=c_CF_st (f:=174) (a:=[]) (cs:=[.fptr [I64 d]]) (g:=λs => !V5 d s) l (by omega) rfl rfl (λs hs=>by
  have h1:=Pb.St.szs_mem hs;have h2:=s.sz_thn;have h3:=s.sz_els;exact c_vB1 s d (c_vSt s d (by omega) (by omega) (ih _ _ (by omega) (by omega) (by omega)) (ih _ _ (by omega) (by omega) (by omega))))
 rw[A6s, <- B6a]at hcf;refine PC.go A3 ?_;have el:l.isEmpty = !decide ((l.length:Int)>0):=by cases l<;>simp
 have e64:decide (l.length<=64) = !decide ((l.length:Int)>64):=r9
 have e8:decide (d<=8) = !decide ((d:Int)>8):=r9
 unfold T4;rw[el,e64,e8];repeat'((first|(with_reducible first|apply wr|refine k_cu ?_ ?_)|(with_reducible apply wb2<;>(intro hb;try simp only[hb]))|(refine AC.call (hcf.lend rfl (GL.one (id:=0) (b:=⟨0,true,[I64 d]⟩) rfl rfl (.cons _ _ _ _ (.same _) (.cons _ _ _ _ (.func _ _ _ _ _ .nil (.cons _ _ _ _ (.ptr 0 _ (A0Q _) rfl) .nil)) .nil)))) ?_<;>rintro v H' c' ⟨rfl,rfl,rfl⟩ hcc))<;>try simp only[go_sem,seval,A0N])
 all_goals(refine A4 (congrArg DV.bool ?_);simp_all)
theorem c_validHd(h:Hd)(hB:Pb.St.szs h.body<=100000000):PC Tryz.prog 122 [G7 h.body,I64 1] (.bool (T4 h.body 1)) :=
 c_validBlock _ h.body 1 (A1Q _) hB (by omega)
theorem F0g(h:Hd):h.v=.agg [I64 h.trig,.str h.name,G7 h.body,I64 h.pos]:=rfl
theorem c_validMode(d:Md)(hB:d.sz<=100000000):PC Tryz.prog 77 [d.v] (.bool (X4 d)):=by
 have hsz:d.sz=1+d.name.length+(d.hds.map Hd.sz).sum:=rfl;have hhl:d.hds.length<=(d.hds.map Hd.sz).sum:=K5 λx _=>r8
 have hn:=c_IsName d.name (by omega);refine PC.ofT A3 rfl (A0F rfl) (by simp[Md.v,DV.nlL,DV.nl,B2u]) rfl ?_;have ev:d.v=.agg [.str d.name,I64 d.prio,W0 d.hds,I64 d.pos]:=rfl;rw[ev];cases hnm:D8 d.name with
 |false =>
  rw[hnm]at hn;refine wA5 hn ?_;exact A4 (by simp[X4,hnm])
 |true =>
 rw[hnm]at hn;by_cases p0:d.prio<0
 ·have q0:decide (d.prio<0)=true:=by simpa using p0
  refine wA8 hn q0 ?_;exact A4 (by simp[X4,hnm];omega)
 have q0:decide (d.prio<0)=false:=by simpa using p0
 by_cases p1:d.prio>2147483647
 ·have q1:decide (d.prio>2147483647)=true:=by simpa using p1
  refine wA8 hn (wJ q0 q1) ?_;exact A4 (by simp[X4,hnm];omega)
 have q1:decide (d.prio>2147483647)=false:=by simpa using p1
 by_cases p2:d.hds.length>32
 ·have q2:decide ((d.hds.length:Int)>32)=true:=by simp;omega
  refine wA7 hn (wJ q0 (wJ q1 q2)) ?_;exact A4 (by simp[X4,hnm];omega)
 have q2:decide ((d.hds.length:Int)>32)=false:=b9
 have er:X4 d=d.hds.all A4c:=by
  unfold X4;rw[hnm,show decide (0<=d.prio)=true by simp;omega,show decide (d.prio<=2147483647)=true by simp;omega,show decide (d.hds.length<=32)=true by simp;omega];rfl
 rw[er];refine wA7 hn (wJ q0 (wJ q1 q2)) ?_;refine A9 (λk:Nat=>[(27,W0 d.hds),(28,I64 d.hds.length),(29,I64 k)]) (λ_=>Sym.nil) (λk _=>k<=d.hds.length/\(d.hds.take k).all A4c=true) (λk=>d.hds.length-k) 0 (by simp[B5,tm,Tm.upd]) (Sub.nil _) ⟨A0Q _,rfl⟩ ?_;rintro k cc ⟨hk,he⟩;by_cases hlt:k<d.hds.length
 ·have hd:=dtz hlt;have hg:=A0B hlt;have hw:=w64 (n:=(k:Int)+1);have hs:d.hds[k].sz<=(d.hds.map Hd.sz).sum:=O1 (A0O hlt);generalize d.hds[k]=h at hg hs;have hhs:h.sz=1+h.name.length+Pb.St.szs h.body:=rfl;have hn2:=c_IsName h.name (by omega);have hb2:=c_validHd h (by omega);have hf:=A3y A4c d.hds k _ hg;have ht:=A6t A4c d.hds k _ hg;have eh:A4c h=(decide (1<=h.trig)&&decide (h.trig<=6)&&(if 3<=h.trig then D8 h.name else h.name == [])&&T4 h.body 1):=rfl;by_cases t3:3<=h.trig
  ·have u3:decide (h.trig≥3)=true:=by simpa using t3
   rw[if_pos t3]at eh;repeat'((with_reducible first|apply wr|refine cpc hn2 ?_|refine cpc hb2 ?_|refine k_cu ?_ ?_|apply wb2<;>(intro hb;try simp only[hb]))<;>try simp only[go_sem,seval,hd,hg,hw,u3,F0g,A0,A1])
   all_goals first
    |(refine A4 (congrArg DV.bool (hf ?_).symm);rw[eh];clear hf ht eh er;simp_all<;>omega)
    |(refine⟨k+1,rfl,Sub.nil _,inv ⟨a8,?_⟩,by omega⟩;rw[ht,he,eh];clear hf ht eh er;simp_all<;>omega)
  ·have u3:decide (h.trig≥3)=false:=by simpa using t3
   rw[if_neg t3]at eh;repeat'((with_reducible first|apply wr|refine cpc hn2 ?_|refine cpc hb2 ?_|refine k_cu ?_ ?_|apply wb2<;>(intro hb;try simp only[hb]))<;>try simp only[go_sem,seval,hd,hg,hw,u3,F0g,A0,A1])
   all_goals first
    |(refine A4 (congrArg DV.bool (hf ?_).symm);rw[eh];clear hf ht eh er;simp_all<;>omega)
    |(refine⟨k+1,rfl,Sub.nil _,inv ⟨a8,?_⟩,by omega⟩;rw[ht,he,eh];clear hf ht eh er;simp_all<;>omega)
 have hd:=dfz hlt;have hall:=A9r A4c d.hds k (by omega) he;refine wAs hd ?_;exact A4 (by rw[hall])
theorem c_V1(d:Dc)(hB:d.name.length<=1000000000):PC Tryz.prog 73 [d.v] (.bool (!A2j d)):=by
 have h:=c_validDecl d hB;have ev:d.v=.agg [I64 d.kind,.str d.name,I64 d.value,I64 d.pos]:=rfl;rw[ev]at h ⊢;refine PC.go A3 ?_;refine wA5 h ?_;exact A4 rfl
theorem c_V2(d:Md)(hB:d.sz<=100000000):PC Tryz.prog 76 [d.v] (.bool (!X4 d)):=by
 have h:=c_validMode d hB;have ev:d.v=.agg [.str d.name,I64 d.prio,W0 d.hds,I64 d.pos]:=rfl;rw[ev]at h ⊢;refine PC.go A3 ?_;refine wA5 h ?_;exact A4 rfl
theorem c_Valid(r:Ru)(hB:r.sz<=100000000):PC Tryz.prog 36 [r.v] (.bool (X3 r)):=by
 obtain⟨D,M⟩:=r;have hDs:(D.map Dc.sz).sum+(M.map Md.sz).sum<=100000000:=hB;have hDl:D.length<=(D.map Dc.sz).sum:=K5 λx _=>zac
 have hMl:M.length<=(M.map Md.sz).sum:=K5 λx _=>r8
 have h1:=c_CF_dc (f:=73) (a:=[]) (cs:=[]) (g:=λe => !A2j e) D (by omega) rfl rfl (λx hx=>c_V1 x (by
  have:x.sz<=(D.map Dc.sz).sum:=O1 hx;have e:x.sz=1+x.name.length:=rfl;omega))
 have h2:=c_CF_md (f:=76) (a:=[]) (cs:=[]) (g:=λe => !X4 e) M (by omega) rfl rfl (λx hx=>c_V2 x (by
  have:x.sz<=(M.map Md.sz).sum:=O1 hx;omega))
 rw[A6s]at h1 h2;refine PC.ofT A3 rfl (A0F rfl) (by simp[Ru.v,DV.nlL,DV.nl,S6,S0]) rfl ?_;dsimp only[Ru.v];unfold X3;dsimp only;have e1:decide (D.length<=128) = !decide ((D.length:Int)>128):=r9
 have e2:decide (M.length<=16) = !decide ((M.length:Int)>16):=r9
 rw[e1,e2];generalize D.all A2j=bD at *;generalize M.all X4=bM at *;repeat'((with_reducible first|apply wr|refine cpc h1 ?_|refine cpc h2 ?_|refine k_cu ?_ ?_|apply wb2<;>(intro hb;try simp only[hb]))<;>try simp only[go_sem,seval,A0N])
 all_goals(refine A4 (congrArg DV.bool ?_);simp_all)
end Go.Proofs.YtnkkfehegdplgaaGreatDoor
set_option maxHeartbeats 4000000
namespace Go.Proofs.YtnkkfehegdplgaaGreatDoor
open Go.Eng (IC IOper DReg IFn P0)
open Go.Sym
abbrev x59:XT Tryz.prog 59:=mkF
instance t59:FT Tryz.prog 59 x59.d:=x59.ft
abbrev x27:XT Tryz.prog 27:=mkF
instance t27:FT Tryz.prog 27 x27.d:=x27.ft
abbrev x9:XT Tryz.prog 9:=mkF
instance t9:FT Tryz.prog 9 x9.d:=x9.ft
abbrev x37:XT Tryz.prog 37:=mkF
instance t37:FT Tryz.prog 37 x37.d:=x37.ft
abbrev x78:XT Tryz.prog 78:=mkF
instance t78:FT Tryz.prog 78 x78.d:=x78.ft
abbrev x38:XT Tryz.prog 38:=mkF
instance t38:FT Tryz.prog 38 x38.d:=x38.ft
abbrev x79:XT Tryz.prog 79:=mkF
instance t79:FT Tryz.prog 79 x79.d:=x79.ft
abbrev x43:XT Tryz.prog 43:=mkF
instance t43:FT Tryz.prog 43 x43.d:=x43.ft
abbrev x39:XT Tryz.prog 39:=mkF
instance t39:FT Tryz.prog 39 x39.d:=x39.ft
abbrev x83:XT Tryz.prog 83:=mkF
instance t83:FT Tryz.prog 83 x83.d:=x83.ft
abbrev x44:XT Tryz.prog 44:=mkF
instance t44:FT Tryz.prog 44 x44.d:=x44.ft
abbrev x123:XT Tryz.prog 123:=mkF
instance t123:FT Tryz.prog 123 x123.d:=x123.ft
abbrev x82:XT Tryz.prog 82:=mkF
instance t82:FT Tryz.prog 82 x82.d:=x82.ft
abbrev x40:XT Tryz.prog 40:=mkF
instance t40:FT Tryz.prog 40 x40.d:=x40.ft
abbrev x124:XT Tryz.prog 124:=mkF
instance t124:FT Tryz.prog 124 x124.d:=x124.ft
abbrev x84:XT Tryz.prog 84:=mkF
instance t84:FT Tryz.prog 84 x84.d:=x84.ft
abbrev x80:XT Tryz.prog 80:=mkF
instance t80:FT Tryz.prog 80 x80.d:=x80.ft
abbrev x15:XT Tryz.prog 15:=mkF
instance t15:FT Tryz.prog 15 x15.d:=x15.ft
abbrev x42:XT Tryz.prog 42:=mkF
instance t42:FT Tryz.prog 42 x42.d:=x42.ft
end Go.Proofs.YtnkkfehegdplgaaGreatDoor
set_option maxHeartbeats 8000000
namespace Go.Proofs.YtnkkfehegdplgaaGreatDoor
open Go.Eng (IC IOper DReg IFn P0)
open Go.Sym Go.Pb
theorem B1a(d:Dc):d.v=.agg [I64 d.kind,.str d.name,I64 d.value,I64 d.pos]:=rfl
theorem C5a(d:Md):d.v=.agg [.str d.name,I64 d.prio,W0 d.hds,I64 d.pos]:=rfl
theorem c_cntR(r:Ru)(k:Int)(h1:r.decls.length<=1000000000)(h2:r.modes.length<=1000000000):PC Tryz.prog 59 [r.v,I64 k] (I64 (cnR r k)):=by
 refine PC.ofT A3 rfl (A0F rfl) (by simp[Ru.v,DV.nlL,DV.nl,S6,S0]) rfl ?_;obtain⟨D,M⟩:=r;dsimp only[Ru.v]at h1 h2 ⊢;by_cases k9:k=9
 ·subst k9;refine wAo ?_;exact A4 rfl
 have q9:(k==9)=false:=by simpa using k9
 have er:cnR ⟨D,M⟩ k=cnD D k:=by rw[cnR,if_neg k9]
 rw[er];refine wAs q9 ?_;refine A9 (λi:Nat=>[(1,I64 k),(2,.ptr 0 0),(5,I64 (cnD (D.take i) k)),(6,I64 i)]) (λ_=>Sym.nil.upd 0 ⟨0,true,[D7 D,F6 M]⟩) (λi c=>i<=D.length) (λi=>D.length-i) 0 (by simp[B5,tm,Tm.upd,cnD]) (Sub.refl _) (A0Q _) ?_;rintro i c hk;by_cases hlt:i<D.length
 ·have hd:=dtz hlt;have hg:=A0B hlt;have hw:=w64 (n:=(i:Int)+1);have e0:cnD (D.take (i+1)) k=cnD (D.take i) k+(if D[i].kind==k then 1 else 0):=by
   unfold cnD;rw[A0V,hg,List.countP_append];simp[List.countP_cons]
  have hle:cnD (D.take i) k<=D.length:=by
   refine A1B List.countP_le_length ?_;rw[A1C];omega
  have hw2:=w64 (n:=(cnD (D.take i) k:Int)+1);generalize D[i]=d at hg e0;repeat'((with_reducible first|apply wr|refine k_cu ?_ ?_|apply wb2<;>(intro hb;try simp only[hb]))<;>try simp only[go_sem,seval,hd,hg,hw,hw2,B1a,A0N])
  all_goals(refine⟨i+1,?_,Sub.refl _,inv (by omega),by omega⟩;simp_all)
 have hd:=dfz hlt;refine wAr hd ?_;rw[A0J (by omega)];exact A4 rfl
theorem F2o{ρ:Ren}{v:Value}{a:DV}(h:VRel ρ (.agg [a,.snil]) v):VRel ρ (.agg [a,.lst []]) v:=by
 obtain⟨b,rfl,k1,k2⟩:=h.agg_inv;refine .agg _ _ k1 λi x y hx hy=>?_
 match i with
 |0=>exact k2 0 _ y hx hy
 |1=>cases hx;exact(k2 1 _ y rfl hy).snil_lst
 |i+2=>simp at hx
theorem E8o{f:Nat}{a x r:DV}(h:PC Tryz.prog f [.agg [a,.lst []],x] r):PC Tryz.prog f [.agg [a,.snil],x] r:=by
 have hn:DV.nlL [.agg [a,.snil],x]=true:=by have:=h.na;simpa[DV.nlL,DV.nl] using this
 have g:GL Sym.nil [.agg [a,.snil],x] Sym.nil [.agg [a,.lst []],x]:=GL.view fun ρ vs hA=>⟨hA.1,λi d v hd hv=>by
  match i with
  |0=>cases hd;exact F2o (hA.2 0 _ v rfl hv)
  |1=>exact hA.2 1 _ v hd hv
  |i+2=>simp at hd⟩
 exact⟨hn,h.nr,AC.ghost g h.ac⟩
theorem D5b{xs:List DV}{h sz:Nat}(hh:h<=xs.length)(hu:∀x∈xs,x.cells.length=sz)(H:Hp):A7j H sz (.lst xs) none (some (I64 (h:Int)))=some (.lst (xs.take h)):=by
 have e:unit sz xs=true:=A0R.2 λx hx=>by simpa using hu x hx
 simp only[A7j,boundOf,A2H,if_true,A1U,hh,A0Q,and_self,e,Nat.sub_zero,A3V]
theorem D0i{b1 b2:Blk}{cc:Nat}(h:1<=cc):Sym.Sub (Sym.nil.upd 0 b1) ((Sym.nil.upd 0 b1).upd cc b2):=by
 intro j b hj;simp only[Hp.upd,Sym.nil]at hj ⊢;split at hj
 ·rename_i h0;rw[iN,if_pos h0];exact hj
 ·cases hj
theorem c_lkR(r:Ru)(n:List UInt8)(h1:r.decls.length<=1000000000)(h2:r.modes.length<=1000000000):PC Tryz.prog 27 [r.v,.str n] (.tup [I64 (H5 r n).1,I64 (H5 r n).2]):=by
 refine PC.ofT A3 rfl (A0F rfl) (by simp[Ru.v,DV.nlL,DV.nl,S6,S0]) rfl ?_;obtain⟨D,M⟩:=r;dsimp only at h1 h2;obtain⟨R,hR⟩:∃R:DV,R=.tup [I64 (H5 ⟨D,M⟩ n).1,I64 (H5 ⟨D,M⟩ n).2]:=⟨_,rfl⟩;rw[<- hR];unfold H5 at hR;dsimp only[Ru.v]at hR ⊢;refine wAp ?_;refine A9 (λi:Nat=>[(1,.str n),(2,.ptr 0 0),(6,I64 i)]) (λ_=>Sym.nil.upd 0 ⟨0,true,[D7 D,F6 M]⟩) (λi c=>1<=c/\i<=D.length/\lkD [] D n=lkD (D.take i) (D.drop i) n) (λi=>D.length-i) 0 (by simp[B5,tm,Tm.upd]) (Sub.refl _) ⟨A0E _,A0Q _,rfl⟩ ?_;rintro i c ⟨h1c,hk,he⟩;by_cases hlt:i<D.length
 ·have hd:=dtz hlt;have hg:=A0B hlt;have hw:=w64 (n:=(i:Int)+1);rw[D6s hg]at he;have hcn:=E8o (c_cntR ⟨D.take i,[]⟩ D[i].kind (by rw[A1C];omega) (A0Q _));generalize D[i]=d at hg he hcn;have ne0:=A1z 0 c (by omega);have hsl:=λH=>D5b (xs:=D.map Dc.v) (h:=i) (sz:=4) (by rw[A0N];omega) (A9k _) H;rw[<- List.map_take]at hsl;by_cases hn:d.name=n
  ·have q0:(d.name==n)=true:=by simp[hn]
   rw[if_pos hn]at he;rw[he]at hR;by_cases h6:d.kind<6
   ·have q6:decide (d.kind<6)=true:=by simpa using h6
    rw[if_pos h6]at hR;refine wAr (wJ hd (wJ hg (wJ hw (wJ q0 (wJ q6 (wJ @B1a (wJ ne0 (wJ @A0 @A1)))))))) ?_;refine⟨n9,?_⟩;refine wAw ne0 @A0 @A1 ?_;exact A4 hR.symm
   ·have q6:decide (d.kind<6)=false:=by simpa using h6
    rw[if_neg h6]at hR;refine wA7 hcn (wJ hd (wJ hg (wJ hw (wJ q0 (wJ q6 (wJ @B1a (wJ ne0 (wJ @A0 (wJ @A1 hsl))))))))) ?_;refine⟨n9,?_⟩;refine wA8 hcn (wJ ne0 (wJ @A0 @A1)) ?_;exact A4 hR.symm
  ·have q0:(d.name==n)=false:=by simp[hn]
   rw[if_neg hn]at he;refine wAr (wJ hd (wJ hg (wJ hw (wJ q0 (wJ @B1a (wJ ne0 (wJ @A0 @A1))))))) ?_;exact⟨i+1,by simp,D0i h1c,inv ⟨a8,a8,he⟩,by omega⟩
 have hd:=dfz hlt;rw[A2R (by omega),lkD]at he;rw[he]at hR;refine wAr hd ?_;clear he hd hlt hk i;refine A9 (λi:Nat=>[(1,.str n),(2,.ptr 0 0),(8,I64 i)]) (λ_=>Sym.nil.upd 0 ⟨0,true,[D7 D,F6 M]⟩) (λi c=>i<=M.length/\lkM 0 M n=lkM i (M.drop i) n) (λi=>M.length-i) 0 (by simp[B5,tm,Tm.upd]) (Sub.refl _) ⟨A0Q _,rfl⟩ ?_;rintro i c ⟨hk,he⟩;by_cases hlt:i<M.length
 ·have hd:=dtz hlt;have hg:=A0B hlt;have hw:=w64 (n:=(i:Int)+1);rw[D6q hg]at he;generalize M[i]=d at hg he;by_cases hn:d.name=n
  ·have q0:(d.name==n)=true:=by simp[hn]
   rw[if_pos hn]at he;rw[he]at hR;refine wAr (wJ hd (wJ hg (wJ hw (wJ q0 @C5a)))) ?_;exact A4 hR.symm
  ·have q0:(d.name==n)=false:=by simp[hn]
   rw[if_neg hn]at he;refine wAr (wJ hd (wJ hg (wJ hw (wJ q0 @C5a)))) ?_;exact⟨i+1,by simp,Sub.refl _,inv ⟨a8,he⟩,by omega⟩
 have hd:=dfz hlt;rw[A2R (by omega),lkM]at he;rw[he]at hR;refine wAr hd ?_;exact A4 hR.symm
theorem E5f(h:Hd):h.v=.agg [I64 h.trig,.str h.name,G7 h.body,I64 h.pos]:=rfl
theorem c_vdR(r:Ru)(hB:r.sz<4000000):PC Tryz.prog 26 [r.v] (.bool (X3 r)):=by
 have:=c_ValidR31 r hB
 rwa [D9v]at this
theorem E3l(r:Ru):(D8w r).nl=true:=by unfold D8w;split;exact F0v _;rfl
def D6o(r:Ru)(n:List UInt8):DV:=if X3 r=true then .tup [I64 (H5 r n).1,I64 (H5 r n).2] else .tup [I64 0,I64 0]
theorem E9p(r:Ru)(n:List UInt8):(D6o r n).nl=true:=by unfold D6o;split<;>rfl
theorem c_LookupR(r:Ru)(n:List UInt8)(hB:r.sz<4000000):PC Tryz.prog 9 [r.v,.str n] (D6o r n):=by
 refine PC.ofT A3 rfl (A0F rfl) (by simp[Ru.v,DV.nlL,DV.nl,S6,S0]) (E9p _ _) ?_;have hv:=c_vdR r hB;have hl:=c_lkR r n (by have:=E4l r;omega) (by have:=E4k r;omega);unfold D6o;generalize X3 r=bv at *;obtain⟨D,M⟩:=r;dsimp only[Ru.v]at hv hl ⊢;cases bv<;>(refine wBb hv hl ?_);all_goals exact A4 rfl
theorem B5g:C6g (inj (Value.map none))=some (none,⟨0,true,[.mnil]⟩):=rfl
abbrev beC(r:Ru):List DV:=[.snil,.snil,.snil,J5 (r.modes.map Md.prio),J5 ((r.decls.filter λd=>d.kind=6).map Dc.value),I64 (cnD r.decls 7:Int),I64 (cnD r.decls 8:Int),.mp .s (mkK (inL (nmL r))) (mvV (inL (nmL r)))]
theorem c_begin0(r:Ru)(h1:r.decls.length<=1000000)(h2:r.modes.length<=1000000):
  AC Tryz.prog 16 [r.v] Sym.nil 0 (λv H' _ => ∃id,v=.ptr id 0/\H'=Sym.nil.upd id ⟨0,true,beC r⟩):=by
 obtain⟨R,hR⟩:∃R,R=nmL r:=⟨_,rfl⟩;unfold beC;rw[<- hR];unfold nmL at hR;obtain⟨D,M⟩:=r;dsimp only at h1 h2 hR ⊢;dsimp only[Ru.v];refine AC.go A3 λhfr=>?_;refine wAs @B5g ?_;refine A9 (λq:Nat × NmL × Option Nat × List Int=>[(1,.ptr 0 0),(3,.ptr 2 0),(4,.mid 3),(19,D7 D),(20,I64 D.length),(21,I64 q.1)]) (λq=>bgM D M q.2.1 (ahM (D.take q.1)) none [] q.2.2.1 q.2.2.2)
  (λq c=>q.1<=D.length/\BN none [] q.2.2.1 q.2.2.2 c/\nmD [] [] D=nmD (D.take q.1) q.2.1 (D.drop q.1)/\q.2.2.2=((D.take q.1).filter λd=>d.kind=6).map Dc.value) (λq=>D.length-q.1) (0,[],none,[])
  (by simp[B5,tm,Tm.upd]) (B5j rfl rfl rfl rfl (λi h=>by cases h) (λi h=>by cases h)) ⟨A0Q _,⟨a8,λi h=>(by cases h),λi h=>(by cases h),λi j h=>(by cases h),λ_=>rfl,λ_=>rfl⟩,rfl,rfl⟩ ?_
 rintro⟨i,l,o,vs⟩ c ⟨hk,hN,he,hvs⟩;dsimp only at hk hN he hvs ⊢;have h4c:=hN.c4;by_cases hlt:i<D.length
 ·have hd:=dtz hlt;have hg:=A0B hlt;have hw:=w64 (n:=(i:Int)+1);rw[C1g hg]at he;have hah:ahM (D.take (i+1))=ahS (ahM (D.take i)) D[i].kind:=by rw[A0V,hg];exact B5m _ _
  have hvn:((D.take (i+1)).filter λd=>d.kind=6).map Dc.value=vs++(if D[i].kind=6 then [D[i].value] else []):=by
   rw[A0V,hg,List.filter_append,A0S, <- hvs]
   congr 1
   by_cases h:D[i].kind=6<;>simp[h]
  have hvl:vs.length<=D.length:=by
   rw[hvs,A0N];exact A1B (List.length_filter_le _ _) (by rw[A1C];omega)
  have hlk:=C9y D[i].kind (ahM (D.take i));have hmu:=E5v D[i].kind (ahM (D.take i));have hcn:=C6l (D.take i) D[i].kind;have hcl:=C5z (D.take i) D[i].kind;rw[A1C]at hcl;generalize D[i]=d at hg he hah hlk hmu hcn hcl hvn;rw[hcn]at hlk hmu;have hw2:=w64 (n:=(cnD (D.take i) d.kind:Int)+1);have hb0:=bg0 (D:=D) (M:=M) (l:=l) (a:=ahM (D.take i)) hN;have hb1:=bg1 (D:=D) (M:=M) (l:=l) (a:=ahM (D.take i)) hN;have hb2:=bg2 (D:=D) (M:=M) (l:=l) (a:=ahM (D.take i)) hN;have hb3:=bg3 (D:=D) (M:=M) (l:=l) (a:=ahM (D.take i)) hN;have hbV:=λq (hi:o=some q)=>bgV (D:=D) (M:=M) (l:=l) (a:=ahM (D.take i)) (o2:=none) (ps:=[]) (vs:=vs) hi;have hbn:=λj (hj:c<=j)=>bgN (D:=D) (M:=M) (l:=l) (a:=ahM (D.take i)) hN hj;have hno:=hN.no;have hho:=hN.ho;generalize hHH:bgM D M l (ahM (D.take i)) none [] o vs=HH at hb0 hb1 hb2 hb3 hbn hbV ⊢;have ne0:=A7s 0 1 2 3 c (c+1) (by omega);generalize hQ:lp _ _ _ _ _ _=Q;have tail:∀(X:Hp) (c1:Nat) (o':Option Nat),c<c1->BN none [] o' (vs++(if d.kind=6 then [d.value] else [])) c1->(∀i,o'=some i->i≠c)->X 0=some ⟨0,true,[D7 D,F6 M]⟩->X 1=some (B5s l) ->
    X 2=some ⟨0,true,bgC none [] o' (vs++(if d.kind=6 then [d.value] else [])) 0 0 (.mid 1)⟩->X 3=some ⟨0,true,[.mpc (.i .i64) (ahK (ahS (ahM (D.take i)) d.kind)) (ahV (ahS (ahM (D.take i)) d.kind))]⟩ ->
    X c=some ⟨0,true,[I64 d.kind,.str d.name,I64 d.value,I64 d.pos]⟩->(∀i,o'=some i->X i=some ⟨1,true,(vs++(if d.kind=6 then [d.value] else [])).map I64⟩)->(∀j,c1<=j->X j=none) ->
    IW Tryz.prog 139 (pz Tryz.prog 16 (.o (.i (.i (.o (.o .h)))))) ⟨tm [(1,.ptr 0 0),(3,.ptr 2 0),(4,.mid 3),(6,.ptr c 0),(7,I64 (A0e (D.take i) d)),(19,D7 D),(20,I64 D.length),(21,I64 i)],X,c1⟩ (bk 1 (sq Tryz.prog 139 (pz Tryz.prog 16 (.i (.o (.i (.i (.o .h)))))) Q)):=by
   intro X c1 o' hc1 hN' hoc x0 x1 x2 x3 xc xo xf;rw[<- hvn]at hN' x2 xo;subst hQ;cases hl:l.lookup d.name with
   |some y =>
    obtain⟨e1,e2⟩:=C1b (q:=(d.kind,A0e (D.take i) d)) hl;(repeat'((with_reducible first|apply wr|refine k_cu ?_ ?_|apply wb2<;>(intro hb;try simp only[hb]))<;>try simp only[go_sem,seval,x0,x1,x2,x3,xc,e2]));refine⟨xf _ (by omega),?_⟩;(repeat'((with_reducible first|apply wr|refine k_cu ?_ ?_|apply wb2<;>(intro hb;try simp only[hb]))<;>try simp only[go_sem,seval,x0,x1,x2,x3,xc,e2,hw]));refine⟨(i+1,A1m l d.name (d.kind,A0e (D.take i) d),o',((D.take (i+1)).filter λd=>d.kind=6).map Dc.value),i6,?_,inv ⟨hlt,hN'.le (by omega),he,rfl⟩,by simp only;omega⟩;dsimp only;rw[hah,e1];exact B5j x0 x1 x2 x3 (λi h=>by cases h) xo
   |none =>
    obtain⟨e1,e2,e3⟩:=C1c (q:=(d.kind,A0e (D.take i) d)) hl;(repeat'((with_reducible first|apply wr|refine k_cu ?_ ?_|apply wb2<;>(intro hb;try simp only[hb]))<;>try simp only[go_sem,seval,x0,x1,x2,x3,xc,e2,e3]));refine⟨xf _ (by omega),?_⟩;(repeat'((with_reducible first|apply wr|refine k_cu ?_ ?_|apply wb2<;>(intro hb;try simp only[hb]))<;>try simp only[go_sem,seval,x0,x1,x2,x3,xc,e2,e3,hw]));refine⟨(i+1,A1m l d.name (d.kind,A0e (D.take i) d),o',((D.take (i+1)).filter λd=>d.kind=6).map Dc.value),i6,?_,inv ⟨hlt,hN'.le (by omega),he,rfl⟩,by simp only;omega⟩;dsimp only;rw[hah];exact B5j (by rw[hnO];exact x0) (by rw[A0,e1]) (by rw[hnO];exact x2) (by rw[hnO];exact x3) (λi h=>by cases h) (λi h=>by have:=hN'.ho i h;rw[hnO];exact xo i h)
  have LL:∀z:Int,z=A0e (D.take i) d->B5 [(1,DV.ptr 0 0),(3,.ptr 2 0),(4,.mid 3),(6,.ptr c 0),(7,I64 (A0e (D.take i) d)),(19,D7 D),(20,I64 D.length),(21,I64 i)] (tm [(1,DV.ptr 0 0),(3,.ptr 2 0),(4,.mid 3),(6,.ptr c 0),(7,I64 z),(19,D7 D),(20,I64 D.length),(21,I64 i)]):=λz h=>by rw[h];simp[B5,tm,Tm.upd]
  by_cases k6:d.kind=6
  ·have d6:(d.kind==6)=true:=by simpa using k6
   have hnum:A0e (D.take i) d=(cnD (D.take i) d.kind:Int):=by rw[A0e,if_pos (.inl k6)]
   refine wAl (wJ hb0 (wJ hb1 (wJ hb2 (wJ hb3 (wJ hd (wJ hg (wJ hw (wJ hw2 (wJ hlk (wJ hmu (wJ d6 (wJ @B1a (wJ ne0 (wJ @A0 @A1)))))))))))))) ?_;refine A5e (F9 (cs:=vs.map I64) (λe=>⟨A2v (hno e),by rw[hno e];rfl⟩) (λi hi=>?_) (by rw[A0N,Nat.mul_one]) (by omega) (by omega) (by omega)) ?_
   ·have:=hho i hi;rw[hnO,hnO,hnO];exact hbV i hi
   have dm2:∀X:Hp,delO X o 2=X 2:=λX=>C5 (λq hq e=>by have:=hho q hq;omega);simp only[go_sem,seval,dm2,hb2,ne0,A0];generalize hY:Hp.upd (delO _ _) (c+1+14) _=Y;have yo:∀j,j≠c+1+14->j≠c+1+8->(∀q,o=some q->j≠q)->Y j=((HH.upd c ⟨0,true,[I64 d.kind,.str d.name,I64 d.value,I64 d.pos]⟩).upd 3 ⟨0,true,[.mpc (.i .i64) (ahK (ahS (ahM (D.take i)) d.kind)) (ahV (ahS (ahM (D.take i)) d.kind))]⟩) j:=λj e1 e2 e3=>by
    rw[<- hY,h_ne e1,C5 e3,h_ne e2]
   have yl:∀j,j<=c->(∀q,o=some q->j≠q)->Y j=((HH.upd c ⟨0,true,[I64 d.kind,.str d.name,I64 d.value,I64 d.pos]⟩).upd 3 ⟨0,true,[.mpc (.i .i64) (ahK (ahS (ahM (D.take i)) d.kind)) (ahV (ahS (ahM (D.take i)) d.kind))]⟩) j:=λj e1 e3=>yo j (by omega) (by omega) e3;have y0:Y 0=some ⟨0,true,[D7 D,F6 M]⟩:=by rw[yl 0 (by omega) (λq hq=>by have:=hho q hq;omega),hnO,hnO];exact hb0
   have y1:Y 1=some (B5s l):=by rw[yl 1 (by omega) (λq hq=>by have:=hho q hq;omega),hnO,hnO];exact hb1
   have y2:Y 2=some ⟨0,true,bgC none [] o vs 0 0 (.mid 1)⟩:=by rw[yl 2 (by omega) (λq hq=>by have:=hho q hq;omega),hnO,hnO];exact hb2
   have y3:Y 3=some ⟨0,true,[.mpc (.i .i64) (ahK (ahS (ahM (D.take i)) d.kind)) (ahV (ahS (ahM (D.take i)) d.kind))]⟩:=by rw[yl 3 (by omega) (λq hq=>by have:=hho q hq;omega),A0]
   have yc:Y c=some ⟨0,true,[I64 d.kind,.str d.name,I64 d.value,I64 d.pos]⟩:=by rw[yl c (by omega) (λq hq=>by have:=hho q hq;omega),hnO,A0]
   have yn:∀j,c+1<=j->j≠c+1+14->j≠c+1+8->Y j=none:=λj hj e1 e2=>by rw[yo j e1 e2 (λq hq=>by have:=hho q hq;omega),hnO,hnO];exact hbn _ (by omega)
   have ya:Y (c+1+14)=some ⟨1,true,vs.map I64++[I64 d.value]⟩:=by rw[<- hY,A0]
   refine⟨yn _ (by omega) (by omega) (by omega),?_⟩;simp only[if_pos k6]at tail;have hN1:BN none [] (some (c+1+14)) (vs++[d.value]) (c+1+14+1):=hN.newV (by omega) (by omega);refine IW.stage (L:=[(1,.ptr 0 0),(3,.ptr 2 0),(4,.mid 3),(6,.ptr c 0),(7,I64 (A0e (D.take i) d)),(19,D7 D),(20,I64 D.length),(21,I64 i)]) (by rw[hnum];simp[B5,tm,Tm.upd]) (tail _ _ (some (c+1+14)) (by omega) hN1 (λq hq=>by cases hq;omega) ?_ ?_ ?_ ?_ ?_ (λq hq=>?_) (λq hq=>?_))
   ·rw[hnO];exact y0
   ·rw[hnO];exact y1
   ·rw[A0];simp[todoV]
   ·rw[hnO];exact y3
   ·rw[hnO];exact yc
   ·cases hq;rw[hnO,ya];simp
   ·rw[hnO];exact yn q (by omega) (by omega) (by omega)
  have d6:(d.kind==6)=false:=by simpa using k6
  simp only[if_neg k6,A1D]at tail;by_cases k7:d.kind=7
  ·have d7:(d.kind==7)=true:=by simpa using k7
   have hnum:A0e (D.take i) d=(cnD (D.take i) d.kind:Int):=by rw[A0e,if_pos (.inr (.inl k7))]
   refine wAl (wJ hb0 (wJ hb1 (wJ hb2 (wJ hb3 (wJ hd (wJ hg (wJ hw (wJ hw2 (wJ hlk (wJ hmu (wJ d6 (wJ d7 (wJ @B1a (wJ ne0 (wJ @A0 @A1))))))))))))))) ?_;refine IW.stage (L:=[(1,.ptr 0 0),(3,.ptr 2 0),(4,.mid 3),(6,.ptr c 0),(7,I64 (A0e (D.take i) d)),(19,D7 D),(20,I64 D.length),(21,I64 i)]) (by rw[hnum];simp[B5,tm,Tm.upd]) (tail _ _ o (by omega) (hN.le (by omega)) (λq hq=>by have:=hho q hq;omega) ?_ ?_ ?_ ?_ ?_ (λq hq=>?_) (λq hq=>?_))
   ·rw[hnO,hnO];exact hb0
   ·rw[hnO,hnO];exact hb1
   ·rw[hnO,hnO];exact hb2
   ·rw[A0]
   ·rw[hnO,A0]
   ·have:=hho q hq;rw[hnO,hnO];exact hbV q hq
   ·rw[hnO,hnO];exact hbn q (by omega)
  have d7:(d.kind==7)=false:=by simpa using k7
  by_cases k8:d.kind=8
  ·have d8:(d.kind==8)=true:=by simpa using k8
   have hnum:A0e (D.take i) d=(cnD (D.take i) d.kind:Int):=by rw[A0e,if_pos (.inr (.inr k8))]
   refine wAl (wJ hb0 (wJ hb1 (wJ hb2 (wJ hb3 (wJ hd (wJ hg (wJ hw (wJ hw2 (wJ hlk (wJ hmu (wJ d6 (wJ d7 (wJ d8 (wJ @B1a (wJ ne0 (wJ @A0 @A1)))))))))))))))) ?_;refine IW.stage (L:=[(1,.ptr 0 0),(3,.ptr 2 0),(4,.mid 3),(6,.ptr c 0),(7,I64 (A0e (D.take i) d)),(19,D7 D),(20,I64 D.length),(21,I64 i)]) (by rw[hnum];simp[B5,tm,Tm.upd]) (tail _ _ o (by omega) (hN.le (by omega)) (λq hq=>by have:=hho q hq;omega) ?_ ?_ ?_ ?_ ?_ (λq hq=>?_) (λq hq=>?_))
   ·rw[hnO,hnO];exact hb0
   ·rw[hnO,hnO];exact hb1
   ·rw[hnO,hnO];exact hb2
   ·rw[A0]
   ·rw[hnO,A0]
   ·have:=hho q hq;rw[hnO,hnO];exact hbV q hq
   ·rw[hnO,hnO];exact hbn q (by omega)
  ·have d8:(d.kind==8)=false:=by simpa using k8
   have hnum:A0e (D.take i) d=d.value:=by rw[A0e,iN]
   refine wAl (wJ hb0 (wJ hb1 (wJ hb2 (wJ hb3 (wJ hd (wJ hg (wJ hw (wJ hw2 (wJ hlk (wJ hmu (wJ d6 (wJ d7 (wJ d8 (wJ @B1a (wJ ne0 (wJ @A0 @A1)))))))))))))))) ?_;refine IW.stage (L:=[(1,.ptr 0 0),(3,.ptr 2 0),(4,.mid 3),(6,.ptr c 0),(7,I64 (A0e (D.take i) d)),(19,D7 D),(20,I64 D.length),(21,I64 i)]) (by rw[hnum];simp[B5,tm,Tm.upd]) (tail _ _ o (by omega) (hN.le (by omega)) (λq hq=>by have:=hho q hq;omega) ?_ ?_ ?_ ?_ ?_ (λq hq=>?_) (λq hq=>?_))
   ·rw[hnO,hnO];exact hb0
   ·rw[hnO,hnO];exact hb1
   ·rw[hnO,hnO];exact hb2
   ·rw[A0]
   ·rw[hnO,A0]
   ·have:=hho q hq;rw[hnO,hnO];exact hbV q hq
   ·rw[hnO,hnO];exact hbn q (by omega)
 have hd:=dfz hlt;have hi:i=D.length:=a8
 subst hi;rw[A4L,nmD]at he;rw[he]at hR;rw[A1T]at hvs ⊢;clear he hlt hk;have hvl:vs.length<=D.length:=by
  rw[hvs,A0N];exact List.length_filter_le _ _
 have hb0:=bg0 (D:=D) (M:=M) (l:=l) (a:=ahM D) hN;refine wAr (wJ hd hb0) ?_;obtain⟨A,hA⟩:∃A,A=ahM D:=⟨_,rfl⟩;have hA7:=C9y 7 A;have hA8:=C9y 8 A;rw[hA,C6l]at hA7 hA8;rw[<- hA]at hb0 hA7 hA8 ⊢;clear hb0 h4c hd;refine A9 (λq:Nat × NmL × Option Nat × List Int=>[(3,.ptr 2 0),(4,.mid 3),(86,F6 M),(87,I64 M.length),(88,I64 q.1)]) (λq=>bgM D M q.2.1 A q.2.2.1 q.2.2.2 o vs)
  (λq c=>q.1<=M.length/\BN q.2.2.1 q.2.2.2 o vs c/\R=nmX q.1 q.2.1 (M.drop q.1)/\q.2.2.2=(M.take q.1).map Md.prio) (λq=>M.length-q.1) (0,l,none,[])
  (by simp[B5,tm,Tm.upd]) (Sub.refl _) ⟨A0Q _,hN,hR,rfl⟩ ?_
 clear hN hR;rintro⟨i,l,o2,ps⟩ c ⟨hk,hN,he,hps⟩;dsimp only at hk hN he hps ⊢;have h4c:=hN.c4;have hb0:=bg0 (D:=D) (M:=M) (l:=l) (a:=A) hN;have hb1:=bg1 (D:=D) (M:=M) (l:=l) (a:=A) hN;have hb2:=bg2 (D:=D) (M:=M) (l:=l) (a:=A) hN;have hb3:=bg3 (D:=D) (M:=M) (l:=l) (a:=A) hN;have hbV:=λq (hi:o=some q)=>bgV (D:=D) (M:=M) (l:=l) (a:=A) (o2:=o2) (ps:=ps) (vs:=vs) hi;have hbP:=λq (hi:o2=some q)=>bgP (D:=D) (M:=M) (l:=l) (a:=A) hN hi;have hbn:=λj (hj:c<=j)=>bgN (D:=D) (M:=M) (l:=l) (a:=A) hN hj;have hno:=hN.n2;have hho:=hN.h2;have hho1:=hN.ho;have hne12:=hN.ne;by_cases hlt:i<M.length
 ·have hd:=dtz hlt;have hg:=A0B hlt;have hw:=w64 (n:=(i:Int)+1);rw[C1f hg]at he;have hpn:(M.take (i+1)).map Md.prio=ps++[M[i].prio]:=by rw[A0V,hg,A0S, <- hps];rfl
  have hpl:ps.length<=M.length:=by rw[hps,A0N,A1C];omega
  generalize M[i]=d at hg he hpn;generalize hHH:bgM D M l A o2 ps o vs=HH at hb0 hb1 hb2 hb3 hbn hbV hbP ⊢;have ne0:=A7s 0 1 2 3 c (c+1) (by omega);(repeat'((with_reducible first|refine O8 (p:=IW _ _ (pz Tryz.prog 16 (.i (.i (.i (.i (.i .h)))))) _ _) ?_|refine wr ?_|refine k_cu ?_ ?_|apply wb2<;>(intro hb;try simp only[hb]))<;>try simp only[go_sem,seval,hb0,hb1,hb2,hb3,hd,hg,hw,C5a,A0N,ne0,A0,A1]));refine A5e (F9 (cs:=ps.map I64) (λe=>⟨A2v (hno e),by rw[hno e];rfl⟩) (λi hi=>?_) (by rw[A0N,Nat.mul_one]) (by omega) (by omega) (by omega)) ?_
  ·have:=hho i hi
   repeat rw[hnO]
   exact hbP i hi
  have dm2:∀X:Hp,delO X o2 2=X 2:=λX=>C5 (λq hq e=>by have:=hho q hq;omega);simp only[go_sem,seval,dm2,hb2,ne0,A0];generalize hY:Hp.upd (delO _ _) (c+1+14) _=Y;have yo:∀j,j≠c+1+14->j≠c+1+8->(∀q,o2=some q->j≠q)->Y j=(HH.upd c ⟨0,true,[.str d.name,I64 d.prio,W0 d.hds,I64 d.pos]⟩) j:=λj e1 e2 e3=>by
   rw[<- hY,h_ne e1,C5 e3,h_ne e2]
  have yl:∀j,j<c->(∀q,o2=some q->j≠q)->Y j=HH j:=λj e1 e3=>by rw[yo j (by omega) (by omega) e3,hnO]
  have y0:Y 0=some ⟨0,true,[D7 D,F6 M]⟩:=by rw[yl 0 (by omega) (λq hq=>by have:=hho q hq;omega)];exact hb0
  have y1:Y 1=some (B5s l):=by rw[yl 1 (by omega) (λq hq=>by have:=hho q hq;omega)];exact hb1
  have y3:Y 3=some ⟨0,true,[.mpc (.i .i64) (ahK A) (ahV A)]⟩:=by rw[yl 3 (by omega) (λq hq=>by have:=hho q hq;omega)];exact hb3
  have yc:Y c=some ⟨0,true,[.str d.name,I64 d.prio,W0 d.hds,I64 d.pos]⟩:=by rw[yo c (by omega) (by omega) (λq hq=>by have:=hho q hq;omega),A0]
  have yn:∀j,c+1<=j->j≠c+1+14->j≠c+1+8->Y j=none:=λj hj e1 e2=>by rw[yo j e1 e2 (λq hq=>by have:=hho q hq;omega),hnO];exact hbn _ (by omega)
  have ya:Y (c+1+14)=some ⟨1,true,ps.map I64++[I64 d.prio]⟩:=by rw[<- hY,A0]
  have yV:∀q,o=some q->Y q=some ⟨1,true,vs.map I64⟩:=λq hq=>by
   have:=hho1 q hq;rw[yl q (by omega) (λz hz e=>hne12 z q hz hq e.symm)];exact hbV q hq
  refine⟨yn _ (by omega) (by omega) (by omega),?_⟩;obtain⟨Z,hZ⟩:∃Z:Hp,Z=Y.upd 2 ⟨0,true,[.snil,.snil,.snil,.slc (c+1+14) 0 (ps.length+1),todoV o vs.length,I64 0,I64 0,.mid 1]⟩:=⟨_,rfl⟩;rw[<- hZ];have z0:Z 0=some ⟨0,true,[D7 D,F6 M]⟩:=by rw[hZ,hnO];exact y0
  have z1:Z 1=some (B5s l):=by rw[hZ,hnO];exact y1
  have z2:Z 2=some ⟨0,true,bgC (some (c+1+14)) (ps++[d.prio]) o vs 0 0 (.mid 1)⟩:=by rw[hZ,A0];simp[todoV]
  have z3:Z 3=some ⟨0,true,[.mpc (.i .i64) (ahK A) (ahV A)]⟩:=by rw[hZ,hnO];exact y3
  have zc:Z c=some ⟨0,true,[.str d.name,I64 d.prio,W0 d.hds,I64 d.pos]⟩:=by rw[hZ,hnO];exact yc
  have zp:∀q,some (c+1+14)=some q->Z q=some ⟨1,true,(ps++[d.prio]).map I64⟩:=λq hq=>by cases hq;rw[hZ,hnO,ya];simp
  have zV:∀q,o=some q->Z q=some ⟨1,true,vs.map I64⟩:=λq hq=>by have:=hho1 q hq;rw[hZ,hnO];exact yV q hq
  have zn:∀j,c+1+14+1<=j->Z j=none:=λj hj=>by rw[hZ,hnO];exact yn j (by omega) (by omega) (by omega)
  have hN1:BN (some (c+1+14)) (ps++[d.prio]) o vs (c+1+14+1):=hN.newP (by omega) (by omega);clear hZ ya yn yV yc y0 y1 y3 yl yo hY;rw[<- hpn]at hN1 z2 zp;cases hl:l.lookup d.name with
  |some y =>
   obtain⟨e1,e2⟩:=C1b (q:=((9:Int),(i:Int))) hl;(repeat'((with_reducible first|apply wr|refine k_cu ?_ ?_|apply wb2<;>(intro hb;try simp only[hb]))<;>try simp only[go_sem,seval,z0,z1,z2,z3,zc,e2]));refine⟨zn _ (by omega),?_⟩;(repeat'((with_reducible first|apply wr|refine k_cu ?_ ?_|apply wb2<;>(intro hb;try simp only[hb]))<;>try simp only[go_sem,seval,z0,z1,z2,z3,zc,e2,hw]));refine⟨(i+1,A1m l d.name (9,(i:Int)),some (c+1+14),(M.take (i+1)).map Md.prio),i6,?_,inv ⟨hlt,hN1.le (by omega),he,rfl⟩,by simp only;omega⟩;dsimp only;rw[e1];exact B5j z0 z1 z2 z3 zp zV
  |none =>
   obtain⟨e1,e2,e3⟩:=C1c (q:=((9:Int),(i:Int))) hl;(repeat'((with_reducible first|apply wr|refine k_cu ?_ ?_|apply wb2<;>(intro hb;try simp only[hb]))<;>try simp only[go_sem,seval,z0,z1,z2,z3,zc,e2,e3]));refine⟨zn _ (by omega),?_⟩;(repeat'((with_reducible first|apply wr|refine k_cu ?_ ?_|apply wb2<;>(intro hb;try simp only[hb]))<;>try simp only[go_sem,seval,z0,z1,z2,z3,zc,e2,e3,hw]));refine⟨(i+1,A1m l d.name (9,(i:Int)),some (c+1+14),(M.take (i+1)).map Md.prio),i6,?_,inv ⟨hlt,hN1.le (by omega),he,rfl⟩,by simp only;omega⟩;dsimp only;exact B5j (by rw[hnO];exact z0) (by rw[A0,e1]) (by rw[hnO];exact z2) (by rw[hnO];exact z3) (λq h=>by have:=hN1.h2 q h;rw[hnO];exact zp q h) (λq h=>by have:=hho1 q h;rw[hnO];exact zV q h)
 have hd:=dfz hlt;have hi:i=M.length:=a8
 subst hi;rw[A4L,nmX]at he;rw[A1T]at hps;subst he;refine wAr (wJ hd (wJ hb2 (wJ hb3 (wJ hA7 hA8)))) ?_;rw[A1, <- hps, <- hvs];have hno':=hN.no;obtain⟨Z,hZ⟩:∃Z:Hp,Z=((Sym.nil.upd 0 ⟨0,true,[D7 D,F6 M]⟩).upd 1 (B5s R)).upd 3 ⟨0,true,[.mpc (.i .i64) (ahK A) (ahV A)]⟩:=⟨_,rfl⟩;have hz:∀j,4<=j->Z j=none:=λj hj=>by rw[hZ,hnO,hnO,hnO];rfl
 have e:(bgM D M R A o2 ps o vs).upd 2 ⟨0,true,[.snil,.snil,.snil,todoV o2 ps.length,todoV o vs.length,I64 (cnD D 7),I64 (cnD D 8),.mid 1]⟩ =
   optH (optH (Z.upd 2 ⟨0,true,[.snil,.snil,.snil]++[todoV o2 ps.length]++[todoV o vs.length,I64 (cnD D 7),I64 (cnD D 8),.mid 1]⟩) o2 ⟨1,true,cellsL (ps.map I64)⟩) o ⟨1,true,cellsL (vs.map I64)⟩:=by
  rw[A2f,A2f,hZ]
  funext j
  unfold bgM;cases o2<;>cases o<;>simp only[optH,Hp.upd]<;>(repeat' split)<;>first|rfl|(subst_vars;simp_all;done)|simp_all
 rw[e];have com:∀(B P:Blk),optH (Z.upd 2 B) o2 P=(optH Z o2 P).upd 2 B:=λB P=>by
  cases o2 with
  |none=>rfl
  |some i =>
   have:=hho i rfl
   funext j
   simp only[optH,Hp.upd]
   (repeat' split)<;>first|rfl|omega
 have one2:(todoV o2 ps.length).one=true:=by cases o2<;>rfl
 rw[com];have g1:GL (optH ((optH Z o2 ⟨1,true,cellsL (ps.map I64)⟩).upd 2 ⟨0,true,[.snil,.snil,.snil,todoV o2 ps.length]++[todoV o vs.length]++[I64 (cnD D 7),I64 (cnD D 8),.mid 1]⟩) o ⟨1,true,cellsL (vs.map I64)⟩) [.ptr 2 0]
   ((optH Z o2 ⟨1,true,cellsL (ps.map I64)⟩).upd 2 ⟨0,true,[.snil,.snil,.snil,todoV o2 ps.length]++[.lst (vs.map I64)]++[I64 (cnD D 7),I64 (cnD D 8),.mid 1]⟩) [.ptr 2 0] :=
  g_fin (λd hd=>by simp at hd;rcases hd with rfl|rfl|rfl|rfl|rfl<;>first|rfl|exact one2) (λe=>by rw[hno' e];rfl) (λi hi=>⟨by have:=hho1 i hi;omega,by rw[B9 (λq hq e=>hne12 q i hq hi e.symm)];exact hz i (hho1 i hi).1⟩) (by simp) (λx hx=>by obtain⟨y, -,rfl⟩:=A0X.1 hx;rfl)
 have g2:GL (optH (Z.upd 2 ⟨0,true,[.snil,.snil,.snil]++[todoV o2 ps.length]++[.lst (vs.map I64),I64 (cnD D 7),I64 (cnD D 8),.mid 1]⟩) o2 ⟨1,true,cellsL (ps.map I64)⟩) [.ptr 2 0]
   (Z.upd 2 ⟨0,true,[.snil,.snil,.snil]++[.lst (ps.map I64)]++[.lst (vs.map I64),I64 (cnD D 7),I64 (cnD D 8),.mid 1]⟩) [.ptr 2 0] :=
  g_fin (λd hd=>by simp at hd;rcases hd with rfl|rfl|rfl|rfl|rfl<;>rfl) (λe=>by rw[hno e];rfl) (λi hi=>⟨by have:=hho i hi;omega,hz i (hho i hi).1⟩) (by simp) (λx hx=>by obtain⟨y, -,rfl⟩:=A0X.1 hx;rfl)
 have g3:GL (Z.upd 2 ⟨0,true,[.snil,.snil,.snil,.lst (ps.map I64),.lst (vs.map I64),I64 (cnD D 7),I64 (cnD D 8)]++[.mid 1]++[]⟩) [.ptr 2 0]
   (Sym.nil.upd 2 ⟨0,true,[.snil,.snil,.snil,.lst (ps.map I64),.lst (vs.map I64),I64 (cnD D 7),I64 (cnD D 8)]++[.mp .s (mkK (inL R)) (mvV (inL R))]++[]⟩) [.ptr 2 0] :=
  GL.frzmC (id:=1) (k:=2) (u:=0) (by rw[hnO,hZ];rfl) A0 (by omega) A0 (λj hj=>.inl (by rw[h_ne hj];rfl))
 rw[com]at g2;exact⟨_,_,(g1.trans g2).trans g3,2,rfl,rfl⟩
theorem F1r(r:Ru):∀d∈beC r,d.nl=true:=by
 intro d hd;simp only[beC,A0U,A1R,or_false]at hd;rcases hd with rfl|rfl|rfl|rfl|rfl|rfl|rfl|rfl
 ·rfl
 ·rfl
 ·rfl
 ·exact N4 _
 ·exact N4 _
 ·rfl
 ·rfl
 ·unfold mkK mvV inL;simp only[DV.nl];rw[A2E,A2E];rw[show((λp:List UInt8 × DV=>DV.str p.1)∘λp:List UInt8 × (Int × Int)=>(p.1,I64 p.2.2))=λp=>DV.str p.1 from rfl,show((λp:List UInt8 × DV=>p.2)∘λp:List UInt8 × (Int × Int)=>(p.1,I64 p.2.2))=λp=>I64 p.2.2 from rfl];rw[P1 (λ_=>rfl),P1 (λ_=>rfl)];rfl
theorem c_begin(r:Ru)(h1:r.decls.length<=1000000)(h2:r.modes.length<=1000000)(H:Hp)(c:Nat):
  AC Tryz.prog 16 [r.v] H c (λv H' c'=>v=.ptr c 0/\H'=H.upd c ⟨0,true,beC r⟩/\c'=c+1) :=
 AC.own (V:=λid=>.ptr id 0) (c_begin0 r h1 h2) (by simp[Ru.v,DV.nlL,DV.nl,S6,S0]) (F1r r) (fun ρ ρ' id id' v h1 h2 h3=>by
  cases h3 with
  |ptr _ _ t q hm=>exact .ptr id' 0 t (h1▸q) hm) H c
theorem c_gather(gs:List DV)(ks vs:List DV)(nm:List UInt8->Int)(hm:∀s,Sym.lkV (I64 0) false vs (G5 (.str s) ks 0)=some (I64 (nm s)))(hgs:gs[7]? = some (.mp .s ks vs))(D:List Dc)(M:List Md)(hs:(M.map λm=>m.hds.length).sum+M.length<=1000000)
  (H:Hp) (c t:Nat) (ht:H t=some ⟨0,true,gs⟩) (htc:t<c) (Post:DV->Hp->Nat->Prop)
  (hend:∀(o:Option Nat) (is:List Nat) (c1:Nat),c<=c1->PN (H.upd c ⟨0,true,[D7 D,F6 M]⟩) o is (J8 [] (hkM nm 0 M)) c1 ->
   IW Tryz.prog 68 (pz Tryz.prog 17 (.i (.o (.o (.o (.i .h)))))) ⟨tm [(5,todoV o (J8 [] (hkM nm 0 M)).length)],PM (H.upd c ⟨0,true,[D7 D,F6 M]⟩) o is (J8 [] (hkM nm 0 M)),c1⟩ (rt [.tmp 4] λv H' c' => ∃v2 H2,GL H' [v] H2 [v2]/\Post v2 H2 c')) :
  AC Tryz.prog 17 [.ptr t 0,.agg [D7 D,F6 M]] H c Post:=by
 refine AC.go A3 λhfr=>?_;refine wAp ?_;obtain⟨G,hG⟩:∃G:Hp,G=H.upd c ⟨0,true,[D7 D,F6 M]⟩:=⟨_,rfl⟩;rw[<- hG]at hend ⊢;have hGn:∀j,c+1<=j->G j=none:=λj hj=>zad
 have hGt:G t=some ⟨0,true,gs⟩:=by rw[hG,hnO];exact ht
 have hGc:G c=some ⟨0,true,[D7 D,F6 M]⟩:=by rw[hG,A0]
 refine A9 (λq:Nat × Option Nat × List Nat=>[(0,.ptr t 0),(5,todoV q.2.1 (J8 [] (hkM nm 0 (M.take q.1))).length),(13,F6 M),(14,I64 M.length),(15,I64 q.1)]) (λq=>PM G q.2.1 q.2.2 (J8 [] (hkM nm 0 (M.take q.1))))
  (λq cc=>c+1<=cc/\q.1<=M.length/\PN G q.2.1 q.2.2 (J8 [] (hkM nm 0 (M.take q.1))) cc) (λq=>M.length-q.1) (0,none,[])
  (by simp[B5,tm,Tm.upd,todoV]) (Sub.refl _) ⟨A0E _,A0Q _,⟨rfl,.nil,λi hi=>(by cases hi),λi hi=>(by cases hi),λ_=>rfl,hGn⟩⟩ ?_
 rintro⟨i,o,is⟩ cc ⟨hcc,hk,hN⟩;dsimp only at hk hN ⊢;have htl:∀k:Nat,((M.take k).map λm=>m.hds.length).sum<=(M.map λm=>m.hds.length).sum:=λk=>by
  have h:=congrArg (λl:List Md=>(l.map λm=>m.hds.length).sum) (A1P k M);simp only[A0S,List.sum_append]at h;omega
 have hlen:∀(k z:Nat) (l:List Md),(hkM nm k l).length=(l.map λm=>m.hds.length).sum:=λk z l=>by
  induction l generalizing k with
  |nil=>rfl
  |cons m l ih=>rw[hkM,A0A,A0N,ih];simp
 have hpb:∀q:List KB,PB q.length (J8 [] q):=λq=>by
  have key:∀(q:List KB) (n:Nat) (l:List D6),PB n l->PB (n+q.length) (J8 l q):=by
   intro q
   induction q with
   |nil=>intro n l h;exact h
   |cons x q ih =>
    intro n l h;have:=ih (n+1) _ (PB.add (k:=x.1) (b:=x.2) h);exact this.le (by simp only[A0C];omega)
  have:=key q 0 [] ⟨by simp,λp hp=>by cases hp⟩
  rwa [A1F]at this
 by_cases hlt:i<M.length
 rotate_left
 ·have hd:=dfz hlt;have hi:i=M.length:=by omega
  subst hi;rw[A1T]at hN ⊢;(repeat'((with_reducible first|refine O8 (p:=IW _ _ (pz Tryz.prog 17 (.i (.o (.o (.o (.i .h)))))) _ _) ?_|refine wr ?_|refine k_cu ?_ ?_|apply wb2<;>(intro hb;try simp only[hb]))<;>try simp only[go_sem,seval,hd,A0N]));exact IW.stage (L:=[(5,todoV o (J8 [] (hkM nm 0 M)).length)]) (by simp[B5,tm,Tm.upd]) (hend o is cc (by omega) hN)
 have hd:=dtz hlt;have hg:=A0B hlt;have hw:=w64 (n:=(i:Int)+1);have hsn:=C1v nm (k:=0) hg;have hsum:=htl (i+1);rw[A0V,hg]at hsum;simp only[Option.toList_some,A0S,A0P,List.map_nil,List.sum_append,A3D,List.sum_nil,A3C]at hsum;generalize M[i]=x at hg hsn hsum;rw[A1F]at hsn;have hfr0:=λj (hj:cc<=j)=>F1z hN hj;have hz0:=hN.fr cc (A0E _);refine wAr (wJ hd (wJ hg (wJ @C5a (wJ @A0 @A1)))) ?_;obtain⟨G1,hG1⟩:∃G1:Hp,G1=G.upd cc ⟨0,true,[.str x.name,I64 x.prio,W0 x.hds,I64 x.pos]⟩:=⟨_,rfl⟩;have hN1:PN G1 o is (J8 [] (hkM nm 0 (M.take i))) (cc+1):=by rw[hG1];exact hN.box (A0E _) (A1Q _)
 rw[hN.com (A0E _), <- hG1];have h1cc:PM G1 o is (J8 [] (hkM nm 0 (M.take i))) cc=some ⟨0,true,[.str x.name,I64 x.prio,W0 x.hds,I64 x.pos]⟩:=B9m hN1 (by rw[hG1,A0]);have hG1t:G1 t=some ⟨0,true,gs⟩:=by rw[hG1,hnO];exact hGt
 refine wAs h1cc ?_;clear h1cc;refine A9 (λq:Nat × Option Nat × List Nat=>[(0,.ptr t 0),(5,todoV q.2.1 (J8 (J8 [] (hkM nm 0 (M.take i))) ((x.hds.take q.1).map (hdK nm i))).length),(6,I64 i),(13,F6 M),(14,I64 M.length),(15,I64 i),(21,W0 x.hds),(22,I64 x.hds.length),(23,I64 q.1)])
  (λq=>PM G1 q.2.1 q.2.2 (J8 (J8 [] (hkM nm 0 (M.take i))) ((x.hds.take q.1).map (hdK nm i))))
  (λq c2=>cc+1<=c2/\q.1<=x.hds.length/\PN G1 q.2.1 q.2.2 (J8 (J8 [] (hkM nm 0 (M.take i))) ((x.hds.take q.1).map (hdK nm i))) c2) (λq=>x.hds.length-q.1) (0,o,is)
  (by simp[B5,tm,Tm.upd,J8]) (by simp only[A1J,List.map_nil,J8,List.foldl_nil];exact Sub.refl _) ⟨A0E _,A0Q _,by simp only[A1J,List.map_nil];exact hN1⟩ ?_
 have hGN:=hN.fr;clear hN hN1 hfr0 is o;rintro⟨j,o,is⟩ c2 ⟨hc2,hkj,hN⟩;dsimp only at hkj hN ⊢;by_cases hltj:j<x.hds.length
 rotate_left
 ·have hdj:=dfz hltj;have hj:j=x.hds.length:=by omega
  subst hj;rw[A1T, <- C3i, <- hsn]at hN ⊢;refine wAr (wJ hdj hw) ?_;rw[hG1]at hN ⊢;exact⟨(i+1,o,is),i6,B9n hz0 hN,inv ⟨a8,hlt,hN.unbox hz0 (by omega) hGN⟩,by simp only;omega⟩
 have hdj:=dtz hltj;have hgj:=A0B hltj;have hwj:=w64 (n:=(j:Int)+1);have hsj:J8 (J8 [] (hkM nm 0 (M.take i))) ((x.hds.take (j+1)).map (hdK nm i))=P9 (hdK nm i x.hds[j]).1 (hdK nm i x.hds[j]).2 (J8 (J8 [] (hkM nm 0 (M.take i))) ((x.hds.take j).map (hdK nm i))):=by
  rw[A0V,hgj,A0S, <- D2t];rfl
 have hPB:PB 1000000 (J8 (J8 [] (hkM nm 0 (M.take i))) ((x.hds.take j).map (hdK nm i))):=by
  rw[<- C3i];refine(hpb _).le ?_;rw[A0A,A0N,hlen _ 0,A1C];omega
 generalize x.hds[j]=y at hgj hsj;generalize J8 (J8 [] (hkM nm 0 (M.take i))) ((x.hds.take j).map (hdK nm i))=l at hN hPB hsj ⊢;have hfr2:=λj (hj:c2<=j)=>F1z hN hj;have hgt:PM G1 o is l t=some ⟨0,true,gs⟩:=B9m hN hG1t;have hlk:=hm y.name;have ne0:=W9 t c2 (c2+1+11) (by omega);refine wAr (wJ hdj (wJ hgj (wJ @F0g (wJ @A0 (wJ @A1 (wJ ne0 (wJ hgt (wJ hgs hlk)))))))) ?_;refine⟨by and_intros<;>(repeat rw[hnO])<;>exact hfr2 _ (by omega),?_⟩;obtain⟨K,hK⟩:∃K:Ky,K=⟨i,y.trig,nm y.name⟩:=⟨_,rfl⟩;have hKx:(hdK nm i y).1=K:=by rw[hK];rfl
 have hKb:(hdK nm i y).2=y.body:=rfl;rw[hKx,hKb]at hsj;obtain⟨G2,hG2⟩:∃G2:Hp,G2=G1.upd c2 ⟨0,true,[I64 y.trig,.str y.name,G7 y.body,I64 y.pos]⟩:=⟨_,rfl⟩;have hz2:G1 c2=none:=hN.fr c2 (A0E _);have hN2:PN G2 o is l (c2+1):=by rw[hG2];exact hN.box (A0E _) (A1Q _)
 obtain⟨G3,hG3⟩:∃G3:Hp,G3=G2.upd (c2+1+11) (keB K):=⟨_,rfl⟩;have hz3:G2 (c2+1+11)=none:=hN2.fr _ (by omega);have hN3:PN G3 o is l (c2+1+13):=by rw[hG3];exact hN2.box (by omega) (by omega)
 have hmem:((PM G1 o is l).upd c2 ⟨0,true,[I64 y.trig,.str y.name,G7 y.body,I64 y.pos]⟩).upd (c2+1+11) ⟨0,true,[I64 (i:Int),I64 y.trig,I64 (nm y.name),I64 0]⟩=PM G3 o is l:=by
  rw[hN.com (A0E _), <- hG2,hN2.com (by omega),hG3,hK]
 rw[hmem];have hGf:∀j,c2<=j->G1 j=none:=hN.fr;clear hmem hfr2 hgt hN hN2;have hG3e:G3 (c2+1+11)=some (keB K):=by rw[hG3,A0]
 have hG3h:G3 c2=some ⟨0,true,[I64 y.trig,.str y.name,G7 y.body,I64 y.pos]⟩:=by rw[hG3,hnO,hG2,A0]
 have hl6:=hPB.1;have fin:∀(o':Option Nat) (is':List Nat) (X:Hp) (c3:Nat),c2+1+13<=c3->PN G3 o' is' (P9 K y.body l) c3->Sub (PM G3 o' is' (P9 K y.body l)) X ->
   IW Tryz.prog 68 (pz Tryz.prog 17 (.i (.i (.i (.i (.o .h)))))) ⟨tm [(0,.ptr t 0),(5,todoV o' (P9 K y.body l).length),(6,I64 i),(13,F6 M),(14,I64 M.length),(15,I64 i),(21,W0 x.hds),(22,I64 x.hds.length),(23,I64 j)],X,c3⟩
    (lp (λq:Nat × Option Nat × List Nat=>[(0,.ptr t 0),(5,todoV q.2.1 (J8 (J8 [] (hkM nm 0 (M.take i))) ((x.hds.take q.1).map (hdK nm i))).length),(6,I64 i),(13,F6 M),(14,I64 M.length),(15,I64 i),(21,W0 x.hds),(22,I64 x.hds.length),(23,I64 q.1)])
     (λq=>PM G1 q.2.1 q.2.2 (J8 (J8 [] (hkM nm 0 (M.take i))) ((x.hds.take q.1).map (hdK nm i))))
     (λq c2=>cc+1<=c2/\q.1<=x.hds.length/\PN G1 q.2.1 q.2.2 (J8 (J8 [] (hkM nm 0 (M.take i))) ((x.hds.take q.1).map (hdK nm i))) c2) (λq=>x.hds.length-q.1) (x.hds.length-j)
     (bk 2 (bk 1 (sq Tryz.prog 68 (pz Tryz.prog 17 (.o (.o (.o (.o (.i .h)))))) (lp (λq:Nat × Option Nat × List Nat=>[(0,.ptr t 0),(5,todoV q.2.1 (J8 [] (hkM nm 0 (M.take q.1))).length),(13,F6 M),(14,I64 M.length),(15,I64 q.1)]) (λq=>PM G q.2.1 q.2.2 (J8 [] (hkM nm 0 (M.take q.1))))
      (λq cc=>c+1<=cc/\q.1<=M.length/\PN G q.2.1 q.2.2 (J8 [] (hkM nm 0 (M.take q.1))) cc) (λq=>M.length-q.1) (M.length-i) (bk 0 (sq Tryz.prog 68 (pz Tryz.prog 17 (.i (.o (.o (.o (.i .h)))))) (rt [.tmp 4] λv H' c' => ∃v2 H2,GL H' [v] H2 [v2]/\Post v2 H2 c')))))))):=by
  intro o' is' X c3 hc3 hN' hX;refine wAs hwj ?_;have hN4:PN G2 o' is' (P9 K y.body l) c3:=by
   rw[hG3]at hN';exact hN'.unbox hz3 (show c2+1<=c3 by omega) (λq hq=>by rw[hG2,hnO];exact hGf q (by omega))
  have hS4:Sub (PM G2 o' is' (P9 K y.body l)) (PM G3 o' is' (P9 K y.body l)):=by
   rw[hG3]at hN' ⊢;exact B9n hz3 hN'
  have hS5:Sub (PM G1 o' is' (P9 K y.body l)) (PM G2 o' is' (P9 K y.body l)):=by
   rw[hG2]at hN4 ⊢;exact B9n hz2 hN4
  have hN5:PN G1 o' is' (P9 K y.body l) c3:=by
   rw[hG2]at hN4;exact hN4.unbox hz2 (show c2<=c3 by omega) hGf
  rw[<- hsj]at hN5 hS5 hS4 hX;exact⟨(j+1,o',is'),by rw[<- hsj];simp[B5,tm,Tm.upd],(λk B hk=>hX _ _ (hS4 _ _ (hS5 _ _ hk))),inv ⟨a8,hltj,hN5⟩,by simp only;omega⟩
 refine wAp ?_;refine AC.call (c_IxP K l is hl6 hN3.len _ _ (c2+1+11) o (λi hi=>E4f hi) hN3.no (B9m hN3 hG3e) (by omega)) ?_;rintro _ _ c3 ⟨rfl,rfl⟩ hc3;have hN3':=hN3.le hc3;have hfr3:=λj (hj:c3<=j)=>F1z hN3' hj;by_cases hx:ixP K l 0 = -1
 ·have hadd:=C1r hx y.body;have q0:decide (ixP K l 0<0)=true:=by rw[hx];rfl
  rw[hx];have hE:PM G3 o is l (c2+1+11)=some (keB K):=B9m hN3 hG3e;have hHd:PM G3 o is l c2=some ⟨0,true,[I64 y.trig,.str y.name,G7 y.body,I64 y.pos]⟩:=B9m hN3 hG3h;have hln:=A1q (o:=o) (n:=l.length) (λe=>by rw[hN3.no e];rfl);have ne0:=V8 c2 (c2+1+11) c3 (c3+1) (by omega);simp only[go_sem,seval,hln];(repeat'((with_reducible first|apply wr|refine k_cu ?_ ?_|apply wb2<;>(intro hb;try simp only[hb]))<;>try simp only[go_sem,seval,hln,hE,ne0]));refine G6 (F9 (cs:=ptC is l) (λe=>⟨by rw[hN3.no e];rfl,by rw[hN3.no e];unfold ptC;cases is<;>rfl⟩) (λq hq=>?_) (A2s hN3.len) (by omega) (by omega) (by omega)) ?_
  ·have:=hN3.fo q hq;rw[hnO];exact E4f hq
  have dm:∀(X:Hp) (j:Nat),c3<=j\/G3 j≠none->delO X o j=X j:=λX j hj=>C5 (λq hq e=>by
   have:=hN3.fo q hq;rcases hj with hj|hj
   ·omega
   ·exact hj (by rw[e];exact this.2))
  simp only[go_sem,seval];obtain⟨Y,hY⟩:∃Y:Hp,Y=(delO ((PM G3 o is l).upd c3 ⟨5,true,[I64 K.mode,I64 K.trig,I64 K.ix,I64 0,.snil]⟩) o).upd (c3+1) ⟨5,true,ptC is l++[I64 K.mode,I64 K.trig,I64 K.ix,I64 0,.snil]⟩:=⟨_,rfl⟩;rw[<- hY];have yl:Y (c3+1)=some ⟨5,true,ptC is l++[I64 K.mode,I64 K.trig,I64 K.ix,I64 0,.snil]⟩:=by rw[hY,A0]
  have yf:∀q B,G3 q=some B->Y q=some B:=λq B hq=>by
   have hqc:q<c3:=A2I λhc=>by rw[hN3'.fr q hc]at hq;cases hq
   rw[hY,hnO,dm _ _ (.inr (by rw[hq];simp)),hnO];exact B9m hN3 hq
  have yi:∀(k q:Nat) (p:D6),is[k]? = some q->l[k]? = some p->Y q=some (bdB p.2):=λk q p h1 h2=>by
   have h3:=hN3.fi q (A0W h1);rw[hY,hnO,C5 (λz hz e=>h3.2.2 (by rw[e];exact hz)),hnO];exact E4g hN3 h1 h2
  have yn:∀q,c3+1+1<=q->Y q=none:=λq hq=>by rw[hY,hnO,dm _ _ (.inl (by omega)),hnO];exact hfr3 q (by omega)
  have yh:Y c2=some ⟨0,true,[I64 y.trig,.str y.name,G7 y.body,I64 y.pos]⟩:=yf _ _ hG3h;clear hY;have hcl:(ptC is l++[I64 K.mode,I64 K.trig,I64 K.ix,I64 0,.snil])[l.length*5+4]? = some .snil:=by
   rw[A1W (by rw[A2s hN3.len];omega),A2s hN3.len,show l.length*5+4-l.length*5=4 by omega];rfl
  have hlt':l.length<l.length+1:=A1Q _;have ne0:=V8 c2 (c3+1) (c3+1+1+9) (c3+1+1+14) (by omega);refine wA0 yl yh hcl hlt' ne0 ?_;refine A5e (A0l (by omega) (by omega) (by omega)) ?_;obtain⟨D1,hD1⟩:∃D1,D1=c3+1+1+14:=⟨_,rfl⟩;rw[<- hD1]at ne0 ⊢;have hst:∀(X:Hp) (d:Nat),Sym.stB X d (c3+1) 1 (l.length*5+4) (.slc D1 0 1) (some ⟨5,true,ptC is l++[I64 K.mode,I64 K.trig,I64 K.ix,I64 0,.snil]⟩)=some (.tup [],X.upd (c3+1) ⟨5,true,ptC (is++[D1]) (l++[(K,[y.body])])⟩,d):=λX d =>
   (B2a (i:=1) rfl (by rw[A0A,A2s hN3.len];simp) rfl).trans (by rw[<- E0t hN3.len];rfl)
  simp only[go_sem,seval,yl,ne0,A0,hst];refine⟨by and_intros<;>(repeat rw[hnO])<;>exact yn _ (by omega),?_⟩;simp only[go_sem,seval,hlt',yl,ne0,A0,hst];have hnd:D1 ∉ is:=λhm=>by have:=hN3.fi D1 hm;omega
  refine IW.stage (L:=[(0,.ptr t 0),(5,todoV (some (c3+1)) (P9 K y.body l).length),(6,I64 i),(13,F6 M),(14,I64 M.length),(15,I64 i),(21,W0 x.hds),(22,I64 x.hds.length),(23,I64 j)]) (by rw[hadd];simp[B5,tm,Tm.upd,todoV]) (fin (some (c3+1)) (is++[D1]) _ _ (by omega) ?_ ?_)
  ·rw[hadd];refine⟨by simp[hN3.len],A4V.2 ⟨hN3.nd,by simp,λq hq z hz e=>hnd (by simp at hz;rw[<- hz, <- e];exact hq)⟩,λq hq=>?_,λq hq=>?_,λe=>(by cases e),λq hq=>hN3'.fr q (by omega)⟩
   ·rcases A1A.1 hq with hq|hq
    ·have:=hN3.fi q hq;exact⟨a8,this.2.1,λe=>by cases e;omega⟩
    ·simp at hq;subst hq;exact⟨a8,hN3'.fr _ (by omega),λe=>by cases e;omega⟩
   ·cases hq;exact⟨a8,hN3'.fr _ (by omega)⟩
  ·rw[hadd];refine C6o (λk q p h1 h2=>?_) (λq hq=>?_) (λq B hq=>?_)
   ·by_cases hkl:k<is.length
    ·rw[A2K hkl]at h1;rw[A2K (by rw[<- hN3.len];exact hkl)]at h2;have:=hN3.fi q (A0W h1);rw[hnO,hnO,hnO];exact yi k q p h1 h2
    ·have hl2:=hN3.len;rw[A1W (by omega)]at h1 h2;rw[hl2]at h1;cases hz:k-l.length with
     |zero =>
      rw[hz]at h1 h2;cases h1;cases h2;rw[hnO,A0];rfl
     |succ z=>rw[hz]at h1;cases h1
   ·cases hq;rw[A0]
   ·have hqc:q<c3:=A2I λhc=>by rw[hN3'.fr q hc]at hq;cases hq
    rw[hnO,hnO,hnO];exact yf q B hq
 ·obtain⟨n,a0,b0,q,hl,hn,hix,hadd0⟩:=C1q (rfl:ixP K l 0=ixP K l 0) hx;rw[A1F]at hix;have hadd:P9 K y.body l=l.set n (K,q++[y.body]):=by
   rw[hadd0,hl,hn,List.set_append_right _ _ (A0E _),A4P];rfl
  have hln:l[n]? = some (K,q):=by rw[hl,hn,A1W (A0E _),A4P];rfl
  have hnl:n<l.length:=(A1G.1 hln).1;have hni:n<is.length:=by rw[hN3.len];exact hnl
  obtain⟨i0,hi0⟩:∃i0,is[n]? = some i0:=⟨_,A0B hni⟩;obtain⟨io,rfl⟩:∃io,o=some io:=by
   cases o with
   |none=>have:=hN3.no rfl;rw[this]at hnl;cases hnl
   |some io=>exact⟨io,rfl⟩
  have hio:=hN3.fo io rfl;have hii:=hN3.fi i0 (A0W hi0);have hne0:i0≠io:=λe=>hii.2.2 (by rw[e]);clear hl hadd0 hn;have q0:decide (ixP K l 0<0)=false:=by rw[hix];simp
  rw[hix]at q0 ⊢;have hql:q.length<=1000000:=hPB.2 _ (A0W hln);have hHd:PM G3 (some io) is l c2=some ⟨0,true,[I64 y.trig,.str y.name,G7 y.body,I64 y.pos]⟩:=B9m hN3 hG3h;have hLl:PM G3 (some io) is l io=some ⟨5,true,ptC is l⟩:=E4f rfl;have hcl:=D5n hN3.len hi0 hln;dsimp only at hcl;have hBd:=E4g hN3 hi0 hln;have hc2io:¬c2=io:=λe=>by have h:=hio.2;rw[<- e,hG3h]at h;cases h
  have ne0:=A1y c2 io c3 (c3+9) (c3+14) (by omega);refine wA2 q0 hLl hHd hcl hnl ne0 ?_;refine A5e (F9 (o:=some i0) (cs:=q.map G7) (n:=q.length) (λe=>by cases e) (λz hz=>?_) (by rw[A0N,Nat.mul_one]) (by omega) (by omega) (by omega)) ?_
  ·cases hz;rw[hnO];exact hBd
  obtain⟨D1,hD1⟩:∃D1,D1=c3+14:=⟨_,rfl⟩;rw[<- hD1]at ne0 ⊢;have hst:∀(X:Hp) (d:Nat),Sym.stB X d io 1 (n*5+4) (.slc D1 0 (q.length+1)) (some ⟨5,true,ptC is l⟩)=some (.tup [],X.upd io ⟨5,true,ptC (is.set n D1) (l.set n (K,q++[y.body]))⟩,d):=λX d =>
   (B2a (i:=1) rfl (by rw[A2s hN3.len];omega) rfl).trans (by rw[<- C7t hN3.len hi0 hln (q:=(K,q++[y.body])) rfl D1];simp[DV.cells])
  have dmo:∀X:Hp,delO X (some i0) io=X io:=λX=>C5 (λz hz=>by cases hz;exact λe=>hne0 e.symm);simp only[go_sem,seval,dmo,hLl,hnl,ne0,A0,hst];have dme:∀(X:Hp) (z:Nat),z≠i0->delO X (some i0) z=X z:=λX z hz=>C5 (λw hw e=>by cases hw;exact hz e);refine⟨⟨by rw[dme _ _ (by omega),hnO];exact hfr3 _ (by omega),by rw[hnO,dme _ _ (by omega),hnO];exact hfr3 _ (by omega)⟩,?_⟩;have hnd:D1 ∉ is:=λhm=>by have:=hN3.fi D1 hm;omega
  have hD0:G3 D1=none:=hN3'.fr _ (by omega);refine IW.stage (L:=[(0,.ptr t 0),(5,todoV (some io) (P9 K y.body l).length),(6,I64 i),(13,F6 M),(14,I64 M.length),(15,I64 i),(21,W0 x.hds),(22,I64 x.hds.length),(23,I64 j)]) (by rw[hadd,List.length_set];simp[B5,tm,Tm.upd,todoV]) (fin (some io) (is.set n D1) _ _ (by omega) ?_ ?_)
  ·rw[hadd];refine⟨by simp[hN3.len],D6g hN3.nd hnd,λz hz=>?_,λz hz=>?_,λe=>(by cases e),λz hz=>hN3'.fr z (by omega)⟩
   ·rcases List.mem_or_eq_of_mem_set hz with hz|hz
    ·have:=hN3.fi z hz;exact⟨a8,this.2⟩
    ·subst hz;exact⟨a8,hD0,λe=>by cases e;omega⟩
   ·cases hz;exact⟨a8,hio.2⟩
  ·rw[hadd];refine C6o (λk z p h1 h2=>?_) (λz hz=>?_) (λz B hz=>?_)
   ·by_cases hkn:k=n
    ·subst hkn;rw[List.getElem?_set_self hni]at h1;rw[List.getElem?_set_self hnl]at h2;cases h1;cases h2;rw[hnO,A0];simp[bdB]
    ·rw[List.getElem?_set_ne (Ne.symm hkn)]at h1 h2;have h3:=hN3.fi z (A0W h1);have h4:z≠io:=λe=>h3.2.2 (by rw[e]);have h5:z≠i0:=λe=>hkn (D6h hN3.nd (by rw[<- e];exact h1) hi0);rw[h_ne h4,hnO,dme _ _ h5,hnO];exact E4g hN3 h1 h2
   ·cases hz;rw[A0]
   ·have hzc:z<c3:=A2I λhc=>by rw[hN3'.fr z hc]at hz;cases hz
    have h4:z≠io:=λe=>by rw[e,hio.2]at hz;cases hz
    have h5:z≠i0:=λe=>by rw[e,hii.2.1]at hz;cases hz
    rw[h_ne h4,hnO,dme _ _ h5,hnO];exact B9m hN3 hz
end Go.Proofs.YtnkkfehegdplgaaGreatDoor
end
