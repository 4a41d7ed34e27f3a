/-
  HELPERS of the claim: part 10 of its texts.
-/
import Derived.Test.YtmmjlijdfhkdcaaGreatDoorMmdi
noncomputable section
set_option maxHeartbeats 8000000
set_option maxRecDepth 100000
set_option linter.unusedSimpArgs false
set_option linter.unusedVariables false
namespace Go.Proofs.YtmmjlijdfhkdcaaGreatDoor
open Go.Eng (IC IOper DReg IFn M8)
open Go.Sym Go.Pb
theorem lw(x:List UInt8):(wT x).length=1:=rfl
theorem jn4{a b c d:List Tok}{id cc:Nat}{H:Hp}(hH:H id=some ⟨1,true,[D9 a,D9 b,D9 c,D9 d]⟩)(ha:1<=a.length/\a.length<=1000000000)(hb:1<=b.length/\b.length<=1000000000)(hc:1<=c.length/\c.length<=1000000000)(hd:1<=d.length/\d.length<=1000000000):
  AC Tryz.prog 52 [.slc id 0 4] H cc (fun v H' c'=>v=D9 (a++b++c++d)/\H'=I5 H (some id)/\c'=cc):=by
 have:=X5 (id:=id) (cc:=cc) (H:=H) (u:=1) (n:=4) (c_join1 [a,b,c,d] (by simp) (by simp[ha,hb,hc,hd])) hH rfl rfl (A4c [a,b,c,d])
 rwa [A1J,A1J,A1J,A1J,A3Y,A1H, <- A0T, <- A0T]at this
theorem jn5{a b c d e:List Tok}{id cc:Nat}{H:Hp}(hH:H id=some ⟨1,true,[D9 a,D9 b,D9 c,D9 d,D9 e]⟩)(ha:1<=a.length/\a.length<=1000000000)(hb:1<=b.length/\b.length<=1000000000)(hc:1<=c.length/\c.length<=1000000000)(hd:1<=d.length/\d.length<=1000000000)(he:1<=e.length/\e.length<=1000000000):
  AC Tryz.prog 52 [.slc id 0 5] H cc (fun v H' c'=>v=D9 (a++b++c++d++e)/\H'=I5 H (some id)/\c'=cc):=by
 have:=X5 (id:=id) (cc:=cc) (H:=H) (u:=1) (n:=5) (c_join1 [a,b,c,d,e] (by simp) (by simp[ha,hb,hc,hd,he])) hH rfl rfl (A4c [a,b,c,d,e])
 rwa [A1J,A1J,A1J,A1J,A1J,A3Y,A1H, <- A0T, <- A0T, <- A0T]at this
theorem B8a(l:List Ex)(i:Nat)(hl:Ex.szs l<=10000000):1<=(agT l i).length/\(agT l i).length<=100000000:=by
 unfold agT;cases h:l[i]? with
 |none=>exact⟨A0J _,by decide⟩
 |some e =>
  have h1:=A1d e;have h2:=Ex.szs_mem (A0M h);dsimp only;omega
theorem c_arg(l:List Ex)(i:Nat)(hi:i<=5)(hl:Ex.szs l<=10000000):PC Tryz.prog 130 [I9 l,I64 i] (D9 (agT l i)):=by
 refine PC.ofT B1 rfl (A0C rfl) (by simp[DV.nlL,DV.nl,A0z]) (K1 _) ?_;unfold agT;cases h:l[i]? with
 |none =>
  have hlt:l.length<=i:=List.getElem?_eq_none_iff.1 h;have hd:decide ((i:Int)≥(l.length:Int))=true:=by simp;omega
  repeat' ((with_reducible first|refine wr ?_|refine A1 ?_ ?_|refine wb2 ?_ ?_<;>(intro hb;try simp only[hb])|fail)<;>try simp only[go_sem,seval,hd,A0E])
  exact A2m
 |some e =>
  have hlt:=(A0P.1 h).1;have hd:decide ((i:Int)≥(l.length:Int))=false:=by simp;omega
  have he:=c_exprT (e.sz+1) e (by omega) (by have:=Ex.szs_mem (A0M h);omega);rw[Ex.v_w]at he;repeat' ((with_reducible first|refine wr ?_|refine cpc he ?_|refine A1 ?_ ?_|refine wb2 ?_ ?_<;>(intro hb;try simp only[hb])|fail)<;>try simp only[go_sem,seval,hd,h,Ex.v_w,A0E])
  exact⟨_,GL.refl _ _⟩
theorem B0x{c:Nat}{k v p:Int}{x:List UInt8}:∃ H2,GL (nil.upd c ⟨4,true,[I64 k,.str x,I64 v,I64 p]⟩) [.slc c 0 1] H2 [D9 [⟨k,x,v,p⟩]] :=
 K7 A0 rfl rfl (E4 _) ⟨[],rfl⟩
theorem c_text31(s:List UInt8)(hs:s.length<=1000000000):PC Tryz.prog 131 [.str s] (D9 (Q6 s)):=by
 refine PC.ofT B1 rfl (A0C rfl) rfl (K1 _) ?_;unfold Q6;repeat' ((with_reducible first|refine wr ?_|refine A1 ?_ ?_|refine wb2 ?_ ?_<;>(intro hb;try simp only[hb])|fail)<;>try simp only[go_sem,seval])
 refine D4 (fun k:Nat=>[(0,.str s),(3,I64 k)]) (fun _=>Sym.nil) (fun k c=>k<=s.length/\(s.take k).all txB=true) (fun k=>s.length-k) 0 (by simp[C5,tm,Tm.upd]) (Sub.nil _) ⟨A0Z _,rfl⟩ ?_;rintro k c ⟨hk,ha⟩;by_cases hlt:k<s.length
 ·have hd:=dtz hlt;have hg:=A0B hlt;have hw:=w64 (n:=(k:Int)+1);have e0:(s.take (k+1)).all txB=((s.take k).all txB && txB s[k]):=by rw[A1D,hg,A3R];simp
  have e1:txB s[k]=false->s.all txB=false:=fun h=>by
   cases hz:s.all txB with
   |false=>rfl
   |true=>rw[A0Q]at hz;rw[hz _ (A0V hlt)]at h;cases h
  generalize s[k]=x at hg e0 e1;by_cases h1:x.toNat<32
  ·have hd1:decide ((x.toNat:Int)<32)=true:=by simp;omega
   rw[if_pos (.inl (e1 (by simp[txB];omega)))];repeat' ((with_reducible first|refine wr ?_|refine A1 ?_ ?_|refine wb2 ?_ ?_<;>(intro hb;try simp only[hb])|fail)<;>try simp only[go_sem,seval,hd,hg,hw,hd1])
   exact B0x
  ·have hd1:decide ((x.toNat:Int)<32)=false:=by simp;omega
   by_cases h2:126<x.toNat
   ·have hd2:decide ((x.toNat:Int)>126)=true:=by simp;omega
    rw[if_pos (.inl (e1 (by simp[txB];omega)))];repeat' ((with_reducible first|refine wr ?_|refine A1 ?_ ?_|refine wb2 ?_ ?_<;>(intro hb;try simp only[hb])|fail)<;>try simp only[go_sem,seval,hd,hg,hw,hd1,hd2])
    exact B0x
   ·have hd2:decide ((x.toNat:Int)>126)=false:=by simp;omega
    have e2:txB x=true:=by simp[txB];omega
    repeat' ((with_reducible first|refine wr ?_|refine A1 ?_ ?_|refine wb2 ?_ ?_<;>(intro hb;try simp only[hb])|fail)<;>try simp only[go_sem,seval,hd,hg,hw,hd1,hd2])
    exact⟨k+1,by simp[C5,tm,Tm.upd],Sub.nil _,inv ⟨by omega,by rw[e0,ha,e2];rfl⟩,by omega⟩
 ·have hd:=dfz hlt;rw[A0L (by omega)]at ha;by_cases h3:32<s.length
  ·have hd3:decide ((s.length:Int)>32)=true:=by simp;omega
   rw[if_pos (.inr h3)];repeat' ((with_reducible first|refine wr ?_|refine A1 ?_ ?_|refine wb2 ?_ ?_<;>(intro hb;try simp only[hb])|fail)<;>try simp only[go_sem,seval,hd,hd3])
   exact B0x
  ·have hd3:decide ((s.length:Int)>32)=false:=by simp;omega
   rw[if_neg (by rw[ha];simp;omega)];repeat' ((with_reducible first|refine wr ?_|refine A1 ?_ ?_|refine wb2 ?_ ?_<;>(intro hb;try simp only[hb])|fail)<;>try simp only[go_sem,seval,hd,hd3])
   exact B0x
theorem C4c(x:Pb.St):Pb.St.szs [x]=x.sz:=by rw[Pb.St.szs,Pb.St.szs];omega
theorem c_stmtT(m:Nat)(ihs:∀ x:Pb.St,x.sz<m->PC Tryz.prog 93 [x.v] (D9 (stT x)))(ihb:∀ l:List Pb.St,Pb.St.szs l<m->PC Tryz.prog 57 [F4 l] (D9 (blT l)))
  (hlb:∀ l:List Pb.St,Pb.St.szs l<m->1<=(blT l).length/\(blT l).length<=100000000) (hls:∀ x:Pb.St,x.sz<m->1<=(stT x).length/\(stT x).length<=100000000)
  (s:Pb.St) (hm:s.sz<=m) (hB:s.sz<=10000000):PC Tryz.prog 93 [s.v] (D9 (stT s)):=by
 obtain⟨R,hR⟩:∃ R,R=D9 (stT s):=⟨_,rfl⟩;have hnm:=s.sz_name;have htx:=s.sz_text;have hax:Ex.szs s.args<=10000000:=by cases s with|mk k n t a x y p=>rw[Pb.St.sz]at hB;show Ex.szs a<=_;omega
 have hxx:=s.sz_thn;have hyy:=s.sz_els;refine PC.ofT B1 rfl (A0C rfl) (by simp[DV.nlL,DV.nl,Pb.St.nl]) (K1 _) ?_;rw[Pb.St.v_w, <- hR];cases s with|mk k n t a x y p =>
 unfold stT at hR;dsimp only[Pb.St.w,Pb.St.kind,Pb.St.name,Pb.St.text,Pb.St.args,Pb.St.thn,Pb.St.els,Pb.St.pos]at hnm htx hax hxx hyy ⊢;have hna:=c_named n (by omega);have hte:=c_text31 t (by omega);have ha0:=c_arg a 0 (by decide) hax;have ha1:=c_arg a 1 (by decide) hax;have la0:=B8a a 0 hax;have la1:=B8a a 1 hax;rw[show ((0:Nat):Int)=0 from rfl]at ha0;rw[show ((1:Nat):Int)=1 from rfl]at ha1;have hbx:=ihb x (by omega);have hby:=ihb y (by omega);have lbx:=hlb x (by omega);have lby:=hlb y (by omega);by_cases h1:k=1
 ·subst h1;rw[if_pos rfl]at hR;repeat' ((first|(with_reducible first|refine wr ?_|refine cpc hna ?_|refine cpc ha0 ?_|refine A1 ?_ ?_)|(with_reducible refine wb2 ?_ ?_<;>(intro hb;try simp only[hb]))|(refine AC.call (wd1 rfl (by first|assumption|decide)) ?_<;>rintro _ _ _ ⟨rfl,rfl,rfl⟩ -)|(refine AC.call (jn2 rfl ?_ ?_) ?_<;>first|(constructor<;>(try simp only[A0A,lw,A4,A9,A7])<;>omega)|rintro _ _ _ ⟨rfl,rfl,rfl⟩ -)|(refine AC.call (jn3 rfl ?_ ?_ ?_) ?_<;>first|(constructor<;>(try simp only[A0A,lw,A4,A9,A7])<;>omega)|rintro _ _ _ ⟨rfl,rfl,rfl⟩ -)|(refine AC.call (jn4 rfl ?_ ?_ ?_ ?_) ?_<;>first|(constructor<;>(try simp only[A0A,lw,A4,A9,A7])<;>omega)|rintro _ _ _ ⟨rfl,rfl,rfl⟩ -)|(refine AC.call (jn5 rfl ?_ ?_ ?_ ?_ ?_) ?_<;>first|(constructor<;>(try simp only[A0A,lw,A4,A9,A7])<;>omega)|rintro _ _ _ ⟨rfl,rfl,rfl⟩ -)|fail)<;>try simp only[go_sem,seval])
  exact⟨_,by rw[hR];exact GL.refl _ _⟩
 rw[if_neg h1]at hR;have d1:(k == 1)=false:=by simpa using h1
 by_cases hbk:k<2\/19<k
 ·rw[if_pos hbk]at hR;by_cases h2:k<2
  ·have d2:decide (k<2)=true:=by simpa using h2
   repeat' ((with_reducible first|refine wr ?_|refine A1 ?_ ?_|refine wb2 ?_ ?_<;>(intro hb;try simp only[hb])|fail)<;>try simp only[go_sem,seval,d1,d2])
   rw[hR];exact K7 (id:=1) A0 rfl rfl (E4 [O9]) ⟨[],rfl⟩
  ·have d2:decide (k<2)=false:=by simpa using h2
   have d3:decide (k>19)=true:=by simp;omega
   repeat' ((with_reducible first|refine wr ?_|refine A1 ?_ ?_|refine wb2 ?_ ?_<;>(intro hb;try simp only[hb])|fail)<;>try simp only[go_sem,seval,d1,d2,d3])
   rw[hR];exact K7 (id:=1) A0 rfl rfl (E4 [O9]) ⟨[],rfl⟩
 rw[if_neg hbk]at hR;have e2:decide (k<2)=false:=by simp;omega
 have e3:decide (k>19)=false:=by simp;omega
 dsimp only at hR;obtain⟨j,hj⟩:∃ j:Nat,k=2+(j:Int):=⟨(k-2).toNat,by omega⟩;have hjw:IntKind.i64.wrap (k-2)=(j:Int):=by rw[w6z (by omega)];omega
 have hjn:(k-2).toNat=j:=by omega
 rw[hjn]at hR;have hj18:j<18:=by omega
 have hgj:B8[j]? = some (B8.getD j []):=by
  rw[A0Y,A0B (show j<B8.length from hj18)];rfl
 have hsl:(B8.getD j []).length<=1000000000:=by
  have:∀ i:Nat,i<18->(B8.getD i []).length<=1000000000:=by decide
  exact this j hj18
 generalize B8.getD j []=S at hR hgj hsl;have dk:∀ q:Int,¬ k=q->(k == q)=false:=fun q h=>by simpa using h
 repeat' ((first|(with_reducible first|refine G0 (p:=IW _ _ (pz Tryz.prog 93 (.i (.o (.i (.o .h))))) _ _) ?_|refine wr ?_|refine cpc c_stmts31 ?_|refine A1 ?_ ?_)|(with_reducible refine wb2 ?_ ?_<;>(intro hb;try simp only[hb]))|(refine AC.call (wd1 rfl (by first|assumption|decide)) ?_<;>rintro _ _ _ ⟨rfl,rfl,rfl⟩ -)|fail)<;>try simp only[go_sem,seval,d1,e2,e3,hjw,hgj])
 unfold V8;by_cases h2:k=2\/k=3
 ·rw[if_pos h2]at hR;have dd:(k == 2)=true\/(k == 2)=false/\(k == 3)=true:=by
   rcases h2 with rfl|rfl
   ·exact .inl rfl
   ·exact .inr ⟨rfl,rfl⟩
  clear h2 hj hjn h1 hbk
  match y with
  |[] =>
   dsimp only at hR;rcases dd with d2|⟨d2,d3⟩
   ·repeat' ((first|(with_reducible first|refine wr ?_|refine cpc ha0 ?_|refine cpc hbx ?_|refine A1 ?_ ?_)|(with_reducible refine wb2 ?_ ?_<;>(intro hb;try simp only[hb]))|(refine AC.call (wd1 rfl (by first|assumption|decide)) ?_<;>rintro _ _ _ ⟨rfl,rfl,rfl⟩ -)|(refine AC.call (jn2 rfl ?_ ?_) ?_<;>first|(constructor<;>(try simp only[A0A,lw,A4,A9,A7])<;>omega)|rintro _ _ _ ⟨rfl,rfl,rfl⟩ -)|(refine AC.call (jn3 rfl ?_ ?_ ?_) ?_<;>first|(constructor<;>(try simp only[A0A,lw,A4,A9,A7])<;>omega)|rintro _ _ _ ⟨rfl,rfl,rfl⟩ -)|(refine AC.call (jn4 rfl ?_ ?_ ?_ ?_) ?_<;>first|(constructor<;>(try simp only[A0A,lw,A4,A9,A7])<;>omega)|rintro _ _ _ ⟨rfl,rfl,rfl⟩ -)|(refine AC.call (jn5 rfl ?_ ?_ ?_ ?_ ?_) ?_<;>first|(constructor<;>(try simp only[A0A,lw,A4,A9,A7])<;>omega)|rintro _ _ _ ⟨rfl,rfl,rfl⟩ -)|fail)<;>try simp only[go_sem,seval,d2,List.map_nil,A0N])
    exact⟨_,by rw[hR];exact GL.refl _ _⟩
   ·repeat' ((first|(with_reducible first|refine wr ?_|refine cpc ha0 ?_|refine cpc hbx ?_|refine A1 ?_ ?_)|(with_reducible refine wb2 ?_ ?_<;>(intro hb;try simp only[hb]))|(refine AC.call (wd1 rfl (by first|assumption|decide)) ?_<;>rintro _ _ _ ⟨rfl,rfl,rfl⟩ -)|(refine AC.call (jn2 rfl ?_ ?_) ?_<;>first|(constructor<;>(try simp only[A0A,lw,A4,A9,A7])<;>omega)|rintro _ _ _ ⟨rfl,rfl,rfl⟩ -)|(refine AC.call (jn3 rfl ?_ ?_ ?_) ?_<;>first|(constructor<;>(try simp only[A0A,lw,A4,A9,A7])<;>omega)|rintro _ _ _ ⟨rfl,rfl,rfl⟩ -)|(refine AC.call (jn4 rfl ?_ ?_ ?_ ?_) ?_<;>first|(constructor<;>(try simp only[A0A,lw,A4,A9,A7])<;>omega)|rintro _ _ _ ⟨rfl,rfl,rfl⟩ -)|(refine AC.call (jn5 rfl ?_ ?_ ?_ ?_ ?_) ?_<;>first|(constructor<;>(try simp only[A0A,lw,A4,A9,A7])<;>omega)|rintro _ _ _ ⟨rfl,rfl,rfl⟩ -)|fail)<;>try simp only[go_sem,seval,d2,d3,List.map_nil,A0N])
    exact⟨_,by rw[hR];exact GL.refl _ _⟩
  |[q] =>
   rw[C4c]at hyy;have hq:=ihs q (by omega);have lq:=hls q (by omega);rw[Pb.St.v_w]at hq;dsimp only at hR;have hone:blT [q]=wT [123]++stT q++wT [125]:=by unfold blT;rw[L6,L6,A1H];rfl
   have hby':=hby;rw[hone]at hby lby;by_cases hk2:q.kind=2
   ·rw[if_pos hk2]at hR;have m2:(q.kind == 2)=true:=by simpa using hk2
    rcases dd with d2|⟨d2,d3⟩
    ·repeat' ((first|(with_reducible first|refine wr ?_|refine cpc ha0 ?_|refine cpc hbx ?_|refine cpc hq ?_|refine A1 ?_ ?_)|(with_reducible refine wb2 ?_ ?_<;>(intro hb;try simp only[hb]))|(refine AC.call (wd1 rfl (by first|assumption|decide)) ?_<;>rintro _ _ _ ⟨rfl,rfl,rfl⟩ -)|(refine AC.call (jn2 rfl ?_ ?_) ?_<;>first|(constructor<;>(try simp only[A0A,lw,A4,A9,A7])<;>omega)|rintro _ _ _ ⟨rfl,rfl,rfl⟩ -)|(refine AC.call (jn3 rfl ?_ ?_ ?_) ?_<;>first|(constructor<;>(try simp only[A0A,lw,A4,A9,A7])<;>omega)|rintro _ _ _ ⟨rfl,rfl,rfl⟩ -)|(refine AC.call (jn4 rfl ?_ ?_ ?_ ?_) ?_<;>first|(constructor<;>(try simp only[A0A,lw,A4,A9,A7])<;>omega)|rintro _ _ _ ⟨rfl,rfl,rfl⟩ -)|(refine AC.call (jn5 rfl ?_ ?_ ?_ ?_ ?_) ?_<;>first|(constructor<;>(try simp only[A0A,lw,A4,A9,A7])<;>omega)|rintro _ _ _ ⟨rfl,rfl,rfl⟩ -)|fail)<;>try simp only[go_sem,seval,d2,m2,Pb.St.v_w])
     exact⟨_,by rw[hR];exact GL.refl _ _⟩
    ·repeat' ((first|(with_reducible first|refine wr ?_|refine cpc ha0 ?_|refine cpc hbx ?_|refine cpc hq ?_|refine A1 ?_ ?_)|(with_reducible refine wb2 ?_ ?_<;>(intro hb;try simp only[hb]))|(refine AC.call (wd1 rfl (by first|assumption|decide)) ?_<;>rintro _ _ _ ⟨rfl,rfl,rfl⟩ -)|(refine AC.call (jn2 rfl ?_ ?_) ?_<;>first|(constructor<;>(try simp only[A0A,lw,A4,A9,A7])<;>omega)|rintro _ _ _ ⟨rfl,rfl,rfl⟩ -)|(refine AC.call (jn3 rfl ?_ ?_ ?_) ?_<;>first|(constructor<;>(try simp only[A0A,lw,A4,A9,A7])<;>omega)|rintro _ _ _ ⟨rfl,rfl,rfl⟩ -)|(refine AC.call (jn4 rfl ?_ ?_ ?_ ?_) ?_<;>first|(constructor<;>(try simp only[A0A,lw,A4,A9,A7])<;>omega)|rintro _ _ _ ⟨rfl,rfl,rfl⟩ -)|(refine AC.call (jn5 rfl ?_ ?_ ?_ ?_ ?_) ?_<;>first|(constructor<;>(try simp only[A0A,lw,A4,A9,A7])<;>omega)|rintro _ _ _ ⟨rfl,rfl,rfl⟩ -)|fail)<;>try simp only[go_sem,seval,d2,d3,m2,Pb.St.v_w])
     exact⟨_,by rw[hR];exact GL.refl _ _⟩
   ·rw[if_neg hk2]at hR;have m2:(q.kind == 2)=false:=by simpa using hk2
    rcases dd with d2|⟨d2,d3⟩
    ·repeat' ((first|(with_reducible first|refine wr ?_|refine cpc ha0 ?_|refine cpc hbx ?_|refine cpc hby ?_|refine A1 ?_ ?_)|(with_reducible refine wb2 ?_ ?_<;>(intro hb;try simp only[hb]))|(refine AC.call (wd1 rfl (by first|assumption|decide)) ?_<;>rintro _ _ _ ⟨rfl,rfl,rfl⟩ -)|(refine AC.call (jn2 rfl ?_ ?_) ?_<;>first|(constructor<;>(try simp only[A0A,lw,A4,A9,A7])<;>omega)|rintro _ _ _ ⟨rfl,rfl,rfl⟩ -)|(refine AC.call (jn3 rfl ?_ ?_ ?_) ?_<;>first|(constructor<;>(try simp only[A0A,lw,A4,A9,A7])<;>omega)|rintro _ _ _ ⟨rfl,rfl,rfl⟩ -)|(refine AC.call (jn4 rfl ?_ ?_ ?_ ?_) ?_<;>first|(constructor<;>(try simp only[A0A,lw,A4,A9,A7])<;>omega)|rintro _ _ _ ⟨rfl,rfl,rfl⟩ -)|(refine AC.call (jn5 rfl ?_ ?_ ?_ ?_ ?_) ?_<;>first|(constructor<;>(try simp only[A0A,lw,A4,A9,A7])<;>omega)|rintro _ _ _ ⟨rfl,rfl,rfl⟩ -)|fail)<;>try simp only[go_sem,seval,d2,m2,Pb.St.v_w])
     exact⟨_,by rw[hR];exact GL.refl _ _⟩
    ·repeat' ((first|(with_reducible first|refine wr ?_|refine cpc ha0 ?_|refine cpc hbx ?_|refine cpc hby ?_|refine A1 ?_ ?_)|(with_reducible refine wb2 ?_ ?_<;>(intro hb;try simp only[hb]))|(refine AC.call (wd1 rfl (by first|assumption|decide)) ?_<;>rintro _ _ _ ⟨rfl,rfl,rfl⟩ -)|(refine AC.call (jn2 rfl ?_ ?_) ?_<;>first|(constructor<;>(try simp only[A0A,lw,A4,A9,A7])<;>omega)|rintro _ _ _ ⟨rfl,rfl,rfl⟩ -)|(refine AC.call (jn3 rfl ?_ ?_ ?_) ?_<;>first|(constructor<;>(try simp only[A0A,lw,A4,A9,A7])<;>omega)|rintro _ _ _ ⟨rfl,rfl,rfl⟩ -)|(refine AC.call (jn4 rfl ?_ ?_ ?_ ?_) ?_<;>first|(constructor<;>(try simp only[A0A,lw,A4,A9,A7])<;>omega)|rintro _ _ _ ⟨rfl,rfl,rfl⟩ -)|(refine AC.call (jn5 rfl ?_ ?_ ?_ ?_ ?_) ?_<;>first|(constructor<;>(try simp only[A0A,lw,A4,A9,A7])<;>omega)|rintro _ _ _ ⟨rfl,rfl,rfl⟩ -)|fail)<;>try simp only[go_sem,seval,d2,d3,m2,Pb.St.v_w])
     exact⟨_,by rw[hR];exact GL.refl _ _⟩
  |q :: q2 :: l =>
   dsimp only at hR;obtain⟨A,hA⟩:∃ A,A=(q :: q2 :: l).map Pb.St.v:=⟨_,rfl⟩;have n1:((A.length:Int) == 1)=false:=by rw[hA];simp;omega
   have n2:decide ((A.length:Int)>0)=true:=by rw[hA];simp;omega
   have hex:F4 (q :: q2 :: l)=.lst A:=by rw[hA]
   rw[hex]at hby ⊢;rcases dd with d2|⟨d2,d3⟩
   ·repeat' ((first|(with_reducible first|refine wr ?_|refine cpc ha0 ?_|refine cpc hbx ?_|refine cpc hby ?_|refine A1 ?_ ?_)|(with_reducible refine wb2 ?_ ?_<;>(intro hb;try simp only[hb]))|(refine AC.call (wd1 rfl (by first|assumption|decide)) ?_<;>rintro _ _ _ ⟨rfl,rfl,rfl⟩ -)|(refine AC.call (jn2 rfl ?_ ?_) ?_<;>first|(constructor<;>(try simp only[A0A,lw,A4,A9,A7])<;>omega)|rintro _ _ _ ⟨rfl,rfl,rfl⟩ -)|(refine AC.call (jn3 rfl ?_ ?_ ?_) ?_<;>first|(constructor<;>(try simp only[A0A,lw,A4,A9,A7])<;>omega)|rintro _ _ _ ⟨rfl,rfl,rfl⟩ -)|(refine AC.call (jn4 rfl ?_ ?_ ?_ ?_) ?_<;>first|(constructor<;>(try simp only[A0A,lw,A4,A9,A7])<;>omega)|rintro _ _ _ ⟨rfl,rfl,rfl⟩ -)|(refine AC.call (jn5 rfl ?_ ?_ ?_ ?_ ?_) ?_<;>first|(constructor<;>(try simp only[A0A,lw,A4,A9,A7])<;>omega)|rintro _ _ _ ⟨rfl,rfl,rfl⟩ -)|fail)<;>try simp only[go_sem,seval,d2,n1,n2])
    exact⟨_,by rw[hR];exact GL.refl _ _⟩
   ·repeat' ((first|(with_reducible first|refine wr ?_|refine cpc ha0 ?_|refine cpc hbx ?_|refine cpc hby ?_|refine A1 ?_ ?_)|(with_reducible refine wb2 ?_ ?_<;>(intro hb;try simp only[hb]))|(refine AC.call (wd1 rfl (by first|assumption|decide)) ?_<;>rintro _ _ _ ⟨rfl,rfl,rfl⟩ -)|(refine AC.call (jn2 rfl ?_ ?_) ?_<;>first|(constructor<;>(try simp only[A0A,lw,A4,A9,A7])<;>omega)|rintro _ _ _ ⟨rfl,rfl,rfl⟩ -)|(refine AC.call (jn3 rfl ?_ ?_ ?_) ?_<;>first|(constructor<;>(try simp only[A0A,lw,A4,A9,A7])<;>omega)|rintro _ _ _ ⟨rfl,rfl,rfl⟩ -)|(refine AC.call (jn4 rfl ?_ ?_ ?_ ?_) ?_<;>first|(constructor<;>(try simp only[A0A,lw,A4,A9,A7])<;>omega)|rintro _ _ _ ⟨rfl,rfl,rfl⟩ -)|(refine AC.call (jn5 rfl ?_ ?_ ?_ ?_ ?_) ?_<;>first|(constructor<;>(try simp only[A0A,lw,A4,A9,A7])<;>omega)|rintro _ _ _ ⟨rfl,rfl,rfl⟩ -)|fail)<;>try simp only[go_sem,seval,d2,d3,n1,n2])
    exact⟨_,by rw[hR];exact GL.refl _ _⟩
 rw[if_neg h2]at hR;have d2:=dk 2 (fun h=>h2 (.inl h));have d3:=dk 3 (fun h=>h2 (.inr h));by_cases h4:k=4
 ·subst h4;rw[if_pos rfl]at hR;repeat' ((first|(with_reducible first|refine wr ?_|refine cpc ha0 ?_|refine A1 ?_ ?_)|(with_reducible refine wb2 ?_ ?_<;>(intro hb;try simp only[hb]))|(refine AC.call (wd1 rfl (by first|assumption|decide)) ?_<;>rintro _ _ _ ⟨rfl,rfl,rfl⟩ -)|(refine AC.call (jn2 rfl ?_ ?_) ?_<;>first|(constructor<;>(try simp only[A0A,lw,A4,A9,A7])<;>omega)|rintro _ _ _ ⟨rfl,rfl,rfl⟩ -)|(refine AC.call (jn3 rfl ?_ ?_ ?_) ?_<;>first|(constructor<;>(try simp only[A0A,lw,A4,A9,A7])<;>omega)|rintro _ _ _ ⟨rfl,rfl,rfl⟩ -)|(refine AC.call (jn4 rfl ?_ ?_ ?_ ?_) ?_<;>first|(constructor<;>(try simp only[A0A,lw,A4,A9,A7])<;>omega)|rintro _ _ _ ⟨rfl,rfl,rfl⟩ -)|(refine AC.call (jn5 rfl ?_ ?_ ?_ ?_ ?_) ?_<;>first|(constructor<;>(try simp only[A0A,lw,A4,A9,A7])<;>omega)|rintro _ _ _ ⟨rfl,rfl,rfl⟩ -)|fail)<;>try simp only[go_sem,seval,d2,d3])
  exact⟨_,by rw[hR];exact GL.refl _ _⟩
 rw[if_neg h4]at hR;have d4:=dk 4 h4;by_cases h18:k=18
 ·subst h18;rw[if_pos rfl]at hR;repeat' ((first|(with_reducible first|refine wr ?_|refine cpc ha0 ?_|refine cpc hte ?_|refine A1 ?_ ?_)|(with_reducible refine wb2 ?_ ?_<;>(intro hb;try simp only[hb]))|(refine AC.call (wd1 rfl (by first|assumption|decide)) ?_<;>rintro _ _ _ ⟨rfl,rfl,rfl⟩ -)|(refine AC.call (jn2 rfl ?_ ?_) ?_<;>first|(constructor<;>(try simp only[A0A,lw,A4,A9,A7])<;>omega)|rintro _ _ _ ⟨rfl,rfl,rfl⟩ -)|(refine AC.call (jn3 rfl ?_ ?_ ?_) ?_<;>first|(constructor<;>(try simp only[A0A,lw,A4,A9,A7])<;>omega)|rintro _ _ _ ⟨rfl,rfl,rfl⟩ -)|(refine AC.call (jn4 rfl ?_ ?_ ?_ ?_) ?_<;>first|(constructor<;>(try simp only[A0A,lw,A4,A9,A7])<;>omega)|rintro _ _ _ ⟨rfl,rfl,rfl⟩ -)|(refine AC.call (jn5 rfl ?_ ?_ ?_ ?_ ?_) ?_<;>first|(constructor<;>(try simp only[A0A,lw,A4,A9,A7])<;>omega)|rintro _ _ _ ⟨rfl,rfl,rfl⟩ -)|fail)<;>try simp only[go_sem,seval,d2,d3,d4])
  exact⟨_,by rw[hR];exact GL.refl _ _⟩
 rw[if_neg h18]at hR;have d18:=dk 18 h18;by_cases h8:k=8\/k=10
 ·rw[if_pos h8]at hR;rcases h8 with rfl|rfl
  ·repeat' ((first|(with_reducible first|refine wr ?_|refine cpc ha0 ?_|refine cpc hna ?_|refine A1 ?_ ?_)|(with_reducible refine wb2 ?_ ?_<;>(intro hb;try simp only[hb]))|(refine AC.call (wd1 rfl (by first|assumption|decide)) ?_<;>rintro _ _ _ ⟨rfl,rfl,rfl⟩ -)|(refine AC.call (jn2 rfl ?_ ?_) ?_<;>first|(constructor<;>(try simp only[A0A,lw,A4,A9,A7])<;>omega)|rintro _ _ _ ⟨rfl,rfl,rfl⟩ -)|(refine AC.call (jn3 rfl ?_ ?_ ?_) ?_<;>first|(constructor<;>(try simp only[A0A,lw,A4,A9,A7])<;>omega)|rintro _ _ _ ⟨rfl,rfl,rfl⟩ -)|(refine AC.call (jn4 rfl ?_ ?_ ?_ ?_) ?_<;>first|(constructor<;>(try simp only[A0A,lw,A4,A9,A7])<;>omega)|rintro _ _ _ ⟨rfl,rfl,rfl⟩ -)|(refine AC.call (jn5 rfl ?_ ?_ ?_ ?_ ?_) ?_<;>first|(constructor<;>(try simp only[A0A,lw,A4,A9,A7])<;>omega)|rintro _ _ _ ⟨rfl,rfl,rfl⟩ -)|fail)<;>try simp only[go_sem,seval,d2,d3,d4,d18])
   exact⟨_,by rw[hR];exact GL.refl _ _⟩
  ·repeat' ((first|(with_reducible first|refine wr ?_|refine cpc ha0 ?_|refine cpc hna ?_|refine A1 ?_ ?_)|(with_reducible refine wb2 ?_ ?_<;>(intro hb;try simp only[hb]))|(refine AC.call (wd1 rfl (by first|assumption|decide)) ?_<;>rintro _ _ _ ⟨rfl,rfl,rfl⟩ -)|(refine AC.call (jn2 rfl ?_ ?_) ?_<;>first|(constructor<;>(try simp only[A0A,lw,A4,A9,A7])<;>omega)|rintro _ _ _ ⟨rfl,rfl,rfl⟩ -)|(refine AC.call (jn3 rfl ?_ ?_ ?_) ?_<;>first|(constructor<;>(try simp only[A0A,lw,A4,A9,A7])<;>omega)|rintro _ _ _ ⟨rfl,rfl,rfl⟩ -)|(refine AC.call (jn4 rfl ?_ ?_ ?_ ?_) ?_<;>first|(constructor<;>(try simp only[A0A,lw,A4,A9,A7])<;>omega)|rintro _ _ _ ⟨rfl,rfl,rfl⟩ -)|(refine AC.call (jn5 rfl ?_ ?_ ?_ ?_ ?_) ?_<;>first|(constructor<;>(try simp only[A0A,lw,A4,A9,A7])<;>omega)|rintro _ _ _ ⟨rfl,rfl,rfl⟩ -)|fail)<;>try simp only[go_sem,seval,d2,d3,d4,d18])
   exact⟨_,by rw[hR];exact GL.refl _ _⟩
 rw[if_neg h8]at hR;have d8:=dk 8 (fun h=>h8 (.inl h));have d10:=dk 10 (fun h=>h8 (.inr h));by_cases h9:k=9
 ·subst h9;rw[if_pos rfl]at hR;repeat' ((first|(with_reducible first|refine wr ?_|refine cpc ha0 ?_|refine cpc ha1 ?_|refine cpc hna ?_|refine A1 ?_ ?_)|(with_reducible refine wb2 ?_ ?_<;>(intro hb;try simp only[hb]))|(refine AC.call (wd1 rfl (by first|assumption|decide)) ?_<;>rintro _ _ _ ⟨rfl,rfl,rfl⟩ -)|(refine AC.call (jn2 rfl ?_ ?_) ?_<;>first|(constructor<;>(try simp only[A0A,lw,A4,A9,A7])<;>omega)|rintro _ _ _ ⟨rfl,rfl,rfl⟩ -)|(refine AC.call (jn3 rfl ?_ ?_ ?_) ?_<;>first|(constructor<;>(try simp only[A0A,lw,A4,A9,A7])<;>omega)|rintro _ _ _ ⟨rfl,rfl,rfl⟩ -)|(refine AC.call (jn4 rfl ?_ ?_ ?_ ?_) ?_<;>first|(constructor<;>(try simp only[A0A,lw,A4,A9,A7])<;>omega)|rintro _ _ _ ⟨rfl,rfl,rfl⟩ -)|(refine AC.call (jn5 rfl ?_ ?_ ?_ ?_ ?_) ?_<;>first|(constructor<;>(try simp only[A0A,lw,A4,A9,A7])<;>omega)|rintro _ _ _ ⟨rfl,rfl,rfl⟩ -)|fail)<;>try simp only[go_sem,seval,d2,d3,d4,d18,d8,d10])
  exact⟨_,by rw[hR];exact GL.refl _ _⟩
 rw[if_neg h9]at hR;have d9:=dk 9 h9;by_cases h19:k=19
 ·subst h19;rw[if_pos rfl]at hR;repeat' ((first|(with_reducible first|refine wr ?_|refine A1 ?_ ?_)|(with_reducible refine wb2 ?_ ?_<;>(intro hb;try simp only[hb]))|(refine AC.call (wd1 rfl (by first|assumption|decide)) ?_<;>rintro _ _ _ ⟨rfl,rfl,rfl⟩ -)|(refine AC.call (jn2 rfl ?_ ?_) ?_<;>first|(constructor<;>(try simp only[A0A,lw,A4,A9,A7])<;>omega)|rintro _ _ _ ⟨rfl,rfl,rfl⟩ -)|(refine AC.call (jn3 rfl ?_ ?_ ?_) ?_<;>first|(constructor<;>(try simp only[A0A,lw,A4,A9,A7])<;>omega)|rintro _ _ _ ⟨rfl,rfl,rfl⟩ -)|(refine AC.call (jn4 rfl ?_ ?_ ?_ ?_) ?_<;>first|(constructor<;>(try simp only[A0A,lw,A4,A9,A7])<;>omega)|rintro _ _ _ ⟨rfl,rfl,rfl⟩ -)|(refine AC.call (jn5 rfl ?_ ?_ ?_ ?_ ?_) ?_<;>first|(constructor<;>(try simp only[A0A,lw,A4,A9,A7])<;>omega)|rintro _ _ _ ⟨rfl,rfl,rfl⟩ -)|fail)<;>try simp only[go_sem,seval,d2,d3,d4,d18,d8,d10,d9])
  exact⟨_,by rw[hR];exact GL.refl _ _⟩
 rw[if_neg h19]at hR;have d19:=dk 19 h19;repeat' ((first|(with_reducible first|refine wr ?_|refine cpc hna ?_|refine A1 ?_ ?_)|(with_reducible refine wb2 ?_ ?_<;>(intro hb;try simp only[hb]))|(refine AC.call (wd1 rfl (by first|assumption|decide)) ?_<;>rintro _ _ _ ⟨rfl,rfl,rfl⟩ -)|(refine AC.call (jn2 rfl ?_ ?_) ?_<;>first|(constructor<;>(try simp only[A0A,lw,A4,A9,A7])<;>omega)|rintro _ _ _ ⟨rfl,rfl,rfl⟩ -)|(refine AC.call (jn3 rfl ?_ ?_ ?_) ?_<;>first|(constructor<;>(try simp only[A0A,lw,A4,A9,A7])<;>omega)|rintro _ _ _ ⟨rfl,rfl,rfl⟩ -)|(refine AC.call (jn4 rfl ?_ ?_ ?_ ?_) ?_<;>first|(constructor<;>(try simp only[A0A,lw,A4,A9,A7])<;>omega)|rintro _ _ _ ⟨rfl,rfl,rfl⟩ -)|(refine AC.call (jn5 rfl ?_ ?_ ?_ ?_ ?_) ?_<;>first|(constructor<;>(try simp only[A0A,lw,A4,A9,A7])<;>omega)|rintro _ _ _ ⟨rfl,rfl,rfl⟩ -)|fail)<;>try simp only[go_sem,seval,d2,d3,d4,d18,d8,d10,d9,d19])
 exact⟨_,by rw[hR];exact GL.refl _ _⟩
theorem c_wordsO(x:List UInt8)(hx:x.length<=1000000000)(H:Hp)(cc:Nat):AC Tryz.prog 53 [Y6 [x]] H cc (fun v H' c' => ∃ id,cc<=id/\id<c'/\v=.slc id 0 1/\H'=H.upd id ⟨4,true,(A5 x).v.cells⟩):=by
 refine AC.bodyT B1 rfl (A0C rfl) fun hfr=>?_;have h1:=c_IsWordR x;have h2:=c_IsNameR x (by omega);repeat' ((with_reducible first|refine wr ?_|refine A1 ?_ ?_|refine wb2 ?_ ?_<;>(intro hb;try simp only[hb])|fail)<;>try simp only[go_sem,seval])
 refine D4 (fun q:Option Nat=>[(0,Y6 [x]),(3,A8 q 1),(4,I64 (if q=none then 0 else 1))]) (fun q=>B9 H q ⟨4,true,(A5 x).v.cells⟩)
  (fun q c=>cc<=c/\(∀ i,q=some i->cc<=i/\i<c)) (fun q=>if q=none then 1 else 0) none
  (by simp[C5,tm,Tm.upd,A8]) (Sub.refl _) ⟨A0J _,(fun i hi=>by cases hi)⟩ ?_
 rintro o c ⟨hc,ho⟩;cases o with
 |none =>
  have hd:decide ((0:Int)<1)=true:=by decide
  have hw:IntKind.i64.wrap (0+1)=1:=by decide
  have hw':IntKind.i64.wrap 1=1:=by decide
  have hr0:∀ i:Nat,H (c+i)=none:=fun i=>hfr _ (by omega);have ne0:=A4n c (c+1) (by omega);cases hw1:G3 x with
  |true =>
   repeat' ((with_reducible first|refine wr ?_|refine cpc h1 ?_|refine cpc h2 ?_|refine A1 ?_ ?_|refine wb2 ?_ ?_<;>(intro hb;try simp only[hb])|fail)<;>try simp only[go_sem,seval,hw1,ne0,A0,A2,hw,hw'])
   refine C6 (A0y (by decide) (by decide) (by decide)) ?_;simp only[go_sem,seval,ne0];repeat' ((with_reducible first|refine wr ?_|refine A1 ?_ ?_|refine wb2 ?_ ?_<;>(intro hb;try simp only[hb])|fail)<;>try simp only[go_sem,seval,hw,hw',ne0])
   refine⟨some (c+1+1),by simp[C5,tm,Tm.upd,A8,hw,hw'],?_,inv ⟨by omega,(fun i hi=>by cases hi;omega)⟩,by simp⟩;intro j b hj;simp only[B9]at hj;by_cases e1:j=c+1+1
   ·subst e1;rw[A0]at hj ⊢;rw[<- hj];unfold A5;simp only[hw1,if_true,if_false,A1N]
   ·rw[A6 e1]at hj ⊢;have:j<cc:=Classical.byContradiction fun h=>by rw[hfr j (by omega)]at hj;cases hj
    rw[hnO,hnO];exact hj
  |false =>
   cases hn1:C4 x with
   |true =>
    repeat' ((with_reducible first|refine wr ?_|refine cpc h1 ?_|refine cpc h2 ?_|refine A1 ?_ ?_|refine wb2 ?_ ?_<;>(intro hb;try simp only[hb])|fail)<;>try simp only[go_sem,seval,hw1,hn1,ne0,A0,A2,hw,hw'])
    refine C6 (A0y (by decide) (by decide) (by decide)) ?_;simp only[go_sem,seval,ne0];repeat' ((with_reducible first|refine wr ?_|refine A1 ?_ ?_|refine wb2 ?_ ?_<;>(intro hb;try simp only[hb])|fail)<;>try simp only[go_sem,seval,hw,hw',ne0])
    refine⟨some (c+1+1),by simp[C5,tm,Tm.upd,A8,hw,hw'],?_,inv ⟨by omega,(fun i hi=>by cases hi;omega)⟩,by simp⟩;intro j b hj;simp only[B9]at hj;by_cases e1:j=c+1+1
    ·subst e1;rw[A0]at hj ⊢;rw[<- hj];unfold A5;simp only[hw1,hn1,if_true,if_false,A1N]
    ·rw[A6 e1]at hj ⊢;have:j<cc:=Classical.byContradiction fun h=>by rw[hfr j (by omega)]at hj;cases hj
     rw[hnO,hnO];exact hj
   |false =>
    repeat' ((with_reducible first|refine wr ?_|refine cpc h1 ?_|refine cpc h2 ?_|refine A1 ?_ ?_|refine wb2 ?_ ?_<;>(intro hb;try simp only[hb])|fail)<;>try simp only[go_sem,seval,hw1,hn1,ne0,A0,A2,hw,hw'])
    refine C6 (A0y (by decide) (by decide) (by decide)) ?_;simp only[go_sem,seval,ne0];repeat' ((with_reducible first|refine wr ?_|refine A1 ?_ ?_|refine wb2 ?_ ?_<;>(intro hb;try simp only[hb])|fail)<;>try simp only[go_sem,seval,hw,hw',ne0])
    refine⟨some (c+1+1),by simp[C5,tm,Tm.upd,A8,hw,hw'],?_,inv ⟨by omega,(fun i hi=>by cases hi;omega)⟩,by simp⟩;intro j b hj;simp only[B9]at hj;by_cases e1:j=c+1+1
    ·subst e1;rw[A0]at hj ⊢;rw[<- hj];unfold A5;simp only[hw1,hn1,if_true,if_false,A1N]
    ·rw[A6 e1]at hj ⊢;have:j<cc:=Classical.byContradiction fun h=>by rw[hfr j (by omega)]at hj;cases hj
     rw[hnO,hnO];exact hj
 |some i =>
  have hd:decide ((1:Int)<1)=false:=by decide
  repeat' ((with_reducible first|refine wr ?_|refine A1 ?_ ?_|refine wb2 ?_ ?_<;>(intro hb;try simp only[hb])|fail)<;>try simp only[go_sem,seval,hd])
  exact⟨_,_,GL.refl _ _,i,(ho i rfl).1,(ho i rfl).2,rfl,rfl⟩
theorem D6x{x:List UInt8}{id cc:Nat}{H:Hp}(hb:H id=some ⟨1,true,[.str x]⟩)(hx:x.length<=1000000000):
  AC Tryz.prog 53 [.slc id 0 1] H cc (fun v H' c' => ∃ i,cc<=i/\i<c'/\v=.slc i 0 1/\H'=(I5 H (some id)).upd i ⟨4,true,(A5 x).v.cells⟩) :=
 AC.ghost (GL.frzS (id:=id) hb rfl (fun j=>by
  by_cases e:j=id
  ·subst e;exact .inl (by rw[M7,if_pos rfl])
  ·exact .inr ⟨e,by rw[M7,if_neg e]⟩) (.cons _ _ _ _ (M6 (xs:=[.str x]) rfl (G9 [x]) ⟨[],rfl⟩) .nil)) (c_wordsO x hx _ cc)
theorem A7o:∀ l:List Pb.St,L6 l=(l.map stT).flatten
 |[]=>rfl
 |e :: l=>by rw[L6,A7o l];rfl
theorem c_blockT(l:List Pb.St)(hl:l.length<=10000000)(hs:∀ x∈l,PC Tryz.prog 93 [x.v] (D9 (stT x)))(hx:∀ x∈l,1<=(stT x).length/\(stT x).length<=100000000)(hT:(blT l).length<=100000000):PC Tryz.prog 57 [F4 l] (D9 (blT l)):=by
 refine PC.ofT B1 rfl (A0C rfl) (by simp[DV.nlL,DV.nl,Y9]) (K1 _) ?_;obtain⟨R,hR⟩:∃ R,R=D9 (blT l):=⟨_,rfl⟩;rw[<- hR];unfold blT at hR;rw[A7o]at hR;have hT':(l.map stT).flatten.length<=100000000:=by
  unfold blT at hT;rw[A7o]at hT;simp only[A0A,A0G]at hT;omega
 repeat' ((with_reducible first|refine wr ?_|refine A1 ?_ ?_|refine wb2 ?_ ?_<;>(intro hb;try simp only[hb])|fail)<;>try simp only[go_sem,seval])
 refine AC.call (D6x rfl (by decide)) ?_;rintro v H' c1 ⟨i,hi1,hi2,rfl,rfl⟩ -;simp only[go_sem,seval];repeat' ((with_reducible first|refine wr ?_|refine A1 ?_ ?_|refine wb2 ?_ ?_<;>(intro hb;try simp only[hb])|fail)<;>try simp only[go_sem,seval])
 obtain⟨F,hF⟩:∃ F:Nat->List Tok, ∀ k,F k=wT [123]++((l.take k).map stT).flatten:=⟨_,fun _=>rfl⟩;have hF0:F 0=wT [123]:=by rw[hF];simp
 refine D4 (fun q:Nat × Nat=>[(0,F4 l),(3,.slc q.2 0 (F q.1).length),(4,I64 q.1)]) (fun q=>Sym.nil.upd q.2 ⟨4,true,A3 ((F q.1).map Tok.v)⟩)
  (fun q c=>q.1<=l.length/\q.2<c) (fun q=>l.length-q.1) (0,i)
  (by simp[C5,tm,Tm.upd,hF0,lw]) (by dsimp only;rw[hF0];exact Sub.refl _) ⟨A0Z _,hi2⟩ ?_
 clear hi1 hi2;rintro⟨k,i⟩ c ⟨hk,hi⟩;dsimp only at hk hi ⊢;by_cases hlt:k<l.length
 ·have hd:=dtz hlt;have hg:=A0B hlt;have hsx:=hs _ (A0V hlt);obtain⟨hx1,hx2⟩:=hx _ (A0V hlt);have hw:=w64 (n:=(k:Int)+1);have e0:F (k+1)=F k++stT l[k]:=by rw[hF,hF,A1D,hg,A0S,List.flatten_append];simp
  have hle:((l.take k).map stT).flatten.length<=100000000:=by
   have h1:(l.map stT).flatten=((l.take k).map stT).flatten++((l.drop k).map stT).flatten:=by rw[<- List.flatten_append, <- A0S,A2K]
   rw[h1,A0A]at hT';omega
  have hle2:(F k).length<=200000000:=by rw[hF,A0A,lw];omega
  rw[Pb.St.v_w]at hsx;generalize l[k]=x at hg hx1 hx2 e0 hsx;generalize F k=y at hle2 e0 ⊢;have hln:(A3 (y.map Tok.v)).length=y.length * 4:=(C0 (u:=4) (E4 _)).trans (by simp);have hun:unit 4 ((stT x).map Tok.v)=true:=by unfold unit;rw[A0Q];intro d hd;simp[E4 (stT x) d hd]
  repeat' ((with_reducible first|refine wr ?_|refine cpc hsx ?_|refine A1 ?_ ?_|refine wb2 ?_ ?_<;>(intro hb;try simp only[hb])|fail)<;>try simp only[go_sem,seval,hd,hg,hw,Pb.St.v_w,O7 hun])
  refine C6 (E5 hln (by omega) (by omega)) ?_;simp only[go_sem,seval,hw];repeat' ((with_reducible first|refine wr ?_|refine A1 ?_ ?_|refine wb2 ?_ ?_<;>(intro hb;try simp only[hb])|fail)<;>try simp only[go_sem,seval,hw])
  refine⟨(k+1,c),by simp[C5,tm,Tm.upd,e0],?_,inv ⟨by omega,by simp only;omega⟩,by simp only;omega⟩;dsimp only;rw[e0,A0S,C1];intro j b hj;by_cases e1:j=c
  ·subst e1;rw[A0]at hj ⊢;exact hj
  ·rw[A6 e1]at hj;cases hj
 ·have hd:=dfz hlt;rw[hF,A0L (by omega)];have hun:unit 4 ((wT [125]).map Tok.v)=true:=by unfold unit;rw[A0Q];intro d hd;simp[E4 (wT [125]) d hd]
  have hle2:(wT [123]++(l.map stT).flatten).length<=200000000:=by rw[A0A,lw];omega
  have hR':R=D9 ((wT [123]++(l.map stT).flatten)++wT [125]):=hR;generalize wT [123]++(l.map stT).flatten=y at hle2 hR' ⊢;have hln:(A3 (y.map Tok.v)).length=y.length * 4:=(C0 (u:=4) (E4 _)).trans (by simp);have hnic:¬ i=c:=by omega
  have hlw:=lw [125];repeat' ((with_reducible first|refine wr ?_|refine A1 ?_ ?_|refine wb2 ?_ ?_<;>(intro hb;try simp only[hb])|fail)<;>try simp only[go_sem,seval,hd])
  refine AC.call (wd1 A0 (by decide)) ?_;rintro v H' c2 ⟨rfl,rfl,rfl⟩ -;simp only[go_sem,seval,hnic,O7 hun];repeat' ((with_reducible first|refine wr ?_|refine A1 ?_ ?_|refine wb2 ?_ ?_<;>(intro hb;try simp only[hb])|fail)<;>try simp only[go_sem,seval,hnic,O7 hun])
  refine C6 (E5 hln (by omega) (by omega)) ?_;simp only[go_sem,seval];repeat' ((with_reducible first|refine wr ?_|refine A1 ?_ ?_|refine wb2 ?_ ?_<;>(intro hb;try simp only[hb])|fail)<;>try simp only[go_sem,seval])
  rw[hR'];exact K7 (id:=c+1) A0 rfl (by simp) (E4 _) ⟨[],by rw[A0S,C1,A1H]⟩
theorem c_stT:∀ m:Nat,m<=5000000->(∀ x:Pb.St,x.sz<m->PC Tryz.prog 93 [x.v] (D9 (stT x)))/\(∀ l:List Pb.St,Pb.St.szs l<m->PC Tryz.prog 57 [F4 l] (D9 (blT l))):=by
 intro m
 induction m with
 |zero=>exact fun _=>⟨fun x h=>by omega,fun l h=>by omega⟩
 |succ m ih =>
  intro hm;obtain⟨i1,i2⟩:=ih (by omega);have A:∀ x:Pb.St,x.sz<m+1->PC Tryz.prog 93 [x.v] (D9 (stT x)):=fun x hx =>
   c_stmtT m i1 i2 (fun l hl=>by have:=A3d l;omega) (fun y hy=>by have:=A2k y;omega) x (by omega) (by omega)
  refine⟨A,fun l hl=>?_⟩;have h1:=Pb.St.szs_len l;have h2:=A3d l;exact c_blockT l (by omega) (fun x hx=>A x (by have:=Pb.St.szs_mem hx;omega)) (fun x hx=>by have:=A2k x;have:=Pb.St.szs_mem hx;omega) (by omega)
theorem c_blkT(l:List Pb.St)(h:Pb.St.szs l<5000000):PC Tryz.prog 57 [F4 l] (D9 (blT l)):=(c_stT 5000000 (A0J _)).2 l h
theorem C4e{X H1:Hp}{o:Option Nat}{c n0:Nat}{b b3 b3':Blk}(hX:∀ j q,X j=some q->j<c)(ho:∀ i,o=some i->X i=none)(hH:∀ j,j<c->H1 j=B9 X o b j)(hn:c<=n0)(hb:b3=b3'):
  Sym.Sub (B9 X (some n0) b3) ((I5 H1 o).upd n0 b3'):=by
 subst hb;intro j q hj;simp only[B9]at hj;by_cases e:j=n0
 ·subst e;rw[A0]at hj ⊢;exact hj
 ·rw[A6 e]at hj ⊢;have h1:=hX j q hj;have h2:∀ i,o=some i->¬ j=i:=fun i hi e2=>by rw[e2,ho i hi]at hj;cases hj
  rw[C7 h2,hH j h1,B6 h2];exact hj
theorem A8n{H:Hp}{i:Nat}(h:H i=none):I5 H (some i)=H:=by
 funext j;rw[M7];split
 ·rename_i e;rw[e,h]
 ·rfl
theorem C1r{X:Hp}{o:Option Nat}{xs:List DV}{u n:Nat}(hno:o=none->xs=[])(hl:xs.length=n)(hu:∀ x∈xs,x.cells.length=u):
  ∃ H2,GL (B9 X o ⟨u,true,A3 xs⟩) [A8 o n] H2 [.lst xs]:=by
 cases o with
 |none=>rw[hno rfl];exact B7e
 |some i=>exact K7 (id:=i) A0 rfl hl hu ⟨[],by simp⟩
def wT2(x y:List UInt8):List Tok:=[A5 x,A5 y]
theorem D6w{x y:List UInt8}{id cc:Nat}{H:Hp}(hb:H id=some ⟨1,true,[.str x,.str y]⟩)(hx:x.length<=1000000000)(hy:y.length<=1000000000):
  AC Tryz.prog 53 [.slc id 0 2] H cc (fun v H' c'=>v=D9 (wT2 x y)/\H'=I5 H (some id)/\c'=cc):=wd2 hb hx hy
theorem B1m{X:Hp}{i j:Nat}(h:¬ j=i):(X.del i) j=X j:=by rw[show X.del i=I5 X (some i) from rfl,M7,if_neg h]
theorem A4d(l:List Tok):unit 4 (l.map Tok.v)=true:=by unfold unit;rw[A0Q];intro d hd;simp[E4 l d hd]
theorem Q5(l:List Tok):(A3 (l.map Tok.v)).length=l.length * 4:=(C0 (u:=4) (E4 _)).trans (by simp)
theorem c_declT(d:Dc)(hn:d.name.length<=1000000000):PC Tryz.prog 51 [d.v] (D9 (dcT d)):=by
 refine PC.ofT B1 rfl (A0C rfl) rfl (K1 _) ?_;obtain⟨R,hR⟩:∃ R,R=D9 (dcT d):=⟨_,rfl⟩;rw[<- hR];obtain⟨k,n,v,p⟩:=d;unfold dcT at hR;dsimp only at hR hn ⊢;have hna:=c_named n hn;have hnu:=c_number31 v;have hnn:=c_number31 (-v);by_cases hbk:k<1\/8<k
 ·rw[if_pos hbk]at hR;by_cases h2:k<1
  ·have d2:decide (k<1)=true:=by simpa using h2
   repeat' ((with_reducible first|refine wr ?_|refine A1 ?_ ?_|refine wb2 ?_ ?_<;>(intro hb;try simp only[hb])|fail)<;>try simp only[go_sem,seval,d2])
   rw[hR];exact K7 (id:=1) A0 rfl rfl (E4 [O9]) ⟨[],rfl⟩
  ·have d2:decide (k<1)=false:=by simp;omega
   have d3:decide (k>8)=true:=by simp;omega
   repeat' ((with_reducible first|refine wr ?_|refine A1 ?_ ?_|refine wb2 ?_ ?_<;>(intro hb;try simp only[hb])|fail)<;>try simp only[go_sem,seval,d2,d3])
   rw[hR];exact K7 (id:=1) A0 rfl rfl (E4 [O9]) ⟨[],rfl⟩
 rw[if_neg hbk]at hR;have e2:decide (k<1)=false:=by simp;omega
 have e3:decide (k>8)=false:=by simp;omega
 try dsimp only at hR
 obtain⟨j,hj⟩:∃ j:Nat,k=1+(j:Int):=⟨(k-1).toNat,by omega⟩;have hjw:IntKind.i64.wrap (k-1)=(j:Int):=by rw[w6z (by omega)];omega
 have hjn:(k-1).toNat=j:=by omega
 rw[hjn]at hR;have hj8:j<8:=by omega
 have hgj:D0[j]? = some (D0.getD j []):=by
  rw[A0Y,A0B (show j<D0.length from hj8)];rfl
 have hsl:(D0.getD j []).length<=1000000000:=by
  have:∀ i:Nat,i<8->(D0.getD i []).length<=1000000000:=by decide
  exact this j hj8
 generalize D0.getD j []=S at hR hgj hsl;by_cases h6:6<k
 ·have d6:decide (k>6)=true:=by simpa using h6
  rw[if_pos h6]at hR;repeat' ((first|(with_reducible first|refine wr ?_|refine cpc c_decls31 ?_|refine cpc hna ?_|refine A1 ?_ ?_)|(with_reducible refine wb2 ?_ ?_<;>(intro hb;try simp only[hb]))|(refine AC.call (wd1 rfl (by first|assumption|decide)) ?_<;>rintro _ _ _ ⟨rfl,rfl,rfl⟩ -)|(refine AC.call (jn2 rfl ?_ ?_) ?_<;>first|(constructor<;>(try simp only[A0A,lw,A4,A9,A7])<;>omega)|rintro _ _ _ ⟨rfl,rfl,rfl⟩ -)|(refine AC.call (jn3 rfl ?_ ?_ ?_) ?_<;>first|(constructor<;>(try simp only[A0A,lw,A4,A9,A7])<;>omega)|rintro _ _ _ ⟨rfl,rfl,rfl⟩ -)|fail)<;>try simp only[go_sem,seval,e2,e3,hjw,hgj,d6])
  exact⟨_,by rw[hR];exact GL.refl _ _⟩
 rw[if_neg h6]at hR;have d6:decide (k>6)=false:=by simp;omega
 by_cases hm:v<0 /\ -2147483647<=v/\k=6
 ·obtain⟨m1,m2,hk6⟩:=hm;have x3:(k == 6)=true:=by simpa using hk6
  have x1:decide (v<0)=true:=by simpa using m1
  have x2:decide (v ≥ -2147483647)=true:=by simpa using m2
  have hng:IntKind.i64.wrap (0-v) = -v:=by rw[w6z (by omega)];omega
  rw[if_pos ⟨m1,m2,hk6⟩]at hR;repeat' ((first|(with_reducible first|refine wr ?_|refine cpc c_decls31 ?_|refine cpc hna ?_|refine cpc hnn ?_|refine A1 ?_ ?_)|(with_reducible refine wb2 ?_ ?_<;>(intro hb;try simp only[hb]))|(refine AC.call (wd1 rfl (by first|assumption|decide)) ?_<;>rintro _ _ _ ⟨rfl,rfl,rfl⟩ -)|(refine AC.call (jn2 rfl ?_ ?_) ?_<;>first|(constructor<;>(try simp only[A0A,lw,A4,A9,A7])<;>omega)|rintro _ _ _ ⟨rfl,rfl,rfl⟩ -)|(refine AC.call (jn3 rfl ?_ ?_ ?_) ?_<;>first|(constructor<;>(try simp only[A0A,lw,A4,A9,A7])<;>omega)|rintro _ _ _ ⟨rfl,rfl,rfl⟩ -)|fail)<;>try simp only[go_sem,seval,e2,e3,hjw,hgj,d6,x1,x2,x3,hng])
  exact⟨_,by rw[hR];exact GL.refl _ _⟩
 rw[if_neg hm]at hR;by_cases m1:v<0
 ·have x1:decide (v<0)=true:=by simpa using m1
  by_cases m2 : -2147483647<=v
  ·have x2:decide (v ≥ -2147483647)=true:=by simpa using m2
   have x3:(k == 6)=false:=by simp;omega
   repeat' ((first|(with_reducible first|refine wr ?_|refine cpc c_decls31 ?_|refine cpc hna ?_|refine cpc hnu ?_|refine A1 ?_ ?_)|(with_reducible refine wb2 ?_ ?_<;>(intro hb;try simp only[hb]))|(refine AC.call (wd1 rfl (by first|assumption|decide)) ?_<;>rintro _ _ _ ⟨rfl,rfl,rfl⟩ -)|(refine AC.call (jn2 rfl ?_ ?_) ?_<;>first|(constructor<;>(try simp only[A0A,lw,A4,A9,A7])<;>omega)|rintro _ _ _ ⟨rfl,rfl,rfl⟩ -)|(refine AC.call (jn3 rfl ?_ ?_ ?_) ?_<;>first|(constructor<;>(try simp only[A0A,lw,A4,A9,A7])<;>omega)|rintro _ _ _ ⟨rfl,rfl,rfl⟩ -)|fail)<;>try simp only[go_sem,seval,e2,e3,hjw,hgj,d6,x1,x2,x3])
   exact⟨_,by rw[hR];exact GL.refl _ _⟩
  ·have x2:decide (v ≥ -2147483647)=false:=by simp;omega
   repeat' ((first|(with_reducible first|refine wr ?_|refine cpc c_decls31 ?_|refine cpc hna ?_|refine cpc hnu ?_|refine A1 ?_ ?_)|(with_reducible refine wb2 ?_ ?_<;>(intro hb;try simp only[hb]))|(refine AC.call (wd1 rfl (by first|assumption|decide)) ?_<;>rintro _ _ _ ⟨rfl,rfl,rfl⟩ -)|(refine AC.call (jn2 rfl ?_ ?_) ?_<;>first|(constructor<;>(try simp only[A0A,lw,A4,A9,A7])<;>omega)|rintro _ _ _ ⟨rfl,rfl,rfl⟩ -)|(refine AC.call (jn3 rfl ?_ ?_ ?_) ?_<;>first|(constructor<;>(try simp only[A0A,lw,A4,A9,A7])<;>omega)|rintro _ _ _ ⟨rfl,rfl,rfl⟩ -)|fail)<;>try simp only[go_sem,seval,e2,e3,hjw,hgj,d6,x1,x2])
   exact⟨_,by rw[hR];exact GL.refl _ _⟩
 ·have x1:decide (v<0)=false:=by simp;omega
  repeat' ((first|(with_reducible first|refine wr ?_|refine cpc c_decls31 ?_|refine cpc hna ?_|refine cpc hnu ?_|refine A1 ?_ ?_)|(with_reducible refine wb2 ?_ ?_<;>(intro hb;try simp only[hb]))|(refine AC.call (wd1 rfl (by first|assumption|decide)) ?_<;>rintro _ _ _ ⟨rfl,rfl,rfl⟩ -)|(refine AC.call (jn2 rfl ?_ ?_) ?_<;>first|(constructor<;>(try simp only[A0A,lw,A4,A9,A7])<;>omega)|rintro _ _ _ ⟨rfl,rfl,rfl⟩ -)|(refine AC.call (jn3 rfl ?_ ?_ ?_) ?_<;>first|(constructor<;>(try simp only[A0A,lw,A4,A9,A7])<;>omega)|rintro _ _ _ ⟨rfl,rfl,rfl⟩ -)|fail)<;>try simp only[go_sem,seval,e2,e3,hjw,hgj,d6,x1])
  exact⟨_,by rw[hR];exact GL.refl _ _⟩
theorem c_rulesT(r:Ru)(hB:r.sz<4000000)(hT:(r.decls.flatMap dcT++r.modes.flatMap mdT).length<=100000000):PC Tryz.prog 24 [r.v] (D9 (ruT r)):=by
 refine PC.ofT B1 rfl (A0C rfl) (by simp[DV.nlL,DV.nl,A2q,A2p]) (K1 _) ?_;obtain⟨R,hR⟩:∃ R,R=D9 (ruT r):=⟨_,rfl⟩;rw[<- hR];obtain⟨D,M⟩:=r;dsimp only at hT;unfold ruT at hR;dsimp only[Ru.v]at hR ⊢;have hDs:(D.map Dc.sz).sum+(M.map Md.sz).sum<4000000:=hB;have hDl:D.length<=(D.map Dc.sz).sum:=J1 fun x _=>by show 1<=1+_;omega
 have hMl:M.length<=(M.map Md.sz).sum:=J1 fun x _=>by show 1<=1+_+_;omega
 repeat' ((with_reducible first|refine wr ?_|refine A1 ?_ ?_|refine wb2 ?_ ?_<;>(intro hb;try simp only[hb])|fail)<;>try simp only[go_sem,seval])
 obtain⟨F,hF⟩:∃ F:Nat->List Tok, ∀ k,F k=(D.take k).flatMap dcT:=⟨_,fun _=>rfl⟩;have hF0:F 0=[]:=by rw[hF];rfl
 have hFl:∀ k,(F k).length<=100000000:=fun k=>by
  have h1:D.flatMap dcT=F k++(D.drop k).flatMap dcT:=by rw[hF, <- A1Z,A2K]
  rw[h1]at hT;simp only[A0A]at hT;omega
 refine D4 (fun q:Nat × Option Nat=>[(1,.ptr 0 0),(3,A8 q.2 (F q.1).length),(4,I64 q.1)]) (fun q=>B9 (Sym.nil.upd 0 ⟨0,true,[E3 D,H3 M]⟩) q.2 ⟨4,true,A3 ((F q.1).map Tok.v)⟩)
  (fun q c=>1<=c/\q.1<=D.length/\(q.2=none->F q.1=[])/\(∀ i,q.2=some i->1<=i/\i<c)) (fun q=>D.length-q.1) (0,none)
  (by simp[C5,tm,Tm.upd,A8]) (Sub.refl _) ⟨by omega,A0Z _,fun _=>hF0,(fun i hi=>by cases hi)⟩ ?_
 rintro⟨k,o⟩ c ⟨hc,hk,hno,ho⟩;dsimp only at hc hk hno ho ⊢;have hbx:B9 (Sym.nil.upd 0 ⟨0,true,[E3 D,H3 M]⟩) o ⟨4,true,A3 ((F k).map Tok.v)⟩ 0=some ⟨0,true,[E3 D,H3 M]⟩:=by rw[B6 (fun i hi=>by have:=ho i hi;omega),A0]
 by_cases hlt:k<D.length
 ·have hd:=dtz hlt;have hg:=A0B hlt;have hsz:=H6 (f:=Dc.sz) (A0V hlt);have hdt:=c_declT D[k] (by have h5:D[k].name.length<Dc.sz D[k]:=(by unfold Dc.sz;omega);omega);have hdl:=B7x D[k];have hw:=w64 (n:=(k:Int)+1);have e0:F (k+1)=F k++dcT D[k]:=by rw[hF,hF,A1D,hg,A1Z];simp
  have hFk:=hFl k;generalize D[k]=x at hg hdt hdl e0;have hun:unit 4 ((dcT x).map Tok.v)=true:=by unfold unit;rw[A0Q];intro d hd;simp[E4 (dcT x) d hd]
  have hln:(A3 ((F k).map Tok.v)).length=(F k).length * 4:=(C0 (u:=4) (E4 _)).trans (by simp);repeat' ((with_reducible first|refine wr ?_|refine cpc hdt ?_|refine A1 ?_ ?_|refine wb2 ?_ ?_<;>(intro hb;try simp only[hb])|fail)<;>try simp only[go_sem,seval,hd,hg,hw,hbx,O7 hun])
  refine C6 (E0 (cs:=A3 ((F k).map Tok.v)) (fun e=>by rw[hno e];exact⟨rfl,rfl⟩) (fun i hi=>A0c hi) hln (by omega) (by omega) (by omega)) ?_;simp only[go_sem,seval,hw];repeat' ((with_reducible first|refine wr ?_|refine A1 ?_ ?_|refine wb2 ?_ ?_<;>(intro hb;try simp only[hb])|fail)<;>try simp only[go_sem,seval,hw])
  refine⟨(k+1,some c),by simp[C5,tm,Tm.upd,A8,e0],?_,inv ⟨by omega,by omega,(fun h=>by cases h),(fun i hi=>by cases hi;omega)⟩,by simp only;omega⟩;dsimp only;refine C4e (n0:=c) (c:=c) (fun j q hq=>?_) (fun i hi=>?_) (fun j hj=>rfl) (A0J _) (by rw[e0,A0S,C1])
  ·by_cases e:j=0
   ·omega
   ·rw[A6 e]at hq;cases hq
  ·have:=ho i hi;rw[hnO];rfl
 ·have hd:=dfz hlt;repeat' ((with_reducible first|refine wr ?_|refine A1 ?_ ?_|refine wb2 ?_ ?_<;>(intro hb;try simp only[hb])|fail)<;>try simp only[go_sem,seval,hd,hbx])
  have hFD:F k=D.flatMap dcT:=by rw[hF,A0L (by omega)]
  have hc0:=hc;obtain⟨G,hG⟩:∃ G:Nat->List Tok, ∀ k,G k=D.flatMap dcT++(M.take k).flatMap mdT:=⟨_,fun _=>rfl⟩;have hG0:G 0=F k:=by rw[hG,hFD];simp
  have hGl:∀ k,(G k).length<=100000000:=fun k=>by
   have h1:M.flatMap mdT=(M.take k).flatMap mdT++(M.drop k).flatMap mdT:=by rw[<- A1Z,A2K]
   rw[h1]at hT;rw[hG];simp only[A0A]at hT ⊢;omega
  refine D4 (fun q:Nat × Option Nat=>[(1,.ptr 0 0),(3,A8 q.2 (G q.1).length),(5,I64 q.1)]) (fun q=>B9 (Sym.nil.upd 0 ⟨0,true,[E3 D,H3 M]⟩) q.2 ⟨4,true,A3 ((G q.1).map Tok.v)⟩)
   (fun q c=>1<=c/\q.1<=M.length/\(q.2=none->G q.1=[])/\(∀ i,q.2=some i->1<=i/\i<c)/\((M.take q.1).any fun m=>m.hds.any R5)=false) (fun q=>M.length-q.1) (0,o)
   (by simp[C5,tm,Tm.upd,hG0]) (by dsimp only;rw[hG0];exact Sub.refl _) ⟨hc,A0Z _,(by dsimp only;rw[hG0];exact hno),ho,rfl⟩ ?_
  clear hbx hno ho hG0 hFD hFl hF0 hF hc hc0 hlt hd hk;rintro⟨k,o⟩ c ⟨hc,hk,hno,ho,hbad⟩;dsimp only at hc hk hno ho hbad ⊢;have hbx:B9 (Sym.nil.upd 0 ⟨0,true,[E3 D,H3 M]⟩) o ⟨4,true,A3 ((G k).map Tok.v)⟩ 0=some ⟨0,true,[E3 D,H3 M]⟩:=by rw[B6 (fun i hi=>by have:=ho i hi;omega),A0]
  by_cases hlt:k<M.length
  ·have hd:=dtz hlt;have hg:=A0B hlt;have hsz:=H6 (f:=Md.sz) (A0V hlt);have hw:=w64 (n:=(k:Int)+1);have e0:G (k+1)=G k++mdT M[k]:=by rw[hG,hG,A1D,hg,A1Z];simp
   have b0:((M.take (k+1)).any fun m=>m.hds.any R5)=(M[k].hds.any R5):=by rw[A1D,hg,List.any_append,hbad];simp
   have b1:(M[k].hds.any R5)=true->R=D9 [O9]:=fun h=>by rw[hR,if_pos (A3D.2 ⟨_,A0V hlt,h⟩)]
   have hGk:=hGl k;have hGk1:=hGl (k+1);generalize M[k]=m at hg hsz e0 b0 b1;have hln:(A3 ((G k).map Tok.v)).length=(G k).length * 4:=(C0 (u:=4) (E4 _)).trans (by simp);have hnl:m.name.length<=1000000000:=by
    have h5:m.name.length<Md.sz m:=by unfold Md.sz;omega
    omega
   have hna:=c_named m.name hnl;have hnu:=c_number31 m.prio;have hbo:∀ i:Nat,o=some i->B9 (Sym.nil.upd 0 ⟨0,true,[E3 D,H3 M]⟩) o ⟨4,true,A3 ((G k).map Tok.v)⟩ i=some ⟨4,true,A3 ((G k).map Tok.v)⟩:=fun i hi=>by subst hi;exact A0
   have hbn:∀ j:Nat,c<=j->B9 (Sym.nil.upd 0 ⟨0,true,[E3 D,H3 M]⟩) o ⟨4,true,A3 ((G k).map Tok.v)⟩ j=none:=fun j hj=>by rw[B6 (fun i hi=>by have:=ho i hi;omega),hnO];rfl
   generalize hHH:B9 (Sym.nil.upd 0 ⟨0,true,[E3 D,H3 M]⟩) o ⟨4,true,A3 ((G k).map Tok.v)⟩=HH at hbx hbo hbn ⊢;have ne0:=T1 0 c (c+1+1) (c+1+9) (c+1+11) (by omega);have hd1:I5 HH (some (c+1+1))=HH:=A8n (hbn _ (by omega));have hd2:I5 HH (some (c+1+9))=HH:=A8n (hbn _ (by omega));have hd3:I5 HH (some (c+1+11))=HH:=A8n (hbn _ (by omega));repeat' ((with_reducible first|refine wr ?_|refine cpc hna ?_|refine cpc hnu ?_|refine A1 ?_ ?_|refine wb2 ?_ ?_<;>(intro hb;try simp only[hb])|fail)<;>try simp only[go_sem,seval,hd,hg,hw,hbx,ne0,A0,A2])
   refine AC.call (wd1 (x:=[109,111,100,101]) (by simp[F8,Hp.upd]) (by decide)) ?_;rintro v H' c2 ⟨rfl,rfl,rfl⟩ -;simp only[go_sem,seval,ne0,A0,A2,hd1,hd2,hd3];repeat' ((with_reducible first|refine wr ?_|refine cpc hna ?_|refine cpc hnu ?_|refine A1 ?_ ?_|refine wb2 ?_ ?_<;>(intro hb;try simp only[hb])|fail)<;>try simp only[go_sem,seval,ne0,A0,A2,hd1,hd2,hd3])
   refine⟨by and_intros<;>(repeat rw[hnO])<;>exact hbn _ (by omega),?_⟩;repeat' ((with_reducible first|refine wr ?_|refine cpc hna ?_|refine cpc hnu ?_|refine A1 ?_ ?_|refine wb2 ?_ ?_<;>(intro hb;try simp only[hb])|fail)<;>try simp only[go_sem,seval,ne0,A0,A2,hd1,hd2,hd3])
   refine⟨by and_intros<;>(repeat rw[hnO])<;>exact hbn _ (by omega),?_⟩;repeat' ((with_reducible first|refine wr ?_|refine cpc hna ?_|refine cpc hnu ?_|refine A1 ?_ ?_|refine wb2 ?_ ?_<;>(intro hb;try simp only[hb])|fail)<;>try simp only[go_sem,seval,ne0,A0,A2,hd1,hd2,hd3])
   refine⟨by and_intros<;>(repeat rw[hnO])<;>exact hbn _ (by omega),?_⟩;repeat' ((with_reducible first|refine wr ?_|refine cpc hna ?_|refine cpc hnu ?_|refine A1 ?_ ?_|refine wb2 ?_ ?_<;>(intro hb;try simp only[hb])|fail)<;>try simp only[go_sem,seval,ne0,A0,A2,hd1,hd2,hd3])
   refine AC.call (wd1 (x:=[123]) (by simp[F8,Hp.upd]) (by decide)) ?_;rintro v H' c2 ⟨rfl,rfl,rfl⟩ -;simp only[go_sem,seval,ne0,A0,A2,hd1,hd2,hd3];refine⟨by and_intros<;>(repeat rw[hnO])<;>exact hbn _ (by omega),?_⟩;repeat' ((with_reducible first|refine wr ?_|refine cpc hna ?_|refine cpc hnu ?_|refine A1 ?_ ?_|refine wb2 ?_ ?_<;>(intro hb;try simp only[hb])|fail)<;>try simp only[go_sem,seval,ne0,A0,A2,hd1,hd2,hd3])
   refine AC.call (jn4 A0 (by constructor<;>(try simp only[A0A,lw,A4,A9,A7])<;>omega) (by constructor<;>(try simp only[A0A,lw,A4,A9,A7])<;>omega) (by constructor<;>(try simp only[A0A,lw,A4,A9,A7])<;>omega) (by constructor<;>(try simp only[A0A,lw,A4,A9,A7])<;>omega)) ?_;rintro v H' c2 ⟨rfl,rfl,rfl⟩ -;have hun4:unit 4 ((wT [109,111,100,101]++C8 m.name++N9 m.prio++wT [123]).map Tok.v)=true:=by unfold unit;rw[A0Q];intro d hd;simp[E4 _ d hd]
   have hl4:(wT [109,111,100,101]++C8 m.name++N9 m.prio++wT [123]).length=4:=by simp only[A0A,lw,A4,A9]
   have hsrc:A1h (HH.upd c ⟨0,true,[.str m.name,I64 m.prio,A1c m.hds,I64 m.pos]⟩) 4 (D9 (wT [109,111,100,101]++C8 m.name++N9 m.prio++wT [123]))=some (4,A3 ((wT [109,111,100,101]++C8 m.name++N9 m.prio++wT [123]).map Tok.v)):=by
    rw[O7 hun4,A0E,hl4]
   obtain⟨Q,hQ⟩:∃ Q,Q=wT [109,111,100,101]++C8 m.name++N9 m.prio++wT [123]:=⟨_,rfl⟩;rw[<- hQ]at hsrc ⊢;simp only[go_sem,seval,ne0,A0,A2,hd1,hd2,hd3,hsrc];repeat' ((with_reducible first|refine wr ?_|refine cpc hna ?_|refine cpc hnu ?_|refine A1 ?_ ?_|refine wb2 ?_ ?_<;>(intro hb;try simp only[hb])|fail)<;>try simp only[go_sem,seval,ne0,A0,A2,hd1,hd2,hd3,hsrc])
   refine⟨by rw[hnO];exact hbn _ (by omega),?_⟩;rw[E0 (cs:=A3 ((G k).map Tok.v)) (fun e=>by rw[hno e];exact⟨rfl,rfl⟩) (fun i hi=>by have:=ho i hi;rw[hnO];exact hbo i hi) hln (by omega) (by omega) (by omega)];simp only[go_sem,seval,ne0];repeat' ((with_reducible first|refine wr ?_|refine A1 ?_ ?_|refine wb2 ?_ ?_<;>(intro hb;try simp only[hb])|fail)<;>try simp only[go_sem,seval,ne0])
   have hQl:Q.length=4:=by rw[hQ];exact hl4
   obtain⟨K,hK⟩:∃ K:Nat->List Tok, ∀ j,K j=G k++Q++(m.hds.take j).flatMap hdT:=⟨_,fun _=>rfl⟩;have hK0:K 0=G k++Q:=by rw[hK];simp
   have hKl:∀ j,(K j).length<=100000000:=fun j=>by
    have h1:m.hds.flatMap hdT=(m.hds.take j).flatMap hdT++(m.hds.drop j).flatMap hdT:=by rw[<- A1Z,A2K]
    have h2:mdT m=Q++m.hds.flatMap hdT++wT [125]:=by rw[hQ];rfl
    rw[e0,h2,h1]at hGk1;rw[hK];simp only[A0A]at hGk1 ⊢;omega
   have hKe:K m.hds.length++wT [125]=G (k+1):=by
    have h2:mdT m=Q++m.hds.flatMap hdT++wT [125]:=by rw[hQ];rfl
    rw[hK,e0,h2,A2W];simp only[A0T]
   have hhl:m.hds.length<=4000000:=by
    have h5:m.hds.length<=(m.hds.map Hd.sz).sum:=J1 fun x _=>by show 1<=1+_+_;omega
    have h6:(m.hds.map Hd.sz).sum<Md.sz m:=by unfold Md.sz;omega
    omega
   refine D4 (fun q:Nat × Nat=>[(1,.ptr 0 0),(3,.slc q.2 0 (K q.1).length),(5,I64 k),(6,.ptr c 0),(7,I64 q.1)]) (fun q=>((Sym.nil.upd 0 ⟨0,true,[E3 D,H3 M]⟩).upd c ⟨0,true,[.str m.name,I64 m.prio,A1c m.hds,I64 m.pos]⟩).upd q.2 ⟨4,true,A3 ((K q.1).map Tok.v)⟩)
    (fun q n=>c<q.2/\q.2<n/\q.1<=m.hds.length/\((m.hds.take q.1).any R5)=false) (fun q=>m.hds.length-q.1) (0,c+1+15)
    (by simp[C5,tm,Tm.upd,hK0,hQl]) ?_ ⟨by simp only;omega,by simp only;omega,A0Z _,rfl⟩ ?_
   ·dsimp only;rw[hK0,A0S,C1];intro j b hj;by_cases e1:j=c+1+15
    ·subst e1;rw[A0]at hj ⊢;exact hj
    rw[A6 e1]at hj ⊢;rw[C7 (fun i hi=>by
     have h1:=ho i hi;intro e;subst e;rw[hnO,hnO]at hj;cases hj)]
    by_cases e2:j=c
    ·subst e2;rw[A0]at hj ⊢;exact hj
    rw[A6 e2]at hj ⊢;by_cases e3:j=0
    ·subst e3;rw[A0]at hj;rw[hbx];exact hj
    ·rw[A6 e3]at hj;cases hj
   clear hbo hbn hd1 hd2 hd3 hsrc hl4 hun4 hHH hbx hno ho;rintro⟨j,i⟩ n ⟨hi1,hi2,hj,hbj⟩;dsimp only at hi1 hi2 hj hbj ⊢;by_cases hjl:j<m.hds.length
   ·have hdj:decide ((j:Int)<(m.hds.length:Int))=true:=by simpa using hjl
    have hgj:=A0B hjl;have hwj:=w64 (n:=(j:Int)+1);have k0:K (j+1)=K j++hdT m.hds[j]:=by rw[hK,hK,A1D,hgj,A1Z];simp
    have c0:((m.hds.take (j+1)).any R5)=R5 m.hds[j]:=by rw[A1D,hgj,List.any_append,hbj];simp
    have c1:R5 m.hds[j]=true->R=D9 [O9]:=fun h=>b1 (A3D.2 ⟨_,A0V hjl,h⟩);have hszj:=H6 (f:=Hd.sz) (A0V hjl);have h6:(m.hds.map Hd.sz).sum<Md.sz m:=by unfold Md.sz;omega
    have hKj:=hKl j;have hKj1:=hKl (j+1);generalize m.hds[j]=h at hgj k0 c0 c1 hszj;have ne0:=V7 0 c i n (by omega);have hb9:R5 h=true->∃ H2,GL (((((Sym.nil.upd 0 ⟨0,true,[E3 D,H3 M]⟩).upd c ⟨0,true,[.str m.name,I64 m.prio,A1c m.hds,I64 m.pos]⟩).upd i ⟨4,true,A3 ((K j).map Tok.v)⟩).upd n ⟨0,true,[I64 h.trig,.str h.name,F4 h.body,I64 h.pos]⟩).upd (n+1) ⟨4,true,[I64 0,.str [],I64 0,I64 0]⟩) [.slc (n+1) 0 1] H2 [R]:=fun hb=>by
     rw[c1 hb];exact K7 A0 rfl rfl (E4 [O9]) ⟨[],rfl⟩
    by_cases t1:h.trig<1
    ·have x1:decide (h.trig<1)=true:=by simpa using t1
     repeat' ((with_reducible first|refine wr ?_|refine A1 ?_ ?_|refine wb2 ?_ ?_<;>(intro hb;try simp only[hb])|fail)<;>try simp only[go_sem,seval,hdj,hgj,hwj,x1,ne0,A0,A2])
     exact hb9 (by unfold R5;rw[x1];rfl)
    have x1:decide (h.trig<1)=false:=by simpa using t1
    by_cases t2:6<h.trig
    ·have x2:decide (h.trig>6)=true:=by simpa using t2
     have x2':decide (6<h.trig)=true:=by simpa using t2
     repeat' ((with_reducible first|refine wr ?_|refine A1 ?_ ?_|refine wb2 ?_ ?_<;>(intro hb;try simp only[hb])|fail)<;>try simp only[go_sem,seval,hdj,hgj,hwj,x1,x2,ne0,A0,A2])
     exact hb9 (by unfold R5;rw[x2',Bool.or_true])
    have x2:decide (h.trig>6)=false:=by simpa using t2
    have x2':decide (6<h.trig)=false:=by simpa using t2
    have c2:R5 h=false:=by unfold R5;rw[x1,x2'];rfl
    clear hb9 c1;obtain⟨y,hy⟩:∃ y:Nat,h.trig=1+(y:Int):=⟨(h.trig-1).toNat,by omega⟩;have hyw:IntKind.i64.wrap (h.trig-1)=(y:Int):=by rw[w6z (by omega)];omega
    have hyn:(h.trig-1).toNat=y:=by omega
    have hy6:y<6:=by omega
    have hgy:D5[y]? = some (D5.getD y []):=by
     rw[A0Y,A0B (show y<D5.length from hy6)];rfl
    have hsl:(D5.getD y []).length<=1000000000:=by
     have:∀ i:Nat,i<6->(D5.getD i []).length<=1000000000:=by decide
     exact this y hy6
    have hTT:hdT h=wT2 [111,110] (D5.getD y [])++(if 2<h.trig then C8 h.name else [])++blT h.body:=by unfold hdT;rw[hyn];rfl
    generalize D5.getD y []=S at hgy hsl hTT;have hnh:=c_named h.name (by have h5:h.name.length<Hd.sz h:=(by unfold Hd.sz;omega);omega);have hbb:=c_blkT h.body (by have h5:Pb.St.szs h.body<Hd.sz h:=(by unfold Hd.sz;omega);omega);obtain⟨bl1, -⟩:=A3d h.body;rw[k0,hTT]at hKj1;simp only[A0A]at hKj1;have hbn:∀ j':Nat,n<=j'->(((Sym.nil.upd 0 ⟨0,true,[E3 D,H3 M]⟩).upd c ⟨0,true,[.str m.name,I64 m.prio,A1c m.hds,I64 m.pos]⟩).upd i ⟨4,true,A3 ((K j).map Tok.v)⟩) j'=none:=fun j' h'=>by rw[hnO,hnO,hnO];rfl
    have ne0:=T1 0 c i n (n+1+7) (by omega);repeat' ((with_reducible first|refine wr ?_|refine cpc c_trigs31 ?_|refine A1 ?_ ?_|refine wb2 ?_ ?_<;>(intro hb;try simp only[hb])|fail)<;>try simp only[go_sem,seval,hdj,hgj,hwj,x1,x2,hyw,hgy,ne0,A0,A2])
    refine⟨by and_intros<;>(repeat rw[hnO])<;>rfl,?_⟩;refine AC.call (D6w A0 (by decide) hsl) ?_;rintro v H' c3 ⟨rfl,rfl,rfl⟩ -;have hw2:(wT2 [111,110] S).length=2:=rfl;have hun:=A4d (wT2 [111,110] S);have hunB:=A4d (blT h.body);have hunN:=A4d (C8 h.name);have hnl1:=A4 h.name;have hlnK:=Q5 (K j);simp only[go_sem,seval,ne0,A0,A2,O7 hun];repeat' ((with_reducible first|refine wr ?_|refine A1 ?_ ?_|refine wb2 ?_ ?_<;>(intro hb;try simp only[hb])|fail)<;>try simp only[go_sem,seval,ne0,A0,A2,O7 hun])
    refine⟨by and_intros<;>(repeat rw[hnO])<;>rfl,?_⟩;rw[E5 hlnK (by omega) (by omega)];have ne0:=T1 0 c i n (n+1+11) (by omega);simp only[go_sem,seval,ne0,A0,A2];by_cases t3:2<h.trig
    ·have x3:decide (h.trig>2)=true:=by simpa using t3
     rw[if_pos t3]at hTT hKj1;try simp only[A0A]at hKj1
     repeat' ((with_reducible first|refine wr ?_|refine cpc hnh ?_|refine A1 ?_ ?_|refine wb2 ?_ ?_<;>(intro hb;try simp only[hb])|fail)<;>try simp only[go_sem,seval,ne0,A0,A2,x3,O7 hunN])
     refine C6 (E5 (by rw[A0A,Q5,Q5];omega) (by omega) (by omega)) ?_;have ne0:=A9a 0 c i n (n+1+11) (n+1+11+1) (by omega);simp only[go_sem,seval,ne0,A0,A2];repeat' ((with_reducible first|refine wr ?_|refine cpc hbb ?_|refine A1 ?_ ?_|refine wb2 ?_ ?_<;>(intro hb;try simp only[hb])|fail)<;>try simp only[go_sem,seval,ne0,A0,A2,O7 hunB])
     refine C6 (E5 (by rw[A0A,A0A,Q5,Q5,Q5];omega) (by omega) (by omega)) ?_;simp only[go_sem,seval,ne0,A0,A2,hwj];repeat' ((with_reducible first|refine wr ?_|refine A1 ?_ ?_|refine wb2 ?_ ?_<;>(intro hb;try simp only[hb])|fail)<;>try simp only[go_sem,seval,ne0,A0,A2,hwj])
     refine⟨(j+1,n+1+11+1+1),by simp[C5,tm,Tm.upd,k0,hTT,hwj,A3C],?_,inv ⟨by simp only;omega,by simp only;omega,by simp only;omega,by rw[c0];exact c2⟩,by simp only;omega⟩;dsimp only;intro j' b' hj';by_cases e1:j'=n+1+11+1+1
     ·subst e1;rw[A0]at hj' ⊢;rw[<- hj',k0,hTT];simp only[A0S,C1,A0T,List.map_nil,List.nil_append];try rfl
     rw[A6 e1]at hj' ⊢;by_cases e2:j'=c
     ·subst e2;rw[A0]at hj'
      repeat (first|rw[A0]|rw[hnO]|rw[B1m (by omega)])
      exact hj'
     rw[A6 e2]at hj';by_cases e3:j'=0
     ·subst e3;rw[A0]at hj'
      repeat (first|rw[A0]|rw[hnO]|rw[B1m (by omega)])
      exact hj'
     ·rw[A6 e3]at hj';cases hj'
    ·have x3:decide (h.trig>2)=false:=by simpa using t3
     rw[if_neg t3]at hTT hKj1;try simp only[A0N]at hKj1
     repeat' ((with_reducible first|refine wr ?_|refine cpc hbb ?_|refine A1 ?_ ?_|refine wb2 ?_ ?_<;>(intro hb;try simp only[hb])|fail)<;>try simp only[go_sem,seval,ne0,A0,A2,x3,O7 hunB])
     refine C6 (E5 (by rw[A0A,Q5,Q5];omega) (by omega) (by omega)) ?_;have ne0:=A9a 0 c i n (n+1+11) (n+1+11+1) (by omega);simp only[go_sem,seval,ne0,A0,A2,hwj];repeat' ((with_reducible first|refine wr ?_|refine A1 ?_ ?_|refine wb2 ?_ ?_<;>(intro hb;try simp only[hb])|fail)<;>try simp only[go_sem,seval,ne0,A0,A2,hwj])
     refine⟨(j+1,n+1+11+1),by simp[C5,tm,Tm.upd,k0,hTT,hwj,A3C],?_,inv ⟨by simp only;omega,by simp only;omega,by simp only;omega,by rw[c0];exact c2⟩,by simp only;omega⟩;dsimp only;intro j' b' hj';by_cases e1:j'=n+1+11+1
     ·subst e1;rw[A0]at hj' ⊢;rw[<- hj',k0,hTT];simp only[A0S,C1,A0T,List.map_nil,List.nil_append];try rfl
     rw[A6 e1]at hj' ⊢;by_cases e2:j'=c
     ·subst e2;rw[A0]at hj'
      repeat (first|rw[A0]|rw[hnO]|rw[B1m (by omega)])
      exact hj'
     rw[A6 e2]at hj';by_cases e3:j'=0
     ·subst e3;rw[A0]at hj'
      repeat (first|rw[A0]|rw[hnO]|rw[B1m (by omega)])
      exact hj'
     ·rw[A6 e3]at hj';cases hj'
   ·have hdj:decide ((j:Int)<(m.hds.length:Int))=false:=by simpa using hjl
    have ne0:=V7 0 c i n (by omega);have hjE:j=m.hds.length:=by omega
    subst hjE;rw[A2W]at hbj;have hlw:=lw [125];have hun:=A4d (wT [125]);have hln2:=Q5 (K m.hds.length);have hKm:=hKl m.hds.length;repeat' ((with_reducible first|refine wr ?_|refine A1 ?_ ?_|refine wb2 ?_ ?_<;>(intro hb;try simp only[hb])|fail)<;>try simp only[go_sem,seval,hdj,ne0,A0,A2])
    refine AC.call (wd1 A0 (by decide)) ?_;rintro v H' c3 ⟨rfl,rfl,rfl⟩ -;simp only[go_sem,seval,ne0,A0,A2,O7 hun];repeat' ((with_reducible first|refine wr ?_|refine A1 ?_ ?_|refine wb2 ?_ ?_<;>(intro hb;try simp only[hb])|fail)<;>try simp only[go_sem,seval,ne0,A0,A2,O7 hun])
    refine C6 (E5 hln2 (by omega) (by omega)) ?_;simp only[go_sem,seval,hw,ne0];repeat' ((with_reducible first|refine wr ?_|refine A1 ?_ ?_|refine wb2 ?_ ?_<;>(intro hb;try simp only[hb])|fail)<;>try simp only[go_sem,seval,hw,ne0])
    refine⟨(k+1,some (n+1)),by simp[C5,tm,Tm.upd,A8, <- hKe,hlw],?_,inv ⟨by omega,by simp only;omega,(fun h=>by cases h),(fun i hi=>by cases hi;omega),by rw[b0];exact hbj⟩,by simp only;omega⟩;dsimp only[B9];rw[<- hKe,A0S,C1];intro j b hj;by_cases e1:j=n+1
    ·subst e1;rw[A0]at hj ⊢;exact hj
    rw[A6 e1]at hj ⊢;by_cases e2:j=0
    ·subst e2;rw[A0]at hj;rw[show ∀ X:Hp,X.del i=I5 X (some i) from fun _=>rfl,M7,if_neg (by omega),hnO,hnO,A0];exact hj
    ·rw[A6 e2]at hj;cases hj
  ·have hd:=dfz hlt;rw[A0L (by omega)]at hbad;rw[if_neg (by rw[hbad];decide)]at hR;repeat' ((with_reducible first|refine wr ?_|refine A1 ?_ ?_|refine wb2 ?_ ?_<;>(intro hb;try simp only[hb])|fail)<;>try simp only[go_sem,seval,hd,hbx])
   rw[hR,hG,A0L (by omega)];rw[hG,A0L (by omega)]at hno;exact C1r (fun e=>by rw[hno e];rfl) (by simp) (E4 _)
theorem B3i(p:Bool):∀ (l l':List Ex) (k:Nat),l.length=l'.length->(O6 p (l.take k) (l'.take k)=true)->∀ x x',l[k]? = some x->l'[k]? = some x'->O6 p (l.take (k+1)) (l'.take (k+1))=A9c p x x'/\(A9c p x x'=false->O6 p l l'=false)
 |[],_,k,_,_,x,x',h,_=>by simp at h
 |_ :: _,[],k,h,_,_,_,_,_=>by simp at h
 |a :: l,a' :: l',0,_,_,x,x',h,h'=>by
  cases h;cases h';refine⟨?_,fun e=>?_⟩
  ·simp[O6]
  ·rw[O6,e];rfl
 |a :: l,a' :: l',k+1,hl,he,x,x',h,h'=>by
  rw[A1Y,A1Y,O6,A0D]at he;have ih:=B3i p l l' k (by simpa using hl) he.2 x x' (by simpa using h) (by simpa using h');refine⟨?_,fun e=>?_⟩
  ·rw[A1Y,A1Y,O6,he.1,A2B];exact ih.1
  ·rw[O6,ih.2 e,A3E]
theorem A9y(p:Bool):∀ (l l':List Ex),¬ l.length=l'.length->O6 p l l'=false
 |[],[],h=>absurd rfl h
 |[],_ :: _,_=>rfl
 |_ :: _,[],_=>rfl
 |a :: l,a' :: l',h=>by rw[O6,A9y p l l' (by simpa using h),A3E]
theorem c_sameEs(p:Bool)(l l':List Ex)(hl:l.length<=100000000000)(h:∀ x∈l, ∀ y,PC Tryz.prog 132 [x.v,y.v,.bool p] (.bool (A9c p x y))):PC Tryz.prog 94 [I9 l,I9 l',.bool p] (.bool (O6 p l l')):=by
 refine PC.go B1 ?_;by_cases hlen:l.length=l'.length
 ·have hd0:((l.length:Int) != (l'.length:Int))=false:=by simp[hlen]
  repeat' ((with_reducible first|refine wr ?_|refine A1 ?_ ?_|refine wb2 ?_ ?_<;>(intro hb;try simp only[hb])|fail)<;>try simp only[go_sem,seval,hd0,A0E])
  refine D4 (fun k:Nat=>[(0,I9 l),(1,I9 l'),(2,.bool p),(7,I64 k)]) (fun _=>Sym.nil) (fun k c=>k<=l.length/\O6 p (l.take k) (l'.take k)=true) (fun k=>l.length-k) 0 (by simp[C5,tm,Tm.upd]) (Sub.nil _) ⟨A0Z _,rfl⟩ ?_;rintro k c ⟨hk,he⟩;by_cases hlt:k<l.length
  ·have hd:=dtz hlt;have hg:=A0B hlt;have hg':=A0B (l:=l') (i:=k) (by omega);have hw:=w64 (n:=(k:Int)+1);have hc:=h _ (A0V hlt) (l'[k]'(by omega));obtain⟨s1,s2⟩:=B3i p l l' k hlen he _ _ hg hg';generalize l[k]=x at hg hc s1 s2;generalize l'[k]'(by omega)=x' at hg' hc s1 s2;rw[Ex.v_w,Ex.v_w]at hc;cases hx:A9c p x x' with
   |true =>
    repeat' ((with_reducible first|refine wr ?_|refine cpc hc ?_|refine A1 ?_ ?_|refine wb2 ?_ ?_<;>(intro hb;try simp only[hb])|fail)<;>try simp only[go_sem,seval,hd,hg,hg',hw,hx,Ex.v_w,A0E])
    exact⟨k+1,by simp[C5,tm,Tm.upd],Sub.nil _,inv ⟨by omega,by rw[s1];exact hx⟩,by omega⟩
   |false =>
    repeat' ((with_reducible first|refine wr ?_|refine cpc hc ?_|refine A1 ?_ ?_|refine wb2 ?_ ?_<;>(intro hb;try simp only[hb])|fail)<;>try simp only[go_sem,seval,hd,hg,hg',hw,hx,Ex.v_w,A0E])
    exact⟨_,by rw[s2 hx];exact GL.refl _ _⟩
  ·have hd:=dfz hlt;rw[A0L (by omega),A0L (by omega)]at he;repeat' ((with_reducible first|refine wr ?_|refine A1 ?_ ?_|refine wb2 ?_ ?_<;>(intro hb;try simp only[hb])|fail)<;>try simp only[go_sem,seval,hd,A0E])
   exact⟨_,by rw[he];exact GL.refl _ _⟩
 ·have hd0:((l.length:Int) != (l'.length:Int))=true:=by simp;omega
  repeat' ((with_reducible first|refine wr ?_|refine A1 ?_ ?_|refine wb2 ?_ ?_<;>(intro hb;try simp only[hb])|fail)<;>try simp only[go_sem,seval,hd0,A0E])
  exact⟨_,by rw[A9y p l l' hlen];exact GL.refl _ _⟩
theorem c_sameE(p:Bool):∀ (m:Nat) (a b:Ex),a.sz<m->a.sz<=100000000000->PC Tryz.prog 132 [a.v,b.v,.bool p] (.bool (A9c p a b)):=by
 intro m
 induction m with
 |zero=>intro a b h;omega
 |succ m ih =>
 intro a b hm hB;have hs:=c_sameEs p a.args b.args (by have:=a.sz_args;omega) (fun x hx y=>ih x y (by have:=Ex.sz_arg hx;omega) (by have:=Ex.sz_arg hx;omega));have e0:A9c p a b=(a.kind == b.kind && (a.value == b.value && (a.name == b.name && ((p || a.pos == b.pos) && O6 p a.args b.args)))):=by
  cases a with|mk k v n l q=>cases b with|mk k' v' n' l' q'=>rw[A9c];rfl
 refine PC.go B1 ?_;rw[Ex.v_w,Ex.v_w,e0];cases h1:a.kind == b.kind with
 |false =>
  repeat' ((with_reducible first|refine wr ?_|refine A1 ?_ ?_|refine wb2 ?_ ?_<;>(intro hb;try simp only[hb])|fail)<;>try simp only[go_sem,seval,h1])
  exact⟨_,GL.refl _ _⟩
 |true =>
  cases h2:a.value == b.value with
  |false =>
   repeat' ((with_reducible first|refine wr ?_|refine A1 ?_ ?_|refine wb2 ?_ ?_<;>(intro hb;try simp only[hb])|fail)<;>try simp only[go_sem,seval,h1,h2])
   exact⟨_,GL.refl _ _⟩
  |true =>
   cases h3:a.name == b.name with
   |false =>
    repeat' ((with_reducible first|refine wr ?_|refine A1 ?_ ?_|refine wb2 ?_ ?_<;>(intro hb;try simp only[hb])|fail)<;>try simp only[go_sem,seval,h1,h2,h3])
    exact⟨_,GL.refl _ _⟩
   |true =>
    cases hp:p with
    |true =>
     subst hp;repeat' ((with_reducible first|refine wr ?_|refine cpc hs ?_|refine A1 ?_ ?_|refine wb2 ?_ ?_<;>(intro hb;try simp only[hb])|fail)<;>try simp only[go_sem,seval,h1,h2,h3])
     exact⟨_,GL.refl _ _⟩
    |false =>
     subst hp;cases h4:a.pos == b.pos with
     |false =>
      repeat' ((with_reducible first|refine wr ?_|refine cpc hs ?_|refine A1 ?_ ?_|refine wb2 ?_ ?_<;>(intro hb;try simp only[hb])|fail)<;>try simp only[go_sem,seval,h1,h2,h3,h4])
      exact⟨_,GL.refl _ _⟩
     |true =>
      repeat' ((with_reducible first|refine wr ?_|refine cpc hs ?_|refine A1 ?_ ?_|refine wb2 ?_ ?_<;>(intro hb;try simp only[hb])|fail)<;>try simp only[go_sem,seval,h1,h2,h3,h4])
      exact⟨_,GL.refl _ _⟩
theorem B2b:∀ (l l':List Pb.St) (k:Nat),l.length=l'.length->(M9 (l.take k) (l'.take k)=true)->∀ x x',l[k]? = some x->l'[k]? = some x'->M9 (l.take (k+1)) (l'.take (k+1))=B4g x x'/\(B4g x x'=false->M9 l l'=false)
 |[],_,k,_,_,x,x',h,_=>by simp at h
 |_ :: _,[],k,h,_,_,_,_,_=>by simp at h
 |a :: l,a' :: l',0,_,_,x,x',h,h'=>by
  cases h;cases h';refine⟨?_,fun e=>?_⟩
  ·simp[M9]
  ·rw[M9,e];rfl
 |a :: l,a' :: l',k+1,hl,he,x,x',h,h'=>by
  rw[A1Y,A1Y,M9,A0D]at he;have ih:=B2b l l' k (by simpa using hl) he.2 x x' (by simpa using h) (by simpa using h');refine⟨?_,fun e=>?_⟩
  ·rw[A1Y,A1Y,M9,he.1,A2B];exact ih.1
  ·rw[M9,ih.2 e,A3E]
theorem A9i:∀ (l l':List Pb.St),¬ l.length=l'.length->M9 l l'=false
 |[],[],h=>absurd rfl h
 |[],_ :: _,_=>rfl
 |_ :: _,[],_=>rfl
 |a :: l,a' :: l',h=>by rw[M9,A9i l l' (by simpa using h),A3E]
theorem C8s(a b:Pb.St):B4g a b=(a.kind == b.kind && (a.name == b.name && (a.text == b.text && (a.pos == b.pos && (O6 false a.args b.args && (M9 a.thn b.thn && M9 a.els b.els)))))):=by
 cases a with|mk k n t a x y q=>cases b with|mk k' n' t' a' x' y' q'=>rw[B4g];rfl
theorem c_sameS:∀ (m:Nat) (l l':List Pb.St),Pb.St.szs l<m->Pb.St.szs l<=100000000000->PC Tryz.prog 58 [F4 l,F4 l'] (.bool (M9 l l')):=by
 intro m
 induction m with
 |zero=>intro a b h;omega
 |succ m ih =>
 intro l l' hm hB;have hl:=Pb.St.szs_len l;refine PC.go B1 ?_;by_cases hlen:l.length=l'.length
 ·have hd0:((l.length:Int) != (l'.length:Int))=false:=by simp[hlen]
  repeat' ((with_reducible first|refine wr ?_|refine A1 ?_ ?_|refine wb2 ?_ ?_<;>(intro hb;try simp only[hb])|fail)<;>try simp only[go_sem,seval,hd0,A0E])
  refine D4 (fun k:Nat=>[(0,F4 l),(1,F4 l'),(5,I64 k)]) (fun _=>Sym.nil) (fun k c=>k<=l.length/\M9 (l.take k) (l'.take k)=true) (fun k=>l.length-k) 0 (by simp[C5,tm,Tm.upd]) (Sub.nil _) ⟨A0Z _,rfl⟩ ?_;rintro k c ⟨hk,he⟩;by_cases hlt:k<l.length
  ·have hd:=dtz hlt;have hg:=A0B hlt;have hg':=A0B (l:=l') (i:=k) (by omega);have hw:=w64 (n:=(k:Int)+1);obtain⟨s1,s2⟩:=B2b l l' k hlen he _ _ hg hg';have hsx:=Pb.St.szs_mem (A0V hlt);generalize l[k]=x at hg hsx s1 s2;generalize l'[k]'(by omega)=x' at hg' s1 s2;have ht:=x.sz_thn;have hy:=x.sz_els;have hargs:∀ y∈x.args,y.sz<x.sz:=fun y hy=>Pb.St.sz_arg hy;have hal:=x.sz_args;have ca:=c_sameEs false x.args x'.args (by omega) (fun y hy z=>c_sameE false (y.sz+1) y z (by omega) (by have:=hargs y hy;omega));have ct:=ih x.thn x'.thn (by omega) (by omega);have cy:=ih x.els x'.els (by omega) (by omega);rw[C8s]at s1 s2;have ne0:=A4n (c+8) (c+9) (by omega);have hn8:∀ i:Nat,Sym.nil (c+i)=none:=fun _=>rfl;repeat' ((with_reducible first|refine wr ?_|refine A1 ?_ ?_|refine wb2 ?_ ?_<;>(intro hb;try simp only[hb])|fail)<;>try simp only[go_sem,seval,hd,hg,hg',Pb.St.v_w,A0E,ne0,A0,A2])
   refine⟨by and_intros<;>(repeat rw[hnO])<;>rfl,?_⟩;repeat' ((with_reducible first|refine G0 (p:=IW _ _ (pz Tryz.prog 58 (.o (.i (.o (.i .h))))) _ _) ?_|refine wr ?_|refine A1 ?_ ?_|refine wb2 ?_ ?_<;>(intro hb;try simp only[hb])|fail)<;>try simp only[go_sem,seval,ne0,A0,A2])
   unfold V8;clear hd hg hg';cases h1:x.kind == x'.kind with
   |false =>
    have n1:(x.kind != x'.kind)=true:=by rw[bne,h1];rfl
    repeat' ((with_reducible first|refine wr ?_|refine cpc ca ?_|refine cpc ct ?_|refine cpc cy ?_|refine A1 ?_ ?_|refine wb2 ?_ ?_<;>(intro hb;try simp only[hb])|fail)<;>try simp only[go_sem,seval,hw,ne0,A0,A2,n1])
    exact⟨_,by rw[s2 (by rw[h1];rfl)];exact GL.refl _ _⟩
   |true =>
    have n1:(x.kind != x'.kind)=false:=by rw[bne,h1];rfl
    cases h2:x.name == x'.name with
    |false =>
     repeat' ((with_reducible first|refine wr ?_|refine cpc ca ?_|refine cpc ct ?_|refine cpc cy ?_|refine A1 ?_ ?_|refine wb2 ?_ ?_<;>(intro hb;try simp only[hb])|fail)<;>try simp only[go_sem,seval,hw,ne0,A0,A2,n1,h2])
     exact⟨_,by rw[s2 (by rw[h1,h2];rfl)];exact GL.refl _ _⟩
    |true =>
     cases h3:x.text == x'.text with
     |false =>
      repeat' ((with_reducible first|refine wr ?_|refine cpc ca ?_|refine cpc ct ?_|refine cpc cy ?_|refine A1 ?_ ?_|refine wb2 ?_ ?_<;>(intro hb;try simp only[hb])|fail)<;>try simp only[go_sem,seval,hw,ne0,A0,A2,n1,h2,h3])
      exact⟨_,by rw[s2 (by rw[h1,h2,h3];rfl)];exact GL.refl _ _⟩
     |true =>
      cases h4:x.pos == x'.pos with
      |false =>
       have n4:(x.pos != x'.pos)=true:=by rw[bne,h4];rfl
       repeat' ((with_reducible first|refine wr ?_|refine cpc ca ?_|refine cpc ct ?_|refine cpc cy ?_|refine A1 ?_ ?_|refine wb2 ?_ ?_<;>(intro hb;try simp only[hb])|fail)<;>try simp only[go_sem,seval,hw,ne0,A0,A2,n1,h2,h3,n4])
       exact⟨_,by rw[s2 (by rw[h1,h2,h3,h4];rfl)];exact GL.refl _ _⟩
      |true =>
       have n4:(x.pos != x'.pos)=false:=by rw[bne,h4];rfl
       cases h5:O6 false x.args x'.args with
       |false =>
        repeat' ((with_reducible first|refine wr ?_|refine cpc ca ?_|refine cpc ct ?_|refine cpc cy ?_|refine A1 ?_ ?_|refine wb2 ?_ ?_<;>(intro hb;try simp only[hb])|fail)<;>try simp only[go_sem,seval,hw,ne0,A0,A2,n1,h2,h3,n4,h5])
        exact⟨_,by rw[s2 (by rw[h1,h2,h3,h4,h5];rfl)];exact GL.refl _ _⟩
       |true =>
        cases h6:M9 x.thn x'.thn with
        |false =>
         repeat' ((with_reducible first|refine wr ?_|refine cpc ca ?_|refine cpc ct ?_|refine cpc cy ?_|refine A1 ?_ ?_|refine wb2 ?_ ?_<;>(intro hb;try simp only[hb])|fail)<;>try simp only[go_sem,seval,hw,ne0,A0,A2,n1,h2,h3,n4,h5,h6])
         exact⟨_,by rw[s2 (by rw[h1,h2,h3,h4,h5,h6];rfl)];exact GL.refl _ _⟩
        |true =>
         cases h7:M9 x.els x'.els with
         |false =>
          repeat' ((with_reducible first|refine wr ?_|refine cpc ca ?_|refine cpc ct ?_|refine cpc cy ?_|refine A1 ?_ ?_|refine wb2 ?_ ?_<;>(intro hb;try simp only[hb])|fail)<;>try simp only[go_sem,seval,hw,ne0,A0,A2,n1,h2,h3,n4,h5,h6,h7])
          exact⟨_,by rw[s2 (by rw[h1,h2,h3,h4,h5,h6,h7];rfl)];exact GL.refl _ _⟩
         |true =>
          repeat' ((with_reducible first|refine wr ?_|refine cpc ca ?_|refine cpc ct ?_|refine cpc cy ?_|refine A1 ?_ ?_|refine wb2 ?_ ?_<;>(intro hb;try simp only[hb])|fail)<;>try simp only[go_sem,seval,hw,ne0,A0,A2,n1,h2,h3,n4,h5,h6,h7])
          exact⟨k+1,by simp[C5,tm,Tm.upd],Sub.nil _,inv ⟨by omega,by rw[s1,h1,h2,h3,h4,h5,h6,h7];rfl⟩,by omega⟩
  ·have hd:=dfz hlt;rw[A0L (by omega),A0L (by omega)]at he;repeat' ((with_reducible first|refine wr ?_|refine A1 ?_ ?_|refine wb2 ?_ ?_<;>(intro hb;try simp only[hb])|fail)<;>try simp only[go_sem,seval,hd,A0E])
   exact⟨_,by rw[he];exact GL.refl _ _⟩
 ·have hd0:((l.length:Int) != (l'.length:Int))=true:=by simp;omega
  repeat' ((with_reducible first|refine wr ?_|refine A1 ?_ ?_|refine wb2 ?_ ?_<;>(intro hb;try simp only[hb])|fail)<;>try simp only[go_sem,seval,hd0,A0E])
  exact⟨_,by rw[A9i l l' hlen];exact GL.refl _ _⟩
def B4k(a b:Ru):Bool:=@decide (a=b) (Classical.propDecidable _)
theorem C9b{a b:Ru}(h:a=b):B4k a b=true:=by unfold B4k;exact @decide_eq_true _ (_) h
theorem C9c{a b:Ru}(h:¬ a=b):B4k a b=false:=by unfold B4k;exact @decide_eq_false _ (_) h
theorem B0n{α : Type}{l l':List α}{k:Nat}{x x' : α}(h:l.take k=l'.take k)(hx:l[k]? = some x)(hx':l'[k]? = some x')(e:x=x'):l.take (k+1)=l'.take (k+1):=by
 rw[A1D,A1D,h,hx,hx',e]
theorem O1{α : Type}{l l':List α}{k:Nat}{x x' : α}(hx:l[k]? = some x)(hx':l'[k]? = some x')(e:¬ x=x'):¬ l=l':=by
 rintro rfl;rw[hx]at hx';exact e (Option.some.inj hx')
theorem B6n{H H':Hp}{c:Nat}(h1:∀ j b,H j=some b->j<c)(h2:∀ j,j<c->H' j=H j):Sym.Sub H H':=fun j b hj=>by rw[h2 j (h1 j b hj)];exact hj
theorem c_Same31(a b:Ru)(hB:a.sz<=100000000000):PC Tryz.prog 25 [a.v,b.v] (.bool (B4k a b)):=by
 refine PC.go B1 ?_;obtain⟨R,hR⟩:∃ R,R=B4k a b:=⟨_,rfl⟩;rw[<- hR];obtain⟨D,M⟩:=a;obtain⟨D',M'⟩:=b;have hF:(¬ D=D'\/¬ M=M')->R=false:=fun h=>by
  rw[hR];exact C9c fun e=>by cases e;exact h.elim (· rfl) (· rfl)
 have hT:D=D'->M=M'->R=true:=fun h1 h2=>by rw[hR];exact C9b (by rw[h1,h2])
 clear hR;have hDs:(D.map Dc.sz).sum+(M.map Md.sz).sum<=100000000000:=hB;have hDl:D.length<=(D.map Dc.sz).sum:=J1 fun x _=>by show 1<=1+_;omega
 have hMl:M.length<=(M.map Md.sz).sum:=J1 fun x _=>by show 1<=1+_+_;omega
 dsimp only[Ru.v];by_cases l1:D.length=D'.length
 case neg =>
  have f1:((D.length:Int) != (D'.length:Int))=true:=by simp;omega
  repeat' ((with_reducible first|refine wr ?_|refine A1 ?_ ?_|refine wb2 ?_ ?_<;>(intro hb;try simp only[hb])|fail)<;>try simp only[go_sem,seval,f1,A0E])
  exact⟨_,by rw[hF (.inl fun e=>l1 (by rw[e]))];exact GL.refl _ _⟩
 have f1:((D.length:Int) != (D'.length:Int))=false:=by simp[l1]
 by_cases l2:M.length=M'.length
 case neg =>
  have f2:((M.length:Int) != (M'.length:Int))=true:=by simp;omega
  repeat' ((with_reducible first|refine wr ?_|refine A1 ?_ ?_|refine wb2 ?_ ?_<;>(intro hb;try simp only[hb])|fail)<;>try simp only[go_sem,seval,f1,f2,A0E])
  exact⟨_,by rw[hF (.inr fun e=>l2 (by rw[e]))];exact GL.refl _ _⟩
 have f2:((M.length:Int) != (M'.length:Int))=false:=by simp[l2]
 repeat' ((with_reducible first|refine wr ?_|refine A1 ?_ ?_|refine wb2 ?_ ?_<;>(intro hb;try simp only[hb])|fail)<;>try simp only[go_sem,seval,f1,f2,A0E])
 refine D4 (fun k:Nat=>[(2,.ptr 0 0),(3,.ptr 1 0),(5,I64 k)]) (fun _=>(Sym.nil.upd 0 ⟨0,true,[E3 D,H3 M]⟩).upd 1 ⟨0,true,[E3 D',H3 M']⟩) (fun k c=>2<=c/\k<=D.length/\D.take k=D'.take k) (fun k=>D.length-k) 0 (by simp[C5,tm,Tm.upd]) (Sub.refl _) ⟨by omega,A0Z _,rfl⟩ ?_;rintro k c ⟨hc,hk,he⟩;by_cases hlt:k<D.length
 ·have hd:=dtz hlt;have hg:=A0B hlt;have hg':=A0B (l:=D') (i:=k) (by omega);have hw:=w64 (n:=(k:Int)+1);generalize D[k]=x at hg;generalize D'[k]'(by omega)=x' at hg';have hq:(x.kind == x'.kind && (x.name == x'.name && (x.value == x'.value && x.pos == x'.pos)))=true↔x=x':=by
   cases x;cases x';simp only[A0D,A1I,Dc.mk.injEq]
  by_cases hx:x=x'
  ·have hqt:(true != (x.kind == x'.kind && (x.name == x'.name && (x.value == x'.value && x.pos == x'.pos))))=false:=by rw[hq.2 hx];rfl
   repeat' ((with_reducible first|refine wr ?_|refine A1 ?_ ?_|refine wb2 ?_ ?_<;>(intro hb;try simp only[hb])|fail)<;>try simp only[go_sem,seval,hd,hg,hg',hw,C7u,hqt,A0E])
   exact⟨k+1,by simp[C5,tm,Tm.upd],Sub.refl _,inv ⟨by omega,by omega,B0n he hg hg' hx⟩,by omega⟩
  ·have hqf:(true != (x.kind == x'.kind && (x.name == x'.name && (x.value == x'.value && x.pos == x'.pos))))=true:=by
    rw[show (x.kind == x'.kind && (x.name == x'.name && (x.value == x'.value && x.pos == x'.pos)))=false from by
     cases hz:(x.kind == x'.kind && (x.name == x'.name && (x.value == x'.value && x.pos == x'.pos))) with
     |false=>rfl
     |true=>exact absurd (hq.1 hz) hx]
    rfl
   repeat' ((with_reducible first|refine wr ?_|refine A1 ?_ ?_|refine wb2 ?_ ?_<;>(intro hb;try simp only[hb])|fail)<;>try simp only[go_sem,seval,hd,hg,hg',hw,C7u,hqf,A0E])
   exact⟨_,by rw[hF (.inl (O1 hg hg' hx))];exact GL.refl _ _⟩
 ·have hd:=dfz hlt;rw[A0L (by omega),A0L (by omega)]at he;repeat' ((with_reducible first|refine wr ?_|refine A1 ?_ ?_|refine wb2 ?_ ?_<;>(intro hb;try simp only[hb])|fail)<;>try simp only[go_sem,seval,hd,A0E])
  have hDD:=he;clear hd hlt he hk;refine D4 (fun k:Nat=>[(2,.ptr 0 0),(3,.ptr 1 0),(6,I64 k)]) (fun _=>(Sym.nil.upd 0 ⟨0,true,[E3 D,H3 M]⟩).upd 1 ⟨0,true,[E3 D',H3 M']⟩) (fun k c=>2<=c/\k<=M.length/\M.take k=M'.take k) (fun k=>M.length-k) 0 (by simp[C5,tm,Tm.upd]) (Sub.refl _) ⟨hc,A0Z _,rfl⟩ ?_;clear hc k c;rintro k c ⟨hc,hk,he⟩;by_cases hlt:k<M.length
  ·have hd:=dtz hlt;have hg:=A0B hlt;have hg':=A0B (l:=M') (i:=k) (by omega);have hw:=w64 (n:=(k:Int)+1);have hsx:=H6 (f:=Md.sz) (A0V hlt);generalize M[k]=x at hg hsx;generalize M'[k]'(by omega)=x' at hg';have hxs:(x.hds.map Hd.sz).sum<Md.sz x:=by unfold Md.sz;omega
   have hxl:x.hds.length<=(x.hds.map Hd.sz).sum:=J1 fun x _=>by show 1<=1+_+_;omega
   have ne0:=V7 0 1 (c+10) (c+11) (by omega);repeat' ((with_reducible first|refine wr ?_|refine A1 ?_ ?_|refine wb2 ?_ ?_<;>(intro hb;try simp only[hb])|fail)<;>try simp only[go_sem,seval,hd,hg,hg',ne0,A0,A2,A0E])
   refine⟨by and_intros<;>(repeat rw[hnO])<;>rfl,?_⟩;repeat' ((with_reducible first|refine G0 (p:=IW _ _ (pz Tryz.prog 25 (.i (.i (.i (.i (.o .h)))))) _ _) ?_|refine wr ?_|refine A1 ?_ ?_|refine wb2 ?_ ?_<;>(intro hb;try simp only[hb])|fail)<;>try simp only[go_sem,seval,ne0,A0,A2])
   unfold V8;clear hd;by_cases h1:x.name=x'.name
   case neg =>
    have nh1:(x.name == x'.name)=false:=by simpa using h1
    repeat' ((with_reducible first|refine wr ?_|refine A1 ?_ ?_|refine wb2 ?_ ?_<;>(intro hb;try simp only[hb])|fail)<;>try simp only[go_sem,seval,ne0,A0,A2,A0E,nh1])
    exact⟨_,by rw[hF (.inr (O1 hg hg' fun e=>h1 (by rw[e])))];exact GL.refl _ _⟩
   case pos =>
    have nh1:(x.name == x'.name)=true:=by simpa using h1
    by_cases h2:x.prio=x'.prio
    case neg =>
     have nh2:(x.prio != x'.prio)=true:=by simpa using h2
     repeat' ((with_reducible first|refine wr ?_|refine A1 ?_ ?_|refine wb2 ?_ ?_<;>(intro hb;try simp only[hb])|fail)<;>try simp only[go_sem,seval,ne0,A0,A2,A0E,nh1,nh2])
     exact⟨_,by rw[hF (.inr (O1 hg hg' fun e=>h2 (by rw[e])))];exact GL.refl _ _⟩
    case pos =>
     have nh2:(x.prio != x'.prio)=false:=by simpa using h2
     by_cases h3:x.pos=x'.pos
     case neg =>
      have nh3:(x.pos != x'.pos)=true:=by simpa using h3
      repeat' ((with_reducible first|refine wr ?_|refine A1 ?_ ?_|refine wb2 ?_ ?_<;>(intro hb;try simp only[hb])|fail)<;>try simp only[go_sem,seval,ne0,A0,A2,A0E,nh1,nh2,nh3])
      exact⟨_,by rw[hF (.inr (O1 hg hg' fun e=>h3 (by rw[e])))];exact GL.refl _ _⟩
     case pos =>
      have nh3:(x.pos != x'.pos)=false:=by simpa using h3
      by_cases h4:x.hds.length=x'.hds.length
      case neg =>
       have nh4:((x.hds.length:Int) != (x'.hds.length:Int))=true:=by simp;omega
       repeat' ((with_reducible first|refine wr ?_|refine A1 ?_ ?_|refine wb2 ?_ ?_<;>(intro hb;try simp only[hb])|fail)<;>try simp only[go_sem,seval,ne0,A0,A2,A0E,nh1,nh2,nh3,nh4])
       exact⟨_,by rw[hF (.inr (O1 hg hg' fun e=>h4 (by rw[e])))];exact GL.refl _ _⟩
      case pos =>
       have nh4:((x.hds.length:Int) != (x'.hds.length:Int))=false:=by simp[h4]
       repeat' ((with_reducible first|refine wr ?_|refine A1 ?_ ?_|refine wb2 ?_ ?_<;>(intro hb;try simp only[hb])|fail)<;>try simp only[go_sem,seval,ne0,A0,A2,A0E,nh1,nh2,nh3,nh4])
       refine D4 (fun j:Nat=>[(2,.ptr 0 0),(3,.ptr 1 0),(6,I64 k),(7,.ptr (c+10) 0),(8,.ptr (c+11) 0),(9,I64 j)]) (fun _=>(((Sym.nil.upd 0 ⟨0,true,[E3 D,H3 M]⟩).upd 1 ⟨0,true,[E3 D',H3 M']⟩).upd (c+10) ⟨0,true,[.str x.name,I64 x.prio,A1c x.hds,I64 x.pos]⟩).upd (c+11) ⟨0,true,[.str x'.name,I64 x'.prio,A1c x'.hds,I64 x'.pos]⟩) (fun j n=>c+12<=n/\j<=x.hds.length/\x.hds.take j=x'.hds.take j) (fun j=>x.hds.length-j) 0 (by simp[C5,tm,Tm.upd]) ?_ ⟨by omega,A0Z _,rfl⟩ ?_
       ·intro j b hj;by_cases e1:j=c+11
        ·subst e1;rw[A0]at hj ⊢;exact hj
        rw[A6 e1]at hj ⊢;by_cases e2:j=c+10
        ·subst e2;rw[A0]at hj ⊢;exact hj
        rw[A6 e2]at hj ⊢
        repeat rw[hnO]
        exact hj
       rintro j n ⟨hn,hj,hej⟩;by_cases hjl:j<x.hds.length
       ·have hdj:decide ((j:Int)<(x.hds.length:Int))=true:=by simpa using hjl
        have gj:=A0B hjl;have gj':=A0B (l:=x'.hds) (i:=j) (by omega);have hwj:=w64 (n:=(j:Int)+1);have hsj:=H6 (f:=Hd.sz) (A0V hjl);generalize x.hds[j]=y at gj hsj;generalize x'.hds[j]'(by omega)=y' at gj';have hbs:Pb.St.szs y.body<Hd.sz y:=by unfold Hd.sz;omega
        have cs:=c_sameS (Pb.St.szs y.body+1) y.body y'.body (by omega) (by omega);have ne0:=A9a 0 1 (c+10) (c+11) (n+10) (n+11) (by omega);repeat' ((with_reducible first|refine wr ?_|refine A1 ?_ ?_|refine wb2 ?_ ?_<;>(intro hb;try simp only[hb])|fail)<;>try simp only[go_sem,seval,hdj,gj,gj',ne0,A0,A2,A0E])
        refine⟨by and_intros<;>(repeat rw[hnO])<;>rfl,?_⟩;repeat' ((with_reducible first|refine G0 (p:=IW _ _ (pz Tryz.prog 25 (.i (.o (.i (.o (.o (.o .h))))))) _ _) ?_|refine wr ?_|refine A1 ?_ ?_|refine wb2 ?_ ?_<;>(intro hb;try simp only[hb])|fail)<;>try simp only[go_sem,seval,ne0,A0,A2])
        unfold V8;clear hdj;by_cases q1:y.trig=y'.trig
        case neg =>
         have nq1:(y.trig != y'.trig)=true:=by simpa using q1
         repeat' ((with_reducible first|refine wr ?_|refine cpc cs ?_|refine A1 ?_ ?_|refine wb2 ?_ ?_<;>(intro hb;try simp only[hb])|fail)<;>try simp only[go_sem,seval,hwj,ne0,A0,A2,nq1])
         exact⟨_,by rw[hF (.inr (O1 hg hg' fun e=>O1 gj gj' (fun e2=>by exact q1 (by rw[e2])) (by rw[e])))];exact GL.refl _ _⟩
        case pos =>
         have nq1:(y.trig != y'.trig)=false:=by simpa using q1
         by_cases q2:y.name=y'.name
         case neg =>
          have nq2:(y.name == y'.name)=false:=by simpa using q2
          repeat' ((with_reducible first|refine wr ?_|refine cpc cs ?_|refine A1 ?_ ?_|refine wb2 ?_ ?_<;>(intro hb;try simp only[hb])|fail)<;>try simp only[go_sem,seval,hwj,ne0,A0,A2,nq1,nq2])
          exact⟨_,by rw[hF (.inr (O1 hg hg' fun e=>O1 gj gj' (fun e2=>by exact q2 (by rw[e2])) (by rw[e])))];exact GL.refl _ _⟩
         case pos =>
          have nq2:(y.name == y'.name)=true:=by simpa using q2
          by_cases q3:y.pos=y'.pos
          case neg =>
           have nq3:(y.pos != y'.pos)=true:=by simpa using q3
           repeat' ((with_reducible first|refine wr ?_|refine cpc cs ?_|refine A1 ?_ ?_|refine wb2 ?_ ?_<;>(intro hb;try simp only[hb])|fail)<;>try simp only[go_sem,seval,hwj,ne0,A0,A2,nq1,nq2,nq3])
           exact⟨_,by rw[hF (.inr (O1 hg hg' fun e=>O1 gj gj' (fun e2=>by exact q3 (by rw[e2])) (by rw[e])))];exact GL.refl _ _⟩
          case pos =>
           have nq3:(y.pos != y'.pos)=false:=by simpa using q3
           cases q4:M9 y.body y'.body with
           |false =>
            repeat' ((with_reducible first|refine wr ?_|refine cpc cs ?_|refine A1 ?_ ?_|refine wb2 ?_ ?_<;>(intro hb;try simp only[hb])|fail)<;>try simp only[go_sem,seval,hwj,ne0,A0,A2,nq1,nq2,nq3,q4])
            exact⟨_,by rw[hF (.inr (O1 hg hg' fun e=>O1 gj gj' (fun e2=>by rw[e2,(A0g _ _).2 rfl]at q4;cases q4) (by rw[e])))];exact GL.refl _ _⟩
           |true =>
            repeat' ((with_reducible first|refine wr ?_|refine cpc cs ?_|refine A1 ?_ ?_|refine wb2 ?_ ?_<;>(intro hb;try simp only[hb])|fail)<;>try simp only[go_sem,seval,hwj,ne0,A0,A2,nq1,nq2,nq3,q4])
            exact⟨j+1,by simp[C5,tm,Tm.upd],(B6n (c:=n) (fun j0 b0 h0=>by by_cases a1:j0=c+11;omega;rw[A6 a1]at h0;by_cases a2:j0=c+10;omega;rw[A6 a2]at h0;by_cases a3:j0=1;omega;rw[A6 a3]at h0;by_cases a4:j0=0;omega;rw[A6 a4]at h0;cases h0) (fun j0 h0=>by repeat rw[hnO])),inv ⟨by omega,by omega,B0n hej gj gj' (by cases y;cases y';simp only[Hd.mk.injEq]at *;exact⟨q1,q2,(A0g _ _).1 q4,q3⟩)⟩,by omega⟩
       ·have hdj:decide ((j:Int)<(x.hds.length:Int))=false:=by simpa using hjl
        rw[A0L (by omega),A0L (by omega)]at hej;have ne0:=V7 0 1 (c+10) (c+11) (by omega);repeat' ((with_reducible first|refine wr ?_|refine A1 ?_ ?_|refine wb2 ?_ ?_<;>(intro hb;try simp only[hb])|fail)<;>try simp only[go_sem,seval,hdj,hw,ne0,A0,A2,A0E])
        exact⟨k+1,by simp[C5,tm,Tm.upd],(B6n (c:=c) (fun j0 b0 h0=>by by_cases a3:j0=1;omega;rw[A6 a3]at h0;by_cases a4:j0=0;omega;rw[A6 a4]at h0;cases h0) (fun j0 h0=>by repeat rw[hnO])),inv ⟨by omega,by omega,B0n he hg hg' (by cases x;cases x';simp only[Md.mk.injEq]at *;exact⟨h1,h2,hej,h3⟩)⟩,by omega⟩
  ·have hd:=dfz hlt;rw[A0L (by omega),A0L (by omega)]at he;repeat' ((with_reducible first|refine wr ?_|refine A1 ?_ ?_|refine wb2 ?_ ?_<;>(intro hb;try simp only[hb])|fail)<;>try simp only[go_sem,seval,hd,A0E])
   exact⟨_,by rw[hT hDD he];exact GL.refl _ _⟩
theorem c_plainE:∀ (m:Nat) (l:List Ex),Ex.szs l<m->Ex.szs l<=100000000000->PC Tryz.prog 95 [I9 l] (I9 (l.map Ex.plain)):=by
 intro m
 induction m with
 |zero=>intro l h;omega
 |succ m ih =>
 intro l hm hB;have hl:=Ex.szs_len l;refine PC.ofT B1 rfl (A0C rfl) (by simp[DV.nlL,DV.nl,A0z]) (A0z _) ?_;repeat' ((with_reducible first|refine wr ?_|refine A1 ?_ ?_|refine wb2 ?_ ?_<;>(intro hb;try simp only[hb])|fail)<;>try simp only[go_sem,seval])
 obtain⟨F,hF⟩:∃ F:Nat->List Ex, ∀ k,F k=(l.take k).map Ex.plain:=⟨_,fun _=>rfl⟩;have hF0:F 0=[]:=by rw[hF];rfl
 have hFl:∀ k,(F k).length<=l.length:=fun k=>by rw[hF,A0E,A1F];omega
 refine D4 (fun q:Nat × Option Nat=>[(0,I9 l),(3,A8 q.2 (F q.1).length),(4,I64 q.1)]) (fun q=>B9 Sym.nil q.2 ⟨5,true,A3 ((F q.1).map Ex.v)⟩)
  (fun q c=>q.1<=l.length/\(q.2=none->F q.1=[])/\(∀ i,q.2=some i->i<c)) (fun q=>l.length-q.1) (0,none)
  (by simp[C5,tm,Tm.upd,A8]) (Sub.nil _) ⟨A0Z _,fun _=>hF0,(fun i hi=>by cases hi)⟩ ?_
 rintro⟨k,o⟩ c ⟨hk,hno,ho⟩;dsimp only at hk hno ho ⊢;by_cases hlt:k<l.length
 ·have hd:=dtz hlt;have hg:=A0B hlt;have hsx:=Ex.szs_mem (A0V hlt);have hw:=w64 (n:=(k:Int)+1);have e0:F (k+1)=F k++[l[k].plain]:=by rw[hF,hF,A1D,hg,A0S];rfl
  have hFk:=hFl k;generalize l[k]=x at hg hsx e0;have hax:Ex.szs x.args<x.sz:=by cases x with|mk k v n a p=>rw[Ex.sz];show Ex.szs a<_;omega
  have hc:=ih x.args (by omega) (by omega);have hln:(A3 ((F k).map Ex.v)).length=(F k).length * 5:=(C0 (u:=5) (W5 _)).trans (by simp);have ne0:=L8 c (c+1) (c+2) (by omega);repeat' ((with_reducible first|refine wr ?_|refine cpc hc ?_|refine A1 ?_ ?_|refine wb2 ?_ ?_<;>(intro hb;try simp only[hb])|fail)<;>try simp only[go_sem,seval,hd,hg,hw,Ex.v_w,ne0,A0,A2])
  refine C6 (E0 (cs:=A3 ((F k).map Ex.v)) (fun e=>by rw[hno e];exact⟨rfl,rfl⟩) (fun i hi=>by have:=ho i hi;rw[hnO,hnO];exact A0c hi) hln (by omega) (by omega) (by omega)) ?_;simp only[go_sem,seval,hw];repeat' ((with_reducible first|refine wr ?_|refine A1 ?_ ?_|refine wb2 ?_ ?_<;>(intro hb;try simp only[hb])|fail)<;>try simp only[go_sem,seval,hw])
  refine⟨(k+1,some (c+1+1)),by simp[C5,tm,Tm.upd,A8,e0],?_,inv ⟨by omega,(fun h=>by cases h),(fun i hi=>by cases hi;omega)⟩,by simp only;omega⟩;dsimp only[B9];rw[e0,A0S,C1];refine K6 ?_;cases x with|mk kk v n a p=>simp only[Ex.plain,Ex.plains_map,Ex.kind,Ex.value,Ex.name,Ex.args,Ex.pos,A4y]
 ·have hd:=dfz hlt;repeat' ((with_reducible first|refine wr ?_|refine A1 ?_ ?_|refine wb2 ?_ ?_<;>(intro hb;try simp only[hb])|fail)<;>try simp only[go_sem,seval,hd])
  rw[hF,A0L (by omega)];exact A4l (fun e=>by have:=hno e;rw[hF,A0L (by omega)]at this;rw[this];rfl) (by simp) (W5 _)
theorem c_plainS:∀ (m:Nat) (l:List Pb.St),Pb.St.szs l<m->Pb.St.szs l<=100000000000->PC Tryz.prog 59 [F4 l] (F4 (l.map Pb.St.plain)):=by
 intro m
 induction m with
 |zero=>intro l h;omega
 |succ m ih =>
 intro l hm hB;have hl:=Pb.St.szs_len l;refine PC.ofT B1 rfl (A0C rfl) (by simp[DV.nlL,DV.nl,Y9]) (Y9 _) ?_;repeat' ((with_reducible first|refine wr ?_|refine A1 ?_ ?_|refine wb2 ?_ ?_<;>(intro hb;try simp only[hb])|fail)<;>try simp only[go_sem,seval])
 obtain⟨F,hF⟩:∃ F:Nat->List Pb.St, ∀ k,F k=(l.take k).map Pb.St.plain:=⟨_,fun _=>rfl⟩;have hF0:F 0=[]:=by rw[hF];rfl
 have hFl:∀ k,(F k).length<=l.length:=fun k=>by rw[hF,A0E,A1F];omega
 refine D4 (fun q:Nat × Option Nat=>[(0,F4 l),(3,A8 q.2 (F q.1).length),(4,I64 q.1)]) (fun q=>B9 Sym.nil q.2 ⟨7,true,A3 ((F q.1).map Pb.St.v)⟩)
  (fun q c=>q.1<=l.length/\(q.2=none->F q.1=[])/\(∀ i,q.2=some i->i<c)) (fun q=>l.length-q.1) (0,none)
  (by simp[C5,tm,Tm.upd,A8]) (Sub.nil _) ⟨A0Z _,fun _=>hF0,(fun i hi=>by cases hi)⟩ ?_
 rintro⟨k,o⟩ c ⟨hk,hno,ho⟩;dsimp only at hk hno ho ⊢;by_cases hlt:k<l.length
 ·have hd:=dtz hlt;have hg:=A0B hlt;have hsx:=Pb.St.szs_mem (A0V hlt);have hw:=w64 (n:=(k:Int)+1);have e0:F (k+1)=F k++[l[k].plain]:=by rw[hF,hF,A1D,hg,A0S];rfl
  have hFk:=hFl k;generalize l[k]=x at hg hsx e0;have hax:Ex.szs x.args<x.sz:=by cases x with|mk k n t a x y p=>rw[Pb.St.sz];show Ex.szs a<_;omega
  have htx:=x.sz_thn;have hyx:=x.sz_els;have hc:=c_plainE (Ex.szs x.args+1) x.args (by omega) (by omega);have hct:=ih x.thn (by omega) (by omega);have hcy:=ih x.els (by omega) (by omega);have hln:(A3 ((F k).map Pb.St.v)).length=(F k).length * 7:=(C0 (u:=7) (Q7 _)).trans (by simp);have hbn:∀ j:Nat,c<=j->B9 Sym.nil o ⟨7,true,A3 ((F k).map Pb.St.v)⟩ j=none:=fun j hj=>by rw[B6 (fun i hi=>by have:=ho i hi;omega)];rfl
  have ne0:=L8 c (c+1) (c+2) (by omega);repeat' ((with_reducible first|refine wr ?_|refine cpc hc ?_|refine cpc hct ?_|refine cpc hcy ?_|refine A1 ?_ ?_|refine wb2 ?_ ?_<;>(intro hb;try simp only[hb])|fail)<;>try simp only[go_sem,seval,hd,hg,hw,Pb.St.v_w,ne0,A0,A2])
  refine⟨by and_intros<;>(repeat rw[hnO])<;>exact hbn _ (by omega),?_⟩;repeat' ((with_reducible first|refine wr ?_|refine cpc hc ?_|refine cpc hct ?_|refine cpc hcy ?_|refine A1 ?_ ?_|refine wb2 ?_ ?_<;>(intro hb;try simp only[hb])|fail)<;>try simp only[go_sem,seval,Pb.St.v_w,ne0,A0,A2])
  refine⟨by and_intros<;>(repeat rw[hnO])<;>exact hbn _ (by omega),?_⟩;repeat' ((with_reducible first|refine wr ?_|refine cpc hc ?_|refine cpc hct ?_|refine cpc hcy ?_|refine A1 ?_ ?_|refine wb2 ?_ ?_<;>(intro hb;try simp only[hb])|fail)<;>try simp only[go_sem,seval,Pb.St.v_w,ne0,A0,A2])
  refine⟨by and_intros<;>(repeat rw[hnO])<;>exact hbn _ (by omega),?_⟩;repeat' ((with_reducible first|refine wr ?_|refine cpc hc ?_|refine cpc hct ?_|refine cpc hcy ?_|refine A1 ?_ ?_|refine wb2 ?_ ?_<;>(intro hb;try simp only[hb])|fail)<;>try simp only[go_sem,seval,Pb.St.v_w,ne0,A0,A2])
  refine C6 (E0 (cs:=A3 ((F k).map Pb.St.v)) (fun e=>by rw[hno e];exact⟨rfl,rfl⟩) (fun i hi=>by have:=ho i hi;rw[hnO,hnO];exact A0c hi) hln (by omega) (by omega) (by omega)) ?_;simp only[go_sem,seval,hw];repeat' ((with_reducible first|refine wr ?_|refine A1 ?_ ?_|refine wb2 ?_ ?_<;>(intro hb;try simp only[hb])|fail)<;>try simp only[go_sem,seval,hw])
  refine⟨(k+1,some (c+1+17+1)),by simp[C5,tm,Tm.upd,A8,e0],?_,inv ⟨by omega,(fun h=>by cases h),(fun i hi=>by cases hi;omega)⟩,by simp only;omega⟩;dsimp only[B9];rw[e0,A0S,C1];refine K6 ?_;cases x with|mk kk n t a x y p=>simp only[Pb.St.plain,Ex.plains_map,Pb.St.plains_map,Pb.St.kind,Pb.St.name,Pb.St.text,Pb.St.args,Pb.St.thn,Pb.St.els,Pb.St.pos,B6p]
 ·have hd:=dfz hlt;repeat' ((with_reducible first|refine wr ?_|refine A1 ?_ ?_|refine wb2 ?_ ?_<;>(intro hb;try simp only[hb])|fail)<;>try simp only[go_sem,seval,hd])
  rw[hF,A0L (by omega)];exact A4l (fun e=>by have:=hno e;rw[hF,A0L (by omega)]at this;rw[this];rfl) (by simp) (Q7 _)
theorem c_Plain31(r:Ru)(hB:r.sz<=100000000000):PC Tryz.prog 26 [r.v] r.plain.v:=by
 refine PC.ofT B1 rfl (A0C rfl) (by simp[DV.nlL,DV.nl,A2q,A2p]) (Ru.nl _) ?_;obtain⟨D,M⟩:=r;have hDs:(D.map Dc.sz).sum+(M.map Md.sz).sum<=100000000000:=hB;have hDl:D.length<=(D.map Dc.sz).sum:=J1 fun x _=>by show 1<=1+_;omega
 have hMl:M.length<=(M.map Md.sz).sum:=J1 fun x _=>by show 1<=1+_+_;omega
 dsimp only[Ru.v,Ru.plain];repeat' ((with_reducible first|refine wr ?_|refine A1 ?_ ?_|refine wb2 ?_ ?_<;>(intro hb;try simp only[hb])|fail)<;>try simp only[go_sem,seval])
 obtain⟨F,hF⟩:∃ F:Nat->List Dc, ∀ k,F k=(D.take k).map Dc.plain:=⟨_,fun _=>rfl⟩;have hF0:F 0=[]:=by rw[hF];rfl
 have hFl:∀ k,(F k).length<=D.length:=fun k=>by rw[hF,A0E,A1F];omega
 refine D4 (fun q:Nat × Option Nat=>[(1,.ptr 0 0),(2,.ptr 1 0),(3,.ptr 2 0),(4,I64 q.1)]) (fun q=>B9 (((Sym.nil.upd 0 ⟨0,true,[E3 D,H3 M]⟩).upd 1 ⟨0,true,[.snil,.snil]⟩).upd 2 ⟨0,true,[A8 q.2 (F q.1).length,.snil]⟩) q.2 ⟨4,true,A3 ((F q.1).map Dc.v)⟩)
  (fun q c=>3<=c/\q.1<=D.length/\(q.2=none->F q.1=[])/\(∀ i,q.2=some i->3<=i/\i<c)) (fun q=>D.length-q.1) (0,none)
  (by simp[C5,tm,Tm.upd]) (Sub.refl _) ⟨by omega,A0Z _,fun _=>hF0,(fun i hi=>by cases hi)⟩ ?_
 rintro⟨k,o⟩ c ⟨hc,hk,hno,ho⟩;dsimp only at hc hk hno ho ⊢;have hbr:B9 (((Sym.nil.upd 0 ⟨0,true,[E3 D,H3 M]⟩).upd 1 ⟨0,true,[.snil,.snil]⟩).upd 2 ⟨0,true,[A8 o (F k).length,.snil]⟩) o ⟨4,true,A3 ((F k).map Dc.v)⟩ 0=some ⟨0,true,[E3 D,H3 M]⟩:=by rw[B6 (fun i hi=>by have:=ho i hi;omega),hnO,hnO,A0]
 by_cases hlt:k<D.length
 ·have hd:=dtz hlt;have hg:=A0B hlt;have hw:=w64 (n:=(k:Int)+1);have e0:F (k+1)=F k++[D[k].plain]:=by rw[hF,hF,A1D,hg,A0S];rfl
  have hFk:=hFl k;generalize D[k]=x at hg e0;have hln:(A3 ((F k).map Dc.v)).length=(F k).length * 4:=(C0 (u:=4) (A2z _)).trans (by simp);have hbx:B9 (((Sym.nil.upd 0 ⟨0,true,[E3 D,H3 M]⟩).upd 1 ⟨0,true,[.snil,.snil]⟩).upd 2 ⟨0,true,[A8 o (F k).length,.snil]⟩) o ⟨4,true,A3 ((F k).map Dc.v)⟩ 2=some ⟨0,true,[A8 o (F k).length,.snil]⟩:=by rw[B6 (fun i hi=>by have:=ho i hi;omega),A0]
  have hb1:B9 (((Sym.nil.upd 0 ⟨0,true,[E3 D,H3 M]⟩).upd 1 ⟨0,true,[.snil,.snil]⟩).upd 2 ⟨0,true,[A8 o (F k).length,.snil]⟩) o ⟨4,true,A3 ((F k).map Dc.v)⟩ 1=some ⟨0,true,[.snil,.snil]⟩:=by rw[B6 (fun i hi=>by have:=ho i hi;omega),hnO,A0]
  have hbo:∀ i:Nat,o=some i->B9 (((Sym.nil.upd 0 ⟨0,true,[E3 D,H3 M]⟩).upd 1 ⟨0,true,[.snil,.snil]⟩).upd 2 ⟨0,true,[A8 o (F k).length,.snil]⟩) o ⟨4,true,A3 ((F k).map Dc.v)⟩ i=some ⟨4,true,A3 ((F k).map Dc.v)⟩:=fun i hi=>by subst hi;exact A0
  have hdx:∀ X:Hp,I5 X o 2=X 2:=fun X=>C7 (fun i hi=>by have:=ho i hi;omega);generalize hHH:B9 (((Sym.nil.upd 0 ⟨0,true,[E3 D,H3 M]⟩).upd 1 ⟨0,true,[.snil,.snil]⟩).upd 2 ⟨0,true,[A8 o (F k).length,.snil]⟩) o ⟨4,true,A3 ((F k).map Dc.v)⟩=HH at hbr hbx hbo hb1 ⊢;have ne0:=A9a 0 1 2 c (c+1) (c+1+1) (by omega);repeat' ((with_reducible first|refine wr ?_|refine A1 ?_ ?_|refine wb2 ?_ ?_<;>(intro hb;try simp only[hb])|fail)<;>try simp only[go_sem,seval,hd,hg,hw,hbr,hbx,ne0,A0,A2])
  refine C6 (E0 (cs:=A3 ((F k).map Dc.v)) (fun e=>by rw[hno e];exact⟨rfl,rfl⟩) (fun i hi=>by have:=ho i hi;rw[hnO,hnO];exact hbo i hi) hln (by omega) (by omega) (by omega)) ?_;simp only[go_sem,seval,hw,ne0,A0,A2,hdx,hbx];repeat' ((with_reducible first|refine wr ?_|refine A1 ?_ ?_|refine wb2 ?_ ?_<;>(intro hb;try simp only[hb])|fail)<;>try simp only[go_sem,seval,hw,ne0,A0,A2,hdx,hbx])
  refine⟨(k+1,some (c+1+1)),by simp[C5,tm,Tm.upd],?_,inv ⟨by omega,by omega,(fun h=>by cases h),(fun i hi=>by cases hi;omega)⟩,by simp only;omega⟩;dsimp only[B9,A8];rw[e0,A0S,C1,A0A,A0G];intro j b hj;by_cases e1:j=c+1+1
  ·subst e1;rw[A0]at hj;rw[hnO,A0, <- hj];rfl
  rw[A6 e1]at hj;by_cases e2:j=2
  ·subst e2;rw[A0]at hj ⊢;exact hj
  rw[A6 e2]at hj ⊢;rw[A6 e1];by_cases e3:j=1
  ·subst e3;rw[A0]at hj;rw[C7 (fun i hi=>by have:=ho i hi;omega),hnO,hnO,hb1];exact hj
  rw[A6 e3]at hj;by_cases e4:j=0
  ·subst e4;rw[A0]at hj;rw[C7 (fun i hi=>by have:=ho i hi;omega),hnO,hnO,hbr];exact hj
  ·rw[A6 e4]at hj;cases hj
 ·have hd:=dfz hlt;repeat' ((with_reducible first|refine wr ?_|refine A1 ?_ ?_|refine wb2 ?_ ?_<;>(intro hb;try simp only[hb])|fail)<;>try simp only[go_sem,seval,hd,hbr])
  refine IW.keep [1,2,3,6] [.ptr 0 0,.ptr 1 0,.ptr 2 0,I64 0] (B7v (Hb:=((Sym.nil.upd 0 ⟨0,true,[E3 D,H3 M]⟩).upd 1 ⟨0,true,[.snil,.snil]⟩)) (ci:=2) (u:=4) (pre:=[]) (suf:=[.snil]) (xs:=(F k).map Dc.v) (by simp[DV.one]) (fun h=>by rw[hno h];rfl) (fun i hi=>by have:=ho i hi;exact⟨by omega,by rw[hnO,hnO];rfl⟩) (by simp) (A2z _)) ?_;have hFD:F k=D.map Dc.plain:=by rw[hF,A0L (by omega)]
  rw[hFD];clear hno ho hbr hFD hlt hd hFl hF0 hF hk;obtain⟨G,hG⟩:∃ G:Nat->List Md, ∀ k,G k=(M.take k).map Md.plain:=⟨_,fun _=>rfl⟩;have hG0:G 0=[]:=by rw[hG];rfl
  have hGl:∀ k,(G k).length<=M.length:=fun k=>by rw[hG,A0E,A1F];omega
  refine D4 (fun q:Nat × Option Nat=>[(1,.ptr 0 0),(2,.ptr 1 0),(3,.ptr 2 0),(6,I64 q.1)]) (fun q=>B9 (((Sym.nil.upd 0 ⟨0,true,[E3 D,H3 M]⟩).upd 1 ⟨0,true,[.snil,.snil]⟩).upd 2 ⟨0,true,[E3 (D.map Dc.plain),A8 q.2 (G q.1).length]⟩) q.2 ⟨4,true,A3 ((G q.1).map Md.v)⟩)
   (fun q c=>3<=c/\q.1<=M.length/\(q.2=none->G q.1=[])/\(∀ i,q.2=some i->3<=i/\i<c)) (fun q=>M.length-q.1) (0,none)
   (by simp[C5,tm,Tm.upd]) (by rw[hG0];exact Sub.refl _) ⟨hc,A0Z _,fun _=>hG0,(fun i hi=>by cases hi)⟩ ?_
  clear hc k c o;rintro⟨k,o⟩ c ⟨hc,hk,hno,ho⟩;dsimp only at hc hk hno ho ⊢;have hGk:=hGl k;have hbr:B9 (((Sym.nil.upd 0 ⟨0,true,[E3 D,H3 M]⟩).upd 1 ⟨0,true,[.snil,.snil]⟩).upd 2 ⟨0,true,[E3 (D.map Dc.plain),A8 o (G k).length]⟩) o ⟨4,true,A3 ((G k).map Md.v)⟩ 0=some ⟨0,true,[E3 D,H3 M]⟩:=by rw[B6 (fun i hi=>by have:=ho i hi;omega),hnO,hnO,A0]
  have hbx:B9 (((Sym.nil.upd 0 ⟨0,true,[E3 D,H3 M]⟩).upd 1 ⟨0,true,[.snil,.snil]⟩).upd 2 ⟨0,true,[E3 (D.map Dc.plain),A8 o (G k).length]⟩) o ⟨4,true,A3 ((G k).map Md.v)⟩ 2=some ⟨0,true,[E3 (D.map Dc.plain),A8 o (G k).length]⟩:=by rw[B6 (fun i hi=>by have:=ho i hi;omega),A0]
  have hb1:B9 (((Sym.nil.upd 0 ⟨0,true,[E3 D,H3 M]⟩).upd 1 ⟨0,true,[.snil,.snil]⟩).upd 2 ⟨0,true,[E3 (D.map Dc.plain),A8 o (G k).length]⟩) o ⟨4,true,A3 ((G k).map Md.v)⟩ 1=some ⟨0,true,[.snil,.snil]⟩:=by rw[B6 (fun i hi=>by have:=ho i hi;omega),hnO,A0]
  have hbo:∀ i:Nat,o=some i->B9 (((Sym.nil.upd 0 ⟨0,true,[E3 D,H3 M]⟩).upd 1 ⟨0,true,[.snil,.snil]⟩).upd 2 ⟨0,true,[E3 (D.map Dc.plain),A8 o (G k).length]⟩) o ⟨4,true,A3 ((G k).map Md.v)⟩ i=some ⟨4,true,A3 ((G k).map Md.v)⟩:=fun i hi=>by subst hi;exact A0
  have hbn:∀ j:Nat,c<=j->B9 (((Sym.nil.upd 0 ⟨0,true,[E3 D,H3 M]⟩).upd 1 ⟨0,true,[.snil,.snil]⟩).upd 2 ⟨0,true,[E3 (D.map Dc.plain),A8 o (G k).length]⟩) o ⟨4,true,A3 ((G k).map Md.v)⟩ j=none:=fun j hj=>by rw[B6 (fun i hi=>by have:=ho i hi;omega),hnO,hnO,hnO];rfl
  have hT:(A8 o (G k).length).one=true:=by cases o<;>rfl
  have hdx:∀ X:Hp,I5 X o 2=X 2:=fun X=>C7 (fun i hi=>by have:=ho i hi;omega);by_cases hlt:k<M.length
  ·have hd:=dtz hlt;have hg:=A0B hlt;have hw:=w64 (n:=(k:Int)+1);have e0:G (k+1)=G k++[M[k].plain]:=by rw[hG,hG,A1D,hg,A0S];rfl
   have hsx:=H6 (f:=Md.sz) (A0V hlt);generalize M[k]=x at hg hsx e0;have hxs:(x.hds.map Hd.sz).sum<Md.sz x:=by unfold Md.sz;omega
   have hxl:x.hds.length<=(x.hds.map Hd.sz).sum:=J1 fun x _=>by show 1<=1+_+_;omega
   have hln:(A3 ((G k).map Md.v)).length=(G k).length * 4:=(C0 (u:=4) (A7f _)).trans (by simp);generalize hHH:B9 (((Sym.nil.upd 0 ⟨0,true,[E3 D,H3 M]⟩).upd 1 ⟨0,true,[.snil,.snil]⟩).upd 2 ⟨0,true,[E3 (D.map Dc.plain),A8 o (G k).length]⟩) o ⟨4,true,A3 ((G k).map Md.v)⟩=HH at hbr hbx hbo hb1 hbn ⊢;have ne0:=V7 0 1 2 (c+13) (by omega);repeat' ((with_reducible first|refine wr ?_|refine A1 ?_ ?_|refine wb2 ?_ ?_<;>(intro hb;try simp only[hb])|fail)<;>try simp only[go_sem,seval,hd,hg,hw,hbr,hbx,ne0,A0,A2])
   obtain⟨K,hK⟩:∃ K:Nat->List Hd, ∀ j,K j=(x.hds.take j).map Hd.plain:=⟨_,fun _=>rfl⟩;have hK0:K 0=[]:=by rw[hK];rfl
   have hKl:∀ j,(K j).length<=x.hds.length:=fun j=>by rw[hK,A0E,A1F];omega
   refine D4 (fun q:Nat × Option Nat=>[(1,.ptr 0 0),(2,.ptr 1 0),(3,.ptr 2 0),(6,I64 k),(7,.ptr (c+13) 0),(8,I64 q.1)]) (fun q=>B9 (HH.upd (c+13) ⟨0,true,[.str x.name,I64 x.prio,A8 q.2 (K q.1).length,I64 0]⟩) q.2 ⟨4,true,A3 ((K q.1).map Hd.v)⟩)
    (fun q n=>c+15<=n/\q.1<=x.hds.length/\(q.2=none->K q.1=[])/\(∀ i,q.2=some i->c+15<=i/\i<n)) (fun q=>x.hds.length-q.1) (0,none)
    (by simp[C5,tm,Tm.upd]) (by rw[hK0];exact Sub.refl _) ⟨A0J _,A0Z _,fun _=>hK0,(fun i hi=>by cases hi)⟩ ?_
   rintro⟨j,o2⟩ n ⟨hn,hj,hno2,ho2⟩;dsimp only at hn hj hno2 ho2 ⊢;have hKj:=hKl j;have h2r:B9 (HH.upd (c+13) ⟨0,true,[.str x.name,I64 x.prio,A8 o2 (K j).length,I64 0]⟩) o2 ⟨4,true,A3 ((K j).map Hd.v)⟩ 0=some ⟨0,true,[E3 D,H3 M]⟩:=by rw[B6 (fun i hi=>by have:=ho2 i hi;omega),hnO,hbr]
   have h2b:B9 (HH.upd (c+13) ⟨0,true,[.str x.name,I64 x.prio,A8 o2 (K j).length,I64 0]⟩) o2 ⟨4,true,A3 ((K j).map Hd.v)⟩ (c+13)=some ⟨0,true,[.str x.name,I64 x.prio,A8 o2 (K j).length,I64 0]⟩:=by rw[B6 (fun i hi=>by have:=ho2 i hi;omega),A0]
   have h2o:∀ i:Nat,o2=some i->B9 (HH.upd (c+13) ⟨0,true,[.str x.name,I64 x.prio,A8 o2 (K j).length,I64 0]⟩) o2 ⟨4,true,A3 ((K j).map Hd.v)⟩ i=some ⟨4,true,A3 ((K j).map Hd.v)⟩:=fun i hi=>by subst hi;exact A0
   have h2n:∀ i:Nat,n<=i->B9 (HH.upd (c+13) ⟨0,true,[.str x.name,I64 x.prio,A8 o2 (K j).length,I64 0]⟩) o2 ⟨4,true,A3 ((K j).map Hd.v)⟩ i=none:=fun i hi=>by rw[B6 (fun i hi=>by have:=ho2 i hi;omega),hnO];exact hbn _ (by omega)
   have h2j:∀ i:Nat,i<c+13->B9 (HH.upd (c+13) ⟨0,true,[.str x.name,I64 x.prio,A8 o2 (K j).length,I64 0]⟩) o2 ⟨4,true,A3 ((K j).map Hd.v)⟩ i=HH i:=fun i hi=>by rw[B6 (fun i hi=>by have:=ho2 i hi;omega),hnO]
   have hT2:(A8 o2 (K j).length).one=true:=by cases o2<;>rfl
   have hdx2:∀ X:Hp,I5 X o2 (c+13)=X (c+13):=fun X=>C7 (fun i hi=>by have:=ho2 i hi;omega);by_cases hjl:j<x.hds.length
   ·have hdj:decide ((j:Int)<(x.hds.length:Int))=true:=by simpa using hjl
    have hgj:=A0B hjl;have hwj:=w64 (n:=(j:Int)+1);have k0:K (j+1)=K j++[x.hds[j].plain]:=by rw[hK,hK,A1D,hgj,A0S];rfl
    have hsj:=H6 (f:=Hd.sz) (A0V hjl);generalize x.hds[j]=y at hgj hsj k0;have hbs:Pb.St.szs y.body<Hd.sz y:=by unfold Hd.sz;omega
    have cb:=c_plainS (Pb.St.szs y.body+1) y.body (by omega) (by omega);have hlj:(A3 ((K j).map Hd.v)).length=(K j).length * 4:=(C0 (u:=4) (A2u _)).trans (by simp);generalize hH2:B9 (HH.upd (c+13) ⟨0,true,[.str x.name,I64 x.prio,A8 o2 (K j).length,I64 0]⟩) o2 ⟨4,true,A3 ((K j).map Hd.v)⟩=H2 at h2r h2b h2o h2n h2j ⊢;have ne0:=T1 0 1 2 (c+13) n (by omega);repeat' ((with_reducible first|refine wr ?_|refine cpc cb ?_|refine A1 ?_ ?_|refine wb2 ?_ ?_<;>(intro hb;try simp only[hb])|fail)<;>try simp only[go_sem,seval,hdj,hg,hgj,hwj,h2r,h2b,ne0,A0,A2])
    refine⟨by and_intros<;>(repeat rw[hnO])<;>exact h2n _ (by omega),?_⟩;rw[E0 (cs:=A3 ((K j).map Hd.v)) (fun e=>by rw[hno2 e];exact⟨rfl,rfl⟩) (fun i hi=>by have:=ho2 i hi;rw[hnO,hnO];exact h2o i hi) hlj (by omega) (by omega) (by omega)];have ne0:=D3y 0 1 2 (c+13) n (n+1+10) (n+1+14) (by omega);simp only[go_sem,seval,ne0,A0,A2,hdx2,h2b,hwj];repeat' ((with_reducible first|refine wr ?_|refine A1 ?_ ?_|refine wb2 ?_ ?_<;>(intro hb;try simp only[hb])|fail)<;>try simp only[go_sem,seval,ne0,A0,A2,hdx2,h2b,hwj])
    refine⟨(j+1,some (n+1+14)),by simp,?_,inv ⟨by omega,by omega,(fun h=>by cases h),(fun i hi=>by cases hi;omega)⟩,by simp only;omega⟩;dsimp only[B9,A8];rw[k0,A0S,C1,A0A,A0G];intro i b hi;by_cases e1:i=n+1+14
    ·subst e1;rw[A0]at hi;rw[hnO,A0, <- hi];simp only[Hd.plain,Pb.St.plains_map];rfl
    rw[A6 e1]at hi;by_cases e2:i=c+13
    ·subst e2;rw[A0]at hi ⊢;exact hi
    rw[A6 e2]at hi ⊢;rw[A6 e1];have hic:i<c:=Classical.byContradiction fun h=>by rw[hbn i (by omega)]at hi;cases hi
    rw[C7 (fun i' hi'=>by have:=ho2 i' hi';omega),hnO,hnO,h2j i (by omega)];exact hi
   ·have hdj:decide ((j:Int)<(x.hds.length:Int))=false:=by simpa using hjl
    have ne0:=T1 0 1 2 (c+13) n (by omega);repeat' ((with_reducible first|refine G0 (p:=IW _ _ (pz Tryz.prog 26 (.o (.o (.o (.i (.i .h)))))) _ _) ?_|refine wr ?_|refine A1 ?_ ?_|refine wb2 ?_ ?_<;>(intro hb;try simp only[hb])|fail)<;>try simp only[go_sem,seval,hdj,hg,h2r,h2b,ne0,A0,A2])
    unfold V8;have hKM:K j=x.hds.map Hd.plain:=by rw[hK,A0L (by omega)]
    refine IW.keep [1,2,3,6,7] [.ptr 0 0,.ptr 1 0,.ptr 2 0,I64 k,.ptr (c+13) 0] (B7v (Hb:=HH) (ci:=c+13) (u:=4) (pre:=[.str x.name,I64 x.prio]) (suf:=[I64 0]) (xs:=(K j).map Hd.v) (by simp[DV.one]) (fun h=>by rw[hno2 h];rfl) (fun i hi=>by have:=ho2 i hi;exact⟨by omega,hbn _ (by omega)⟩) (by simp) (A2u _)) ?_;rw[hKM];dsimp only[List.cons_append,List.nil_append];show IW Tryz.prog _ _ ⟨tm [(1,.ptr 0 0),(2,.ptr 1 0),(3,.ptr 2 0),(6,I64 k),(7,.ptr (c+13) 0)],_,_⟩ _;have ne0:=A9a 0 1 2 (c+13) n (n+1) (by omega);repeat' ((with_reducible first|refine wr ?_|refine A1 ?_ ?_|refine wb2 ?_ ?_<;>(intro hb;try simp only[hb])|fail)<;>try simp only[go_sem,seval,hbx,hbr,ne0,A0,A2])
    refine C6 (E0 (cs:=A3 ((G k).map Md.v)) (fun e=>by rw[hno e];exact⟨rfl,rfl⟩) (fun i hi=>by have:=ho i hi;rw[hnO,hnO];exact hbo i hi) hln (by omega) (by omega) (by omega)) ?_;simp only[go_sem,seval,hw,ne0,A0,A2,hdx,hbx];repeat' ((with_reducible first|refine wr ?_|refine A1 ?_ ?_|refine wb2 ?_ ?_<;>(intro hb;try simp only[hb])|fail)<;>try simp only[go_sem,seval,hw,ne0,A0,A2,hdx,hbx])
    refine⟨(k+1,some (n+1)),by simp[C5,tm,Tm.upd],?_,inv ⟨by omega,by omega,(fun h=>by cases h),(fun i hi=>by cases hi;omega)⟩,by simp only;omega⟩;dsimp only[B9,A8];rw[e0,A0S,C1,A0A,A0G];intro i b hi;by_cases e1:i=n+1
    ·subst e1;rw[A0]at hi;rw[hnO,A0, <- hi];rfl
    rw[A6 e1]at hi;by_cases e2:i=2
    ·subst e2;rw[A0]at hi ⊢;exact hi
    rw[A6 e2]at hi ⊢;rw[A6 e1];by_cases e3:i=1
    ·subst e3;rw[A0]at hi;rw[C7 (fun i hi=>by have:=ho i hi;omega),hnO,hnO,hb1];exact hi
    rw[A6 e3]at hi;by_cases e4:i=0
    ·subst e4;rw[A0]at hi;rw[C7 (fun i hi=>by have:=ho i hi;omega),hnO,hnO,hbr];exact hi
    ·rw[A6 e4]at hi;cases hi
  ·have hd:=dfz hlt;generalize hHH:B9 (((Sym.nil.upd 0 ⟨0,true,[E3 D,H3 M]⟩).upd 1 ⟨0,true,[.snil,.snil]⟩).upd 2 ⟨0,true,[E3 (D.map Dc.plain),A8 o (G k).length]⟩) o ⟨4,true,A3 ((G k).map Md.v)⟩=HH at hbr hbx hbo hb1 hbn ⊢;have ne0:=L8 0 1 2 (by omega);repeat' ((with_reducible first|refine wr ?_|refine A1 ?_ ?_|refine wb2 ?_ ?_<;>(intro hb;try simp only[hb])|fail)<;>try simp only[go_sem,seval,hd,hbr,hbx,hb1,ne0,A0,A2,hT])
   refine C6 (A3j (by rfl) (by decide) (by cases o<;>rfl)) ?_;simp only[go_sem,seval,ne0,A0];repeat' ((with_reducible first|refine wr ?_|refine A1 ?_ ?_|refine wb2 ?_ ?_<;>(intro hb;try simp only[hb])|fail)<;>try simp only[go_sem,seval,ne0,A0])
   rw[E6 (rv2 rfl rfl)];have hGM:M.map Md.plain=G k:=by rw[hG,A0L (by omega)]
   rw[hGM];exact⟨Sym.nil,C7p (cc:=0) (G k) (fun _ _=>rfl) (fun _ _=>A0Z _) hno (fun i hi=>by have:=ho i hi;show (HH.upd 1 _) i=_;rw[hnO];exact hbo i hi) (fun j hj=>by omega)⟩
theorem c_ValidR31(r:Ru)(hB:r.sz<4000000):PC Tryz.prog 8 [r.v] (.bool (B8f r)):=by
 refine PC.go B1 ?_;have hg:=C2l r;have hGT:∀ t∈ruT r,G7 t:=fun t ht=>(hg t ht).1;have hval:∀ t∈ruT r,0<=t.value/\t.value<=9223372036854775807:=fun t ht=>by have:=(hg t ht).2;omega
 obtain⟨l1,l2⟩:=B0s r;have hsz:=B6u (E:=0) hGT;have ht:=c_rulesT r hB (by omega);have hp:=c_Plain31 r (by omega);obtain⟨f,hf⟩:=(A5h (ruT r) 0).get;have hr:=c_rules (ruT r) 0 (by omega) hval f rd0 _ hf (A0Z _);have hv:B8f r=(okR (V6 (ruT r) 0).2 && B4k (V6 (ruT r) 0).1.plain r.plain):=rfl;rw[hv];have hpo:=c_Plain31 (V6 (ruT r) 0).1 (by omega);have hps:(V6 (ruT r) 0).1.plain.sz<=100000000000:=by rw[Ru.plain_sz];omega
 have hsm:=c_Same31 (V6 (ruT r) 0).1.plain r.plain hps;generalize V6 (ruT r) 0=w at hr hpo hsm hsz ⊢;generalize hL:ruT r=L at ht hr;repeat' ((with_reducible first|refine wr ?_|refine cpc ht ?_|refine A1 ?_ ?_|refine wb2 ?_ ?_<;>(intro hb;try simp only[hb])|fail)<;>try simp only[go_sem,seval])
 refine AC.call (hr _ _ 1 rfl (by decide)) ?_;rintro v H' c2 ⟨rfl,rfl⟩ hc2;dsimp only at hc2 ⊢;have ne0:=L8 0 1 c2 (by omega);simp only[go_sem,seval,ne0,A0,A2];repeat' ((with_reducible first|refine wr ?_|refine A1 ?_ ?_|refine wb2 ?_ ?_<;>(intro hb;try simp only[hb])|fail)<;>try simp only[go_sem,seval,ne0,A0,A2])
 refine AC.call (c_rdok L 0 w.2 _ _ 1 (by rw[hnO];exact A0) (by omega)) ?_;rintro v H' c3 ⟨rfl,rfl⟩ hc3;cases hok:okR w.2 with
 |false =>
  simp only[go_sem,seval,hok,ne0,A0,A2];repeat' ((with_reducible first|refine wr ?_|refine A1 ?_ ?_|refine wb2 ?_ ?_<;>(intro hb;try simp only[hb])|fail)<;>try simp only[go_sem,seval,hok,ne0,A0,A2])
  refine⟨by repeat rw[hnO]<;>rfl,?_⟩;repeat' ((with_reducible first|refine wr ?_|refine A1 ?_ ?_|refine wb2 ?_ ?_<;>(intro hb;try simp only[hb])|fail)<;>try simp only[go_sem,seval,hok,ne0,A0,A2])
  exact⟨_,GL.refl _ _⟩
 |true =>
  simp only[go_sem,seval,hok,ne0,A0,A2];repeat' ((with_reducible first|refine wr ?_|refine cpc hpo ?_|refine cpc hp ?_|refine cpc hsm ?_|refine A1 ?_ ?_|refine wb2 ?_ ?_<;>(intro hb;try simp only[hb])|fail)<;>try simp only[go_sem,seval,hok,ne0,A0,A2])
  refine⟨by and_intros<;>(repeat rw[hnO])<;>rfl,?_⟩;repeat' ((with_reducible first|refine wr ?_|refine cpc hpo ?_|refine cpc hp ?_|refine cpc hsm ?_|refine A1 ?_ ?_|refine wb2 ?_ ?_<;>(intro hb;try simp only[hb])|fail)<;>try simp only[go_sem,seval,hok,ne0,A0,A2])
  exact⟨_,GL.refl _ _⟩
theorem c_IF_dc{g:Dc->Bool}{f:Nat}{a cs:List DV}(xs:List (Dc))(hx:xs.length<=9223372036854775807)(na:DV.nlL a=true)(ncs:DV.nlL cs=true)(hf:∀ x∈xs,PC Tryz.prog f (a++[Dc.v x]++cs) (.bool (g x))):
  PC Tryz.prog 47 [E3 xs,.func f a cs] (I64 (A0m g xs 0)):=by
 refine PC.ofT B1 rfl (A0C rfl) (by simp[DV.nlL,DV.nl,A2q,na,ncs]) rfl ?_;repeat' ((with_reducible first|refine wr ?_|refine A1 ?_ ?_|refine wb2 ?_ ?_<;>(intro hb;try simp only[hb])|fail)<;>try simp only[go_sem,seval,A0E])
 refine D4 (fun k:Nat=>[(0,E3 xs),(1,.func f a cs),(7,I64 xs.length),(8,I64 k)]) (fun _=>nil) (fun k _=>k<=xs.length/\A0m g xs 0=A0m g (xs.drop k) k) (fun k=>xs.length-k) 0 (by simp[C5,tm,Tm.upd]) (Sub.nil _) (by simp) ?_;rintro k c ⟨hk,he⟩;by_cases hlt:k<xs.length
 ·have hd:=dtz hlt;have hg:=A0B hlt;have hw:=w64 (n:=(k:Int)+1);have hst:=A2s (g:=g) hg;have hc:=hf xs[k] (A0V hlt);repeat' ((with_reducible first|refine wr ?_|refine cpc hc ?_|refine A1 ?_ ?_|refine wb2 ?_ ?_<;>(intro hb;try simp only[hb])|fail)<;>try simp only[go_sem,seval,hd,hg,hw])
  ·refine B3 ?_;rw[he,hst,hb];rfl
  ·exact⟨k+1,rfl,Sub.refl _,inv ⟨by omega,by rw[he,hst,hb];rfl⟩,by omega⟩
 ·have hd:=dfz hlt;repeat' ((with_reducible first|refine wr ?_|refine A1 ?_ ?_|refine wb2 ?_ ?_<;>(intro hb;try simp only[hb])|fail)<;>try simp only[go_sem,seval,hd])
  refine B3 ?_;rw[he,A4r (by omega)]
theorem c_CF_dc{g:Dc->Bool}{f:Nat}{a cs:List DV}(xs:List (Dc))(hx:xs.length<=9223372036854775807)(na:DV.nlL a=true)(ncs:DV.nlL cs=true)(hf:∀ x∈xs,PC Tryz.prog f (a++[Dc.v x]++cs) (.bool (g x))):
  PC Tryz.prog 18 [E3 xs,.func f a cs] (.bool (xs.any g)):=by
 refine PC.ofT B1 rfl (A0C rfl) (by simp[DV.nlL,DV.nl,A2q,na,ncs]) rfl ?_;have hc:=c_IF_dc xs hx na ncs hf;repeat' ((with_reducible first|refine wr ?_|refine cpc hc ?_|refine A1 ?_ ?_|refine wb2 ?_ ?_<;>(intro hb;try simp only[hb])|fail)<;>try simp only[go_sem,seval])
 refine B3 ?_;rw[A4s]
theorem c_IF_md{g:Md->Bool}{f:Nat}{a cs:List DV}(xs:List (Md))(hx:xs.length<=9223372036854775807)(na:DV.nlL a=true)(ncs:DV.nlL cs=true)(hf:∀ x∈xs,PC Tryz.prog f (a++[Md.v x]++cs) (.bool (g x))):
  PC Tryz.prog 49 [H3 xs,.func f a cs] (I64 (A0m g xs 0)):=by
 refine PC.ofT B1 rfl (A0C rfl) (by simp[DV.nlL,DV.nl,A2p,na,ncs]) rfl ?_;repeat' ((with_reducible first|refine wr ?_|refine A1 ?_ ?_|refine wb2 ?_ ?_<;>(intro hb;try simp only[hb])|fail)<;>try simp only[go_sem,seval,A0E])
 refine D4 (fun k:Nat=>[(0,H3 xs),(1,.func f a cs),(7,I64 xs.length),(8,I64 k)]) (fun _=>nil) (fun k _=>k<=xs.length/\A0m g xs 0=A0m g (xs.drop k) k) (fun k=>xs.length-k) 0 (by simp[C5,tm,Tm.upd]) (Sub.nil _) (by simp) ?_;rintro k c ⟨hk,he⟩;by_cases hlt:k<xs.length
 ·have hd:=dtz hlt;have hg:=A0B hlt;have hw:=w64 (n:=(k:Int)+1);have hst:=A2s (g:=g) hg;have hc:=hf xs[k] (A0V hlt);repeat' ((with_reducible first|refine wr ?_|refine cpc hc ?_|refine A1 ?_ ?_|refine wb2 ?_ ?_<;>(intro hb;try simp only[hb])|fail)<;>try simp only[go_sem,seval,hd,hg,hw])
  ·refine B3 ?_;rw[he,hst,hb];rfl
  ·exact⟨k+1,rfl,Sub.refl _,inv ⟨by omega,by rw[he,hst,hb];rfl⟩,by omega⟩
 ·have hd:=dfz hlt;repeat' ((with_reducible first|refine wr ?_|refine A1 ?_ ?_|refine wb2 ?_ ?_<;>(intro hb;try simp only[hb])|fail)<;>try simp only[go_sem,seval,hd])
  refine B3 ?_;rw[he,A4r (by omega)]
theorem c_CF_md{g:Md->Bool}{f:Nat}{a cs:List DV}(xs:List (Md))(hx:xs.length<=9223372036854775807)(na:DV.nlL a=true)(ncs:DV.nlL cs=true)(hf:∀ x∈xs,PC Tryz.prog f (a++[Md.v x]++cs) (.bool (g x))):
  PC Tryz.prog 21 [H3 xs,.func f a cs] (.bool (xs.any g)):=by
 refine PC.ofT B1 rfl (A0C rfl) (by simp[DV.nlL,DV.nl,A2p,na,ncs]) rfl ?_;have hc:=c_IF_md xs hx na ncs hf;repeat' ((with_reducible first|refine wr ?_|refine cpc hc ?_|refine A1 ?_ ?_|refine wb2 ?_ ?_<;>(intro hb;try simp only[hb])|fail)<;>try simp only[go_sem,seval])
 refine B3 ?_;rw[A4s]
theorem c_IF_st{g:Pb.St->Bool}{f:Nat}{a cs:List DV}(xs:List (Pb.St))(hx:xs.length<=9223372036854775807)(na:DV.nlL a=true)(ncs:DV.nlL cs=true)(hf:∀ x∈xs,PC Tryz.prog f (a++[Pb.St.v x]++cs) (.bool (g x))):
  PC Tryz.prog 125 [F4 xs,.func f a cs] (I64 (A0m g xs 0)):=by
 refine PC.ofT B1 rfl (A0C rfl) (by simp[DV.nlL,DV.nl,Y9,na,ncs]) rfl ?_;repeat' ((with_reducible first|refine wr ?_|refine A1 ?_ ?_|refine wb2 ?_ ?_<;>(intro hb;try simp only[hb])|fail)<;>try simp only[go_sem,seval,A0E])
 refine D4 (fun k:Nat=>[(0,F4 xs),(1,.func f a cs),(7,I64 xs.length),(8,I64 k)]) (fun _=>nil) (fun k _=>k<=xs.length/\A0m g xs 0=A0m g (xs.drop k) k) (fun k=>xs.length-k) 0 (by simp[C5,tm,Tm.upd]) (Sub.nil _) (by simp) ?_;rintro k c ⟨hk,he⟩;by_cases hlt:k<xs.length
 ·have hd:=dtz hlt;have hg:=A0B hlt;have hw:=w64 (n:=(k:Int)+1);have hst:=A2s (g:=g) hg;have hc:=hf xs[k] (A0V hlt);rw[Pb.St.v_w]at hc;repeat' ((with_reducible first|refine wr ?_|refine cpc hc ?_|refine A1 ?_ ?_|refine wb2 ?_ ?_<;>(intro hb;try simp only[hb])|fail)<;>try simp only[go_sem,seval,hd,hg,hw,Pb.St.v_w])
  ·refine B3 ?_;rw[he,hst,hb];rfl
  ·exact⟨k+1,rfl,Sub.refl _,inv ⟨by omega,by rw[he,hst,hb];rfl⟩,by omega⟩
 ·have hd:=dfz hlt;repeat' ((with_reducible first|refine wr ?_|refine A1 ?_ ?_|refine wb2 ?_ ?_<;>(intro hb;try simp only[hb])|fail)<;>try simp only[go_sem,seval,hd])
  refine B3 ?_;rw[he,A4r (by omega)]
theorem c_CF_st{g:Pb.St->Bool}{f:Nat}{a cs:List DV}(xs:List (Pb.St))(hx:xs.length<=9223372036854775807)(na:DV.nlL a=true)(ncs:DV.nlL cs=true)(hf:∀ x∈xs,PC Tryz.prog f (a++[Pb.St.v x]++cs) (.bool (g x))):
  PC Tryz.prog 88 [F4 xs,.func f a cs] (.bool (xs.any g)):=by
 refine PC.ofT B1 rfl (A0C rfl) (by simp[DV.nlL,DV.nl,Y9,na,ncs]) rfl ?_;have hc:=c_IF_st xs hx na ncs hf;repeat' ((with_reducible first|refine wr ?_|refine cpc hc ?_|refine A1 ?_ ?_|refine wb2 ?_ ?_<;>(intro hb;try simp only[hb])|fail)<;>try simp only[go_sem,seval])
 refine B3 ?_;rw[A4s]
theorem c_IF_ex{g:Ex->Bool}{f:Nat}{a cs:List DV}(xs:List (Ex))(hx:xs.length<=9223372036854775807)(na:DV.nlL a=true)(ncs:DV.nlL cs=true)(hf:∀ x∈xs,PC Tryz.prog f (a++[Ex.v x]++cs) (.bool (g x))):
  PC Tryz.prog 155 [I9 xs,.func f a cs] (I64 (A0m g xs 0)):=by
 refine PC.ofT B1 rfl (A0C rfl) (by simp[DV.nlL,DV.nl,A0z,na,ncs]) rfl ?_;repeat' ((with_reducible first|refine wr ?_|refine A1 ?_ ?_|refine wb2 ?_ ?_<;>(intro hb;try simp only[hb])|fail)<;>try simp only[go_sem,seval,A0E])
 refine D4 (fun k:Nat=>[(0,I9 xs),(1,.func f a cs),(7,I64 xs.length),(8,I64 k)]) (fun _=>nil) (fun k _=>k<=xs.length/\A0m g xs 0=A0m g (xs.drop k) k) (fun k=>xs.length-k) 0 (by simp[C5,tm,Tm.upd]) (Sub.nil _) (by simp) ?_;rintro k c ⟨hk,he⟩;by_cases hlt:k<xs.length
 ·have hd:=dtz hlt;have hg:=A0B hlt;have hw:=w64 (n:=(k:Int)+1);have hst:=A2s (g:=g) hg;have hc:=hf xs[k] (A0V hlt);rw[Ex.v_w]at hc;repeat' ((with_reducible first|refine wr ?_|refine cpc hc ?_|refine A1 ?_ ?_|refine wb2 ?_ ?_<;>(intro hb;try simp only[hb])|fail)<;>try simp only[go_sem,seval,hd,hg,hw,Ex.v_w])
  ·refine B3 ?_;rw[he,hst,hb];rfl
  ·exact⟨k+1,rfl,Sub.refl _,inv ⟨by omega,by rw[he,hst,hb];rfl⟩,by omega⟩
 ·have hd:=dfz hlt;repeat' ((with_reducible first|refine wr ?_|refine A1 ?_ ?_|refine wb2 ?_ ?_<;>(intro hb;try simp only[hb])|fail)<;>try simp only[go_sem,seval,hd])
  refine B3 ?_;rw[he,A4r (by omega)]
theorem c_CF_ex{g:Ex->Bool}{f:Nat}{a cs:List DV}(xs:List (Ex))(hx:xs.length<=9223372036854775807)(na:DV.nlL a=true)(ncs:DV.nlL cs=true)(hf:∀ x∈xs,PC Tryz.prog f (a++[Ex.v x]++cs) (.bool (g x))):
  PC Tryz.prog 126 [I9 xs,.func f a cs] (.bool (xs.any g)):=by
 refine PC.ofT B1 rfl (A0C rfl) (by simp[DV.nlL,DV.nl,A0z,na,ncs]) rfl ?_;have hc:=c_IF_ex xs hx na ncs hf;repeat' ((with_reducible first|refine wr ?_|refine cpc hc ?_|refine A1 ?_ ?_|refine wb2 ?_ ?_<;>(intro hb;try simp only[hb])|fail)<;>try simp only[go_sem,seval])
 refine B3 ?_;rw[A4s]
theorem C5a{H:Hp}{a b:Bool}(h:a=b):∃ H2,GL H [.bool a] H2 [.bool b]:=⟨H,by rw[h];exact GL.refl _ _⟩
theorem B2a{b1 b2 b3:Blk}{cc:Nat}(u:Unit)(h:1<=cc):Sym.Sub (Sym.nil.upd 0 b1) (((Sym.nil.upd 0 b1).upd cc b2).upd cc b3):=by
 intro j b hj;simp only[Hp.upd,Sym.nil]at hj ⊢;split at hj
 ·rename_i h0;rw[if_neg (by omega),if_neg (by omega),if_pos h0];exact hj
 ·cases hj
theorem c_levS(k:Int):PC Tryz.prog 114 [I64 k] (I64 (B5 k)):=by
 refine PC.go B1 ?_;repeat' ((with_reducible first|refine wr ?_|refine A1 ?_ ?_|refine wb2 ?_ ?_<;>(intro hb;try simp only[hb])|fail)<;>try simp only[go_sem,seval])
 all_goals refine B3 (congrArg I64 ?_)
 all_goals simp_all[B5]
 all_goals omega
theorem c_namedS(k:Int):PC Tryz.prog 118 [I64 k] (.bool (A0k k)):=by
 refine PC.go B1 ?_;repeat' ((with_reducible first|refine wr ?_|refine A1 ?_ ?_|refine wb2 ?_ ?_<;>(intro hb;try simp only[hb])|fail)<;>try simp only[go_sem,seval])
 all_goals refine B3 (congrArg DV.bool ?_)
 all_goals (cases h5:k == 5<;>cases h6:k == 6<;>cases h7:k == 7<;>simp_all[A0k])
theorem c_wrapped(e x:Ex)(i:Nat)(h:e.args[i]? = some x)(hi:i<=1):PC Tryz.prog 113 [e.v,I64 i] (.bool (P2 e.kind x.kind i)):=by
 refine PC.go B1 ?_;rw[Ex.v_w];have h1:=c_levS e.kind;have h2:=c_levS x.kind;repeat' ((with_reducible first|refine wr ?_|refine cpc h1 ?_|refine cpc h2 ?_|refine A1 ?_ ?_|refine wb2 ?_ ?_<;>(intro hb;try simp only[hb])|fail)<;>try simp only[go_sem,seval,h,Ex.v_w])
 all_goals refine C5a ?_
 all_goals unfold P2
 all_goals (cases hi1:i == 1<;>cases h3:B5 e.kind == 3<;>simp_all)
 all_goals omega
theorem c_measure:∀ (m:Nat) (e:Ex),e.sz<m->e.sz<=100000000->PC Tryz.prog 111 [e.v] (msV (msM e)):=by
 intro m
 induction m with
 |zero=>intro e h;omega
 |succ m ih =>
 intro e hm hB;have hnl:=e.sz_name;have hx:∀ x∈e.args,PC Tryz.prog 111 [x.v] (msV (msM x)):=fun x hx=>ih x (by have:=Ex.sz_arg hx;omega) (by have:=Ex.sz_arg hx;omega);have hwr:∀ (x:Ex) (i:Nat),e.args[i]? = some x->i<=1->PC Tryz.prog 113 [e.w,I64 i] (.bool (P2 e.kind x.kind i)):=fun x i h hi=>by have:=c_wrapped e x i h hi;rwa [Ex.v_w]at this
 refine PC.ofT B1 rfl (A0C rfl) (by simp[DV.nlL,DV.nl,Ex.nl]) (D0o _) ?_;rw[Ex.v_w];obtain⟨R,hR⟩:∃ R,R=msV (msM e):=⟨_,rfl⟩;rw[<- hR];have hle:=B5e e.kind 0 e.args;have hal:Ex.szs e.args<e.sz:=by cases e with|mk k v n a p=>rw[Ex.sz];show Ex.szs a<_;omega
 have hargs:∀ x∈e.args,x.sz<=Ex.szs e.args:=fun x hx=>Ex.szs_mem hx;cases e with|mk k v n a p =>
 rw[msM]at hR;dsimp only[Ex.w,Ex.kind,Ex.value,Ex.name,Ex.args,Ex.pos]at hx hwr hle hal hargs hnl ⊢;have hl:=c_levS k;have hnk:=c_namedS k;have hin:=c_IsName n (by omega);have none0:kOk k=false\/a.length≠I0 k\/A0j k n=false\/A1q k v=false->R=.tup [I64 0,I64 0,.bool false]:=fun h=>by rw[hR,if_pos h];rfl
 have ci:((I0 k:Nat):Int)<=2:=by unfold I0;(repeat' split)<;>decide
 have kA:∀ nm vl:Bool,A0j k n=nm->A1q k v=vl->kOk k=true->IW Tryz.prog 113 (pz Tryz.prog 111 (.o (.i (.o (.o (.o .h)))))) ⟨tm [(1,.ptr 0 0),(2,I64 0),(3,I64 0),(5,I64 (I0 k)),(7,.bool nm),(8,.bool vl)],Sym.nil.upd 0 ⟨0,true,[I64 k,I64 v,.str n,I9 a,I64 p]⟩,1⟩ (rt [.tmp 2,.tmp 3,.tmp 4] fun v H' x => ∃ H2,GL H' [v] H2 [R]):=by
  intro nm vl hnm hvl hkk;by_cases hlen:a.length=I0 k
  ·have d0:((a.length:Int) != (I0 k:Int))=false:=by simp[hlen]
   cases nm with
   |false =>
    repeat' ((with_reducible first|refine wr ?_|refine A1 ?_ ?_|refine wb2 ?_ ?_<;>(intro hb;try simp only[hb])|fail)<;>try simp only[go_sem,seval,d0])
    exact B3 (none0 (.inr (.inr (.inl hnm)))).symm
   |true =>
    cases vl with
    |false =>
     repeat' ((with_reducible first|refine wr ?_|refine A1 ?_ ?_|refine wb2 ?_ ?_<;>(intro hb;try simp only[hb])|fail)<;>try simp only[go_sem,seval,d0])
     exact B3 (none0 (.inr (.inr (.inr hvl)))).symm
    |true =>
     rw[if_neg (by simp[hkk,hnm,hvl,hlen])]at hR;by_cases hc0:I0 k=0
     ·have d1:((I0 k:Int) == 0)=true:=by simp[hc0]
      rw[if_pos hc0]at hR;repeat' ((with_reducible first|refine wr ?_|refine A1 ?_ ?_|refine wb2 ?_ ?_<;>(intro hb;try simp only[hb])|fail)<;>try simp only[go_sem,seval,d0,d1])
      exact B3 hR.symm
     ·have d1:((I0 k:Int) == 0)=false:=by simp[hc0]
      rw[if_neg hc0]at hR;repeat' ((with_reducible first|refine wr ?_|refine A1 ?_ ?_|refine wb2 ?_ ?_<;>(intro hb;try simp only[hb])|fail)<;>try simp only[go_sem,seval,d0,d1])
      have hl2:a.length<=2:=by omega
      refine D4 (fun q:Nat × Nat × Nat=>[(1,.ptr 0 0),(5,I64 (I0 k)),(80,I9 a),(81,I64 a.length),(82,I64 q.1),(2,I64 q.2.1),(3,I64 q.2.2)]) (fun _=>Sym.nil.upd 0 ⟨0,true,[I64 k,I64 v,.str n,I9 a,I64 p]⟩)
       (fun q cc=>1<=cc/\q.1<=a.length/\q.2.1<=q.1 * 1000000000/\q.2.2<=1000000000/\msL k 0 a=(match msL k q.1 (a.drop q.1) with
        |none=>none
        |some (o2,d2)=>some (q.2.1+o2,max q.2.2 d2))) (fun q=>a.length-q.1) (0,0,0) (by simp[C5,tm,Tm.upd]) (Sub.refl _)
       ⟨A0J _,A0Z _,A0Z _,A0Z _,by
        rw[A3T];cases msL k 0 a with
        |none=>rfl
        |some q=>obtain⟨o2,d2⟩:=q;simp⟩ ?_
      rintro⟨i,o,d⟩ cc ⟨h1c,hk,ho,hd3,he⟩;dsimp only at hk ho hd3 he ⊢;by_cases hlt:i<a.length
      ·have hd:=dtz hlt;have hg:=A0B hlt;have hw:=w64 (n:=(i:Int)+1);rw[C1y hg]at he;have hmx:=hx _ (A0V hlt);have hax:=hargs _ (A0V hlt);have hwx:=hwr _ i hg (by omega);have hms:=C7i a[i];generalize a[i]=x at hg he hmx hax hwx hms;rw[Ex.v_w]at hmx;have hwx:PC Tryz.prog 113 [DV.agg [I64 k,I64 v,DV.str n,I9 a,I64 p],I64 i] (.bool (P2 k x.kind i)):=hwx;have ne0:=A4n 0 cc (by omega);cases hq:msM x with
       |none =>
        rw[hq]at he hmx;dsimp only[msV]at he hmx;rw[he]at hR;repeat' ((with_reducible first|refine wr ?_|refine cpc hmx ?_|refine cpc hwx ?_|refine A1 ?_ ?_|refine wb2 ?_ ?_<;>(intro hb;try simp only[hb])|fail)<;>try simp only[go_sem,seval,hd,hg,hw,Ex.v_w,ne0])
        exact B3 hR.symm
       |some qq =>
        obtain⟨o1,d1'⟩:=qq;rw[hq]at he hmx;dsimp only[msV]at he hmx;have:=hms o1 d1' hq;have w1:=w64 (n:=(o:Int)+(o1:Int));have w2:=w64 (n:=(d1':Int)+1);cases hwb:P2 k x.kind i with
        |true =>
         rw[hwb]at he;repeat' ((with_reducible first|refine wr ?_|refine cpc hmx ?_|refine cpc hwx ?_|refine A1 ?_ ?_|refine wb2 ?_ ?_<;>(intro hb;try simp only[hb])|fail)<;>try simp only[go_sem,seval,hd,hg,hw,Ex.v_w,ne0,hwb,w1,w2])
         all_goals (refine⟨(i+1,o+o1,max d (d1'+1)),⟨by simp,by simp,?_⟩,?_,inv ⟨by omega,by simp only;omega,by simp only;omega,by simp only;omega,?_⟩,by simp only;omega⟩)
         all_goals first
          |(refine congrArg I64 ?_;dsimp only;split<;>omega)
          |exact B2a () h1c
          |(rw[he];dsimp only;cases msL k (i+1) (a.drop (i+1)) with
           |none=>rfl
           |some q=>obtain⟨o2,d2⟩:=q;simp[A3C,Nat.max_assoc])
        |false =>
         rw[hwb]at he;repeat' ((with_reducible first|refine wr ?_|refine cpc hmx ?_|refine cpc hwx ?_|refine A1 ?_ ?_|refine wb2 ?_ ?_<;>(intro hb;try simp only[hb])|fail)<;>try simp only[go_sem,seval,hd,hg,hw,Ex.v_w,ne0,hwb,w1,w2])
         all_goals (refine⟨(i+1,o+o1,max d (d1')),⟨by simp,by simp,?_⟩,?_,inv ⟨by omega,by simp only;omega,by simp only;omega,by simp only;omega,?_⟩,by simp only;omega⟩)
         all_goals first
          |(refine congrArg I64 ?_;dsimp only;split<;>omega)
          |exact B2a () h1c
          |(rw[he];dsimp only;cases msL k (i+1) (a.drop (i+1)) with
           |none=>rfl
           |some q=>obtain⟨o2,d2⟩:=q;simp[A3C,Nat.max_assoc])
      ·have hd:=dfz hlt;rw[List.drop_of_length_le (by omega)]at he;have w1:=w64 (n:=(d:Int)+1);by_cases hc1:I0 k=1
       ·have e1:((I0 k:Int) == 1)=true:=by simp[hc1]
        rw[he,hc1]at hR;repeat' ((with_reducible first|refine wr ?_|refine A1 ?_ ?_|refine wb2 ?_ ?_<;>(intro hb;try simp only[hb])|fail)<;>try simp only[go_sem,seval,hd,e1,w1])
        refine B3 ?_;rw[hR];simp[msV,msL]
       ·have e1:((I0 k:Int) == 1)=false:=by simp;omega
        rw[he]at hR;simp only[if_neg hc1]at hR;repeat' ((with_reducible first|refine wr ?_|refine A1 ?_ ?_|refine wb2 ?_ ?_<;>(intro hb;try simp only[hb])|fail)<;>try simp only[go_sem,seval,hd,e1,w1])
        refine B3 ?_;rw[hR];simp[msV,msL]
  ·have d0:((a.length:Int) != (I0 k:Int))=true:=by simp;omega
   repeat' ((with_reducible first|refine wr ?_|refine A1 ?_ ?_|refine wb2 ?_ ?_<;>(intro hb;try simp only[hb])|fail)<;>try simp only[go_sem,seval,d0])
   exact B3 (none0 (.inr (.inl hlen))).symm
 have kB:∀ nm:Bool,A0j k n=nm->kOk k=true->IW Tryz.prog 113 (pz Tryz.prog 111 (.o (.o (.o (.o (.o .h)))))) ⟨tm [(1,.ptr 0 0),(2,I64 0),(3,I64 0),(5,I64 (I0 k)),(7,.bool nm)],Sym.nil.upd 0 ⟨0,true,[I64 k,I64 v,.str n,I9 a,I64 p]⟩,1⟩ (rt [.tmp 2,.tmp 3,.tmp 4] fun v H' x => ∃ H2,GL H' [v] H2 [R]):=by
  intro nm hnm hkk;repeat' ((with_reducible first|refine G0 (p:=IW _ _ (pz Tryz.prog 111 (.o (.i (.o (.o (.o .h)))))) _ _) ?_|refine wr ?_|refine A1 ?_ ?_|refine wb2 ?_ ?_<;>(intro hb;try simp only[hb])|fail)<;>try simp only[go_sem,seval])
  all_goals refine IW.stage (L:=[(1,.ptr 0 0),(2,I64 0),(3,I64 0),(5,I64 (I0 k)),(7,.bool nm),(8,.bool (A1q k v))]) ?_ (kA nm _ hnm rfl hkk)
  all_goals simp_all[C5,tm,Tm.upd,A1q]
  all_goals omega
 have kC:kOk k=true->IW Tryz.prog 113 (pz Tryz.prog 111 (.o (.o (.o (.i .h))))) ⟨tm [(1,.ptr 0 0),(2,I64 0),(3,I64 0),(5,I64 (I0 k))],Sym.nil.upd 0 ⟨0,true,[I64 k,I64 v,.str n,I9 a,I64 p]⟩,1⟩ (rt [.tmp 2,.tmp 3,.tmp 4] fun v H' x => ∃ H2,GL H' [v] H2 [R]):=by
  intro hkk;repeat' ((with_reducible first|refine G0 (p:=IW _ _ (pz Tryz.prog 111 (.o (.o (.o (.o (.o .h)))))) _ _) ?_|refine wr ?_|refine cpc hnk ?_|refine cpc hin ?_|refine A1 ?_ ?_|refine wb2 ?_ ?_<;>(intro hb;try simp only[hb])|fail)<;>try simp only[go_sem,seval])
  all_goals refine IW.stage (L:=[(1,.ptr 0 0),(2,I64 0),(3,I64 0),(5,I64 (I0 k)),(7,.bool (A0j k n))]) ?_ (kB _ rfl hkk)
  all_goals simp_all[C5,tm,Tm.upd,A0j]
 by_cases l6:B5 k=6
 ·have m6:(B5 k == 6)=true:=by simpa using l6
  repeat' ((with_reducible first|refine G0 (p:=IW _ _ (pz Tryz.prog 111 (.o (.o (.o (.i .h))))) _ _) ?_|refine wr ?_|refine cpc hl ?_|refine A1 ?_ ?_|refine wb2 ?_ ?_<;>(intro hb;try simp only[hb])|fail)<;>try simp only[go_sem,seval,m6])
  refine IW.stage ?_ (kC (by simp[kOk];left;omega));simp[C5,tm,Tm.upd,I0,l6]
 have m6:(B5 k == 6)=false:=by simpa using l6
 by_cases l5:B5 k<6
 ·have m5:decide (B5 k<6)=true:=by simpa using l5
  repeat' ((with_reducible first|refine G0 (p:=IW _ _ (pz Tryz.prog 111 (.o (.o (.o (.i .h))))) _ _) ?_|refine wr ?_|refine cpc hl ?_|refine A1 ?_ ?_|refine wb2 ?_ ?_<;>(intro hb;try simp only[hb])|fail)<;>try simp only[go_sem,seval,m6,m5])
  refine IW.stage ?_ (kC (by simp[kOk];left;omega));simp[C5,tm,Tm.upd,I0,l6,l5]
 have m5:decide (B5 k<6)=false:=by simpa using l5
 repeat' ((with_reducible first|refine G0 (p:=IW _ _ (pz Tryz.prog 111 (.o (.o (.o (.i .h))))) _ _) ?_|refine wr ?_|refine cpc hl ?_|refine A1 ?_ ?_|refine wb2 ?_ ?_<;>(intro hb;try simp only[hb])|fail)<;>try simp only[go_sem,seval,m6,m5])
 all_goals first
  |(refine IW.stage ?_ (kC (by simp_all[kOk]<;>omega));simp[C5,tm,Tm.upd,I0,l6,l5];done)
  |(refine B3 (none0 (.inl ?_)).symm;simp_all[kOk]<;>omega)
theorem c_ValidExpr(e:Ex)(hB:e.sz<=100000000):PC Tryz.prog 69 [e.v] (.bool (V5 e)):=by
 refine PC.go B1 ?_;have hm:=c_measure _ e (A2E _) hB;unfold V5;rw[Ex.v_w]at hm ⊢;cases hq:msM e with
 |none =>
  rw[hq]at hm;dsimp only[msV]at hm;repeat' ((with_reducible first|refine wr ?_|refine cpc hm ?_|refine A1 ?_ ?_|refine wb2 ?_ ?_<;>(intro hb;try simp only[hb])|fail)<;>try simp only[go_sem,seval])
  all_goals exact B3 rfl
 |some q =>
  obtain⟨o,d⟩:=q;rw[hq]at hm;dsimp only[msV]at hm;repeat' ((with_reducible first|refine wr ?_|refine cpc hm ?_|refine A1 ?_ ?_|refine wb2 ?_ ?_<;>(intro hb;try simp only[hb])|fail)<;>try simp only[go_sem,seval])
  all_goals (refine B3 (congrArg DV.bool ?_);by_cases h1:o<=32<;>by_cases h2:d<=16<;>simp_all<;>omega)
end Go.Proofs.YtmmjlijdfhkdcaaGreatDoor
set_option maxHeartbeats 4000000
namespace Go.Proofs.YtmmjlijdfhkdcaaGreatDoor
open Go.Eng (IC IOper DReg IFn M8)
open Go.Sym Go.Pb
theorem D2r{ρ ρ':Ren}{id id' o n:Nat}{v:Value}(h1 : ρ.nm id = ρ'.nm id')(h:VRel ρ (.slc id o n) v):VRel ρ' (.slc id' o n) v:=by
 cases h with|slc _ _ _ c t h hc hm hr hp=>exact .slc id' o n c t (h1▸h) hc hm hr hp
def OwL(f:Nat)(args:List DV)(l:List (List UInt8)):Prop:=∀ (H:Hp) (c:Nat),AC Tryz.prog f args H c (fun v H' c'=>v=.slc c 0 l.length/\H'=H.upd c ⟨1,true,l.map DV.str⟩/\c'=c+1)
theorem OwL.of{f:Nat}{args:List DV}{l:List (List UInt8)}(na:DV.nlL args=true)(h:AC Tryz.prog f args nil 0 (fun v H' _ => ∃ id,v=.slc id 0 l.length/\H'=nil.upd id ⟨1,true,l.map DV.str⟩)):OwL f args l:=fun H c =>
 AC.own (V:=fun id=>.slc id 0 l.length) h na (fun d hd=>by obtain⟨x, -,rfl⟩:=A1L.1 hd;rfl) (fun ρ ρ' id id' v h1 _ h3=>D2r h1 h3) H c
theorem T4{H H':Hp}{id n:Nat}{b:Blk}(hb:H id=some b)(h:∀ j,j≠id->H' j=none\/H' j=H j)(hi:H' id=some b):GL H [.slc id 0 n] H' [.slc id 0 n] :=
 GL.less fun j=>by
  by_cases e:j=id
  ·subst e;right;rw[hi,hb]
  ·exact h j e
theorem c_pr1(k v:Int)(n:List UInt8)(a:List Ex)(p:Int)(x:Ex)(i:Nat)(hx:a[i]? = some x)(hi:i<=1)(l:List (List UInt8))(hP:OwL 70 [x.v] l)(hl:l.length<=100000000)(h1:1<=l.length)
  (H:Hp) (c t:Nat) (ht:H t=some ⟨0,true,[I64 k,I64 v,.str n,I9 a,I64 p]⟩) (htc:t<c) :
  AC Tryz.prog 112 [I64 i,.ptr t 0] H c (fun r H' c' => ∃ id,c<=id/\id<c'/\r=.slc id 0 (wrL k x.kind i l).length/\H'=H.upd id ⟨1,true,(wrL k x.kind i l).map DV.str⟩):=by
 have hw:PC Tryz.prog 113 [.agg [I64 k,I64 v,.str n,I9 a,I64 p],I64 i] (.bool (P2 k x.kind i)):=by
  have:=c_wrapped (.mk k v n a p) x i hx hi;rw[Ex.v_w]at this;exact this
 have hxm:(a.map Ex.v)[i]? = some x.v:=by rw[A1A,hx];rfl
 rw[Ex.v_w]at hP hxm;refine AC.bodyT B1 rfl (A0C rfl) fun hfr=>?_;repeat' ((with_reducible first|refine wr ?_|refine A1 ?_ ?_|refine wb2 ?_ ?_<;>(intro hb;try simp only[hb])|fail)<;>try simp only[go_sem,seval,ht,hxm,Ex.v_w])
 refine AC.call (hP H c) ?_;rintro _ _ _ ⟨rfl,rfl,rfl⟩ -;have ht':(H.upd c ⟨1,true,l.map DV.str⟩) t=some ⟨0,true,[I64 k,I64 v,.str n,I9 a,I64 p]⟩:=by rw[hnO];exact ht
 have ne0:=T1 c (c+1) (c+2) (c+3) (c+4) (by omega);obtain⟨R,hR⟩:∃ R,R=wrL k x.kind i l:=⟨_,rfl⟩;rw[<- hR];unfold wrL at hR;cases hb:P2 k x.kind i with
 |false =>
  rw[hb]at hw hR;rw[if_neg A1P]at hR;simp only[go_sem,seval,ht',ne0];repeat' ((with_reducible first|refine wr ?_|refine cpc hw ?_|refine A1 ?_ ?_|refine wb2 ?_ ?_<;>(intro hb;try simp only[hb])|fail)<;>try simp only[go_sem,seval,ht',ne0])
  subst hR;exact⟨_,_,GL.refl _ _,c,A0J _,A2E _,rfl,rfl⟩
 |true =>
  rw[hb]at hw hR;rw[if_pos rfl]at hR;simp only[go_sem,seval,ht',ne0];have tk:List.take l.length (l.map DV.str)=l.map DV.str:=A0L (by simp);repeat' ((with_reducible first|refine wr ?_|refine cpc hw ?_|refine A1 ?_ ?_|refine wb2 ?_ ?_<;>(intro hb;try simp only[hb])|fail)<;>try simp only[go_sem,seval,ht',ne0,tk])
  refine C6 (E5 (by simp) (by omega) (by omega)) ?_;simp only[go_sem,seval,ne0,A0];repeat' ((with_reducible first|refine wr ?_|refine A1 ?_ ?_|refine wb2 ?_ ?_<;>(intro hb;try simp only[hb])|fail)<;>try simp only[go_sem,seval,ne0,tk,A0])
  refine C6 (E5 (by simp;omega) (by omega) (by omega)) ?_;simp only[go_sem,seval,ne0,A0];repeat' ((with_reducible first|refine wr ?_|refine A1 ?_ ?_|refine wb2 ?_ ?_<;>(intro hb;try simp only[hb])|fail)<;>try simp only[go_sem,seval,ne0,tk,A0])
  have hlen:R.length=1+l.length+1:=by rw[hR];simp;omega
  rw[<- hlen];refine⟨_,H.upd (c+1+1+1+1) ⟨1,true,R.map DV.str⟩,T4 (A0) (fun j hj=>?_) (by rw[A0,hR];simp),c+1+1+1+1,by omega,by omega,rfl,rfl⟩;rw[A6 hj];by_cases hjc:c<=j
  ·exact .inl (hfr j hjc)
  ·right;simp only[Hp.upd,Hp.del];rw[if_neg hj,if_neg (by omega),if_neg (by omega),if_neg (by omega),if_neg (by omega),if_neg (by omega),if_neg (by omega)]
theorem B9s(e:Ex):1<=(txT (exT e)).length/\(txT (exT e)).length<=5 * e.sz:=by
 have:=A1d e;unfold txT;rw[A0E];omega
theorem B3u(k q:Int)(i:Nat){l:List (List UInt8)}(h:l.length<=100000000):(wrL k q i l).length<=100000002:=by
 unfold wrL;split
 ·simp;omega
 ·omega
theorem c_printed:∀ (m:Nat) (e:Ex),e.sz<m->e.sz<=10000000->(∃ o d,msM e=some (o,d))->OwL 70 [e.v] (txT (exT e)):=by
 intro m
 induction m with
 |zero=>intro e h;omega
 |succ m ih =>
 rintro⟨k,v,n,a,p⟩ hm hB ⟨o,d,hms⟩;obtain⟨i1,i2,i3,i4, -,i6⟩:=B5d hms;have hargs:∀ (i:Nat) (x:Ex),a[i]? = some x->OwL 70 [x.v] (txT (exT x)):=fun i x hx=>by
  have hmem:=A0M hx;have hsz:=Ex.sz_arg (e:=.mk k v n a p) hmem;refine ih x (by omega) (by omega) ?_;have hlt:=(A0P.1 hx).1;obtain⟨d',h1, -⟩:=i6 (by omega);exact B2x h1 x hmem
 have hlv:=c_levS k;have hsg:=c_signOf k;have hlen:∀ (i:Nat) (x:Ex),a[i]? = some x->1<=(txT (exT x)).length/\(txT (exT x)).length<=100000000:=fun i x hx=>by
  have h1:=B9s x;have h2:=Ex.sz_arg (e:=.mk k v n a p) (A0M hx);omega
 refine OwL.of (by simp[DV.nlL,DV.nl,Ex.nl]) ?_;refine AC.bodyT B1 rfl (A0C rfl) fun hfr=>?_;rw[Ex.v_w];dsimp only[Ex.w,Ex.kind,Ex.value,Ex.name,Ex.args,Ex.pos];obtain⟨R,hR⟩:∃ R,R=txT (exT (.mk k v n a p)):=⟨_,rfl⟩;rw[<- hR];by_cases l6:B5 k=6
 ·have hk:k=10\/k=11:=by
   unfold B5 at l6;repeat' split at l6
   all_goals omega
  have hc:I0 k=1:=by unfold I0;rw[if_pos l6]
  have m6:(B5 k == 6)=true:=by simpa using l6
  obtain⟨x,rfl⟩:∃ x,a=[x]:=A2C.1 (i2.trans hc);rw[D2q hk]at hR;repeat' ((with_reducible first|refine wr ?_|refine cpc hlv ?_|refine cpc hsg ?_|refine A1 ?_ ?_|refine wb2 ?_ ?_<;>(intro hb;try simp only[hb])|fail)<;>try simp only[go_sem,seval,m6])
  refine AC.call (c_pr1 k v n [x] p x 0 rfl (by decide) _ (hargs 0 x rfl) (hlen 0 x rfl).2 (hlen 0 x rfl).1 _ _ 0 (by simp only[go_sem,seval]) (by decide)) ?_;rintro _ _ c2 ⟨id,hid,hid2,rfl,rfl⟩ -;have hW:=B3u k x.kind 0 (hlen 0 x rfl).2;generalize wrL k x.kind 0 (txT (exT x))=W at hR hW ⊢;have tk:List.take W.length (W.map DV.str)=W.map DV.str:=A0L (by simp);have ne0:=V7 0 1 id c2 (by omega);simp only[go_sem,seval,ne0,A0,tk];repeat' ((with_reducible first|refine wr ?_|refine A1 ?_ ?_|refine wb2 ?_ ?_<;>(intro hb;try simp only[hb])|fail)<;>try simp only[go_sem,seval,ne0,A0,tk])
  refine C6 (E5 (by simp) (by omega) (by omega)) ?_;simp only[go_sem,seval,ne0,A0];repeat' ((with_reducible first|refine wr ?_|refine A1 ?_ ?_|refine wb2 ?_ ?_<;>(intro hb;try simp only[hb])|fail)<;>try simp only[go_sem,seval,ne0,A0])
  have hl:R.length=1+W.length:=by rw[hR];simp;omega
  rw[<- hl];exact⟨_,nil.upd c2 ⟨1,true,R.map DV.str⟩,T4 A0 (fun j hj=>.inl (by rw[A6 hj];rfl)) (by rw[A0,hR];simp),c2,rfl,rfl⟩
 have m6:(B5 k == 6)=false:=by simpa using l6
 by_cases l5:B5 k<6
 ·have m5:decide (B5 k<6)=true:=by simpa using l5
  have hc:I0 k=2:=by unfold I0;rw[if_neg l6,if_pos l5]
  obtain⟨x,y,rfl⟩:∃ x y,a=[x,y]:=by
   have:=i2.trans hc
   match a with
   |[x,y]=>exact⟨x,y,rfl⟩
  rw[C8j l5]at hR;repeat' ((with_reducible first|refine wr ?_|refine cpc hlv ?_|refine cpc hsg ?_|refine A1 ?_ ?_|refine wb2 ?_ ?_<;>(intro hb;try simp only[hb])|fail)<;>try simp only[go_sem,seval,m6,m5])
  refine AC.call (c_pr1 k v n [x,y] p x 0 rfl (by decide) _ (hargs 0 x rfl) (hlen 0 x rfl).2 (hlen 0 x rfl).1 _ _ 0 (by simp only[go_sem,seval]) (by decide)) ?_;rintro _ _ c2 ⟨id,hid,hid2,rfl,rfl⟩ -;have hW:=B3u k x.kind 0 (hlen 0 x rfl).2;generalize wrL k x.kind 0 (txT (exT x))=W at hR hW ⊢;have hW2:=B3u k y.kind 1 (hlen 1 y rfl).2;have tk:List.take W.length (W.map DV.str)=W.map DV.str:=A0L (by simp);have ne0:=L8 0 id c2 (by omega);simp only[go_sem,seval,ne0,A0,tk];refine⟨by and_intros<;>(repeat rw[hnO])<;>rfl,?_⟩;refine cpc hsg ?_;simp only[go_sem,seval,ne0,A0,tk,m6,m5];refine⟨by rw[hnO];rfl,?_⟩;rw[A6 (show ¬ id=6 by omega),A0];refine V4 (E5 (by simp) (by omega) (by omega)) ?_;simp only[go_sem,seval,ne0,A0,tk,m6,m5];obtain⟨M,hM⟩:∃ M,M=((((nil.upd 0 ⟨0,true,[I64 k,I64 v,.str n,I9 [x,y],I64 p]⟩).upd id ⟨1,true,W.map DV.str⟩).upd 6 ⟨1,true,[DV.str (A7u k)]⟩).del id).upd c2 ⟨1,true,W.map DV.str++[DV.str (A7u k)]⟩:=⟨_,rfl⟩;rw[<- hM];have hM8:M 8=none:=by rw[hM];simp only[Hp.upd,Hp.del];(repeat rw[if_neg (by omega)]);rfl
  have hM0:M 0=some ⟨0,true,[I64 k,I64 v,.str n,I9 [x,y],I64 p]⟩:=by rw[hM];simp only[Hp.upd,Hp.del];(repeat rw[if_neg (by omega)]);rfl
  have hMc:M c2=some ⟨1,true,W.map DV.str++[DV.str (A7u k)]⟩:=by rw[hM];exact A0
  clear hM;refine⟨hM8,?_⟩;refine AC.call (c_pr1 k v n [x,y] p y 1 rfl (by decide) _ (hargs 1 y rfl) (hlen 1 y rfl).2 (hlen 1 y rfl).1 _ _ 0 hM0 (by omega)) ?_;rintro _ _ c3 ⟨id2,hid3,hid4,rfl,rfl⟩ -;generalize wrL k y.kind 1 (txT (exT y))=W2 at hR hW2 ⊢;have tk2:List.take W2.length (W2.map DV.str)=W2.map DV.str:=A0L (by simp);have hMc2:(M.upd id2 ⟨1,true,W2.map DV.str⟩) c2=some ⟨1,true,W.map DV.str++[DV.str (A7u k)]⟩:=by rw[hnO];exact hMc
  have ne0:=L8 0 id2 c3 (by omega);simp only[go_sem,seval,ne0,A0,tk2,hMc2];refine V4 (E5 (by simp) (by omega) (by omega)) ?_;simp only[go_sem,seval,ne0,A0];repeat' ((with_reducible first|refine wr ?_|refine A1 ?_ ?_|refine wb2 ?_ ?_<;>(intro hb;try simp only[hb])|fail)<;>try simp only[go_sem,seval,ne0,A0])
  have hl:R.length=W.length+1+W2.length:=by rw[hR];simp;omega
  rw[<- hl];exact⟨_,nil.upd c3 ⟨1,true,R.map DV.str⟩,T4 A0 (fun j hj=>.inl (by rw[A6 hj];rfl)) (by rw[A0,hR];simp),c3,rfl,rfl⟩
 have m5:decide (B5 k<6)=false:=by simpa using l5
 have l7:B5 k=7:=by have:=T3 k;omega
 have hc:I0 k=0:=by unfold I0;rw[if_neg l6,if_neg l5]
 obtain rfl:a=[]:=A1K (i2.trans hc);rw[C3v l7 i1 i3 i4]at hR;by_cases h1:k=1
 ·subst h1;rw[if_pos rfl]at hR;repeat' ((with_reducible first|refine wr ?_|refine cpc hlv ?_|refine cpc hsg ?_|refine A1 ?_ ?_|refine wb2 ?_ ?_<;>(intro hb;try simp only[hb])|fail)<;>try simp only[go_sem,seval,m6,m5])
  refine AC.call (X5 (xs:=[Tok.v ⟨3,[],v,0⟩]) (u:=4) (id:=1) (c_Text [⟨3,[],v,0⟩] (by simp) ?_) A0 rfl rfl (E4 [⟨3,[],v,0⟩])) ?_
  ·intro t ht;obtain rfl:=A0O.1 ht;have hv:0<=v/\v<=2147483647:=by
    unfold A1q at i4;simp at i4;omega
   exact⟨by simp,by dsimp only;omega,by dsimp only;omega⟩
  rintro _ _ _ ⟨rfl,rfl,rfl⟩ -;rw[show A5z [⟨3,[],v,0⟩]=J6 v by rw[<- A2i];simp[Lib.join,H7]];simp only[go_sem,seval];repeat' ((with_reducible first|refine wr ?_|refine A1 ?_ ?_|refine wb2 ?_ ?_<;>(intro hb;try simp only[hb])|fail)<;>try simp only[go_sem,seval])
  exact⟨_,nil.upd 2 ⟨1,true,R.map DV.str⟩,by rw[hR];exact T4 A0 (fun j hj=>.inl (by rw[A6 hj];rfl)) A0,2,by rw[hR];rfl,rfl⟩
 by_cases h2:k=2
 ·subst h2;rw[if_neg h1,if_pos rfl]at hR;repeat' ((with_reducible first|refine wr ?_|refine cpc hlv ?_|refine cpc hsg ?_|refine A1 ?_ ?_|refine wb2 ?_ ?_<;>(intro hb;try simp only[hb])|fail)<;>try simp only[go_sem,seval,m6,m5])
  exact⟨_,nil.upd 1 ⟨1,true,R.map DV.str⟩,by rw[hR];exact T4 A0 (fun j hj=>.inl (by rw[A6 hj];rfl)) A0,1,by rw[hR];rfl,rfl⟩
 rw[if_neg h1,if_neg h2]at hR;have d1:(k == 1)=false:=by simpa using h1
 have d2:(k == 2)=false:=by simpa using h2
 repeat' ((with_reducible first|refine G0 (p:=IW _ _ (pz Tryz.prog 70 (.i (.o (.i (.o (.o .h)))))) _ _) ?_|refine wr ?_|refine cpc hlv ?_|refine cpc hsg ?_|refine A1 ?_ ?_|refine wb2 ?_ ?_<;>(intro hb;try simp only[hb])|fail)<;>try simp only[go_sem,seval,m6,m5,d1,d2])
 unfold V8;have hr:3<=k/\k<=9:=by
  unfold kOk at i1;simp only[l7,Int.lt_irrefl,decide_false,Bool.false_or,A0D,A0F]at i1;have hk9:k<=9:=Classical.byContradiction fun hc=>by
   have:B5 k<7:=by unfold B5;repeat' split;all_goals omega
   omega
  omega
 obtain⟨j0,hj0,hj7⟩:∃ j0:Nat,J9[j0]? = some k/\j0<7:=by
  have hk9:k=3\/k=4\/k=5\/k=6\/k=7\/k=8\/k=9:=by omega
  rcases hk9 with rfl|rfl|rfl|rfl|rfl|rfl|rfl
  ·exact⟨0,rfl,by decide⟩
  ·exact⟨1,rfl,by decide⟩
  ·exact⟨4,rfl,by decide⟩
  ·exact⟨5,rfl,by decide⟩
  ·exact⟨6,rfl,by decide⟩
  ·exact⟨2,rfl,by decide⟩
  ·exact⟨3,rfl,by decide⟩
 obtain⟨w,hw⟩:∃ w,w=P5 I3 J9 k:=⟨_,rfl⟩;refine B1i c_lvs (σ := Option Nat) (fun o=>[(1,.ptr 0 0),(5,A8 o 1)]) (fun o=>B9 (nil.upd 0 ⟨0,true,[I64 k,I64 v,.str n,I9 [],I64 p]⟩) o ⟨1,true,[.str w]⟩)
  (fun D o c=>1<=c/\(∀ i,o=some i->0<i/\i<c/\∃ j∈D,J9[j]? = some k)/\(o=none->∀ j∈D,J9[j]? ≠ some k)) none (by decide) (fun _=>rfl) ⟨rfl,rfl,trivial⟩ (Sub.refl _) ⟨by decide,(by intro i h;cases h),fun _ j hj=>by cases hj⟩ ?_ ?_
 ·rintro D o c ⟨hc1,ho,hno⟩ hall;rcases o with _|id
  ·exact absurd hj0 (hno rfl j0 (hall j0 hj7))
  obtain⟨g1,g2, -⟩:=ho id rfl;have hnm:=c_namedS k;rw[<- hw]at hR;have ne0:=V7 0 id c (c+1) (by omega);cases hb:A0k k with
  |true =>
   rw[hb]at hnm hR;rw[if_pos rfl]at hR;repeat' ((with_reducible first|refine wr ?_|refine cpc hnm ?_|refine A1 ?_ ?_|refine wb2 ?_ ?_<;>(intro hb;try simp only[hb])|fail)<;>try simp only[go_sem,seval,ne0,A0])
   refine C6 (E5 rfl (by decide) (by decide)) ?_;simp only[go_sem,seval,ne0,A0];repeat' ((with_reducible first|refine wr ?_|refine A1 ?_ ?_|refine wb2 ?_ ?_<;>(intro hb;try simp only[hb])|fail)<;>try simp only[go_sem,seval,ne0,A0])
   exact⟨_,nil.upd (c+1) ⟨1,true,R.map DV.str⟩,by rw[hR];exact T4 A0 (fun j hj=>.inl (by rw[A6 hj];rfl)) A0,c+1,by rw[hR];rfl,rfl⟩
  |false =>
   rw[hb]at hnm hR;rw[if_neg A1P]at hR;repeat' ((with_reducible first|refine wr ?_|refine cpc hnm ?_|refine A1 ?_ ?_|refine wb2 ?_ ?_<;>(intro hb;try simp only[hb])|fail)<;>try simp only[go_sem,seval,ne0,A0])
   exact⟨_,nil.upd id ⟨1,true,R.map DV.str⟩,by rw[hR];exact T4 A0 (fun j hj=>.inl (by rw[A6 hj];rfl)) A0,id,by rw[hR];rfl,rfl⟩
 ·rintro it D o c i kk vv ⟨hc1,ho,hno⟩ hDn hDb hiD hk hv;rw[A1A,A0R]at hk hv;obtain⟨w',hw',rfl⟩:=hk;obtain⟨u,hu,rfl⟩:=hv;by_cases hx:u=k
  ·subst hx;obtain rfl:w'=w:=by rw[hw];exact (A7g (by decide) hw' hu).symm
   obtain rfl:o=none:=by
    cases o with
    |none=>rfl
    |some id =>
     obtain⟨-, -,j,hj,hj2⟩:=ho id rfl;have:i=j:=(List.getElem?_inj (A0P.1 hu).1 (by decide:J9.Nodup)).1 (hu.trans hj2.symm);exact absurd (this▸hj) hiD
   have ne0:=L8 0 c (c+1) (by omega);repeat' ((with_reducible first|refine wr ?_|refine A1 ?_ ?_|refine wb2 ?_ ?_<;>(intro hb;try simp only[hb])|fail)<;>try simp only[go_sem,seval,ne0,A0])
   refine C6 (A0y (by decide) (by decide) (by decide)) ?_;simp only[go_sem,seval,ne0,A0];repeat' ((with_reducible first|refine wr ?_|refine A1 ?_ ?_|refine wb2 ?_ ?_<;>(intro hb;try simp only[hb])|fail)<;>try simp only[go_sem,seval,ne0,A0])
   refine⟨some (c+1),rfl,fun j b hj=>?_,?_⟩
   ·rw[Y8]at hj;by_cases e:j=c+1
    ·subst e;rw[A0]at hj ⊢;exact hj
    ·rw[A6 e]at hj ⊢;by_cases e2:j=0
     ·subst e2;rw[A0]at hj;rw[hnO,A0];exact hj
     ·rw[A6 e2]at hj;cases hj
   ·unfold A8u;exact⟨by omega,fun i' hi'=>by cases hi';exact⟨by omega,by omega,i,A0K,hu⟩,fun h=>by cases h⟩
  ·have hx':(u == k)=false:=by simpa using hx
   have h0b:B9 (nil.upd 0 ⟨0,true,[I64 k,I64 v,.str n,I9 [],I64 p]⟩) o ⟨1,true,[.str w]⟩ 0=some ⟨0,true,[I64 k,I64 v,.str n,I9 [],I64 p]⟩:=by
    cases o with
    |none=>exact A0
    |some id=>rw[Y8,A6 (by have:=ho id rfl;omega)];exact A0
   repeat' ((with_reducible first|refine wr ?_|refine A1 ?_ ?_|refine wb2 ?_ ?_<;>(intro hb;try simp only[hb])|fail)<;>try simp only[go_sem,seval,hx',h0b])
   refine⟨o,rfl,Sub.refl _,?_⟩;unfold A8u;refine⟨hc1,fun i' hi'=>?_,fun h j hj=>?_⟩
   ·obtain⟨g1,g2,j,g3,g4⟩:=ho i' hi';exact⟨g1,g2,j,A0H _ g3,g4⟩
   ·rcases A1E.1 hj with rfl|hj
    ·rw[hu];intro e;cases e;exact hx rfl
    ·exact hno h j hj
theorem A2a(l:List (List UInt8)):A3 (l.map DV.str)=l.map DV.str:=by
 induction l with
 |nil=>rfl
 |cons a l ih=>rw[A0U,A3,A1B];exact congrArg (DV.str a :: ·) ih
theorem C2g{l:List (List UInt8)}{sp:List UInt8}{id cc:Nat}{H:Hp}(hb:H id=some ⟨1,true,l.map DV.str⟩)(h1:l.length<=140737488355328)(h2:(Lib.join l sp).length<=140737488355328):
  AC Tryz.prog 62 [.slc id 0 l.length,.str sp] H cc (fun v H' c'=>v=.str (Lib.join l sp)/\H'=I5 H (some id)/\c'=cc) :=
 AC.ghost (GL.frzS (id:=id) hb rfl (fun j=>by
  by_cases e:j=id
  ·subst e;exact .inl (by rw[M7,if_pos rfl])
  ·exact .inr ⟨e,by rw[M7,if_neg e]⟩) (.cons _ _ _ _ (M6 (xs:=l.map DV.str) (u:=1) (by simp) (G9 l) ⟨[],by rw[A2a];simp⟩) (.cons _ _ _ _ (.same _) .nil))) ((c_Join l sp h1 h2).at _ cc)
def D5j(e:Ex):List UInt8:=if V5 e=true then A5z (exT e) else []
theorem C7a{e:Ex}(h:V5 e=true):∃ o d,msM e=some (o,d):=by
 unfold V5 at h;split at h
 ·rename_i o d hm;exact⟨o,d,hm⟩
 ·cases h
theorem c_PFormatE(e:Ex)(hB:e.sz<=100000):PC Tryz.prog 35 [e.v] (.str (D5j e)):=by
 have hx:=C6h e;have hv:=c_ValidExpr e (by omega);refine PC.go B1 ?_;unfold D5j;cases hb:V5 e with
 |false =>
  rw[hb]at hv;rw[if_neg A1P];rw[Ex.v_w]at hv ⊢;repeat' ((with_reducible first|refine wr ?_|refine cpc hv ?_|refine A1 ?_ ?_|refine wb2 ?_ ?_<;>(intro hb;try simp only[hb])|fail)<;>try simp only[go_sem,seval])
  exact B3 rfl
 |true =>
  have hP:=c_printed _ e (A2E _) (by omega) (C7a hb);rw[hb]at hv;rw[if_pos rfl];rw[Ex.v_w]at hv hP ⊢;repeat' ((with_reducible first|refine wr ?_|refine cpc hv ?_|refine A1 ?_ ?_|refine wb2 ?_ ?_<;>(intro hb;try simp only[hb])|fail)<;>try simp only[go_sem,seval])
  refine AC.call (hP _ _) ?_;rintro _ _ _ ⟨rfl,rfl,rfl⟩ -;simp only[go_sem,seval];have htl:=A9h hx;have hl:=(B9s e).2;have hle:(exT e).length=(txT (exT e)).length:=by simp[txT]
  have htj:Lib.join (txT (exT e)) [32]=A5z (exT e):=A2i (exT e);refine AC.call (C2g A0 (by omega) (by rw[htj];omega)) ?_;rintro _ _ _ ⟨rfl,rfl,rfl⟩ -;rw[htj];simp only[go_sem,seval];repeat' ((with_reducible first|refine wr ?_|refine A1 ?_ ?_|refine wb2 ?_ ?_<;>(intro hb;try simp only[hb])|fail)<;>try simp only[go_sem,seval])
  exact⟨_,GL.refl _ _⟩
theorem A8b:∀ l:List (List UInt8),Lib.join l []=l.flatten
 |[]=>rfl
 |[a]=>by simp[Lib.join]
 |a :: b :: l=>by
  have:=A8b (b :: l);simp only[Lib.join]at this ⊢;rw[A1J, <- this];simp
theorem c_lines(l:List (List UInt8))(hl:l.length<=1000000000)(hb:∀ t∈l,t.length<=100000):PC Tryz.prog 31 [Y6 l] (.str (T2 l)):=by
 refine PC.ofT B1 rfl (A0C rfl) (by simp only[DV.nlL,DV.nl,J5,A1X]) rfl ?_;repeat' ((with_reducible first|refine wr ?_|refine A1 ?_ ?_|refine wb2 ?_ ?_<;>(intro hb;try simp only[hb])|fail)<;>try simp only[go_sem,seval])
 refine D4 (fun q:Nat × Option Nat=>[(3,A8 q.2 q.1),(6,Y6 l),(7,I64 l.length),(8,I64 q.1)]) (fun q=>B9 Sym.nil q.2 ⟨1,true,((l.take q.1).map lnT).map DV.str⟩)
  (fun q cc=>q.1<=l.length/\(q.2=none->q.1=0)/\∀ i,q.2=some i->i<cc) (fun q=>l.length-q.1) (0,none)
  (by simp[C5,tm,Tm.upd,A8]) (Sub.nil _) ⟨by simp,by simp,by simp⟩ ?_
 rintro⟨k,o⟩ c ⟨hk,hno,ho⟩;simp only at hk hno ho;simp only;have hkl:((l.take k).map lnT).length=k:=by rw[A0E,A1F];omega
 by_cases hlt:k<l.length
 ·have hd:=dtz hlt;have hg:=A0B hlt;have hw:IntKind.i64.wrap ((k:Int)+1)=((k+1:Nat):Int):=by rw[w6z (by omega)];omega
  have est:((l.take (k+1)).map lnT).map DV.str=((l.take k).map lnT).map DV.str++[DV.str (lnT l[k])]:=by
   rw[A1D,hg,Option.toList_some,A0S,A0S];rfl
  have htl:=hb _ (A0V hlt);obtain⟨t,ht⟩:∃ t,t=l[k]:=⟨_,rfl⟩;rw[<- ht]at hg est htl;have hgm:(l.map DV.str)[k]? = some (.str t):=by rw[A1A,hg];rfl
  obtain⟨cs,hcs⟩:∃ cs,cs=((l.take k).map lnT).map DV.str:=⟨_,rfl⟩;have hcl:cs.length=k * 1:=by rw[hcs,A0E,hkl,Nat.mul_one]
  rw[<- hcs]at est ⊢;have hno2:o=none->k=0/\cs=[]:=fun e=>⟨hno e,by rw[hcs,hno e];rfl⟩;have ne0:=L8 c (c+1) (c+2) (by omega);have a1:binR .add (.str t) (.str [10])=some (.str (t++[10])):=A3q (by simp[maxLen];omega);have a2:binR .add (.str t) (.str [32])=some (.str (t++[32])):=A3q (by simp[maxLen];omega);repeat' ((with_reducible first|refine wr ?_|refine A1 ?_ ?_|refine wb2 ?_ ?_<;>(intro hb;try simp only[hb])|fail)<;>try simp only[go_sem,seval,hd,hgm,hw,ne0,a1,a2])
  all_goals
   refine C6 (E0 (cs:=cs) hno2 (fun i hi=>?_) hcl (by omega) (by omega) (by omega)) ?_
   ·have:=ho i hi;rw[hnO];exact A0c hi
   simp only[go_sem,seval,ne0,hw];repeat' ((with_reducible first|refine wr ?_|refine A1 ?_ ?_|refine wb2 ?_ ?_<;>(intro hb;try simp only[hb])|fail)<;>try simp only[go_sem,seval,hd,hw,ne0])
  all_goals exact⟨(k+1,some (c+1)),⟨rfl,rfl⟩,K6 (by simp only[est];exact congrArg (fun z=>(⟨1,true,cs++[DV.str z]⟩:Blk)) (by unfold lnT;simp_all)),inv ⟨hlt,by simp,fun i hi=>by cases hi;omega⟩,by simp only;omega⟩
 ·have hd:=dfz hlt;have hfl:(T2 l).length<=140737488355328:=by
   have:∀ q:List (List UInt8),(∀ t∈q,t.length<=100000)->(T2 q).length<=100001 * q.length:=by
    intro q
    induction q with
    |nil=>intro _;simp[T2]
    |cons a q ih =>
     intro h;have h1:=ih fun t ht=>h t (A0H _ ht);have h2:=h a A0K;have h3:(lnT a).length=a.length+1:=by unfold lnT;split<;>simp
     unfold T2 at h1 ⊢;rw[A0U,A1J,A0A,A0I,h3];omega
   have:=this l hb;omega
  have hj:=c_Join (l.map lnT) [] (by rw[A0E];omega) (by rw[A8b];exact hfl);rw[A8b]at hj;obtain rfl:k=l.length:=by omega
  rw[A2W]at hkl ⊢;rcases o with _|id
  ·have hk0:=hno rfl;have h00:l=[]:=A1K (by omega);repeat' ((with_reducible first|refine wr ?_|refine A1 ?_ ?_|refine wb2 ?_ ?_<;>(intro hb;try simp only[hb])|fail)<;>try simp only[go_sem,seval,hd])
   refine AC.call (hj.give (H0:=Sym.nil) ⟨fun _ h=>h,fun ρ w vs h1 h2=>⟨ρ,rfl,h1,?_,Ext.refl _ _ _⟩⟩) ?_
   ·rw[h00];exact⟨h2.1,fun i x y hx hy=>by
     match i with
     |0=>cases hx;exact (h2.2 0 _ y rfl hy).snil_lst
     |1=>cases hx;exact h2.2 1 _ y rfl hy
     |_+2=>cases hx⟩
   ·rintro v H' c' ⟨rfl,rfl,rfl⟩ -;simp only[go_sem,seval];repeat' ((with_reducible first|refine wr ?_|refine A1 ?_ ?_|refine wb2 ?_ ?_<;>(intro hb;try simp only[hb])|fail)<;>try simp only[go_sem,seval])
    exact B3 rfl
  ·repeat' ((with_reducible first|refine wr ?_|refine A1 ?_ ?_|refine wb2 ?_ ?_<;>(intro hb;try simp only[hb])|fail)<;>try simp only[go_sem,seval,hd])
   refine AC.call (hj.give (H0:=Sym.nil) (GL.one (id:=id) A0 rfl (.cons _ _ _ _ (M6 (u:=1) (by rw[A0E,hkl]) (G9 _) ⟨[],by rw[A2a];simp⟩) (.cons _ _ _ _ (.same _) .nil)))) ?_;rintro v H' c' ⟨rfl,rfl,rfl⟩ -;simp only[go_sem,seval];repeat' ((with_reducible first|refine wr ?_|refine A1 ?_ ?_|refine wb2 ?_ ?_<;>(intro hb;try simp only[hb])|fail)<;>try simp only[go_sem,seval])
   exact B3 rfl
end Go.Proofs.YtmmjlijdfhkdcaaGreatDoor
set_option maxHeartbeats 8000000
namespace Go.Proofs.YtmmjlijdfhkdcaaGreatDoor
open Go.Eng (IC IOper DReg IFn M8)
open Go.Sym Go.Pb
end Go.Proofs.YtmmjlijdfhkdcaaGreatDoor
namespace Go.Pb
open Go.Sym
def Shp.v(s:Shp):DV:=.agg [.bool s.name,.bool s.text,I64 s.args,.bool s.thn,.bool s.els]
end Go.Pb
namespace Go.Proofs.YtmmjlijdfhkdcaaGreatDoor
open Go.Eng (IC IOper DReg IFn M8)
open Go.Sym Go.Pb
def C2e(k:Int):Bool:=decide (1<=k) && decide (k<=19)
theorem c_shapeOf(k:Int):PC Tryz.prog 97 [I64 k] (.tup [(G4 k).v,.bool (C2e k)]):=by
 refine PC.go B1 ?_;repeat' ((with_reducible first|refine wr ?_|refine A1 ?_ ?_|refine wb2 ?_ ?_<;>(intro hb;try simp only[hb])|fail)<;>try simp only[go_sem,seval])
 all_goals refine B3 ?_
 all_goals simp_all[G4,C2e,Shp.v,tm,Tm.upd]
 all_goals omega
theorem c_isText(s:List UInt8)(hs:s.length<=1000000000):PC Tryz.prog 128 [.str s] (.bool (P1 s)):=by
 refine PC.go B1 ?_;repeat' ((with_reducible first|refine wr ?_|refine A1 ?_ ?_|refine wb2 ?_ ?_<;>(intro hb;try simp only[hb])|fail)<;>try simp only[go_sem,seval])
 refine D4 (fun k:Nat=>[(0,.str s),(3,I64 k)]) (fun _=>Sym.nil) (fun k _=>k<=s.length/\(s.take k).all txB=true) (fun k=>s.length-k) 0 (by simp[C5,tm,Tm.upd]) (Sub.refl _) ⟨A0Z _,rfl⟩ ?_;rintro k cc ⟨hk,he⟩;by_cases hlt:k<s.length
 ·have hd:=dtz hlt;have hg:=A0B hlt;have hw:=w64 (n:=(k:Int)+1);generalize s[k]=x at hg;have hx:txB x=(decide (32<=x.toNat) && decide (x.toNat<=126)):=rfl;repeat' ((with_reducible first|refine wr ?_|refine A1 ?_ ?_|refine wb2 ?_ ?_<;>(intro hb;try simp only[hb])|fail)<;>try simp only[go_sem,seval,hd,hg,hw])
  ·refine B3 (congrArg DV.bool ?_);have:=A8s txB s k _ hg (by simp_all<;>omega);simp[P1,this]
  ·refine B3 (congrArg DV.bool ?_);have:=A8s txB s k _ hg (by simp_all<;>omega);simp[P1,this]
  ·exact⟨k+1,rfl,Sub.refl _,inv ⟨by omega,by rw[B0f txB s k _ hg,he];simp_all<;>omega⟩,by omega⟩
 have hd:=dfz hlt;have hall:=B3t txB s k (by omega) he;repeat' ((with_reducible first|refine wr ?_|refine A1 ?_ ?_|refine wb2 ?_ ?_<;>(intro hb;try simp only[hb])|fail)<;>try simp only[go_sem,seval,hd])
 refine B3 (congrArg DV.bool ?_);simp[P1,hall];omega
theorem c_validDecl(d:Dc)(hB:d.name.length<=1000000000):PC Tryz.prog 20 [d.v] (.bool (A0a d)):=by
 refine PC.go B1 ?_;have hn:=c_IsName d.name hB;repeat' ((with_reducible first|refine wr ?_|refine cpc hn ?_|refine A1 ?_ ?_|refine wb2 ?_ ?_<;>(intro hb;try simp only[hb])|fail)<;>try simp only[go_sem,seval])
 all_goals (refine B3 (congrArg DV.bool ?_);simp_all[A0a]<;>omega)
theorem c_vS1(e:Ex)(hB:e.sz<=100000000):PC Tryz.prog 127 [e.v] (.bool (!V5 e)):=by
 refine PC.go B1 ?_;have h:=c_ValidExpr e hB;rw[Ex.v_w]at h ⊢;repeat' ((with_reducible first|refine wr ?_|refine cpc h ?_|refine A1 ?_ ?_|refine wb2 ?_ ?_<;>(intro hb;try simp only[hb])|fail)<;>try simp only[go_sem,seval])
 exact B3 rfl
theorem C8e(d:Nat)(s:Pb.St):Q3 d s=(C2e s.kind && (s.args.length == (G4 s.kind).args && s.args.all V5) &&
   ((if (G4 s.kind).name=true then C4 s.name else s.name == []) && (if (G4 s.kind).text=true then P1 s.text else s.text == [])) &&
   (((G4 s.kind).thn || s.thn.isEmpty) && ((G4 s.kind).els || s.els.isEmpty)) && (O8 s.thn (d+1) && O8 s.els (d+1))):=by
 cases s with|mk k n t a x y p=>rw[Q3];rfl
theorem B1r{α : Type}(g : α -> Bool)(l:List α):l.any (fun x => !g x) = !l.all g:=by
 induction l with
 |nil=>rfl
 |cons x l ih=>rw[List.any_cons,A2H,ih,Bool.not_and]
theorem c_vSt(s:Pb.St)(d:Nat)(hd:d<=1000000000)(hB:s.sz<=100000000)(hX:PC Tryz.prog 50 [F4 s.thn,I64 (d+1:Nat)] (.bool (O8 s.thn (d+1))))(hY:PC Tryz.prog 50 [F4 s.els,I64 (d+1:Nat)] (.bool (O8 s.els (d+1)))):
  PC Tryz.prog 90 [s.v,I64 d] (.bool (Q3 d s)):=by
 rw[C8e];have hsa:Ex.szs s.args<s.sz:=by cases s with|mk k n t a x y p=>rw[Pb.St.sz];show Ex.szs a<_;omega
 have hal:=Ex.szs_len s.args;have hxl:=Pb.St.szs_len s.thn;have hyl:=Pb.St.szs_len s.els;have hxs:=s.sz_thn;have hys:=s.sz_els;have hnl:=s.sz_name;have htl:=s.sz_text;have hn:=c_IsName s.name (by omega);have ht:=c_isText s.text (by omega);have hsh:=c_shapeOf s.kind;have hca:=c_CF_ex (f:=127) (a:=[]) (cs:=[]) (g:=fun e => !V5 e) s.args (by omega) rfl rfl (fun x hx=>c_vS1 x (by have:=Ex.szs_mem hx;omega));rw[B1r]at hca;have hw:=w64 (n:=(d:Int)+1);refine PC.ofT B1 rfl (A0C rfl) (by rw[Pb.St.v_w];simp[DV.nlL,DV.nl,A0z,Y9]) rfl ?_;cases s with|mk k n t a x y p =>
 dsimp only[Pb.St.kind,Pb.St.name,Pb.St.text,Pb.St.args,Pb.St.thn,Pb.St.els,Pb.St.pos]at *;have hX:PC Tryz.prog 50 [F4 x,I64 ((d:Int)+1)] (.bool (O8 x (d+1))):=hX;have hY:PC Tryz.prog 50 [F4 y,I64 ((d:Int)+1)] (.bool (O8 y (d+1))):=hY;have ev:(Pb.St.mk k n t a x y p).v=.agg [I64 k,.str n,.str t,I9 a,F4 x,F4 y,I64 p]:=Pb.St.v_w _;rw[ev];generalize O8 x (d+1)=bx at *;generalize O8 y (d+1)=bY at *;generalize C2e k=kb at *;obtain⟨nb,tb,ar,xb,yb,hs⟩:∃ nb tb ar xb yb,G4 k=⟨nb,tb,ar,xb,yb⟩:=⟨_,_,_,_,_,rfl⟩;simp only[hs,Shp.v]at hsh ⊢;have kA:∀ (cc:Nat) (nm tx:Bool),IW Tryz.prog 86 (pz Tryz.prog 90 (.i (.i (.o (.i .h))))) ⟨tm [(1,I64 d),(2,.ptr 0 0),(5,.ptr 1 0),(7,.bool nm),(8,.bool tx)],(Sym.nil.upd 0 ⟨0,true,[I64 k,.str n,.str t,I9 a,F4 x,F4 y,I64 p]⟩).upd 1 ⟨0,true,[.bool nb,.bool tb,I64 ar,.bool xb,.bool yb]⟩,cc⟩ (rt [.tmp 4] fun v H' c => ∃ H2,GL H' [v] H2 [.bool ((nm && tx) && ((xb || x.isEmpty) && (yb || y.isEmpty)) && (bx && bY))]):=by
  intro cc nm tx;have ex:x.isEmpty = !decide ((x.length:Int)>0):=by cases x<;>simp
  have ey:y.isEmpty = !decide ((y.length:Int)>0):=by cases y<;>simp
  rw[ex,ey];cases nm with
  |false =>
   repeat' ((with_reducible first|refine wr ?_|refine A1 ?_ ?_|refine wb2 ?_ ?_<;>(intro hb;try simp only[hb])|fail)<;>try simp only[go_sem,seval])
   exact B3 (by simp)
  |true =>
  cases tx with
  |false =>
   repeat' ((with_reducible first|refine wr ?_|refine A1 ?_ ?_|refine wb2 ?_ ?_<;>(intro hb;try simp only[hb])|fail)<;>try simp only[go_sem,seval])
   exact B3 (by simp)
  |true =>
  generalize hlx:decide ((x.length:Int)>0)=lx at *;generalize hly:decide ((y.length:Int)>0)=ly at *;cases bx<;>cases bY<;>cases xb<;>cases lx<;>cases yb<;>cases ly;all_goals (repeat' ((with_reducible first|refine wr ?_|refine cpc hX ?_|refine cpc hY ?_|refine A1 ?_ ?_|refine wb2 ?_ ?_<;>(intro hb;try simp only[hb])|fail)<;>try simp only[go_sem,seval,hlx,hly,hw,A0E]))
  all_goals exact B3 rfl
 have kB:∀ cc:Nat,IW Tryz.prog 86 (pz Tryz.prog 90 (.i (.i (.i .h)))) ⟨tm [(1,I64 d),(2,.ptr 0 0),(5,.ptr 1 0),(7,.bool (n == [])),(8,.bool (t == []))],(Sym.nil.upd 0 ⟨0,true,[I64 k,.str n,.str t,I9 a,F4 x,F4 y,I64 p]⟩).upd 1 ⟨0,true,[.bool nb,.bool tb,I64 ar,.bool xb,.bool yb]⟩,cc⟩ (rt [.tmp 4] fun v H' c => ∃ H2,GL H' [v] H2 [.bool (((if nb=true then C4 n else n == []) && (if tb=true then P1 t else t == [])) && ((xb || x.isEmpty) && (yb || y.isEmpty)) && (bx && bY))]):=by
  intro cc;cases nb<;>cases tb;all_goals (repeat' ((with_reducible first|refine G0 (p:=IW _ _ (pz Tryz.prog 90 (.i (.i (.o (.i .h))))) _ _) ?_|refine wr ?_|refine cpc hn ?_|refine cpc ht ?_|refine A1 ?_ ?_|refine wb2 ?_ ?_<;>(intro hb;try simp only[hb])|fail)<;>try simp only[go_sem,seval]))
  all_goals (refine IW.stage ?_ (kA _ _ _);simp[C5,tm,Tm.upd])
 cases kb with
 |false =>
  repeat' ((with_reducible first|refine wr ?_|refine cpc hsh ?_|refine A1 ?_ ?_|refine wb2 ?_ ?_<;>(intro hb;try simp only[hb])|fail)<;>try simp only[go_sem,seval])
  exact B3 (by simp)
 |true =>
 by_cases hal2:a.length=ar
 ·have d0:((a.length:Int) != (ar:Int))=false:=by simp[hal2]
  cases hall:a.all V5 with
  |false =>
   rw[hall]at hca;repeat' ((with_reducible first|refine wr ?_|refine cpc hsh ?_|refine cpc hca ?_|refine A1 ?_ ?_|refine wb2 ?_ ?_<;>(intro hb;try simp only[hb])|fail)<;>try simp only[go_sem,seval,d0,A0E])
   exact B3 (by simp)
  |true =>
   rw[hall]at hca;have e1:(a.length == ar)=true:=by simpa using hal2
   rw[e1];simp only[A2B];repeat' ((with_reducible first|refine G0 (p:=IW _ _ (pz Tryz.prog 90 (.i (.i (.i .h)))) _ _) ?_|refine wr ?_|refine cpc hsh ?_|refine cpc hca ?_|refine A1 ?_ ?_|refine wb2 ?_ ?_<;>(intro hb;try simp only[hb])|fail)<;>try simp only[go_sem,seval,d0,A0E,A2])
   refine IW.stage (L:=[(1,I64 d),(2,.ptr 0 0),(5,.ptr 1 0),(7,.bool (n == [])),(8,.bool (t == []))]) ?_ (kB _);simp[C5,tm,Tm.upd]
 ·have d0:((a.length:Int) != (ar:Int))=true:=by simp;omega
  repeat' ((with_reducible first|refine wr ?_|refine cpc hsh ?_|refine A1 ?_ ?_|refine wb2 ?_ ?_<;>(intro hb;try simp only[hb])|fail)<;>try simp only[go_sem,seval,d0,A0E])
  exact B3 (by simp;omega)
theorem c_vB1(s:Pb.St)(d:Nat)(h:PC Tryz.prog 90 [s.v,I64 d] (.bool (Q3 d s))):PC Tryz.prog 89 [s.v,.fptr [I64 d]] (.bool (!Q3 d s)):=by
 rw[Pb.St.v_w]at h ⊢;refine PC.go B1 ?_;repeat' ((with_reducible first|refine wr ?_|refine cpc h ?_|refine A1 ?_ ?_|refine wb2 ?_ ?_<;>(intro hb;try simp only[hb])|fail)<;>try simp only[go_sem,seval])
 exact B3 rfl
theorem A9f(d:Nat):∀ l:List Pb.St,K8 d l=l.all (Q3 d)
 |[]=>by rw[K8];rfl
 |s :: l=>by rw[K8,A9f d l];rfl
theorem c_validBlock:∀ (m:Nat) (l:List Pb.St) (d:Nat),Pb.St.szs l<m->Pb.St.szs l<=100000000->d+Pb.St.szs l<=1000000000->PC Tryz.prog 50 [F4 l,I64 d] (.bool (O8 l d)):=by
 intro m
 induction m with
 |zero=>intro l d h;omega
 |succ m ih =>
 intro l d hm hB hd;have hl:=Pb.St.szs_len l;have hcf:=c_CF_st (f:=89) (a:=[]) (cs:=[.fptr [I64 d]]) (g:=fun s => !Q3 d s) l (by omega) rfl rfl (fun s hs=>by
  have h1:=Pb.St.szs_mem hs;have h2:=s.sz_thn;have h3:=s.sz_els;exact c_vB1 s d (c_vSt s d (by omega) (by omega) (ih _ _ (by omega) (by omega) (by omega)) (ih _ _ (by omega) (by omega) (by omega))))
 rw[B1r, <- A9f]at hcf;refine PC.go B1 ?_;have el:l.isEmpty = !decide ((l.length:Int)>0):=by cases l<;>simp
 have e64:decide (l.length<=64) = !decide ((l.length:Int)>64):=by rw[<- decide_not];exact decide_eq_decide.2 (by omega)
 have e8:decide (d<=8) = !decide ((d:Int)>8):=by rw[<- decide_not];exact decide_eq_decide.2 (by omega)
 unfold O8;rw[el,e64,e8];repeat' ((first|(with_reducible first|refine wr ?_|refine A1 ?_ ?_)|(with_reducible refine wb2 ?_ ?_<;>(intro hb;try simp only[hb]))|(refine AC.call (hcf.lend rfl (GL.one (id:=0) (b:=⟨0,true,[I64 d]⟩) rfl rfl (.cons _ _ _ _ (.same _) (.cons _ _ _ _ (.func _ _ _ _ _ .nil (.cons _ _ _ _ (.ptr 0 _ (A0Z _) rfl) .nil)) .nil)))) ?_<;>rintro v H' c' ⟨rfl,rfl,rfl⟩ hcc)|fail)<;>try simp only[go_sem,seval,A0E])
 all_goals (refine B3 (congrArg DV.bool ?_);simp_all)
theorem c_validHd(h:Hd)(hB:Pb.St.szs h.body<=100000000):PC Tryz.prog 50 [F4 h.body,I64 1] (.bool (O8 h.body 1)) :=
 c_validBlock _ h.body 1 (A2E _) hB (by omega)
theorem D4w(h:Hd):h.v=.agg [I64 h.trig,.str h.name,F4 h.body,I64 h.pos]:=rfl
theorem c_validMode(d:Md)(hB:d.sz<=100000000):PC Tryz.prog 23 [d.v] (.bool (S5 d)):=by
 have hsz:d.sz=1+d.name.length+(d.hds.map Hd.sz).sum:=rfl;have hhl:d.hds.length<=(d.hds.map Hd.sz).sum:=J1 fun x _=>by show 1<=1+_+_;omega
 have hn:=c_IsName d.name (by omega);refine PC.ofT B1 rfl (A0C rfl) (by simp[Md.v,DV.nlL,DV.nl,B7i]) rfl ?_;have ev:d.v=.agg [.str d.name,I64 d.prio,A1c d.hds,I64 d.pos]:=rfl;rw[ev];cases hnm:C4 d.name with
 |false =>
  rw[hnm]at hn;repeat' ((with_reducible first|refine wr ?_|refine cpc hn ?_|refine A1 ?_ ?_|refine wb2 ?_ ?_<;>(intro hb;try simp only[hb])|fail)<;>try simp only[go_sem,seval])
  exact B3 (by simp[S5,hnm])
 |true =>
 rw[hnm]at hn;by_cases p0:d.prio<0
 ·have q0:decide (d.prio<0)=true:=by simpa using p0
  repeat' ((with_reducible first|refine wr ?_|refine cpc hn ?_|refine A1 ?_ ?_|refine wb2 ?_ ?_<;>(intro hb;try simp only[hb])|fail)<;>try simp only[go_sem,seval,q0])
  exact B3 (by simp[S5,hnm];omega)
 have q0:decide (d.prio<0)=false:=by simpa using p0
 by_cases p1:d.prio>2147483647
 ·have q1:decide (d.prio>2147483647)=true:=by simpa using p1
  repeat' ((with_reducible first|refine wr ?_|refine cpc hn ?_|refine A1 ?_ ?_|refine wb2 ?_ ?_<;>(intro hb;try simp only[hb])|fail)<;>try simp only[go_sem,seval,q0,q1])
  exact B3 (by simp[S5,hnm];omega)
 have q1:decide (d.prio>2147483647)=false:=by simpa using p1
 by_cases p2:d.hds.length>32
 ·have q2:decide ((d.hds.length:Int)>32)=true:=by simp;omega
  repeat' ((with_reducible first|refine wr ?_|refine cpc hn ?_|refine A1 ?_ ?_|refine wb2 ?_ ?_<;>(intro hb;try simp only[hb])|fail)<;>try simp only[go_sem,seval,q0,q1,q2,A0E])
  exact B3 (by simp[S5,hnm];omega)
 have q2:decide ((d.hds.length:Int)>32)=false:=by simp;omega
 have er:S5 d=d.hds.all W4:=by
  unfold S5;rw[hnm,show decide (0<=d.prio)=true by simp;omega,show decide (d.prio<=2147483647)=true by simp;omega,show decide (d.hds.length<=32)=true by simp;omega];rfl
 rw[er];repeat' ((with_reducible first|refine wr ?_|refine cpc hn ?_|refine A1 ?_ ?_|refine wb2 ?_ ?_<;>(intro hb;try simp only[hb])|fail)<;>try simp only[go_sem,seval,q0,q1,q2,A0E])
 refine D4 (fun k:Nat=>[(27,A1c d.hds),(28,I64 d.hds.length),(29,I64 k)]) (fun _=>Sym.nil) (fun k _=>k<=d.hds.length/\(d.hds.take k).all W4=true) (fun k=>d.hds.length-k) 0 (by simp[C5,tm,Tm.upd]) (Sub.nil _) ⟨A0Z _,rfl⟩ ?_;rintro k cc ⟨hk,he⟩;by_cases hlt:k<d.hds.length
 ·have hd:=dtz hlt;have hg:=A0B hlt;have hw:=w64 (n:=(k:Int)+1);have hs:d.hds[k].sz<=(d.hds.map Hd.sz).sum:=H6 (A0V hlt);generalize d.hds[k]=h at hg hs;have hhs:h.sz=1+h.name.length+Pb.St.szs h.body:=rfl;have hn2:=c_IsName h.name (by omega);have hb2:=c_validHd h (by omega);have hf:=A8s W4 d.hds k _ hg;have ht:=B0f W4 d.hds k _ hg;have eh:W4 h=(decide (1<=h.trig) && decide (h.trig<=6) && (if 3<=h.trig then C4 h.name else h.name == []) && O8 h.body 1):=rfl;by_cases t3:3<=h.trig
  ·have u3:decide (h.trig≥3)=true:=by simpa using t3
   rw[if_pos t3]at eh;repeat' ((with_reducible first|refine wr ?_|refine cpc hn2 ?_|refine cpc hb2 ?_|refine A1 ?_ ?_|refine wb2 ?_ ?_<;>(intro hb;try simp only[hb])|fail)<;>try simp only[go_sem,seval,hd,hg,hw,u3,D4w,A0,A2])
   all_goals first
    |(refine B3 (congrArg DV.bool (hf ?_).symm);rw[eh];clear hf ht eh er;simp_all<;>omega)
    |(refine⟨k+1,rfl,Sub.nil _,inv ⟨by omega,?_⟩,by omega⟩;rw[ht,he,eh];clear hf ht eh er;simp_all<;>omega)
  ·have u3:decide (h.trig≥3)=false:=by simpa using t3
   rw[if_neg t3]at eh;repeat' ((with_reducible first|refine wr ?_|refine cpc hn2 ?_|refine cpc hb2 ?_|refine A1 ?_ ?_|refine wb2 ?_ ?_<;>(intro hb;try simp only[hb])|fail)<;>try simp only[go_sem,seval,hd,hg,hw,u3,D4w,A0,A2])
   all_goals first
    |(refine B3 (congrArg DV.bool (hf ?_).symm);rw[eh];clear hf ht eh er;simp_all<;>omega)
    |(refine⟨k+1,rfl,Sub.nil _,inv ⟨by omega,?_⟩,by omega⟩;rw[ht,he,eh];clear hf ht eh er;simp_all<;>omega)
 have hd:=dfz hlt;have hall:=B3t W4 d.hds k (by omega) he;repeat' ((with_reducible first|refine wr ?_|refine A1 ?_ ?_|refine wb2 ?_ ?_<;>(intro hb;try simp only[hb])|fail)<;>try simp only[go_sem,seval,hd])
 exact B3 (by rw[hall])
theorem c_V1(d:Dc)(hB:d.name.length<=1000000000):PC Tryz.prog 19 [d.v] (.bool (!A0a d)):=by
 have h:=c_validDecl d hB;have ev:d.v=.agg [I64 d.kind,.str d.name,I64 d.value,I64 d.pos]:=rfl;rw[ev]at h ⊢;refine PC.go B1 ?_;repeat' ((with_reducible first|refine wr ?_|refine cpc h ?_|refine A1 ?_ ?_|refine wb2 ?_ ?_<;>(intro hb;try simp only[hb])|fail)<;>try simp only[go_sem,seval])
 exact B3 rfl
theorem c_V2(d:Md)(hB:d.sz<=100000000):PC Tryz.prog 22 [d.v] (.bool (!S5 d)):=by
 have h:=c_validMode d hB;have ev:d.v=.agg [.str d.name,I64 d.prio,A1c d.hds,I64 d.pos]:=rfl;rw[ev]at h ⊢;refine PC.go B1 ?_;repeat' ((with_reducible first|refine wr ?_|refine cpc h ?_|refine A1 ?_ ?_|refine wb2 ?_ ?_<;>(intro hb;try simp only[hb])|fail)<;>try simp only[go_sem,seval])
 exact B3 rfl
theorem c_Valid(r:Ru)(hB:r.sz<=100000000):PC Tryz.prog 7 [r.v] (.bool (Z9 r)):=by
 obtain⟨D,M⟩:=r;have hDs:(D.map Dc.sz).sum+(M.map Md.sz).sum<=100000000:=hB;have hDl:D.length<=(D.map Dc.sz).sum:=J1 fun x _=>by show 1<=1+_;omega
 have hMl:M.length<=(M.map Md.sz).sum:=J1 fun x _=>by show 1<=1+_+_;omega
 have h1:=c_CF_dc (f:=19) (a:=[]) (cs:=[]) (g:=fun e => !A0a e) D (by omega) rfl rfl (fun x hx=>c_V1 x (by
  have:x.sz<=(D.map Dc.sz).sum:=H6 hx;have e:x.sz=1+x.name.length:=rfl;omega))
 have h2:=c_CF_md (f:=22) (a:=[]) (cs:=[]) (g:=fun e => !S5 e) M (by omega) rfl rfl (fun x hx=>c_V2 x (by
  have:x.sz<=(M.map Md.sz).sum:=H6 hx;omega))
 rw[B1r]at h1 h2;refine PC.ofT B1 rfl (A0C rfl) (by simp[Ru.v,DV.nlL,DV.nl,A2q,A2p]) rfl ?_;dsimp only[Ru.v];unfold Z9;dsimp only;have e1:decide (D.length<=128) = !decide ((D.length:Int)>128):=by rw[<- decide_not];exact decide_eq_decide.2 (by omega)
 have e2:decide (M.length<=16) = !decide ((M.length:Int)>16):=by rw[<- decide_not];exact decide_eq_decide.2 (by omega)
 rw[e1,e2];generalize D.all A0a=bD at *;generalize M.all S5=bM at *;repeat' ((with_reducible first|refine wr ?_|refine cpc h1 ?_|refine cpc h2 ?_|refine A1 ?_ ?_|refine wb2 ?_ ?_<;>(intro hb;try simp only[hb])|fail)<;>try simp only[go_sem,seval,A0E])
 all_goals (refine B3 (congrArg DV.bool ?_);simp_all)
end Go.Proofs.YtmmjlijdfhkdcaaGreatDoor
set_option maxHeartbeats 4000000
namespace Go.Proofs.YtmmjlijdfhkdcaaGreatDoor
open Go.Eng (IC IOper DReg IFn M8)
open Go.Sym Go.Pb
theorem c_pblk(P:Pb.St->List (List UInt8))(l:List Pb.St)(hl:l.length<=4000000)(hP:∀ s∈l,OwL 61 [s.v] (P s))(hb:(l.flatMap P).length<=1000000000):OwL 30 [F4 l] (J8 P l):=by
 refine OwL.of (by simp[DV.nlL,DV.nl,Y9]) ?_;refine AC.bodyT B1 rfl (A0C rfl) fun hfr=>?_;repeat' ((with_reducible first|refine wr ?_|refine A1 ?_ ?_|refine wb2 ?_ ?_<;>(intro hb;try simp only[hb])|fail)<;>try simp only[go_sem,seval])
 refine A2t (fun q:Nat × Nat=>[(3,.slc q.2 0 (1+((l.take q.1).flatMap P).length)),(7,F4 l),(8,I64 l.length),(9,I64 q.1)]) (fun q=>nil.upd q.2 ⟨1,true,([123] :: (l.take q.1).flatMap P).map DV.str⟩)
  (fun q cc=>q.1<=l.length/\q.2<cc) (fun q=>l.length-q.1) (0,0) (fun b=>⟨rfl,rfl,rfl,rfl,trivial⟩) (by simp[C5,tm,Tm.upd]) (by simp;exact Sub.refl _) ⟨by simp,by simp⟩ ?_
 rintro⟨k,id⟩ c ⟨hk,hid⟩;simp only at hk hid;simp only;have hle:((l.take k).flatMap P).length<=(l.flatMap P).length:=by
  have:=congrArg List.length (congrArg (List.flatMap P) (A2K k l));rw[A1Z,A0A]at this;omega
 obtain⟨A,hA⟩:∃ A,A=(l.take k).flatMap P:=⟨_,rfl⟩;rw[<- hA]at hle ⊢;by_cases hlt:k<l.length
 ·have hd:=dtz hlt;have hg:=A0B hlt;have hw:IntKind.i64.wrap ((k:Int)+1)=((k+1:Nat):Int):=by rw[w6z (by omega)];omega
  have est:(l.take (k+1)).flatMap P=A++P l[k]:=by
   rw[A1D,hg,Option.toList_some,A1Z,hA];simp
  have hc:=hP _ (A0V hlt);have hle2:(A++P l[k]).length<=(l.flatMap P).length:=by
   have:=congrArg List.length (congrArg (List.flatMap P) (A2K (k+1) l));rw[A1Z,A0A,est]at this;omega
  obtain⟨s,hs⟩:∃ s,s=l[k]:=⟨_,rfl⟩;rw[<- hs]at hg est hc hle2;have hgm:(l.map Pb.St.v)[k]? = some s.v:=by rw[A1A,hg];rfl
  rw[Pb.St.v_w]at hgm hc;have ne0:=L8 id c (c+1) (by omega);repeat' ((with_reducible first|refine wr ?_|refine A1 ?_ ?_|refine wb2 ?_ ?_<;>(intro hb;try simp only[hb])|fail)<;>try simp only[go_sem,seval,hd,hgm,hw,ne0,A0])
  refine AC.call (hc _ _) ?_;rintro _ _ _ ⟨rfl,rfl,rfl⟩ -;have tk:List.take (P s).length ((P s).map DV.str)=(P s).map DV.str:=A0L (by simp);rw[A0A]at hle2;have ne0:=V7 id c (c+1) (c+1+1) (by omega);simp only[go_sem,seval,ne0,A0,tk];repeat' ((with_reducible first|refine wr ?_|refine A1 ?_ ?_|refine wb2 ?_ ?_<;>(intro hb;try simp only[hb])|fail)<;>try simp only[go_sem,seval,ne0,A0,tk])
  refine C6 (E5 (by simp;omega) (by omega) (by omega)) ?_;simp only[go_sem,seval,ne0,A0];repeat' ((with_reducible first|refine wr ?_|refine A1 ?_ ?_|refine wb2 ?_ ?_<;>(intro hb;try simp only[hb])|fail)<;>try simp only[go_sem,seval,hw,ne0,A0])
  have e1:1+A.length+(P s).length=1+((l.take (k+1)).flatMap P).length:=by rw[est,A0A];omega
  refine⟨(k+1,c+1+1),⟨by rw[e1],rfl⟩,GL.less fun j=>?_,inv ⟨hlt,by simp only;omega⟩,by simp only;omega⟩;by_cases e:j=c+1+1
  ·subst e;right;rw[A0,A0];simp only[est,A0S]
  ·left;rw[A6 e];rfl
 ·have hd:=dfz hlt;obtain rfl:k=l.length:=by omega
  rw[A2W]at hA;have ne0:=L8 id c (c+1) (by omega);repeat' ((with_reducible first|refine wr ?_|refine A1 ?_ ?_|refine wb2 ?_ ?_<;>(intro hb;try simp only[hb])|fail)<;>try simp only[go_sem,seval,hd,ne0,A0])
  refine C6 (E5 (by simp;omega) (by omega) (by omega)) ?_;simp only[go_sem,seval,ne0,A0];repeat' ((with_reducible first|refine wr ?_|refine A1 ?_ ?_|refine wb2 ?_ ?_<;>(intro hb;try simp only[hb])|fail)<;>try simp only[go_sem,seval,hd,ne0,A0])
  have e1:(J8 P l).length=1+A.length+1:=by rw[J8, <- hA];simp;omega
  rw[<- e1];exact⟨_,nil.upd (c+1) ⟨1,true,(J8 P l).map DV.str⟩,T4 A0 (fun j hj=>.inl (by rw[A6 hj];rfl)) (by rw[A0,J8, <- hA];simp),c+1,rfl,rfl⟩
abbrev B2p(k:Int)(n t:List UInt8)(a:List Ex)(x y:List Pb.St)(p:Int):Blk:=⟨0,true,[I64 k,.str n,.str t,I9 a,F4 x,F4 y,I64 p]⟩
abbrev B4u(q:Shp):Blk:=⟨0,true,[.bool q.name,.bool q.text,I64 q.args,.bool q.thn,.bool q.els]⟩
theorem c_psE(k:Int)(n t:List UInt8)(a:List Ex)(x y:List Pb.St)(p:Int)(P:Pb.St->List (List UInt8))(hY:OwL 30 [F4 y] (J8 P y))
  (hS:∀ s,y=[s]->OwL 61 [s.v] (P s)) (hb2:(J8 P y).length<=1000000000) (hb3:∀ s,y=[s]->(P s).length<=1000000000)
  (l R:List (List UInt8)) (id c:Nat) (hid:1<=id) (hc:id<c) (hl:l.length<=10000000000) (hR:R=l++A8m P y) :
  IW Tryz.prog 107 (pz Tryz.prog 61 (.o (.i (.o (.i (.i .h)))))) ⟨(tm [(1,.ptr 0 0),(3,.slc id 0 l.length)]),((nil.upd 0 (B2p k n t a x y p)).upd id ⟨1,true,l.map DV.str⟩),c⟩ (rt [.tmp 2] fun v H' c' => ∃ v2 H2,GL H' [v] H2 [v2]/\∃ id,v2=.slc id 0 R.length/\H2=nil.upd id ⟨1,true,R.map DV.str⟩):=by
 have ne0:=L8 0 id c (by omega)
 match y with
 |[] =>
  rw[A8m,A1H]at hR;subst hR;repeat' ((with_reducible first|refine wr ?_|refine A1 ?_ ?_|refine wb2 ?_ ?_<;>(intro hb;try simp only[hb])|fail)<;>try simp only[go_sem,seval,ne0,A0,A0N,List.map_nil,A0E])
  exact⟨_,nil.upd id ⟨1,true,R.map DV.str⟩,T4 A0 (fun j hj=>.inl (by rw[A6 hj];rfl)) A0,id,rfl,rfl⟩
 |[s] =>
  have hS':=hS s rfl;rw[Pb.St.v_w]at hS';rw[A8m]at hR;by_cases hk2:s.kind=2
  ·have d2:(s.kind == 2)=true:=by simpa using hk2
   repeat' ((with_reducible first|refine wr ?_|refine A1 ?_ ?_|refine wb2 ?_ ?_<;>(intro hb;try simp only[hb])|fail)<;>try simp only[go_sem,seval,ne0,A0,d2,Pb.St.v_w])
   rw[A6 (show ¬ id=c+1 by omega),A0];refine V4 (E5 (by simp) (by omega) (by omega)) ?_;rw[if_pos hk2]at hR;simp only[go_sem,seval,ne0,A0,Pb.St.v_w];obtain⟨M,hM⟩:∃ M,M=((((nil.upd 0 (B2p k n t a x [s] p)).upd id ⟨1,true,l.map DV.str⟩).upd (c+1) ⟨1,true,[.str [101,108,115,101]]⟩).del id).upd (c+10) ⟨1,true,l.map DV.str++[.str [101,108,115,101]]⟩:=⟨_,rfl⟩;rw[<- hM];have hMn:∀ i,i≠0->i≠c+1->i≠c+10->M i=none:=fun i h0 h1 h2=>by
    rw[hM,A6 h2];simp only[Hp.del];split
    ·rfl
    ·rename_i h3;rw[A6 h1,A6 h3,A6 h0];rfl
   have hMl:M (c+10)=some ⟨1,true,l.map DV.str++[.str [101,108,115,101]]⟩:=by rw[hM];exact A0
   clear hM;refine⟨by and_intros<;>exact hMn _ (by omega) (by omega) (by omega),?_⟩;refine AC.call (hS' M (c+10+1)) ?_;rintro _ _ _ ⟨rfl,rfl,rfl⟩ -;obtain⟨W,hW⟩:∃ W,W=P s:=⟨_,rfl⟩;rw[<- hW]at hR ⊢;have hWl:W.length<=1000000000:=hW▸hb3 s rfl;have tk:List.take W.length (W.map DV.str)=W.map DV.str:=A0L (by simp);have hMl2:(M.upd (c+10+1) ⟨1,true,W.map DV.str⟩) (c+10)=some ⟨1,true,l.map DV.str++[.str [101,108,115,101]]⟩:=by rw[hnO];exact hMl
   simp only[go_sem,seval,ne0,A0,tk,hMl2];refine V4 (E5 (by simp) (by omega) (by omega)) ?_;simp only[go_sem,seval,ne0,A0];repeat' ((with_reducible first|refine wr ?_|refine A1 ?_ ?_|refine wb2 ?_ ?_<;>(intro hb;try simp only[hb])|fail)<;>try simp only[go_sem,seval,ne0,A0])
   have e1:R.length=l.length+1+W.length:=by rw[hR];simp;omega
   rw[<- e1];exact⟨_,nil.upd (c+10+1+1) ⟨1,true,R.map DV.str⟩,T4 A0 (fun j hj=>.inl (by rw[A6 hj];rfl)) (by rw[A0,hR];simp),c+10+1+1,rfl,rfl⟩
  ·have d2:(s.kind == 2)=false:=by simpa using hk2
   repeat' ((with_reducible first|refine wr ?_|refine A1 ?_ ?_|refine wb2 ?_ ?_<;>(intro hb;try simp only[hb])|fail)<;>try simp only[go_sem,seval,ne0,A0,d2,Pb.St.v_w])
   rw[A6 (show ¬ id=c+1 by omega),A0];refine V4 (E5 (by simp) (by omega) (by omega)) ?_;rw[if_neg hk2]at hR;simp only[go_sem,seval,ne0,A0];obtain⟨M,hM⟩:∃ M,M=((((nil.upd 0 (B2p k n t a x [s] p)).upd id ⟨1,true,l.map DV.str⟩).upd (c+1) ⟨1,true,[.str [101,108,115,101]]⟩).del id).upd (c+8) ⟨1,true,l.map DV.str++[.str [101,108,115,101]]⟩:=⟨_,rfl⟩;rw[<- hM];have hMn:∀ i,i≠0->i≠c+1->i≠c+8->M i=none:=fun i h0 h1 h2=>by
    rw[hM,A6 h2];simp only[Hp.del];split
    ·rfl
    ·rename_i h3;rw[A6 h1,A6 h3,A6 h0];rfl
   have hMl:M (c+8)=some ⟨1,true,l.map DV.str++[.str [101,108,115,101]]⟩:=by rw[hM];exact A0
   clear hM;refine⟨by and_intros<;>exact hMn _ (by omega) (by omega) (by omega),?_⟩;refine AC.call (hY M (c+8+1)) ?_;rintro _ _ _ ⟨rfl,rfl,rfl⟩ -;obtain⟨W,hW⟩:∃ W,W=J8 P [s]:=⟨_,rfl⟩;rw[<- hW]at hR ⊢;have hWl:W.length<=1000000000:=hW▸hb2;have tk:List.take W.length (W.map DV.str)=W.map DV.str:=A0L (by simp);have hMl2:(M.upd (c+8+1) ⟨1,true,W.map DV.str⟩) (c+8)=some ⟨1,true,l.map DV.str++[.str [101,108,115,101]]⟩:=by rw[hnO];exact hMl
   simp only[go_sem,seval,ne0,A0,tk,hMl2];refine V4 (E5 (by simp) (by omega) (by omega)) ?_;simp only[go_sem,seval,ne0,A0];repeat' ((with_reducible first|refine wr ?_|refine A1 ?_ ?_|refine wb2 ?_ ?_<;>(intro hb;try simp only[hb])|fail)<;>try simp only[go_sem,seval,ne0,A0])
   have e1:R.length=l.length+1+W.length:=by rw[hR];simp;omega
   rw[<- e1];exact⟨_,nil.upd (c+8+1+1) ⟨1,true,R.map DV.str⟩,T4 A0 (fun j hj=>.inl (by rw[A6 hj];rfl)) (by rw[A0,hR];simp),c+8+1+1,rfl,rfl⟩
 |s :: s2 :: r =>
  obtain⟨A,hA⟩:∃ A,A=s :: s2 :: r:=⟨_,rfl⟩;have n1:((A.length:Int) == 1)=false:=by rw[hA];simp;omega
  have n0:decide ((A.length:Int)>0)=true:=by rw[hA];simp;omega
  rw[A8m]at hR;rw[<- hA]at hR hY hb2 ⊢;repeat' ((with_reducible first|refine wr ?_|refine A1 ?_ ?_|refine wb2 ?_ ?_<;>(intro hb;try simp only[hb])|fail)<;>try simp only[go_sem,seval,ne0,A0,n1,n0])
  rw[A6 (show ¬ id=c+1 by omega),A0];refine V4 (E5 (by simp) (by omega) (by omega)) ?_;simp only[go_sem,seval,ne0,A0];obtain⟨M,hM⟩:∃ M,M=((((nil.upd 0 (B2p k n t a x A p)).upd id ⟨1,true,l.map DV.str⟩).upd (c+1) ⟨1,true,[.str [101,108,115,101]]⟩).del id).upd (c+8) ⟨1,true,l.map DV.str++[.str [101,108,115,101]]⟩:=⟨_,rfl⟩;rw[<- hM];have hMn:∀ i,i≠0->i≠c+1->i≠c+8->M i=none:=fun i h0 h1 h2=>by
   rw[hM,A6 h2];simp only[Hp.del];split
   ·rfl
   ·rename_i h3;rw[A6 h1,A6 h3,A6 h0];rfl
  have hMl:M (c+8)=some ⟨1,true,l.map DV.str++[.str [101,108,115,101]]⟩:=by rw[hM];exact A0
  clear hM;refine⟨by and_intros<;>exact hMn _ (by omega) (by omega) (by omega),?_⟩;refine AC.call (hY M (c+8+1)) ?_;rintro _ _ _ ⟨rfl,rfl,rfl⟩ -;obtain⟨W,hW⟩:∃ W,W=J8 P A:=⟨_,rfl⟩;rw[<- hW]at hR ⊢;have hWl:W.length<=1000000000:=hW▸hb2;have tk:List.take W.length (W.map DV.str)=W.map DV.str:=A0L (by simp);have hMl2:(M.upd (c+8+1) ⟨1,true,W.map DV.str⟩) (c+8)=some ⟨1,true,l.map DV.str++[.str [101,108,115,101]]⟩:=by rw[hnO];exact hMl
  simp only[go_sem,seval,ne0,A0,tk,hMl2];refine V4 (E5 (by simp) (by omega) (by omega)) ?_;simp only[go_sem,seval,ne0,A0];repeat' ((with_reducible first|refine wr ?_|refine A1 ?_ ?_|refine wb2 ?_ ?_<;>(intro hb;try simp only[hb])|fail)<;>try simp only[go_sem,seval,ne0,A0])
  have e1:R.length=l.length+1+W.length:=by rw[hR];simp;omega
  rw[<- e1];exact⟨_,nil.upd (c+8+1+1) ⟨1,true,R.map DV.str⟩,T4 A0 (fun j hj=>.inl (by rw[A6 hj];rfl)) (by rw[A0,hR];simp),c+8+1+1,rfl,rfl⟩
theorem c_psD(k:Int)(n t:List UInt8)(a:List Ex)(x y:List Pb.St)(p:Int)(P:Pb.St->List (List UInt8))(hX:OwL 30 [F4 x] (J8 P x))(hY:OwL 30 [F4 y] (J8 P y))
  (hS:∀ s,y=[s]->OwL 61 [s.v] (P s)) (hb1:(J8 P x).length<=1000000000) (hb2:(J8 P y).length<=1000000000) (hb3:∀ s,y=[s]->(P s).length<=1000000000)
  (l R:List (List UInt8)) (id c:Nat) (hid:2<=id) (hc:id<c) (hl:l.length<=1000000000) (hR:R=l++A6a P k x y) :
  IW Tryz.prog 107 (pz Tryz.prog 61 (.o (.o (.o (.o (.i .h)))))) ⟨(tm [(1,.ptr 0 0),(3,.slc id 0 l.length),(4,.ptr 1 0)]),(((nil.upd 0 (B2p k n t a x y p)).upd 1 (B4u (G4 k))).upd id ⟨1,true,l.map DV.str⟩),c⟩ (rt [.tmp 2] fun v H' c' => ∃ v2 H2,GL H' [v] H2 [v2]/\∃ id,v2=.slc id 0 R.length/\H2=nil.upd id ⟨1,true,R.map DV.str⟩):=by
 unfold A6a at hR;have tk1:List.take (J8 P x).length ((J8 P x).map DV.str)=(J8 P x).map DV.str:=A0L (by simp);have ne0:=T1 0 1 id c (c+1) (by omega);cases hth:(G4 k).thn with
 |false =>
  rw[hth]at hR;rw[if_neg A1P]at hR;repeat' ((with_reducible first|refine wr ?_|refine A1 ?_ ?_|refine wb2 ?_ ?_<;>(intro hb;try simp only[hb])|fail)<;>try simp only[go_sem,seval,hth,ne0,A0])
  refine C6 (E5 (by simp) (by omega) (by omega)) ?_;simp only[go_sem,seval,ne0,A0];repeat' ((with_reducible first|refine wr ?_|refine A1 ?_ ?_|refine wb2 ?_ ?_<;>(intro hb;try simp only[hb])|fail)<;>try simp only[go_sem,seval,ne0,A0])
  have e1:R.length=l.length+1:=by rw[hR];simp
  rw[<- e1];exact⟨_,nil.upd (c+1) ⟨1,true,R.map DV.str⟩,T4 A0 (fun j hj=>.inl (by rw[A6 hj];rfl)) (by rw[A0,hR];simp),c+1,rfl,rfl⟩
 |true =>
  rw[hth]at hR;rw[if_pos rfl]at hR;repeat' ((with_reducible first|refine wr ?_|refine A1 ?_ ?_|refine wb2 ?_ ?_<;>(intro hb;try simp only[hb])|fail)<;>try simp only[go_sem,seval,hth,ne0,A0])
  refine AC.call (hX _ _) ?_;rintro _ _ _ ⟨rfl,rfl,rfl⟩ -;simp only[go_sem,seval,ne0,A0,tk1];refine C6 (E5 (by simp) (by omega) (by omega)) ?_;simp only[go_sem,seval,ne0,A0];have e1:l.length+(J8 P x).length=(l++J8 P x).length:=by simp
  rw[e1];refine IW.weaken (U1 (l:=[(1,.ptr 0 0),(3,.slc (c+1) 0 (l++J8 P x).length)]) ⟨rfl,rfl,trivial⟩) ?_ (c_psE k n t a x y p P hY hS hb2 hb3 (l++J8 P x) R (c+1) _ (by omega) (by omega) (by simp;omega) (by rw[hR,A0T]));intro j b hj;by_cases e:j=c+1
  ·subst e;rw[A0]at hj ⊢;rw[<- hj,A0S]
  ·rw[A6 e]at hj ⊢;by_cases e0:j=0
   ·subst e0;rw[A0]at hj;rw[<- hj];simp only[Hp.del];rw[if_neg (by omega),hnO,hnO,hnO,A0]
   ·rw[A6 e0]at hj;cases hj
theorem c_psC(k:Int)(n t:List UInt8)(a:List Ex)(x y:List Pb.St)(p:Int)(P:Pb.St->List (List UInt8))(hX:OwL 30 [F4 x] (J8 P x))(hY:OwL 30 [F4 y] (J8 P y))
  (hS:∀ s,y=[s]->OwL 61 [s.v] (P s)) (hb1:(J8 P x).length<=1000000000) (hb2:(J8 P y).length<=1000000000) (hb3:∀ s,y=[s]->(P s).length<=1000000000)
  (hE:∀ e∈a,OwL 70 [e.v] (txT (exT e))) (ha:a.length<=1000)
  (l R:List (List UInt8)) (id c:Nat) (hid:2<=id) (hc:id<c) (hRl:R.length<=1000000000) (hR:R=l++(agI 0 a++A6a P k x y)) :
  IW Tryz.prog 107 (pz Tryz.prog 61 (.i (.o (.o (.i .h))))) ⟨(tm [(1,.ptr 0 0),(3,.slc id 0 l.length),(4,.ptr 1 0)]),(((nil.upd 0 (B2p k n t a x y p)).upd 1 (B4u (G4 k))).upd id ⟨1,true,l.map DV.str⟩),c⟩ (rt [.tmp 2] fun v H' c' => ∃ v2 H2,GL H' [v] H2 [v2]/\∃ id,v2=.slc id 0 R.length/\H2=nil.upd id ⟨1,true,R.map DV.str⟩):=by
 have ne0:=V7 0 1 id c (by omega);repeat' ((with_reducible first|refine wr ?_|refine A1 ?_ ?_|refine wb2 ?_ ?_<;>(intro hb;try simp only[hb])|fail)<;>try simp only[go_sem,seval,ne0,A0])
 refine A2t (fun q:Nat × Nat × List (List UInt8)=>[(1,.ptr 0 0),(3,.slc q.2.1 0 q.2.2.length),(4,.ptr 1 0),(44,I9 a),(45,I64 a.length),(46,I64 q.1)]) (fun q=>((nil.upd 0 (B2p k n t a x y p)).upd 1 (B4u (G4 k))).upd q.2.1 ⟨1,true,q.2.2.map DV.str⟩)
  (fun q cc=>q.1<=a.length/\2<=q.2.1/\q.2.1<cc/\R=q.2.2++(agI q.1 (a.drop q.1)++A6a P k x y)) (fun q=>a.length-q.1) (0,id,l) (fun b=>⟨rfl,rfl,rfl,rfl,rfl,rfl,trivial⟩) (by simp[C5,tm,Tm.upd]) (Sub.refl _) ⟨A0Z _,hid,hc,hR⟩ ?_
 clear ne0 hR hc hid;rintro⟨i,id,cur⟩ c ⟨hi,hid,hc,hR⟩;simp only at hi hid hc hR;simp only;by_cases hlt:i<a.length
 ·have hd:=dtz hlt;have hg:=A0B hlt;have hw:IntKind.i64.wrap ((i:Int)+1)=((i+1:Nat):Int):=by rw[w6z (by omega)];omega
  have hP:=hE _ (A0V hlt);rw[A1V hlt,agI]at hR;obtain⟨e,he⟩:∃ e,e=a[i]:=⟨_,rfl⟩;rw[<- he]at hg hP hR;have hgm:(a.map Ex.v)[i]? = some e.v:=by rw[A1A,hg];rfl
  rw[Ex.v_w]at hP hgm;have hle:cur.length+(txT (exT e)).length+1<=2000000000:=by
   have:=congrArg List.length hR;simp only[A0A]at this;omega
  have tk:List.take (txT (exT e)).length ((txT (exT e)).map DV.str)=(txT (exT e)).map DV.str:=A0L (by simp);have ne0:=D3y 0 1 id c (c+1) (c+1+1) (c+1+1+1) (by omega);by_cases h0:0<i
  ·have hp:decide ((i:Int)>0)=true:=by simpa using h0
   rw[if_pos h0]at hR;repeat' ((with_reducible first|refine wr ?_|refine A1 ?_ ?_|refine wb2 ?_ ?_<;>(intro hb;try simp only[hb])|fail)<;>try simp only[go_sem,seval,ne0,A0,hd,hgm,hp,hw])
   refine C6 (E5 (by simp) (by omega) (by omega)) ?_;simp only[go_sem,seval,ne0,A0];repeat' ((with_reducible first|refine wr ?_|refine A1 ?_ ?_|refine wb2 ?_ ?_<;>(intro hb;try simp only[hb])|fail)<;>try simp only[go_sem,seval,ne0,A0,hw])
   refine AC.call (hP _ _) ?_;rintro _ _ _ ⟨rfl,rfl,rfl⟩ -;simp only[go_sem,seval,ne0,A0,tk];refine C6 (E5 (by simp) (by omega) (by omega)) ?_;simp only[go_sem,seval,ne0,A0];repeat' ((with_reducible first|refine wr ?_|refine A1 ?_ ?_|refine wb2 ?_ ?_<;>(intro hb;try simp only[hb])|fail)<;>try simp only[go_sem,seval,ne0,A0,hw])
   have e1:cur.length+1+(txT (exT e)).length=(cur++([44] :: txT (exT e))).length:=by simp;try omega
   rw[e1];refine⟨(i+1,c+1+1+1+1,cur++([44] :: txT (exT e))),⟨rfl,rfl⟩,GL.less fun j=>?_,inv ⟨hlt,by simp only;omega,by simp only;omega,by simp only;rw[hR];simp⟩,by simp only;omega⟩;by_cases e:j=c+1+1+1+1
   ·subst e;right;rw[A0,A0];simp
   ·by_cases e2:j=0\/j=1
    ·right;rcases e2 with rfl|rfl<;>(rw[A6 e,A6 e];simp only[Hp.upd,Hp.del,ne0,if_true,if_false])
    ·left;rw[A6 e,hnO,hnO];rfl
  ·have hp:decide ((i:Int)>0)=false:=by simpa using h0
   rw[if_neg h0]at hR;repeat' ((with_reducible first|refine wr ?_|refine A1 ?_ ?_|refine wb2 ?_ ?_<;>(intro hb;try simp only[hb])|fail)<;>try simp only[go_sem,seval,ne0,A0,hd,hgm,hp,hw])
   refine AC.call (hP _ _) ?_;rintro _ _ _ ⟨rfl,rfl,rfl⟩ -;simp only[go_sem,seval,ne0,A0,tk];refine C6 (E5 (by simp) (by omega) (by omega)) ?_;simp only[go_sem,seval,ne0,A0];repeat' ((with_reducible first|refine wr ?_|refine A1 ?_ ?_|refine wb2 ?_ ?_<;>(intro hb;try simp only[hb])|fail)<;>try simp only[go_sem,seval,ne0,A0,hw])
   have e1:cur.length+(txT (exT e)).length=(cur++txT (exT e)).length:=by simp;try omega
   rw[e1];refine⟨(i+1,c+1+1,cur++txT (exT e)),⟨rfl,rfl⟩,GL.less fun j=>?_,inv ⟨hlt,by simp only;omega,by simp only;omega,by simp only;rw[hR];simp⟩,by simp only;omega⟩;by_cases e:j=c+1+1
   ·subst e;right;rw[A0,A0];simp
   ·by_cases e2:j=0\/j=1
    ·right;rcases e2 with rfl|rfl<;>(rw[A6 e,A6 e];simp only[Hp.upd,Hp.del,ne0,if_true,if_false])
    ·left;rw[A6 e,hnO,hnO];rfl
 ·have hd:=dfz hlt;rw[A2D (by omega),agI,List.nil_append]at hR;repeat' ((with_reducible first|refine G0 (p:=IW _ _ (pz Tryz.prog 61 (.o (.o (.o (.o (.i .h)))))) _ _) ?_|refine wr ?_|refine A1 ?_ ?_|refine wb2 ?_ ?_<;>(intro hb;try simp only[hb])|fail)<;>try simp only[go_sem,seval,hd])
  unfold V8;exact IW.weaken (U1 (l:=[(1,.ptr 0 0),(3,.slc id 0 cur.length),(4,.ptr 1 0)]) ⟨rfl,rfl,rfl,trivial⟩) (Sub.refl _) (c_psD k n t a x y p P hX hY hS hb1 hb2 hb3 cur R id c hid hc (by have:=congrArg List.length hR;simp only[A0A]at this;omega) hR)
theorem c_psB(k:Int)(n t:List UInt8)(a:List Ex)(x y:List Pb.St)(p:Int)(P:Pb.St->List (List UInt8))(hX:OwL 30 [F4 x] (J8 P x))(hY:OwL 30 [F4 y] (J8 P y))
  (hS:∀ s,y=[s]->OwL 61 [s.v] (P s)) (hb1:(J8 P x).length<=1000000000) (hb2:(J8 P y).length<=1000000000) (hb3:∀ s,y=[s]->(P s).length<=1000000000)
  (hE:∀ e∈a,OwL 70 [e.v] (txT (exT e))) (ha:a.length<=1000) (ht:t.length<=1000)
  (l R:List (List UInt8)) (id c:Nat) (hid:2<=id) (hc:id<c) (hRl:R.length<=1000000000) (hR:R=l++(txL k t++(agI 0 a++A6a P k x y))) :
  IW Tryz.prog 107 (pz Tryz.prog 61 (.i (.i (.o (.o .h))))) ⟨(tm [(1,.ptr 0 0),(3,.slc id 0 l.length),(4,.ptr 1 0)]),(((nil.upd 0 (B2p k n t a x y p)).upd 1 (B4u (G4 k))).upd id ⟨1,true,l.map DV.str⟩),c⟩ (rt [.tmp 2] fun v H' c' => ∃ v2 H2,GL H' [v] H2 [v2]/\∃ id,v2=.slc id 0 R.length/\H2=nil.upd id ⟨1,true,R.map DV.str⟩):=by
 have hq:=c_Quote t (by omega);have hl:l.length<=1000000000:=by
  have:=congrArg List.length hR;simp only[A0A]at this;omega
 unfold txL at hR;have ne0:=T1 0 1 id c (c+1) (by omega);cases htx:(G4 k).text with
 |false =>
  rw[htx,if_neg A1P,List.nil_append]at hR;repeat' ((with_reducible first|refine G0 (p:=IW _ _ (pz Tryz.prog 61 (.i (.o (.o (.i .h))))) _ _) ?_|refine wr ?_|refine A1 ?_ ?_|refine wb2 ?_ ?_<;>(intro hb;try simp only[hb])|fail)<;>try simp only[go_sem,seval,ne0,A0,htx])
  unfold V8;exact IW.weaken (U1 (l:=[(1,.ptr 0 0),(3,.slc id 0 l.length),(4,.ptr 1 0)]) ⟨rfl,rfl,rfl,trivial⟩) (Sub.refl _) (c_psC k n t a x y p P hX hY hS hb1 hb2 hb3 hE ha l R id c hid hc hRl hR)
 |true =>
  rw[htx,if_pos rfl]at hR;repeat' ((with_reducible first|refine G0 (p:=IW _ _ (pz Tryz.prog 61 (.i (.o (.o (.i .h))))) _ _) ?_|refine wr ?_|refine cpc hq ?_|refine A1 ?_ ?_|refine wb2 ?_ ?_<;>(intro hb;try simp only[hb])|fail)<;>try simp only[go_sem,seval,ne0,A0,htx])
  refine C6 (E5 (by simp) (by omega) (by omega)) ?_;simp only[go_sem,seval,ne0,A0];repeat' ((with_reducible first|refine G0 (p:=IW _ _ (pz Tryz.prog 61 (.i (.o (.o (.i .h))))) _ _) ?_|refine wr ?_|refine A1 ?_ ?_|refine wb2 ?_ ?_<;>(intro hb;try simp only[hb])|fail)<;>try simp only[go_sem,seval,ne0,A0])
  unfold V8;have e1:l.length+2=(l++[R0 t,[44]]).length:=by simp
  rw[e1];refine IW.weaken (U1 (l:=[(1,.ptr 0 0),(3,.slc (c+1) 0 (l++[R0 t,[44]]).length),(4,.ptr 1 0)]) ⟨rfl,rfl,rfl,trivial⟩) ?_ (c_psC k n t a x y p P hX hY hS hb1 hb2 hb3 hE ha (l++[R0 t,[44]]) R (c+1) _ (by omega) (by omega) hRl (by rw[hR];simp));intro j b hj;by_cases e:j=c+1
  ·subst e;rw[A0]at hj ⊢;rw[<- hj];simp
  ·rw[A6 e]at hj ⊢;by_cases e2:j=0\/j=1
   ·rw[<- hj];rcases e2 with rfl|rfl<;>simp only[Hp.upd,Hp.del,ne0,if_true,if_false]
   ·rw[hnO,hnO]at hj;cases hj
theorem c_psA(k:Int)(n t:List UInt8)(a:List Ex)(x y:List Pb.St)(p:Int)(P:Pb.St->List (List UInt8))(hX:OwL 30 [F4 x] (J8 P x))(hY:OwL 30 [F4 y] (J8 P y))
  (hS:∀ s,y=[s]->OwL 61 [s.v] (P s)) (hb1:(J8 P x).length<=1000000000) (hb2:(J8 P y).length<=1000000000) (hb3:∀ s,y=[s]->(P s).length<=1000000000)
  (hE:∀ e∈a,OwL 70 [e.v] (txT (exT e))) (ha:a.length<=1000) (ht:t.length<=1000) (hRl:(psL P (.mk k n t a x y p)).length<=1000000000) :
  OwL 61 [(Pb.St.mk k n t a x y p).v] (psL P (.mk k n t a x y p)):=by
 have hsh:PC Tryz.prog 97 [I64 k] (.tup [.agg [.bool (G4 k).name,.bool (G4 k).text,I64 (G4 k).args,.bool (G4 k).thn,.bool (G4 k).els],.bool (C2e k)]):=c_shapeOf k;have hwd:=c_wordOf k;refine OwL.of (by simp[DV.nlL,DV.nl,St.nl]) ?_;refine AC.bodyT B1 rfl (A0C rfl) fun hfr=>?_;rw[Pb.St.v_w];dsimp only[Pb.St.w,Pb.St.kind,Pb.St.name,Pb.St.text,Pb.St.args,Pb.St.thn,Pb.St.els,Pb.St.pos];obtain⟨R,hR⟩:∃ R,R=psL P (.mk k n t a x y p):=⟨_,rfl⟩;rw[<- hR]at hRl ⊢;rw[psL]at hR;unfold hdL at hR;by_cases h1:k=1
 ·have d1:(k == 1)=true:=by simpa using h1
  rw[if_pos h1]at hR;repeat' ((with_reducible first|refine G0 (p:=IW _ _ (pz Tryz.prog 61 (.i (.i (.o (.o .h))))) _ _) ?_|refine wr ?_|refine cpc hsh ?_|refine cpc hwd ?_|refine A1 ?_ ?_|refine wb2 ?_ ?_<;>(intro hb;try simp only[hb])|fail)<;>try simp only[go_sem,seval,d1])
  refine C6 (A0y (by decide) (by decide) (by decide)) ?_;simp only[go_sem,seval,A0];repeat' ((with_reducible first|refine G0 (p:=IW _ _ (pz Tryz.prog 61 (.i (.i (.o (.o .h))))) _ _) ?_|refine wr ?_|refine A1 ?_ ?_|refine wb2 ?_ ?_<;>(intro hb;try simp only[hb])|fail)<;>try simp only[go_sem,seval])
  unfold V8;refine IW.weaken (U1 (l:=[(1,.ptr 0 0),(3,.slc 3 0 ([n,[61]]).length),(4,.ptr 1 0)]) ⟨rfl,rfl,rfl,trivial⟩) ?_ (c_psB k n t a x y p P hX hY hS hb1 hb2 hb3 hE ha ht ([n,[61]]) R 3 _ (by decide) (by decide) hRl hR);intro j b hj;by_cases e:j=3
  ·subst e;rw[A0]at hj ⊢;exact hj
  ·rw[A6 e]at hj ⊢;by_cases e2:j=0\/j=1
   ·rw[<- hj];rcases e2 with rfl|rfl<;>first|rfl|(unfold B4u;rw[hnm];rfl)
   ·rw[hnO,hnO]at hj;cases hj
 ·have d1:(k == 1)=false:=by simpa using h1
  rw[if_neg h1]at hR;repeat' ((with_reducible first|refine G0 (p:=IW _ _ (pz Tryz.prog 61 (.i (.i (.o (.o .h))))) _ _) ?_|refine wr ?_|refine cpc hsh ?_|refine cpc hwd ?_|refine A1 ?_ ?_|refine wb2 ?_ ?_<;>(intro hb;try simp only[hb])|fail)<;>try simp only[go_sem,seval,d1])
  refine C6 (A0y (by decide) (by decide) (by decide)) ?_;simp only[go_sem,seval,A0];cases hnm:(G4 k).name with
  |false =>
   rw[hnm,if_neg A1P]at hR;repeat' ((with_reducible first|refine G0 (p:=IW _ _ (pz Tryz.prog 61 (.i (.i (.o (.o .h))))) _ _) ?_|refine wr ?_|refine A1 ?_ ?_|refine wb2 ?_ ?_<;>(intro hb;try simp only[hb])|fail)<;>try simp only[go_sem,seval,hnm,A0])
   unfold V8;refine IW.weaken (U1 (l:=[(1,.ptr 0 0),(3,.slc 3 0 ([P5 B8 A3f k]).length),(4,.ptr 1 0)]) ⟨rfl,rfl,rfl,trivial⟩) ?_ (c_psB k n t a x y p P hX hY hS hb1 hb2 hb3 hE ha ht ([P5 B8 A3f k]) R 3 _ (by decide) (by decide) hRl hR);intro j b hj;by_cases e:j=3
   ·subst e;rw[A0]at hj ⊢;exact hj
   ·rw[A6 e]at hj ⊢;by_cases e2:j=0\/j=1
    ·rw[<- hj];rcases e2 with rfl|rfl<;>first|rfl|(unfold B4u;rw[hnm];rfl)
    ·rw[hnO,hnO]at hj;cases hj
  |true =>
   rw[hnm,if_pos rfl]at hR;repeat' ((with_reducible first|refine G0 (p:=IW _ _ (pz Tryz.prog 61 (.i (.i (.o (.o .h))))) _ _) ?_|refine wr ?_|refine A1 ?_ ?_|refine wb2 ?_ ?_<;>(intro hb;try simp only[hb])|fail)<;>try simp only[go_sem,seval,hnm,A0])
   refine C6 (E5 rfl (by decide) (by decide)) ?_;simp only[go_sem,seval,A0];repeat' ((with_reducible first|refine G0 (p:=IW _ _ (pz Tryz.prog 61 (.i (.i (.o (.o .h))))) _ _) ?_|refine wr ?_|refine A1 ?_ ?_|refine wb2 ?_ ?_<;>(intro hb;try simp only[hb])|fail)<;>try simp only[go_sem,seval])
   unfold V8;refine IW.weaken (U1 (l:=[(1,.ptr 0 0),(3,.slc 5 0 ([P5 B8 A3f k,n]).length),(4,.ptr 1 0)]) ⟨rfl,rfl,rfl,trivial⟩) ?_ (c_psB k n t a x y p P hX hY hS hb1 hb2 hb3 hE ha ht ([P5 B8 A3f k,n]) R 5 _ (by decide) (by decide) hRl hR);intro j b hj;by_cases e:j=5
   ·subst e;rw[A0]at hj ⊢;exact hj
   ·rw[A6 e]at hj ⊢;by_cases e2:j=0\/j=1
    ·rw[<- hj];rcases e2 with rfl|rfl<;>first|rfl|(unfold B4u;rw[hnm];rfl)
    ·rw[hnO,hnO]at hj;cases hj
theorem A2h{d:Nat}:∀ {l:List Pb.St},K8 d l=true->∀ s∈l,Q3 d s=true
 |[],_,s,hs=>by cases hs
 |a :: l,h,s,hs=>by
  rw[K8,A0D]at h;rcases A1E.1 hs with rfl|hs
  ·exact h.1
  ·exact A2h h.2 s hs
theorem c_pblkT(l:List Pb.St)(hl:l.length<=4000000)(hP:∀ s∈l,OwL 61 [s.v] (txT (stT s)))(hB:Pb.St.szs l<=4000000):OwL 30 [F4 l] (txT (blT l)):=by
 rw[B4a];refine c_pblk _ l hl hP ?_;rw[<- A6x];have:=A1u l;unfold txT;rw[A0E];omega
theorem c_prStmt:∀ (m:Nat) (s:Pb.St) (d:Nat),s.sz<m->s.sz<=4000000->Q3 d s=true->OwL 61 [s.v] (txT (stT s)):=by
 intro m
 induction m with
 |zero=>intro s d h;omega
 |succ m ih =>
 intro s d hm hB hv;have hps:=D3s hv;have hlen:=(A2k s).2;obtain⟨k,n,t,a,x,y,p⟩:=s;have hv2:=hv;unfold Q3 at hv2;simp only[A0D,A0F,A1I]at hv2;obtain⟨⟨⟨⟨⟨k1,k2⟩,⟨ha,hE⟩⟩,⟨hn,ht⟩⟩,⟨hx,hy⟩⟩,⟨⟨⟨hx1,hx2⟩,hx3⟩,⟨⟨hy1,hy2⟩,hy3⟩⟩⟩:=hv2;have hsz:Pb.St.szs x+Pb.St.szs y+Ex.szs a+t.length<(Pb.St.mk k n t a x y p).sz:=by rw[Pb.St.sz];omega
 have hPx:∀ s∈x,OwL 61 [s.v] (txT (stT s)):=fun s hs=>ih s (d+1) (by have:=Pb.St.szs_mem hs;omega) (by have:=Pb.St.szs_mem hs;omega) (A2h hx3 s hs);have hPy:∀ s∈y,OwL 61 [s.v] (txT (stT s)):=fun s hs=>ih s (d+1) (by have:=Pb.St.szs_mem hs;omega) (by have:=Pb.St.szs_mem hs;omega) (A2h hy3 s hs);have hX:=c_pblkT x (by omega) hPx (by omega);have hY:=c_pblkT y (by omega) hPy (by omega);rw[B4a]at hX hY;have bl:∀ l:List Pb.St,Pb.St.szs l<=4000000->(J8 (fun s=>txT (stT s)) l).length<=1000000000:=fun l h=>by
  rw[<- B4a];have:=(A3d l).2;unfold txT;rw[A0E];omega
 have har:a.length<=1000:=by
  rw[ha];unfold G4;repeat' split
  all_goals decide
 have htl:t.length<=1000:=by
  by_cases hc:(G4 k).text=true
  ·rw[if_pos hc]at ht;unfold P1 at ht;simp only[A0D,A0F]at ht;omega
  ·rw[if_neg hc]at ht;rw[A1I.1 ht];simp
 rw[<- hps];refine c_psA k n t a x y p _ hX hY (fun s hs=>hPy s (by rw[hs];simp)) (bl x (by omega)) (bl y (by omega)) (fun s hs=>?_) (fun e he=>?_) har htl (by rw[hps];unfold txT;rw[A0E];omega)
 ·have:=(A2k s).2;unfold txT;rw[A0E];have h2:=Pb.St.szs_mem (l:=y) (x:=s) (by rw[hs];simp);omega
 ·exact c_printed _ e (A2E _) (by have:=Ex.szs_mem he;omega) (C7a (A0Q.1 hE e he))
theorem c_RFormat(r:Ru)(hB:r.sz<=3000000):PC Tryz.prog 10 [r.v] (.str (C2r r)):=by
 have hF:=C6g r;unfold C2r;have hv:=c_ValidR31 r (by omega);rw[B6e]at hv;have hlen:=B0s r;have hT:=c_rulesT r (by omega) (by omega);refine PC.go B1 ?_;cases hb:Z9 r with
 |false =>
  rw[hb]at hv;rw[if_neg A1P];repeat' ((with_reducible first|refine wr ?_|refine cpc hv ?_|refine A1 ?_ ?_|refine wb2 ?_ ?_<;>(intro hb;try simp only[hb])|fail)<;>try simp only[go_sem,seval])
  exact B3 rfl
 |true =>
  rw[hb]at hv;rw[if_pos rfl, <- C9d hb];repeat' ((with_reducible first|refine wr ?_|refine cpc hv ?_|refine cpc hT ?_|refine A1 ?_ ?_|refine wb2 ?_ ?_<;>(intro hb;try simp only[hb])|fail)<;>try simp only[go_sem,seval])
  have hl:(ruT r).length<=80000000:=by omega
  obtain⟨L,hL⟩:∃ L,L=ruT r:=⟨_,rfl⟩;rw[<- hL]at hF hl ⊢;have hR:=B6w hF;clear hT hv hlen;refine D4 (fun q:Nat × List UInt8=>[(3,.str q.2),(4,D9 L),(5,I64 q.1)]) (fun _=>nil)
   (fun q cc=>q.1<=L.length/\rfm L=q.2++rfm (L.drop q.1)) (fun q=>L.length-q.1) (0,[]) (by simp[C5,tm,Tm.upd]) (Sub.nil _) ⟨by simp,by simp⟩ ?_
  rintro⟨i,cur⟩ c ⟨hi,hI⟩;simp only at hi hI;simp only;by_cases hlt:i<L.length
  ·have hd:=dtz hlt;have hg:=A0B hlt;have hw:IntKind.i64.wrap ((i:Int)+1)=((i+1:Nat):Int):=by rw[w6z (by omega)];omega
   have hf:=hF _ (A0V hlt);rw[A1V hlt,rfm]at hI;obtain⟨t,ht⟩:∃ t,t=L[i]:=⟨_,rfl⟩;rw[<- ht]at hg hf hI;have hgm:(L.map Tok.v)[i]? = some t.v:=by rw[A1A,hg];rfl
   have ho:=c_OneR t hf;have hcl:cur.length+(H7 t).length+1<=maxLen:=by
    have h1:=congrArg List.length hI;simp only[A0A]at h1;have:maxLen=9223372036854775807:=rfl;omega
   have a0:binR .add (.str cur) (.str (H7 t))=some (.str (cur++H7 t)):=A3q (by omega);have a1:binR .add (.str (cur++H7 t)) (.str [10])=some (.str (cur++H7 t++[10])):=A3q (by simp;omega);have a2:binR .add (.str (cur++H7 t)) (.str [32])=some (.str (cur++H7 t++[32])):=A3q (by simp;omega);have key:∀ (z:List UInt8),(if A1p t=true then [10] else if L.drop (i+1)=[] then [] else [32])=z->rfm L=(cur++H7 t++z)++rfm (L.drop (i+1)):=fun z hz=>by rw[hI,hz];simp
   by_cases hnx:i+1<L.length
   ·have hd2:decide (((i+1:Nat):Int)<L.length)=true:=by simp;omega
    have hne:¬ L.drop (i+1)=[]:=by simp;omega
    rw[if_neg hne]at key;repeat' ((with_reducible first|refine wr ?_|refine cpc ho ?_|refine A1 ?_ ?_|refine wb2 ?_ ?_<;>(intro hb;try simp only[hb])|fail)<;>try simp only[go_sem,seval,hd,hgm,hw,a0,a1,a2,hd2])
    all_goals first
     |exact⟨(i+1,cur++H7 t++[10]),⟨rfl,rfl⟩,Sub.refl _,inv ⟨hlt,key [10] (by unfold A1p;simp_all)⟩,by simp only;omega⟩
     |exact⟨(i+1,cur++H7 t++[32]),⟨rfl,rfl⟩,Sub.refl _,inv ⟨hlt,key [32] (by unfold A1p;simp_all)⟩,by simp only;omega⟩
     |exact⟨(i+1,cur++H7 t),⟨rfl,rfl⟩,Sub.refl _,inv ⟨hlt,by have:=key [] (by unfold A1p;simp_all);simpa using this⟩,by simp only;omega⟩
   ·have hd2:decide (((i+1:Nat):Int)<L.length)=false:=by simp;omega
    have hne:L.drop (i+1)=[]:=by simp;omega
    rw[if_pos hne]at key;repeat' ((with_reducible first|refine wr ?_|refine cpc ho ?_|refine A1 ?_ ?_|refine wb2 ?_ ?_<;>(intro hb;try simp only[hb])|fail)<;>try simp only[go_sem,seval,hd,hgm,hw,a0,a1,a2,hd2])
    all_goals first
     |exact⟨(i+1,cur++H7 t++[10]),⟨rfl,rfl⟩,Sub.refl _,inv ⟨hlt,key [10] (by unfold A1p;simp_all)⟩,by simp only;omega⟩
     |exact⟨(i+1,cur++H7 t++[32]),⟨rfl,rfl⟩,Sub.refl _,inv ⟨hlt,key [32] (by unfold A1p;simp_all)⟩,by simp only;omega⟩
     |exact⟨(i+1,cur++H7 t),⟨rfl,rfl⟩,Sub.refl _,inv ⟨hlt,by have:=key [] (by unfold A1p;simp_all);simpa using this⟩,by simp only;omega⟩
  ·have hd:=dfz hlt;rw[A2D (by omega),rfm,A1H]at hI;repeat' ((with_reducible first|refine wr ?_|refine A1 ?_ ?_|refine wb2 ?_ ?_<;>(intro hb;try simp only[hb])|fail)<;>try simp only[go_sem,seval,hd])
   rw[hI];exact B3 rfl
end Go.Proofs.YtmmjlijdfhkdcaaGreatDoor
end
