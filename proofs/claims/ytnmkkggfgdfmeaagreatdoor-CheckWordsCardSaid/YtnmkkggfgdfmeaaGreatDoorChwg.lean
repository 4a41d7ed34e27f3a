/-
  HELPERS of the claim: part 7 of its texts.
-/
import Derived.Test.YtnmkkggfgdfmeaaGreatDoorProg
import Derived.KernelRfl
import Derived.Test.YtnmkkggfgdfmeaaGreatDoorChwf
noncomputable section
set_option maxHeartbeats 8000000
set_option maxRecDepth 100000
set_option linter.unusedSimpArgs false
set_option linter.unusedVariables false
namespace Go.Proofs.YtnmkkggfgdfmeaaGreatDoor
open Go.Eng (IC IOper DReg IFn A7)
open Go.Sym Go.Pb
theorem lw (x:List UInt8):(wT x).length=1:=rfl
theorem jn4 {a b c d:List Tok} {id cc:Nat} {H:Hp} (hH:H id=some ⟨1,true,[C9 a,C9 b,C9 c,C9 d]⟩) (ha:1<=a.length/\a.length<=1000000000) (hb:1<=b.length/\b.length<=1000000000) (hc:1<=c.length/\c.length<=1000000000) (hd:1<=d.length/\d.length<=1000000000) :
  AC Tryz.prog 131 [.slc id 0 4] H cc (fun v H' c'=>v=C9 (a++b++c++d)/\H'=H9 H (some id)/\c'=cc):=by
 have:=X9 (id:=id) (cc:=cc) (H:=H) (u:=1) (n:=4) (c_join1 [a,b,c,d] (by simp) (by simp [ha,hb,hc,hd])) hH rfl rfl (A2s [a,b,c,d])
 rwa [A1K,A1K,A1K,A1K,A3T,A1T, <- A0T, <- A0T] at this
theorem jn5 {a b c d e:List Tok} {id cc:Nat} {H:Hp} (hH:H id=some ⟨1,true,[C9 a,C9 b,C9 c,C9 d,C9 e]⟩) (ha:1<=a.length/\a.length<=1000000000) (hb:1<=b.length/\b.length<=1000000000) (hc:1<=c.length/\c.length<=1000000000) (hd:1<=d.length/\d.length<=1000000000) (he:1<=e.length/\e.length<=1000000000) :
  AC Tryz.prog 131 [.slc id 0 5] H cc (fun v H' c'=>v=C9 (a++b++c++d++e)/\H'=H9 H (some id)/\c'=cc):=by
 have:=X9 (id:=id) (cc:=cc) (H:=H) (u:=1) (n:=5) (c_join1 [a,b,c,d,e] (by simp) (by simp [ha,hb,hc,hd,he])) hH rfl rfl (A2s [a,b,c,d,e])
 rwa [A1K,A1K,A1K,A1K,A1K,A3T,A1T, <- A0T, <- A0T, <- A0T] at this
theorem B6t (l:List Ex) (i:Nat) (hl:Ex.szs l<=10000000):1<=(agT l i).length/\(agT l i).length<=100000000:=by
 unfold agT;cases h:l[i]? with
 | none=>exact ⟨A0I _,by decide⟩
 | some e =>
  have h1:=A1p e;have h2:=Ex.szs_mem (A0V h);dsimp only;omega
theorem c_arg (l:List Ex) (i:Nat) (hi:i<=5) (hl:Ex.szs l<=10000000):PC Tryz.prog 163 [H7 l,I64 i] (C9 (agT l i)):=by
 refine PC.of A9 isU163 (A0B rfl) (by simp [DV.nlL,DV.nl,W5]) (J5 _) ?_;unfold agT;show IW Tryz.prog 16 u163_1 ⟨B7 _,_,_⟩ (rt [.tmp 4] _);cases h:l[i]? with
 | none =>
  have hlt:l.length<=i:=List.getElem?_eq_none_iff.1 h;have hd:decide ((i:Int)≥(l.length:Int))=true:=by simp;omega
  repeat' ((with_reducible apply wr)<;>try simp only [go_sem,seval,hd,A0D])
  exact A1j
 | some e =>
  have hlt:=(A0K.1 h).1;have hd:decide ((i:Int)≥(l.length:Int))=false:=by simp;omega
  have he:=c_exprT (e.sz+1) e (by omega) (by have:=Ex.szs_mem (A0V h);omega);rw [Ex.v_w] at he;repeat' ((with_reducible first|apply wr|refine cpc he ?_|fail)<;>try simp only [go_sem,seval,hd,h,Ex.v_w,A0D])
  exact ⟨_,GL.refl _ _⟩
theorem B0a {c:Nat} {k v p:Int} {x:List UInt8}:∃ H2,GL (nil.upd c ⟨4,true,[I64 k,.str x,I64 v,I64 p]⟩) [.slc c 0 1] H2 [C9 [⟨k,x,v,p⟩]] :=
 L6 A0 rfl rfl (D8 _) ⟨[],rfl⟩
theorem c_text31 (s:List UInt8) (hs:s.length<=1000000000):PC Tryz.prog 164 [.str s] (C9 (A0b s)):=by
 refine PC.of A9 isU164 (A0B rfl) rfl (J5 _) ?_;unfold A0b;show IW Tryz.prog 30 u164_1 ⟨B7 _,_,_⟩ (rt [.tmp 2] _);repeat' ((with_reducible apply wr)<;>try simp only [go_sem,seval])
 refine B9 (fun k:Nat=>[(0,.str s),(3,I64 k)]) (fun _=>Sym.nil) (fun k c=>k<=s.length/\(s.take k).all txB=true) (fun k=>s.length-k) 0 (by simp [C1,tm,Tm.upd]) (Sub.nil _) ⟨A0N _,rfl⟩ ?_;rintro k c ⟨hk,ha⟩;by_cases hlt:k<s.length
 ·have hd:decide ((k:Int)<(s.length:Int))=true:=by simpa using hlt
  have hg:=A0C hlt;have hw:=w64 (n:=(k:Int)+1) (by omega) (by omega);have e0:(s.take (k+1)).all txB=((s.take k).all txB && txB s[k]):=by rw [A0X,hg,A3L];simp
  have e1:txB s[k]=false->s.all txB=false:=fun h=>by
   cases hz:s.all txB with
   | false=>rfl
   | true=>rw [A0R] at hz;rw [hz _ (A0M hlt)] at h;cases h
  generalize s[k]=x at hg e0 e1;by_cases h1:x.toNat<32
  ·have hd1:decide ((x.toNat:Int)<32)=true:=by simp;omega
   rw [if_pos (.inl (e1 (by simp [txB];omega)))];repeat' ((with_reducible apply wr)<;>try simp only [go_sem,seval,hd,hg,hw,hd1])
   exact B0a
  ·have hd1:decide ((x.toNat:Int)<32)=false:=by simp;omega
   by_cases h2:126<x.toNat
   ·have hd2:decide ((x.toNat:Int)>126)=true:=by simp;omega
    rw [if_pos (.inl (e1 (by simp [txB];omega)))];repeat' ((with_reducible apply wr)<;>try simp only [go_sem,seval,hd,hg,hw,hd1,hd2])
    exact B0a
   ·have hd2:decide ((x.toNat:Int)>126)=false:=by simp;omega
    have e2:txB x=true:=by simp [txB];omega
    repeat' ((with_reducible apply wr)<;>try simp only [go_sem,seval,hd,hg,hw,hd1,hd2])
    exact ⟨k+1,by simp [C1,tm,Tm.upd],Sub.nil _,inv ⟨by omega,by rw [e0,ha,e2];rfl⟩,by omega⟩
 ·have hd:decide ((k:Int)<(s.length:Int))=false:=by simpa using hlt
  rw [A0J (by omega)] at ha;by_cases h3:32<s.length
  ·have hd3:decide ((s.length:Int)>32)=true:=by simp;omega
   rw [if_pos (.inr h3)];repeat' ((with_reducible apply wr)<;>try simp only [go_sem,seval,hd,hd3])
   exact B0a
  ·have hd3:decide ((s.length:Int)>32)=false:=by simp;omega
   rw [if_neg (by rw [ha];simp;omega)];repeat' ((with_reducible apply wr)<;>try simp only [go_sem,seval,hd,hd3])
   exact B0a
theorem C3q (x:Pb.St):Pb.St.szs [x]=x.sz:=by rw [Pb.St.szs,Pb.St.szs];omega
theorem c_stmtT (m:Nat) (ihs:∀ x:Pb.St,x.sz<m->PC Tryz.prog 153 [x.v] (C9 (stT x))) (ihb:∀ l:List Pb.St,Pb.St.szs l<m->PC Tryz.prog 135 [F1 l] (C9 (blT l)))
  (hlb:∀ l:List Pb.St,Pb.St.szs l<m->1<=(blT l).length/\(blT l).length<=100000000) (hls:∀ x:Pb.St,x.sz<m->1<=(stT x).length/\(stT x).length<=100000000)
  (s:Pb.St) (hm:s.sz<=m) (hB:s.sz<=10000000):PC Tryz.prog 153 [s.v] (C9 (stT s)):=by
 obtain ⟨R,hR⟩:∃ R,R=C9 (stT s):=⟨_,rfl⟩;have hnm:=s.sz_name;have htx:=s.sz_text;have hax:Ex.szs s.args<=10000000:=by cases s with|mk k n t a x y p=>rw [Pb.St.sz] at hB;show Ex.szs a<=_;omega
 have hxx:=s.sz_thn;have hyy:=s.sz_els;refine PC.of A9 isU153 (A0B rfl) (by simp [DV.nlL,DV.nl,Pb.St.nl]) (J5 _) ?_;rw [Pb.St.v_w, <- hR];cases s with|mk k n t a x y p =>
 unfold stT at hR;dsimp only [Pb.St.w,Pb.St.kind,Pb.St.name,Pb.St.text,Pb.St.args,Pb.St.thn,Pb.St.els,Pb.St.pos] at hnm htx hax hxx hyy ⊢;have hna:=c_named n (by omega);have hte:=c_text31 t (by omega);have ha0:=c_arg a 0 (by decide) hax;have ha1:=c_arg a 1 (by decide) hax;have la0:=B6t a 0 hax;have la1:=B6t a 1 hax;rw [show ((0:Nat):Int)=0 from rfl] at ha0;rw [show ((1:Nat):Int)=1 from rfl] at ha1;have hbx:=ihb x (by omega);have hby:=ihb y (by omega);have lbx:=hlb x (by omega);have lby:=hlb y (by omega);show IW Tryz.prog 148 u153_1 ⟨B7 _,_,_⟩ (rt [.tmp 2] _);by_cases h1:k=1
 ·subst h1;rw [if_pos rfl] at hR;repeat' ((first|(with_reducible first|refine wr ?_|refine cpc hna ?_|refine cpc ha0 ?_)|(refine AC.call (wd1 rfl (by first|assumption|decide)) ?_<;>rintro _ _ _ ⟨rfl,rfl,rfl⟩ -)|(refine AC.call (jn2 rfl ?_ ?_) ?_<;>first|(constructor<;>(try simp only [A0A,lw,A3,B0,A8])<;>omega)|rintro _ _ _ ⟨rfl,rfl,rfl⟩ -)|(refine AC.call (jn3 rfl ?_ ?_ ?_) ?_<;>first|(constructor<;>(try simp only [A0A,lw,A3,B0,A8])<;>omega)|rintro _ _ _ ⟨rfl,rfl,rfl⟩ -)|(refine AC.call (jn4 rfl ?_ ?_ ?_ ?_) ?_<;>first|(constructor<;>(try simp only [A0A,lw,A3,B0,A8])<;>omega)|rintro _ _ _ ⟨rfl,rfl,rfl⟩ -)|(refine AC.call (jn5 rfl ?_ ?_ ?_ ?_ ?_) ?_<;>first|(constructor<;>(try simp only [A0A,lw,A3,B0,A8])<;>omega)|rintro _ _ _ ⟨rfl,rfl,rfl⟩ -)|fail)<;>try simp only [go_sem,seval])
  exact ⟨_,by rw [hR];exact GL.refl _ _⟩
 rw [if_neg h1] at hR;have d1:(k == 1)=false:=by simpa using h1
 by_cases hbk:k<2\/19<k
 ·rw [if_pos hbk] at hR;by_cases h2:k<2
  ·have d2:decide (k<2)=true:=by simpa using h2
   repeat' ((with_reducible apply wr)<;>try simp only [go_sem,seval,d1,d2])
   rw [hR];exact L6 (id:=1) A0 rfl rfl (D8 [Q3]) ⟨[],rfl⟩
  ·have d2:decide (k<2)=false:=by simpa using h2
   have d3:decide (k>19)=true:=by simp;omega
   repeat' ((with_reducible apply wr)<;>try simp only [go_sem,seval,d1,d2,d3])
   rw [hR];exact L6 (id:=1) A0 rfl rfl (D8 [Q3]) ⟨[],rfl⟩
 rw [if_neg hbk] at hR;have e2:decide (k<2)=false:=by simp;omega
 have e3:decide (k>19)=false:=by simp;omega
 dsimp only at hR;obtain ⟨j,hj⟩:∃ j:Nat,k=2+(j:Int):=⟨(k-2).toNat,by omega⟩;have hjw:IntKind.i64.wrap (k-2)=(j:Int):=by rw [w64 (by omega) (by omega)];omega
 have hjn:(k-2).toNat=j:=by omega
 rw [hjn] at hR;have hj18:j<18:=by omega
 have hgj:C3[j]? = some (C3.getD j []):=by
  rw [A1C,A0C (show j<C3.length from hj18)];rfl
 have hsl:(C3.getD j []).length<=1000000000:=by
  have:∀ i:Nat,i<18->(C3.getD i []).length<=1000000000:=by decide
  exact this j hj18
 generalize C3.getD j []=S at hR hgj hsl;have dk:∀ q:Int,¬ k=q->(k == q)=false:=fun q h=>by simpa using h
 repeat' ((first|(with_reducible first|refine G8 (p:=IW _ _ u153_11 _ _) ?_|refine wr ?_|refine cpc c_stmts31 ?_)|(refine AC.call (wd1 rfl (by first|assumption|decide)) ?_<;>rintro _ _ _ ⟨rfl,rfl,rfl⟩ -)|fail)<;>try simp only [go_sem,seval,d1,e2,e3,hjw,hgj])
 unfold A5n;by_cases h2:k=2\/k=3
 ·rw [if_pos h2] at hR;have dd:(k == 2)=true\/(k == 2)=false/\(k == 3)=true:=by
   rcases h2 with rfl|rfl
   ·exact .inl rfl
   ·exact .inr ⟨rfl,rfl⟩
  clear h2 hj hjn h1 hbk
  match y with
  | [] =>
   dsimp only at hR;rcases dd with d2|⟨d2,d3⟩
   ·repeat' ((first|(with_reducible first|refine wr ?_|refine cpc ha0 ?_|refine cpc hbx ?_)|(refine AC.call (wd1 rfl (by first|assumption|decide)) ?_<;>rintro _ _ _ ⟨rfl,rfl,rfl⟩ -)|(refine AC.call (jn2 rfl ?_ ?_) ?_<;>first|(constructor<;>(try simp only [A0A,lw,A3,B0,A8])<;>omega)|rintro _ _ _ ⟨rfl,rfl,rfl⟩ -)|(refine AC.call (jn3 rfl ?_ ?_ ?_) ?_<;>first|(constructor<;>(try simp only [A0A,lw,A3,B0,A8])<;>omega)|rintro _ _ _ ⟨rfl,rfl,rfl⟩ -)|(refine AC.call (jn4 rfl ?_ ?_ ?_ ?_) ?_<;>first|(constructor<;>(try simp only [A0A,lw,A3,B0,A8])<;>omega)|rintro _ _ _ ⟨rfl,rfl,rfl⟩ -)|(refine AC.call (jn5 rfl ?_ ?_ ?_ ?_ ?_) ?_<;>first|(constructor<;>(try simp only [A0A,lw,A3,B0,A8])<;>omega)|rintro _ _ _ ⟨rfl,rfl,rfl⟩ -)|fail)<;>try simp only [go_sem,seval,d2,List.map_nil,A0F])
    exact ⟨_,by rw [hR];exact GL.refl _ _⟩
   ·repeat' ((first|(with_reducible first|refine wr ?_|refine cpc ha0 ?_|refine cpc hbx ?_)|(refine AC.call (wd1 rfl (by first|assumption|decide)) ?_<;>rintro _ _ _ ⟨rfl,rfl,rfl⟩ -)|(refine AC.call (jn2 rfl ?_ ?_) ?_<;>first|(constructor<;>(try simp only [A0A,lw,A3,B0,A8])<;>omega)|rintro _ _ _ ⟨rfl,rfl,rfl⟩ -)|(refine AC.call (jn3 rfl ?_ ?_ ?_) ?_<;>first|(constructor<;>(try simp only [A0A,lw,A3,B0,A8])<;>omega)|rintro _ _ _ ⟨rfl,rfl,rfl⟩ -)|(refine AC.call (jn4 rfl ?_ ?_ ?_ ?_) ?_<;>first|(constructor<;>(try simp only [A0A,lw,A3,B0,A8])<;>omega)|rintro _ _ _ ⟨rfl,rfl,rfl⟩ -)|(refine AC.call (jn5 rfl ?_ ?_ ?_ ?_ ?_) ?_<;>first|(constructor<;>(try simp only [A0A,lw,A3,B0,A8])<;>omega)|rintro _ _ _ ⟨rfl,rfl,rfl⟩ -)|fail)<;>try simp only [go_sem,seval,d2,d3,List.map_nil,A0F])
    exact ⟨_,by rw [hR];exact GL.refl _ _⟩
  | [q] =>
   rw [C3q] at hyy;have hq:=ihs q (by omega);have lq:=hls q (by omega);rw [Pb.St.v_w] at hq;dsimp only at hR;have hone:blT [q]=wT [123]++stT q++wT [125]:=by unfold blT;rw [N4,N4,A1T];rfl
   have hby':=hby;rw [hone] at hby lby;by_cases hk2:q.kind=2
   ·rw [if_pos hk2] at hR;have m2:(q.kind == 2)=true:=by simpa using hk2
    rcases dd with d2|⟨d2,d3⟩
    ·repeat' ((first|(with_reducible first|refine wr ?_|refine cpc ha0 ?_|refine cpc hbx ?_|refine cpc hq ?_)|(refine AC.call (wd1 rfl (by first|assumption|decide)) ?_<;>rintro _ _ _ ⟨rfl,rfl,rfl⟩ -)|(refine AC.call (jn2 rfl ?_ ?_) ?_<;>first|(constructor<;>(try simp only [A0A,lw,A3,B0,A8])<;>omega)|rintro _ _ _ ⟨rfl,rfl,rfl⟩ -)|(refine AC.call (jn3 rfl ?_ ?_ ?_) ?_<;>first|(constructor<;>(try simp only [A0A,lw,A3,B0,A8])<;>omega)|rintro _ _ _ ⟨rfl,rfl,rfl⟩ -)|(refine AC.call (jn4 rfl ?_ ?_ ?_ ?_) ?_<;>first|(constructor<;>(try simp only [A0A,lw,A3,B0,A8])<;>omega)|rintro _ _ _ ⟨rfl,rfl,rfl⟩ -)|(refine AC.call (jn5 rfl ?_ ?_ ?_ ?_ ?_) ?_<;>first|(constructor<;>(try simp only [A0A,lw,A3,B0,A8])<;>omega)|rintro _ _ _ ⟨rfl,rfl,rfl⟩ -)|fail)<;>try simp only [go_sem,seval,d2,m2,Pb.St.v_w])
     exact ⟨_,by rw [hR];exact GL.refl _ _⟩
    ·repeat' ((first|(with_reducible first|refine wr ?_|refine cpc ha0 ?_|refine cpc hbx ?_|refine cpc hq ?_)|(refine AC.call (wd1 rfl (by first|assumption|decide)) ?_<;>rintro _ _ _ ⟨rfl,rfl,rfl⟩ -)|(refine AC.call (jn2 rfl ?_ ?_) ?_<;>first|(constructor<;>(try simp only [A0A,lw,A3,B0,A8])<;>omega)|rintro _ _ _ ⟨rfl,rfl,rfl⟩ -)|(refine AC.call (jn3 rfl ?_ ?_ ?_) ?_<;>first|(constructor<;>(try simp only [A0A,lw,A3,B0,A8])<;>omega)|rintro _ _ _ ⟨rfl,rfl,rfl⟩ -)|(refine AC.call (jn4 rfl ?_ ?_ ?_ ?_) ?_<;>first|(constructor<;>(try simp only [A0A,lw,A3,B0,A8])<;>omega)|rintro _ _ _ ⟨rfl,rfl,rfl⟩ -)|(refine AC.call (jn5 rfl ?_ ?_ ?_ ?_ ?_) ?_<;>first|(constructor<;>(try simp only [A0A,lw,A3,B0,A8])<;>omega)|rintro _ _ _ ⟨rfl,rfl,rfl⟩ -)|fail)<;>try simp only [go_sem,seval,d2,d3,m2,Pb.St.v_w])
     exact ⟨_,by rw [hR];exact GL.refl _ _⟩
   ·rw [if_neg hk2] at hR;have m2:(q.kind == 2)=false:=by simpa using hk2
    rcases dd with d2|⟨d2,d3⟩
    ·repeat' ((first|(with_reducible first|refine wr ?_|refine cpc ha0 ?_|refine cpc hbx ?_|refine cpc hby ?_)|(refine AC.call (wd1 rfl (by first|assumption|decide)) ?_<;>rintro _ _ _ ⟨rfl,rfl,rfl⟩ -)|(refine AC.call (jn2 rfl ?_ ?_) ?_<;>first|(constructor<;>(try simp only [A0A,lw,A3,B0,A8])<;>omega)|rintro _ _ _ ⟨rfl,rfl,rfl⟩ -)|(refine AC.call (jn3 rfl ?_ ?_ ?_) ?_<;>first|(constructor<;>(try simp only [A0A,lw,A3,B0,A8])<;>omega)|rintro _ _ _ ⟨rfl,rfl,rfl⟩ -)|(refine AC.call (jn4 rfl ?_ ?_ ?_ ?_) ?_<;>first|(constructor<;>(try simp only [A0A,lw,A3,B0,A8])<;>omega)|rintro _ _ _ ⟨rfl,rfl,rfl⟩ -)|(refine AC.call (jn5 rfl ?_ ?_ ?_ ?_ ?_) ?_<;>first|(constructor<;>(try simp only [A0A,lw,A3,B0,A8])<;>omega)|rintro _ _ _ ⟨rfl,rfl,rfl⟩ -)|fail)<;>try simp only [go_sem,seval,d2,m2,Pb.St.v_w])
     exact ⟨_,by rw [hR];exact GL.refl _ _⟩
    ·repeat' ((first|(with_reducible first|refine wr ?_|refine cpc ha0 ?_|refine cpc hbx ?_|refine cpc hby ?_)|(refine AC.call (wd1 rfl (by first|assumption|decide)) ?_<;>rintro _ _ _ ⟨rfl,rfl,rfl⟩ -)|(refine AC.call (jn2 rfl ?_ ?_) ?_<;>first|(constructor<;>(try simp only [A0A,lw,A3,B0,A8])<;>omega)|rintro _ _ _ ⟨rfl,rfl,rfl⟩ -)|(refine AC.call (jn3 rfl ?_ ?_ ?_) ?_<;>first|(constructor<;>(try simp only [A0A,lw,A3,B0,A8])<;>omega)|rintro _ _ _ ⟨rfl,rfl,rfl⟩ -)|(refine AC.call (jn4 rfl ?_ ?_ ?_ ?_) ?_<;>first|(constructor<;>(try simp only [A0A,lw,A3,B0,A8])<;>omega)|rintro _ _ _ ⟨rfl,rfl,rfl⟩ -)|(refine AC.call (jn5 rfl ?_ ?_ ?_ ?_ ?_) ?_<;>first|(constructor<;>(try simp only [A0A,lw,A3,B0,A8])<;>omega)|rintro _ _ _ ⟨rfl,rfl,rfl⟩ -)|fail)<;>try simp only [go_sem,seval,d2,d3,m2,Pb.St.v_w])
     exact ⟨_,by rw [hR];exact GL.refl _ _⟩
  | q :: q2 :: l =>
   dsimp only at hR;obtain ⟨A,hA⟩:∃ A,A=(q :: q2 :: l).map Pb.St.v:=⟨_,rfl⟩;have n1:((A.length:Int) == 1)=false:=by rw [hA];simp;omega
   have n2:decide ((A.length:Int)>0)=true:=by rw [hA];simp;omega
   have hex:F1 (q :: q2 :: l)=.lst A:=by rw [hA]
   rw [hex] at hby ⊢;rcases dd with d2|⟨d2,d3⟩
   ·repeat' ((first|(with_reducible first|refine wr ?_|refine cpc ha0 ?_|refine cpc hbx ?_|refine cpc hby ?_)|(refine AC.call (wd1 rfl (by first|assumption|decide)) ?_<;>rintro _ _ _ ⟨rfl,rfl,rfl⟩ -)|(refine AC.call (jn2 rfl ?_ ?_) ?_<;>first|(constructor<;>(try simp only [A0A,lw,A3,B0,A8])<;>omega)|rintro _ _ _ ⟨rfl,rfl,rfl⟩ -)|(refine AC.call (jn3 rfl ?_ ?_ ?_) ?_<;>first|(constructor<;>(try simp only [A0A,lw,A3,B0,A8])<;>omega)|rintro _ _ _ ⟨rfl,rfl,rfl⟩ -)|(refine AC.call (jn4 rfl ?_ ?_ ?_ ?_) ?_<;>first|(constructor<;>(try simp only [A0A,lw,A3,B0,A8])<;>omega)|rintro _ _ _ ⟨rfl,rfl,rfl⟩ -)|(refine AC.call (jn5 rfl ?_ ?_ ?_ ?_ ?_) ?_<;>first|(constructor<;>(try simp only [A0A,lw,A3,B0,A8])<;>omega)|rintro _ _ _ ⟨rfl,rfl,rfl⟩ -)|fail)<;>try simp only [go_sem,seval,d2,n1,n2])
    exact ⟨_,by rw [hR];exact GL.refl _ _⟩
   ·repeat' ((first|(with_reducible first|refine wr ?_|refine cpc ha0 ?_|refine cpc hbx ?_|refine cpc hby ?_)|(refine AC.call (wd1 rfl (by first|assumption|decide)) ?_<;>rintro _ _ _ ⟨rfl,rfl,rfl⟩ -)|(refine AC.call (jn2 rfl ?_ ?_) ?_<;>first|(constructor<;>(try simp only [A0A,lw,A3,B0,A8])<;>omega)|rintro _ _ _ ⟨rfl,rfl,rfl⟩ -)|(refine AC.call (jn3 rfl ?_ ?_ ?_) ?_<;>first|(constructor<;>(try simp only [A0A,lw,A3,B0,A8])<;>omega)|rintro _ _ _ ⟨rfl,rfl,rfl⟩ -)|(refine AC.call (jn4 rfl ?_ ?_ ?_ ?_) ?_<;>first|(constructor<;>(try simp only [A0A,lw,A3,B0,A8])<;>omega)|rintro _ _ _ ⟨rfl,rfl,rfl⟩ -)|(refine AC.call (jn5 rfl ?_ ?_ ?_ ?_ ?_) ?_<;>first|(constructor<;>(try simp only [A0A,lw,A3,B0,A8])<;>omega)|rintro _ _ _ ⟨rfl,rfl,rfl⟩ -)|fail)<;>try simp only [go_sem,seval,d2,d3,n1,n2])
    exact ⟨_,by rw [hR];exact GL.refl _ _⟩
 rw [if_neg h2] at hR;have d2:=dk 2 (fun h=>h2 (.inl h));have d3:=dk 3 (fun h=>h2 (.inr h));by_cases h4:k=4
 ·subst h4;rw [if_pos rfl] at hR;repeat' ((first|(with_reducible first|refine wr ?_|refine cpc ha0 ?_)|(refine AC.call (wd1 rfl (by first|assumption|decide)) ?_<;>rintro _ _ _ ⟨rfl,rfl,rfl⟩ -)|(refine AC.call (jn2 rfl ?_ ?_) ?_<;>first|(constructor<;>(try simp only [A0A,lw,A3,B0,A8])<;>omega)|rintro _ _ _ ⟨rfl,rfl,rfl⟩ -)|(refine AC.call (jn3 rfl ?_ ?_ ?_) ?_<;>first|(constructor<;>(try simp only [A0A,lw,A3,B0,A8])<;>omega)|rintro _ _ _ ⟨rfl,rfl,rfl⟩ -)|(refine AC.call (jn4 rfl ?_ ?_ ?_ ?_) ?_<;>first|(constructor<;>(try simp only [A0A,lw,A3,B0,A8])<;>omega)|rintro _ _ _ ⟨rfl,rfl,rfl⟩ -)|(refine AC.call (jn5 rfl ?_ ?_ ?_ ?_ ?_) ?_<;>first|(constructor<;>(try simp only [A0A,lw,A3,B0,A8])<;>omega)|rintro _ _ _ ⟨rfl,rfl,rfl⟩ -)|fail)<;>try simp only [go_sem,seval,d2,d3])
  exact ⟨_,by rw [hR];exact GL.refl _ _⟩
 rw [if_neg h4] at hR;have d4:=dk 4 h4;by_cases h18:k=18
 ·subst h18;rw [if_pos rfl] at hR;repeat' ((first|(with_reducible first|refine wr ?_|refine cpc ha0 ?_|refine cpc hte ?_)|(refine AC.call (wd1 rfl (by first|assumption|decide)) ?_<;>rintro _ _ _ ⟨rfl,rfl,rfl⟩ -)|(refine AC.call (jn2 rfl ?_ ?_) ?_<;>first|(constructor<;>(try simp only [A0A,lw,A3,B0,A8])<;>omega)|rintro _ _ _ ⟨rfl,rfl,rfl⟩ -)|(refine AC.call (jn3 rfl ?_ ?_ ?_) ?_<;>first|(constructor<;>(try simp only [A0A,lw,A3,B0,A8])<;>omega)|rintro _ _ _ ⟨rfl,rfl,rfl⟩ -)|(refine AC.call (jn4 rfl ?_ ?_ ?_ ?_) ?_<;>first|(constructor<;>(try simp only [A0A,lw,A3,B0,A8])<;>omega)|rintro _ _ _ ⟨rfl,rfl,rfl⟩ -)|(refine AC.call (jn5 rfl ?_ ?_ ?_ ?_ ?_) ?_<;>first|(constructor<;>(try simp only [A0A,lw,A3,B0,A8])<;>omega)|rintro _ _ _ ⟨rfl,rfl,rfl⟩ -)|fail)<;>try simp only [go_sem,seval,d2,d3,d4])
  exact ⟨_,by rw [hR];exact GL.refl _ _⟩
 rw [if_neg h18] at hR;have d18:=dk 18 h18;by_cases h8:k=8\/k=10
 ·rw [if_pos h8] at hR;rcases h8 with rfl|rfl
  ·repeat' ((first|(with_reducible first|refine wr ?_|refine cpc ha0 ?_|refine cpc hna ?_)|(refine AC.call (wd1 rfl (by first|assumption|decide)) ?_<;>rintro _ _ _ ⟨rfl,rfl,rfl⟩ -)|(refine AC.call (jn2 rfl ?_ ?_) ?_<;>first|(constructor<;>(try simp only [A0A,lw,A3,B0,A8])<;>omega)|rintro _ _ _ ⟨rfl,rfl,rfl⟩ -)|(refine AC.call (jn3 rfl ?_ ?_ ?_) ?_<;>first|(constructor<;>(try simp only [A0A,lw,A3,B0,A8])<;>omega)|rintro _ _ _ ⟨rfl,rfl,rfl⟩ -)|(refine AC.call (jn4 rfl ?_ ?_ ?_ ?_) ?_<;>first|(constructor<;>(try simp only [A0A,lw,A3,B0,A8])<;>omega)|rintro _ _ _ ⟨rfl,rfl,rfl⟩ -)|(refine AC.call (jn5 rfl ?_ ?_ ?_ ?_ ?_) ?_<;>first|(constructor<;>(try simp only [A0A,lw,A3,B0,A8])<;>omega)|rintro _ _ _ ⟨rfl,rfl,rfl⟩ -)|fail)<;>try simp only [go_sem,seval,d2,d3,d4,d18])
   exact ⟨_,by rw [hR];exact GL.refl _ _⟩
  ·repeat' ((first|(with_reducible first|refine wr ?_|refine cpc ha0 ?_|refine cpc hna ?_)|(refine AC.call (wd1 rfl (by first|assumption|decide)) ?_<;>rintro _ _ _ ⟨rfl,rfl,rfl⟩ -)|(refine AC.call (jn2 rfl ?_ ?_) ?_<;>first|(constructor<;>(try simp only [A0A,lw,A3,B0,A8])<;>omega)|rintro _ _ _ ⟨rfl,rfl,rfl⟩ -)|(refine AC.call (jn3 rfl ?_ ?_ ?_) ?_<;>first|(constructor<;>(try simp only [A0A,lw,A3,B0,A8])<;>omega)|rintro _ _ _ ⟨rfl,rfl,rfl⟩ -)|(refine AC.call (jn4 rfl ?_ ?_ ?_ ?_) ?_<;>first|(constructor<;>(try simp only [A0A,lw,A3,B0,A8])<;>omega)|rintro _ _ _ ⟨rfl,rfl,rfl⟩ -)|(refine AC.call (jn5 rfl ?_ ?_ ?_ ?_ ?_) ?_<;>first|(constructor<;>(try simp only [A0A,lw,A3,B0,A8])<;>omega)|rintro _ _ _ ⟨rfl,rfl,rfl⟩ -)|fail)<;>try simp only [go_sem,seval,d2,d3,d4,d18])
   exact ⟨_,by rw [hR];exact GL.refl _ _⟩
 rw [if_neg h8] at hR;have d8:=dk 8 (fun h=>h8 (.inl h));have d10:=dk 10 (fun h=>h8 (.inr h));by_cases h9:k=9
 ·subst h9;rw [if_pos rfl] at hR;repeat' ((first|(with_reducible first|refine wr ?_|refine cpc ha0 ?_|refine cpc ha1 ?_|refine cpc hna ?_)|(refine AC.call (wd1 rfl (by first|assumption|decide)) ?_<;>rintro _ _ _ ⟨rfl,rfl,rfl⟩ -)|(refine AC.call (jn2 rfl ?_ ?_) ?_<;>first|(constructor<;>(try simp only [A0A,lw,A3,B0,A8])<;>omega)|rintro _ _ _ ⟨rfl,rfl,rfl⟩ -)|(refine AC.call (jn3 rfl ?_ ?_ ?_) ?_<;>first|(constructor<;>(try simp only [A0A,lw,A3,B0,A8])<;>omega)|rintro _ _ _ ⟨rfl,rfl,rfl⟩ -)|(refine AC.call (jn4 rfl ?_ ?_ ?_ ?_) ?_<;>first|(constructor<;>(try simp only [A0A,lw,A3,B0,A8])<;>omega)|rintro _ _ _ ⟨rfl,rfl,rfl⟩ -)|(refine AC.call (jn5 rfl ?_ ?_ ?_ ?_ ?_) ?_<;>first|(constructor<;>(try simp only [A0A,lw,A3,B0,A8])<;>omega)|rintro _ _ _ ⟨rfl,rfl,rfl⟩ -)|fail)<;>try simp only [go_sem,seval,d2,d3,d4,d18,d8,d10])
  exact ⟨_,by rw [hR];exact GL.refl _ _⟩
 rw [if_neg h9] at hR;have d9:=dk 9 h9;by_cases h19:k=19
 ·subst h19;rw [if_pos rfl] at hR;repeat' ((first|(with_reducible first|refine wr ?_)|(refine AC.call (wd1 rfl (by first|assumption|decide)) ?_<;>rintro _ _ _ ⟨rfl,rfl,rfl⟩ -)|(refine AC.call (jn2 rfl ?_ ?_) ?_<;>first|(constructor<;>(try simp only [A0A,lw,A3,B0,A8])<;>omega)|rintro _ _ _ ⟨rfl,rfl,rfl⟩ -)|(refine AC.call (jn3 rfl ?_ ?_ ?_) ?_<;>first|(constructor<;>(try simp only [A0A,lw,A3,B0,A8])<;>omega)|rintro _ _ _ ⟨rfl,rfl,rfl⟩ -)|(refine AC.call (jn4 rfl ?_ ?_ ?_ ?_) ?_<;>first|(constructor<;>(try simp only [A0A,lw,A3,B0,A8])<;>omega)|rintro _ _ _ ⟨rfl,rfl,rfl⟩ -)|(refine AC.call (jn5 rfl ?_ ?_ ?_ ?_ ?_) ?_<;>first|(constructor<;>(try simp only [A0A,lw,A3,B0,A8])<;>omega)|rintro _ _ _ ⟨rfl,rfl,rfl⟩ -)|fail)<;>try simp only [go_sem,seval,d2,d3,d4,d18,d8,d10,d9])
  exact ⟨_,by rw [hR];exact GL.refl _ _⟩
 rw [if_neg h19] at hR;have d19:=dk 19 h19;repeat' ((first|(with_reducible first|refine wr ?_|refine cpc hna ?_)|(refine AC.call (wd1 rfl (by first|assumption|decide)) ?_<;>rintro _ _ _ ⟨rfl,rfl,rfl⟩ -)|(refine AC.call (jn2 rfl ?_ ?_) ?_<;>first|(constructor<;>(try simp only [A0A,lw,A3,B0,A8])<;>omega)|rintro _ _ _ ⟨rfl,rfl,rfl⟩ -)|(refine AC.call (jn3 rfl ?_ ?_ ?_) ?_<;>first|(constructor<;>(try simp only [A0A,lw,A3,B0,A8])<;>omega)|rintro _ _ _ ⟨rfl,rfl,rfl⟩ -)|(refine AC.call (jn4 rfl ?_ ?_ ?_ ?_) ?_<;>first|(constructor<;>(try simp only [A0A,lw,A3,B0,A8])<;>omega)|rintro _ _ _ ⟨rfl,rfl,rfl⟩ -)|(refine AC.call (jn5 rfl ?_ ?_ ?_ ?_ ?_) ?_<;>first|(constructor<;>(try simp only [A0A,lw,A3,B0,A8])<;>omega)|rintro _ _ _ ⟨rfl,rfl,rfl⟩ -)|fail)<;>try simp only [go_sem,seval,d2,d3,d4,d18,d8,d10,d9,d19])
 exact ⟨_,by rw [hR];exact GL.refl _ _⟩
theorem c_wordsO (x:List UInt8) (hx:x.length<=1000000000) (H:Hp) (cc:Nat):AC Tryz.prog 132 [A1y [x]] H cc (fun v H' c' => ∃ id,cc<=id/\id<c'/\v=.slc id 0 1/\H'=H.upd id ⟨4,true,(A5 x).v.cells⟩):=by
 refine AC.body A9 isU132 (A0B rfl) fun hfr=>?_;show IW Tryz.prog 34 u132_1 ⟨B7 _,_,_⟩ (rt [.tmp 2] _);have h1:=c_IsWordR x;have h2:=c_IsNameR x (by omega);repeat' ((with_reducible apply wr)<;>try simp only [go_sem,seval])
 refine B9 (fun q:Option Nat=>[(0,A1y [x]),(3,B3 q 1),(4,I64 (if q=none then 0 else 1))]) (fun q=>C0 H q ⟨4,true,(A5 x).v.cells⟩)
  (fun q c=>cc<=c/\(∀ i,q=some i->cc<=i/\i<c)) (fun q=>if q=none then 1 else 0) none
  (by simp [C1,tm,Tm.upd,B3]) (Sub.refl _) ⟨A0I _,(fun i hi=>by cases hi)⟩ ?_
 rintro o c ⟨hc,ho⟩;cases o with
 | none =>
  have hd:decide ((0:Int)<1)=true:=by decide
  have hw:IntKind.i64.wrap (0+1)=1:=by decide
  have hw':IntKind.i64.wrap 1=1:=by decide
  have hr0:∀ i:Nat,H (c+i)=none:=fun i=>hfr _ (by omega);have ne0:=L2 c (c+1) (by omega);cases hw1:G7 x with
  | true =>
   repeat' ((with_reducible first|apply wr|refine cpc h1 ?_|refine cpc h2 ?_|fail)<;>try simp only [go_sem,seval,hw1,ne0,A0,A1,hw,hw'])
   refine F3 (A3a (by decide) (by decide) (by decide)) ?_;simp only [go_sem,seval,ne0];repeat' ((with_reducible apply wr)<;>try simp only [go_sem,seval,hw,hw',ne0])
   refine ⟨some (c+1+1),by simp [C1,tm,Tm.upd,B3,hw,hw'],?_,inv ⟨by omega,(fun i hi=>by cases hi;omega)⟩,by simp⟩;intro j b hj;simp only [C0] at hj;by_cases e1:j=c+1+1
   ·subst e1;rw [A0] at hj ⊢;rw [<- hj];unfold A5;simp only [hw1,if_true,if_false,A1J]
   ·rw [A2 e1] at hj ⊢;have:j<cc:=Classical.byContradiction fun h=>by rw [hfr j (by omega)] at hj;cases hj
    rw [A2 (by omega),A2 (by omega)];exact hj
  | false =>
   cases hn1:D7 x with
   | true =>
    repeat' ((with_reducible first|apply wr|refine cpc h1 ?_|refine cpc h2 ?_|fail)<;>try simp only [go_sem,seval,hw1,hn1,ne0,A0,A1,hw,hw'])
    refine F3 (A3a (by decide) (by decide) (by decide)) ?_;simp only [go_sem,seval,ne0];repeat' ((with_reducible apply wr)<;>try simp only [go_sem,seval,hw,hw',ne0])
    refine ⟨some (c+1+1),by simp [C1,tm,Tm.upd,B3,hw,hw'],?_,inv ⟨by omega,(fun i hi=>by cases hi;omega)⟩,by simp⟩;intro j b hj;simp only [C0] at hj;by_cases e1:j=c+1+1
    ·subst e1;rw [A0] at hj ⊢;rw [<- hj];unfold A5;simp only [hw1,hn1,if_true,if_false,A1J]
    ·rw [A2 e1] at hj ⊢;have:j<cc:=Classical.byContradiction fun h=>by rw [hfr j (by omega)] at hj;cases hj
     rw [A2 (by omega),A2 (by omega)];exact hj
   | false =>
    repeat' ((with_reducible first|apply wr|refine cpc h1 ?_|refine cpc h2 ?_|fail)<;>try simp only [go_sem,seval,hw1,hn1,ne0,A0,A1,hw,hw'])
    refine F3 (A3a (by decide) (by decide) (by decide)) ?_;simp only [go_sem,seval,ne0];repeat' ((with_reducible apply wr)<;>try simp only [go_sem,seval,hw,hw',ne0])
    refine ⟨some (c+1+1),by simp [C1,tm,Tm.upd,B3,hw,hw'],?_,inv ⟨by omega,(fun i hi=>by cases hi;omega)⟩,by simp⟩;intro j b hj;simp only [C0] at hj;by_cases e1:j=c+1+1
    ·subst e1;rw [A0] at hj ⊢;rw [<- hj];unfold A5;simp only [hw1,hn1,if_true,if_false,A1J]
    ·rw [A2 e1] at hj ⊢;have:j<cc:=Classical.byContradiction fun h=>by rw [hfr j (by omega)] at hj;cases hj
     rw [A2 (by omega),A2 (by omega)];exact hj
 | some i =>
  have hd:decide ((1:Int)<1)=false:=by decide
  repeat' ((with_reducible apply wr)<;>try simp only [go_sem,seval,hd])
  exact ⟨_,_,GL.refl _ _,i,(ho i rfl).1,(ho i rfl).2,rfl,rfl⟩
theorem wd1O {x:List UInt8} {id cc:Nat} {H:Hp} (hb:H id=some ⟨1,true,[.str x]⟩) (hx:x.length<=1000000000) :
  AC Tryz.prog 132 [.slc id 0 1] H cc (fun v H' c' => ∃ i,cc<=i/\i<c'/\v=.slc i 0 1/\H'=(H9 H (some id)).upd i ⟨4,true,(A5 x).v.cells⟩) :=
 AC.ghost (GL.frzS (id:=id) hb rfl (fun j=>by
  by_cases e:j=id
  ·subst e;exact .inl (by rw [R2,if_pos rfl])
  ·exact .inr ⟨e,by rw [R2,if_neg e]⟩) (.cons _ _ _ _ (P1 (xs:=[.str x]) rfl (I4 [x]) ⟨[],rfl⟩) .nil)) (c_wordsO x hx _ cc)
theorem A6r:∀ l:List Pb.St,N4 l=(l.map stT).flatten
 | []=>rfl
 | e :: l=>by rw [N4,A6r l];rfl
theorem c_blockT (l:List Pb.St) (hl:l.length<=10000000) (hs:∀ x∈l,PC Tryz.prog 153 [x.v] (C9 (stT x))) (hx:∀ x∈l,1<=(stT x).length/\(stT x).length<=100000000) (hT:(blT l).length<=100000000):PC Tryz.prog 135 [F1 l] (C9 (blT l)):=by
 refine PC.of A9 isU135 (A0B rfl) (by simp [DV.nlL,DV.nl,O8]) (J5 _) ?_;obtain ⟨R,hR⟩:∃ R,R=C9 (blT l):=⟨_,rfl⟩;rw [<- hR];unfold blT at hR;rw [A6r] at hR;have hT':(l.map stT).flatten.length<=100000000:=by
  unfold blT at hT;rw [A6r] at hT;simp only [A0A,A0H] at hT;omega
 show IW Tryz.prog 24 u135_1 ⟨B7 _,_,_⟩ (rt [.tmp 2] _);repeat' ((with_reducible apply wr)<;>try simp only [go_sem,seval])
 refine AC.call (wd1O rfl (by decide)) ?_;rintro v H' c1 ⟨i,hi1,hi2,rfl,rfl⟩ -;simp only [go_sem,seval];repeat' ((with_reducible apply wr)<;>try simp only [go_sem,seval])
 obtain ⟨F,hF⟩:∃ F:Nat->List Tok, ∀ k,F k=wT [123]++((l.take k).map stT).flatten:=⟨_,fun _=>rfl⟩;have hF0:F 0=wT [123]:=by rw [hF];simp
 refine B9 (fun q:Nat × Nat=>[(0,F1 l),(3,.slc q.2 0 (F q.1).length),(4,I64 q.1)]) (fun q=>Sym.nil.upd q.2 ⟨4,true,A4 ((F q.1).map Tok.v)⟩)
  (fun q c=>q.1<=l.length/\q.2<c) (fun q=>l.length-q.1) (0,i)
  (by simp [C1,tm,Tm.upd,hF0,lw]) (by dsimp only;rw [hF0];exact Sub.refl _) ⟨A0N _,hi2⟩ ?_
 clear hi1 hi2;rintro ⟨k,i⟩ c ⟨hk,hi⟩;dsimp only at hk hi ⊢;by_cases hlt:k<l.length
 ·have hd:decide ((k:Int)<(l.length:Int))=true:=by simpa using hlt
  have hg:=A0C hlt;have hsx:=hs _ (A0M hlt);obtain ⟨hx1,hx2⟩:=hx _ (A0M hlt);have hw:=w64 (n:=(k:Int)+1) (by omega) (by omega);have e0:F (k+1)=F k++stT l[k]:=by rw [hF,hF,A0X,hg,A0W,List.flatten_append];simp
  have hle:((l.take k).map stT).flatten.length<=100000000:=by
   have h1:(l.map stT).flatten=((l.take k).map stT).flatten++((l.drop k).map stT).flatten:=by rw [<- List.flatten_append, <- A0W,A2V]
   rw [h1,A0A] at hT';omega
  have hle2:(F k).length<=200000000:=by rw [hF,A0A,lw];omega
  rw [Pb.St.v_w] at hsx;generalize l[k]=x at hg hx1 hx2 e0 hsx;generalize F k=y at hle2 e0 ⊢;have hln:(A4 (y.map Tok.v)).length=y.length * 4:=(C2 (u:=4) (D8 _)).trans (by simp);have hun:unit 4 ((stT x).map Tok.v)=true:=by unfold unit;rw [A0R];intro d hd;simp [D8 (stT x) d hd]
  repeat' ((with_reducible first|apply wr|refine cpc hsx ?_|fail)<;>try simp only [go_sem,seval,hd,hg,hw,Pb.St.v_w,N5 hun])
  refine F3 (V4 hln (by omega) (by omega)) ?_;simp only [go_sem,seval,hw];repeat' ((with_reducible apply wr)<;>try simp only [go_sem,seval,hw])
  refine ⟨(k+1,c),by simp [C1,tm,Tm.upd,e0],?_,inv ⟨by omega,by simp only;omega⟩,by simp only;omega⟩;dsimp only;rw [e0,A0W,C5];intro j b hj;by_cases e1:j=c
  ·subst e1;rw [A0] at hj ⊢;exact hj
  ·rw [A2 e1] at hj;cases hj
 ·have hd:decide ((k:Int)<(l.length:Int))=false:=by simpa using hlt
  rw [hF,A0J (by omega)];have hun:unit 4 ((wT [125]).map Tok.v)=true:=by unfold unit;rw [A0R];intro d hd;simp [D8 (wT [125]) d hd]
  have hle2:(wT [123]++(l.map stT).flatten).length<=200000000:=by rw [A0A,lw];omega
  have hR':R=C9 ((wT [123]++(l.map stT).flatten)++wT [125]):=hR;generalize wT [123]++(l.map stT).flatten=y at hle2 hR' ⊢;have hln:(A4 (y.map Tok.v)).length=y.length * 4:=(C2 (u:=4) (D8 _)).trans (by simp);have hnic:¬ i=c:=by omega
  have hlw:=lw [125];repeat' ((with_reducible apply wr)<;>try simp only [go_sem,seval,hd])
  refine AC.call (wd1 A0 (by decide)) ?_;rintro v H' c2 ⟨rfl,rfl,rfl⟩ -;simp only [go_sem,seval,hnic,N5 hun];repeat' ((with_reducible apply wr)<;>try simp only [go_sem,seval,hnic,N5 hun])
  refine F3 (V4 hln (by omega) (by omega)) ?_;simp only [go_sem,seval];repeat' ((with_reducible apply wr)<;>try simp only [go_sem,seval])
  rw [hR'];exact L6 (id:=c+1) A0 rfl (by simp) (D8 _) ⟨[],by rw [A0W,C5,A1T]⟩
theorem c_stT:∀ m:Nat,m<=5000000->(∀ x:Pb.St,x.sz<m->PC Tryz.prog 153 [x.v] (C9 (stT x)))/\(∀ l:List Pb.St,Pb.St.szs l<m->PC Tryz.prog 135 [F1 l] (C9 (blT l))):=by
 intro m
 induction m with
 | zero=>exact fun _=>⟨fun x h=>by omega,fun l h=>by omega⟩
 | succ m ih =>
  intro hm;obtain ⟨i1,i2⟩:=ih (by omega);have A:∀ x:Pb.St,x.sz<m+1->PC Tryz.prog 153 [x.v] (C9 (stT x)):=fun x hx =>
   c_stmtT m i1 i2 (fun l hl=>by have:=A6i l;omega) (fun y hy=>by have:=A5w y;omega) x (by omega) (by omega)
  refine ⟨A,fun l hl=>?_⟩;have h1:=Pb.St.szs_len l;have h2:=A6i l;exact c_blockT l (by omega) (fun x hx=>A x (by have:=Pb.St.szs_mem hx;omega)) (fun x hx=>by have:=A5w x;have:=Pb.St.szs_mem hx;omega) (by omega)
theorem c_blkT (l:List Pb.St) (h:Pb.St.szs l<5000000):PC Tryz.prog 135 [F1 l] (C9 (blT l)):=(c_stT 5000000 (A0I _)).2 l h
theorem C3s {X H1:Hp} {o:Option Nat} {c n0:Nat} {b b3 b3':Blk} (hX:∀ j q,X j=some q->j<c) (ho:∀ i,o=some i->X i=none) (hH:∀ j,j<c->H1 j=C0 X o b j) (hn:c<=n0) (hb:b3=b3') :
  Sym.Sub (C0 X (some n0) b3) ((H9 H1 o).upd n0 b3'):=by
 subst hb;intro j q hj;simp only [C0] at hj;by_cases e:j=n0
 ·subst e;rw [A0] at hj ⊢;exact hj
 ·rw [A2 e] at hj ⊢;have h1:=hX j q hj;have h2:∀ i,o=some i->¬ j=i:=fun i hi e2=>by rw [e2,ho i hi] at hj;cases hj
  rw [E9 h2,hH j h1,C7 h2];exact hj
theorem A7o {H:Hp} {i:Nat} (h:H i=none):H9 H (some i)=H:=by
 funext j;rw [R2];split
 ·rename_i e;rw [e,h]
 ·rfl
theorem B1x {X:Hp} {o:Option Nat} {xs:List DV} {u n:Nat} (hno:o=none->xs=[]) (hl:xs.length=n) (hu:∀ x∈xs,x.cells.length=u) :
  ∃ H2,GL (C0 X o ⟨u,true,A4 xs⟩) [B3 o n] H2 [.lst xs]:=by
 cases o with
 | none=>rw [hno rfl];exact B0b
 | some i=>exact L6 (id:=i) A0 rfl hl hu ⟨[],by simp⟩
def wT2 (x y:List UInt8):List Tok:=[A5 x,A5 y]
theorem wd2' {x y:List UInt8} {id cc:Nat} {H:Hp} (hb:H id=some ⟨1,true,[.str x,.str y]⟩) (hx:x.length<=1000000000) (hy:y.length<=1000000000) :
  AC Tryz.prog 132 [.slc id 0 2] H cc (fun v H' c'=>v=C9 (wT2 x y)/\H'=H9 H (some id)/\c'=cc):=wd2 hb hx hy
theorem B0r {X:Hp} {i j:Nat} (h:¬ j=i):(X.del i) j=X j:=by rw [show X.del i=H9 X (some i) from rfl,R2,if_neg h]
theorem A2t (l:List Tok):unit 4 (l.map Tok.v)=true:=by unfold unit;rw [A0R];intro d hd;simp [D8 l d hd]
theorem O5 (l:List Tok):(A4 (l.map Tok.v)).length=l.length * 4:=(C2 (u:=4) (D8 _)).trans (by simp)
theorem c_declT (d:Dc) (hn:d.name.length<=1000000000):PC Tryz.prog 130 [d.v] (C9 (dcT d)):=by
 refine PC.of A9 isU130 (A0B rfl) rfl (J5 _) ?_;obtain ⟨R,hR⟩:∃ R,R=C9 (dcT d):=⟨_,rfl⟩;rw [<- hR];obtain ⟨k,n,v,p⟩:=d;unfold dcT at hR;dsimp only at hR hn ⊢;have hna:=c_named n hn;have hnu:=c_number31 v;have hnn:=c_number31 (-v);show IW Tryz.prog 65 u130_1 ⟨B7 _,_,_⟩ (rt [.tmp 2] _);by_cases hbk:k<1\/8<k
 ·rw [if_pos hbk] at hR;by_cases h2:k<1
  ·have d2:decide (k<1)=true:=by simpa using h2
   repeat' ((with_reducible apply wr)<;>try simp only [go_sem,seval,d2])
   rw [hR];exact L6 (id:=1) A0 rfl rfl (D8 [Q3]) ⟨[],rfl⟩
  ·have d2:decide (k<1)=false:=by simp;omega
   have d3:decide (k>8)=true:=by simp;omega
   repeat' ((with_reducible apply wr)<;>try simp only [go_sem,seval,d2,d3])
   rw [hR];exact L6 (id:=1) A0 rfl rfl (D8 [Q3]) ⟨[],rfl⟩
 rw [if_neg hbk] at hR;have e2:decide (k<1)=false:=by simp;omega
 have e3:decide (k>8)=false:=by simp;omega
 try dsimp only at hR
 obtain ⟨j,hj⟩:∃ j:Nat,k=1+(j:Int):=⟨(k-1).toNat,by omega⟩;have hjw:IntKind.i64.wrap (k-1)=(j:Int):=by rw [w64 (by omega) (by omega)];omega
 have hjn:(k-1).toNat=j:=by omega
 rw [hjn] at hR;have hj8:j<8:=by omega
 have hgj:E1[j]? = some (E1.getD j []):=by
  rw [A1C,A0C (show j<E1.length from hj8)];rfl
 have hsl:(E1.getD j []).length<=1000000000:=by
  have:∀ i:Nat,i<8->(E1.getD i []).length<=1000000000:=by decide
  exact this j hj8
 generalize E1.getD j []=S at hR hgj hsl;by_cases h6:6<k
 ·have d6:decide (k>6)=true:=by simpa using h6
  rw [if_pos h6] at hR;repeat' ((first|(with_reducible first|refine wr ?_|refine cpc c_decls31 ?_|refine cpc hna ?_)|(refine AC.call (wd1 rfl (by first|assumption|decide)) ?_<;>rintro _ _ _ ⟨rfl,rfl,rfl⟩ -)|(refine AC.call (jn2 rfl ?_ ?_) ?_<;>first|(constructor<;>(try simp only [A0A,lw,A3,B0,A8])<;>omega)|rintro _ _ _ ⟨rfl,rfl,rfl⟩ -)|(refine AC.call (jn3 rfl ?_ ?_ ?_) ?_<;>first|(constructor<;>(try simp only [A0A,lw,A3,B0,A8])<;>omega)|rintro _ _ _ ⟨rfl,rfl,rfl⟩ -)|fail)<;>try simp only [go_sem,seval,e2,e3,hjw,hgj,d6])
  exact ⟨_,by rw [hR];exact GL.refl _ _⟩
 rw [if_neg h6] at hR;have d6:decide (k>6)=false:=by simp;omega
 by_cases hm:v<0 /\ -2147483647<=v/\k=6
 ·obtain ⟨m1,m2,hk6⟩:=hm;have x3:(k == 6)=true:=by simpa using hk6
  have x1:decide (v<0)=true:=by simpa using m1
  have x2:decide (v ≥ -2147483647)=true:=by simpa using m2
  have hng:IntKind.i64.wrap (0-v) = -v:=by rw [w64 (by omega) (by omega)];omega
  rw [if_pos ⟨m1,m2,hk6⟩] at hR;repeat' ((first|(with_reducible first|refine wr ?_|refine cpc c_decls31 ?_|refine cpc hna ?_|refine cpc hnn ?_)|(refine AC.call (wd1 rfl (by first|assumption|decide)) ?_<;>rintro _ _ _ ⟨rfl,rfl,rfl⟩ -)|(refine AC.call (jn2 rfl ?_ ?_) ?_<;>first|(constructor<;>(try simp only [A0A,lw,A3,B0,A8])<;>omega)|rintro _ _ _ ⟨rfl,rfl,rfl⟩ -)|(refine AC.call (jn3 rfl ?_ ?_ ?_) ?_<;>first|(constructor<;>(try simp only [A0A,lw,A3,B0,A8])<;>omega)|rintro _ _ _ ⟨rfl,rfl,rfl⟩ -)|fail)<;>try simp only [go_sem,seval,e2,e3,hjw,hgj,d6,x1,x2,x3,hng])
  exact ⟨_,by rw [hR];exact GL.refl _ _⟩
 rw [if_neg hm] at hR;by_cases m1:v<0
 ·have x1:decide (v<0)=true:=by simpa using m1
  by_cases m2 : -2147483647<=v
  ·have x2:decide (v ≥ -2147483647)=true:=by simpa using m2
   have x3:(k == 6)=false:=by simp;omega
   repeat' ((first|(with_reducible first|refine wr ?_|refine cpc c_decls31 ?_|refine cpc hna ?_|refine cpc hnu ?_)|(refine AC.call (wd1 rfl (by first|assumption|decide)) ?_<;>rintro _ _ _ ⟨rfl,rfl,rfl⟩ -)|(refine AC.call (jn2 rfl ?_ ?_) ?_<;>first|(constructor<;>(try simp only [A0A,lw,A3,B0,A8])<;>omega)|rintro _ _ _ ⟨rfl,rfl,rfl⟩ -)|(refine AC.call (jn3 rfl ?_ ?_ ?_) ?_<;>first|(constructor<;>(try simp only [A0A,lw,A3,B0,A8])<;>omega)|rintro _ _ _ ⟨rfl,rfl,rfl⟩ -)|fail)<;>try simp only [go_sem,seval,e2,e3,hjw,hgj,d6,x1,x2,x3])
   exact ⟨_,by rw [hR];exact GL.refl _ _⟩
  ·have x2:decide (v ≥ -2147483647)=false:=by simp;omega
   repeat' ((first|(with_reducible first|refine wr ?_|refine cpc c_decls31 ?_|refine cpc hna ?_|refine cpc hnu ?_)|(refine AC.call (wd1 rfl (by first|assumption|decide)) ?_<;>rintro _ _ _ ⟨rfl,rfl,rfl⟩ -)|(refine AC.call (jn2 rfl ?_ ?_) ?_<;>first|(constructor<;>(try simp only [A0A,lw,A3,B0,A8])<;>omega)|rintro _ _ _ ⟨rfl,rfl,rfl⟩ -)|(refine AC.call (jn3 rfl ?_ ?_ ?_) ?_<;>first|(constructor<;>(try simp only [A0A,lw,A3,B0,A8])<;>omega)|rintro _ _ _ ⟨rfl,rfl,rfl⟩ -)|fail)<;>try simp only [go_sem,seval,e2,e3,hjw,hgj,d6,x1,x2])
   exact ⟨_,by rw [hR];exact GL.refl _ _⟩
 ·have x1:decide (v<0)=false:=by simp;omega
  repeat' ((first|(with_reducible first|refine wr ?_|refine cpc c_decls31 ?_|refine cpc hna ?_|refine cpc hnu ?_)|(refine AC.call (wd1 rfl (by first|assumption|decide)) ?_<;>rintro _ _ _ ⟨rfl,rfl,rfl⟩ -)|(refine AC.call (jn2 rfl ?_ ?_) ?_<;>first|(constructor<;>(try simp only [A0A,lw,A3,B0,A8])<;>omega)|rintro _ _ _ ⟨rfl,rfl,rfl⟩ -)|(refine AC.call (jn3 rfl ?_ ?_ ?_) ?_<;>first|(constructor<;>(try simp only [A0A,lw,A3,B0,A8])<;>omega)|rintro _ _ _ ⟨rfl,rfl,rfl⟩ -)|fail)<;>try simp only [go_sem,seval,e2,e3,hjw,hgj,d6,x1])
  exact ⟨_,by rw [hR];exact GL.refl _ _⟩
theorem c_rulesT (r:Ru) (hB:r.sz<4000000) (hT:(r.decls.flatMap dcT++r.modes.flatMap mdT).length<=100000000):PC Tryz.prog 98 [r.v] (C9 (ruT r)):=by
 refine PC.of A9 isU98 (A0B rfl) (by simp [DV.nlL,DV.nl,G6,G5]) (J5 _) ?_;obtain ⟨R,hR⟩:∃ R,R=C9 (ruT r):=⟨_,rfl⟩;rw [<- hR];obtain ⟨D,M⟩:=r;dsimp only at hT;unfold ruT at hR;dsimp only [Ru.v] at hR ⊢;have hDs:(D.map Dc.sz).sum+(M.map Md.sz).sum<4000000:=hB;have hDl:D.length<=(D.map Dc.sz).sum:=G9 fun x _=>by show 1<=1+_;omega
 have hMl:M.length<=(M.map Md.sz).sum:=G9 fun x _=>by show 1<=1+_+_;omega
 show IW Tryz.prog 100 u98_1 ⟨B7 _,_,_⟩ (rt [.tmp 2] _);repeat' ((with_reducible apply wr)<;>try simp only [go_sem,seval])
 obtain ⟨F,hF⟩:∃ F:Nat->List Tok, ∀ k,F k=(D.take k).flatMap dcT:=⟨_,fun _=>rfl⟩;have hF0:F 0=[]:=by rw [hF];rfl
 have hFl:∀ k,(F k).length<=100000000:=fun k=>by
  have h1:D.flatMap dcT=F k++(D.drop k).flatMap dcT:=by rw [hF, <- A2S,A2V]
  rw [h1] at hT;simp only [A0A] at hT;omega
 refine B9 (fun q:Nat × Option Nat=>[(1,.ptr 0 0),(3,B3 q.2 (F q.1).length),(4,I64 q.1)]) (fun q=>C0 (Sym.nil.upd 0 ⟨0,true,[D4 D,E0 M]⟩) q.2 ⟨4,true,A4 ((F q.1).map Tok.v)⟩)
  (fun q c=>1<=c/\q.1<=D.length/\(q.2=none->F q.1=[])/\(∀ i,q.2=some i->1<=i/\i<c)) (fun q=>D.length-q.1) (0,none)
  (by simp [C1,tm,Tm.upd,B3]) (Sub.refl _) ⟨by omega,A0N _,fun _=>hF0,(fun i hi=>by cases hi)⟩ ?_
 rintro ⟨k,o⟩ c ⟨hc,hk,hno,ho⟩;dsimp only at hc hk hno ho ⊢;have hbx:C0 (Sym.nil.upd 0 ⟨0,true,[D4 D,E0 M]⟩) o ⟨4,true,A4 ((F k).map Tok.v)⟩ 0=some ⟨0,true,[D4 D,E0 M]⟩:=by rw [C7 (fun i hi=>by have:=ho i hi;omega),A0]
 by_cases hlt:k<D.length
 ·have hd:decide ((k:Int)<(D.length:Int))=true:=by simpa using hlt
  have hg:=A0C hlt;have hsz:=I3 (f:=Dc.sz) (A0M hlt);have hdt:=c_declT D[k] (by have h5:D[k].name.length<Dc.sz D[k]:=(by unfold Dc.sz;omega);omega);have hdl:=B6p D[k];have hw:=w64 (n:=(k:Int)+1) (by omega) (by omega);have e0:F (k+1)=F k++dcT D[k]:=by rw [hF,hF,A0X,hg,A2S];simp
  have hFk:=hFl k;generalize D[k]=x at hg hdt hdl e0;have hun:unit 4 ((dcT x).map Tok.v)=true:=by unfold unit;rw [A0R];intro d hd;simp [D8 (dcT x) d hd]
  have hln:(A4 ((F k).map Tok.v)).length=(F k).length * 4:=(C2 (u:=4) (D8 _)).trans (by simp);repeat' ((with_reducible first|apply wr|refine cpc hdt ?_|fail)<;>try simp only [go_sem,seval,hd,hg,hw,hbx,N5 hun])
  refine F3 (F0 (cs:=A4 ((F k).map Tok.v)) (fun e=>by rw [hno e];exact ⟨rfl,rfl⟩) (fun i hi=>A0p hi) hln (by omega) (by omega) (by omega)) ?_;simp only [go_sem,seval,hw];repeat' ((with_reducible apply wr)<;>try simp only [go_sem,seval,hw])
  refine ⟨(k+1,some c),by simp [C1,tm,Tm.upd,B3,e0],?_,inv ⟨by omega,by omega,(fun h=>by cases h),(fun i hi=>by cases hi;omega)⟩,by simp only;omega⟩;dsimp only;refine C3s (n0:=c) (c:=c) (fun j q hq=>?_) (fun i hi=>?_) (fun j hj=>rfl) (A0I _) (by rw [e0,A0W,C5])
  ·by_cases e:j=0
   ·omega
   ·rw [A2 e] at hq;cases hq
  ·have:=ho i hi;rw [A2 (by omega)];rfl
 ·have hd:decide ((k:Int)<(D.length:Int))=false:=by simpa using hlt
  repeat' ((with_reducible apply wr)<;>try simp only [go_sem,seval,hd,hbx])
  have hFD:F k=D.flatMap dcT:=by rw [hF,A0J (by omega)]
  have hc0:=hc;obtain ⟨G,hG⟩:∃ G:Nat->List Tok, ∀ k,G k=D.flatMap dcT++(M.take k).flatMap mdT:=⟨_,fun _=>rfl⟩;have hG0:G 0=F k:=by rw [hG,hFD];simp
  have hGl:∀ k,(G k).length<=100000000:=fun k=>by
   have h1:M.flatMap mdT=(M.take k).flatMap mdT++(M.drop k).flatMap mdT:=by rw [<- A2S,A2V]
   rw [h1] at hT;rw [hG];simp only [A0A] at hT ⊢;omega
  refine B9 (fun q:Nat × Option Nat=>[(1,.ptr 0 0),(3,B3 q.2 (G q.1).length),(5,I64 q.1)]) (fun q=>C0 (Sym.nil.upd 0 ⟨0,true,[D4 D,E0 M]⟩) q.2 ⟨4,true,A4 ((G q.1).map Tok.v)⟩)
   (fun q c=>1<=c/\q.1<=M.length/\(q.2=none->G q.1=[])/\(∀ i,q.2=some i->1<=i/\i<c)/\((M.take q.1).any fun m=>m.hds.any S6)=false) (fun q=>M.length-q.1) (0,o)
   (by simp [C1,tm,Tm.upd,hG0]) (by dsimp only;rw [hG0];exact Sub.refl _) ⟨hc,A0N _,(by dsimp only;rw [hG0];exact hno),ho,rfl⟩ ?_
  clear hbx hno ho hG0 hFD hFl hF0 hF hc hc0 hlt hd hk;rintro ⟨k,o⟩ c ⟨hc,hk,hno,ho,hbad⟩;dsimp only at hc hk hno ho hbad ⊢;have hbx:C0 (Sym.nil.upd 0 ⟨0,true,[D4 D,E0 M]⟩) o ⟨4,true,A4 ((G k).map Tok.v)⟩ 0=some ⟨0,true,[D4 D,E0 M]⟩:=by rw [C7 (fun i hi=>by have:=ho i hi;omega),A0]
  by_cases hlt:k<M.length
  ·have hd:decide ((k:Int)<(M.length:Int))=true:=by simpa using hlt
   have hg:=A0C hlt;have hsz:=I3 (f:=Md.sz) (A0M hlt);have hw:=w64 (n:=(k:Int)+1) (by omega) (by omega);have e0:G (k+1)=G k++mdT M[k]:=by rw [hG,hG,A0X,hg,A2S];simp
   have b0:((M.take (k+1)).any fun m=>m.hds.any S6)=(M[k].hds.any S6):=by rw [A0X,hg,List.any_append,hbad];simp
   have b1:(M[k].hds.any S6)=true->R=C9 [Q3]:=fun h=>by rw [hR,if_pos (List.any_eq_true.2 ⟨_,A0M hlt,h⟩)]
   have hGk:=hGl k;have hGk1:=hGl (k+1);generalize M[k]=m at hg hsz e0 b0 b1;have hln:(A4 ((G k).map Tok.v)).length=(G k).length * 4:=(C2 (u:=4) (D8 _)).trans (by simp);have hnl:m.name.length<=1000000000:=by
    have h5:m.name.length<Md.sz m:=by unfold Md.sz;omega
    omega
   have hna:=c_named m.name hnl;have hnu:=c_number31 m.prio;have hbo:∀ i:Nat,o=some i->C0 (Sym.nil.upd 0 ⟨0,true,[D4 D,E0 M]⟩) o ⟨4,true,A4 ((G k).map Tok.v)⟩ i=some ⟨4,true,A4 ((G k).map Tok.v)⟩:=fun i hi=>by subst hi;exact A0
   have hbn:∀ j:Nat,c<=j->C0 (Sym.nil.upd 0 ⟨0,true,[D4 D,E0 M]⟩) o ⟨4,true,A4 ((G k).map Tok.v)⟩ j=none:=fun j hj=>by rw [C7 (fun i hi=>by have:=ho i hi;omega),A2 (by omega)];rfl
   generalize hHH:C0 (Sym.nil.upd 0 ⟨0,true,[D4 D,E0 M]⟩) o ⟨4,true,A4 ((G k).map Tok.v)⟩=HH at hbx hbo hbn ⊢;have ne0:=A0q 0 c (c+1+1) (c+1+9) (c+1+11) (by omega);have hd1:H9 HH (some (c+1+1))=HH:=A7o (hbn _ (by omega));have hd2:H9 HH (some (c+1+9))=HH:=A7o (hbn _ (by omega));have hd3:H9 HH (some (c+1+11))=HH:=A7o (hbn _ (by omega));repeat' ((with_reducible first|apply wr|refine cpc hna ?_|refine cpc hnu ?_|fail)<;>try simp only [go_sem,seval,hd,hg,hw,hbx,ne0,A0,A1])
   refine AC.call (wd1 (x:=[109,111,100,101]) (by simp [L3,Hp.upd]) (by decide)) ?_;rintro v H' c2 ⟨rfl,rfl,rfl⟩ -;simp only [go_sem,seval,ne0,A0,A1,hd1,hd2,hd3];repeat' ((with_reducible first|apply wr|refine cpc hna ?_|refine cpc hnu ?_|fail)<;>try simp only [go_sem,seval,ne0,A0,A1,hd1,hd2,hd3])
   refine ⟨by and_intros<;>(repeat rw [A2 (by omega)])<;>exact hbn _ (by omega),?_⟩;repeat' ((with_reducible first|apply wr|refine cpc hna ?_|refine cpc hnu ?_|fail)<;>try simp only [go_sem,seval,ne0,A0,A1,hd1,hd2,hd3])
   refine ⟨by and_intros<;>(repeat rw [A2 (by omega)])<;>exact hbn _ (by omega),?_⟩;repeat' ((with_reducible first|apply wr|refine cpc hna ?_|refine cpc hnu ?_|fail)<;>try simp only [go_sem,seval,ne0,A0,A1,hd1,hd2,hd3])
   refine ⟨by and_intros<;>(repeat rw [A2 (by omega)])<;>exact hbn _ (by omega),?_⟩;repeat' ((with_reducible first|apply wr|refine cpc hna ?_|refine cpc hnu ?_|fail)<;>try simp only [go_sem,seval,ne0,A0,A1,hd1,hd2,hd3])
   refine AC.call (wd1 (x:=[123]) (by simp [L3,Hp.upd]) (by decide)) ?_;rintro v H' c2 ⟨rfl,rfl,rfl⟩ -;simp only [go_sem,seval,ne0,A0,A1,hd1,hd2,hd3];refine ⟨by and_intros<;>(repeat rw [A2 (by omega)])<;>exact hbn _ (by omega),?_⟩;repeat' ((with_reducible first|apply wr|refine cpc hna ?_|refine cpc hnu ?_|fail)<;>try simp only [go_sem,seval,ne0,A0,A1,hd1,hd2,hd3])
   refine AC.call (jn4 A0 (by constructor<;>(try simp only [A0A,lw,A3,B0,A8])<;>omega) (by constructor<;>(try simp only [A0A,lw,A3,B0,A8])<;>omega) (by constructor<;>(try simp only [A0A,lw,A3,B0,A8])<;>omega) (by constructor<;>(try simp only [A0A,lw,A3,B0,A8])<;>omega)) ?_;rintro v H' c2 ⟨rfl,rfl,rfl⟩ -;have hun4:unit 4 ((wT [109,111,100,101]++D1 m.name++S1 m.prio++wT [123]).map Tok.v)=true:=by unfold unit;rw [A0R];intro d hd;simp [D8 _ d hd]
   have hl4:(wT [109,111,100,101]++D1 m.name++S1 m.prio++wT [123]).length=4:=by simp only [A0A,lw,A3,B0]
   have hsrc:T4 (HH.upd c ⟨0,true,[.str m.name,I64 m.prio,S5 m.hds,I64 m.pos]⟩) 4 (C9 (wT [109,111,100,101]++D1 m.name++S1 m.prio++wT [123]))=some (4,A4 ((wT [109,111,100,101]++D1 m.name++S1 m.prio++wT [123]).map Tok.v)):=by
    rw [N5 hun4,A0D,hl4]
   obtain ⟨Q,hQ⟩:∃ Q,Q=wT [109,111,100,101]++D1 m.name++S1 m.prio++wT [123]:=⟨_,rfl⟩;rw [<- hQ] at hsrc ⊢;simp only [go_sem,seval,ne0,A0,A1,hd1,hd2,hd3,hsrc];repeat' ((with_reducible first|apply wr|refine cpc hna ?_|refine cpc hnu ?_|fail)<;>try simp only [go_sem,seval,ne0,A0,A1,hd1,hd2,hd3,hsrc])
   refine ⟨by rw [A2 (by omega)];exact hbn _ (by omega),?_⟩;rw [F0 (cs:=A4 ((G k).map Tok.v)) (fun e=>by rw [hno e];exact ⟨rfl,rfl⟩) (fun i hi=>by have:=ho i hi;rw [A2 (by omega)];exact hbo i hi) hln (by omega) (by omega) (by omega)];simp only [go_sem,seval,ne0];repeat' ((with_reducible apply wr)<;>try simp only [go_sem,seval,ne0])
   have hQl:Q.length=4:=by rw [hQ];exact hl4
   obtain ⟨K,hK⟩:∃ K:Nat->List Tok, ∀ j,K j=G k++Q++(m.hds.take j).flatMap hdT:=⟨_,fun _=>rfl⟩;have hK0:K 0=G k++Q:=by rw [hK];simp
   have hKl:∀ j,(K j).length<=100000000:=fun j=>by
    have h1:m.hds.flatMap hdT=(m.hds.take j).flatMap hdT++(m.hds.drop j).flatMap hdT:=by rw [<- A2S,A2V]
    have h2:mdT m=Q++m.hds.flatMap hdT++wT [125]:=by rw [hQ];rfl
    rw [e0,h2,h1] at hGk1;rw [hK];simp only [A0A] at hGk1 ⊢;omega
   have hKe:K m.hds.length++wT [125]=G (k+1):=by
    have h2:mdT m=Q++m.hds.flatMap hdT++wT [125]:=by rw [hQ];rfl
    rw [hK,e0,h2,A3H];simp only [A0T]
   have hhl:m.hds.length<=4000000:=by
    have h5:m.hds.length<=(m.hds.map Hd.sz).sum:=G9 fun x _=>by show 1<=1+_+_;omega
    have h6:(m.hds.map Hd.sz).sum<Md.sz m:=by unfold Md.sz;omega
    omega
   refine B9 (fun q:Nat × Nat=>[(1,.ptr 0 0),(3,.slc q.2 0 (K q.1).length),(5,I64 k),(6,.ptr c 0),(7,I64 q.1)]) (fun q=>((Sym.nil.upd 0 ⟨0,true,[D4 D,E0 M]⟩).upd c ⟨0,true,[.str m.name,I64 m.prio,S5 m.hds,I64 m.pos]⟩).upd q.2 ⟨4,true,A4 ((K q.1).map Tok.v)⟩)
    (fun q n=>c<q.2/\q.2<n/\q.1<=m.hds.length/\((m.hds.take q.1).any S6)=false) (fun q=>m.hds.length-q.1) (0,c+1+15)
    (by simp [C1,tm,Tm.upd,hK0,hQl]) ?_ ⟨by simp only;omega,by simp only;omega,A0N _,rfl⟩ ?_
   ·dsimp only;rw [hK0,A0W,C5];intro j b hj;by_cases e1:j=c+1+15
    ·subst e1;rw [A0] at hj ⊢;exact hj
    rw [A2 e1] at hj ⊢;rw [E9 (fun i hi=>by
     have h1:=ho i hi;intro e;subst e;rw [A2 (by omega),A2 (by omega)] at hj;cases hj)]
    by_cases e2:j=c
    ·subst e2;rw [A0] at hj ⊢;exact hj
    rw [A2 e2] at hj ⊢;by_cases e3:j=0
    ·subst e3;rw [A0] at hj;rw [hbx];exact hj
    ·rw [A2 e3] at hj;cases hj
   clear hbo hbn hd1 hd2 hd3 hsrc hl4 hun4 hHH hbx hno ho;rintro ⟨j,i⟩ n ⟨hi1,hi2,hj,hbj⟩;dsimp only at hi1 hi2 hj hbj ⊢;by_cases hjl:j<m.hds.length
   ·have hdj:decide ((j:Int)<(m.hds.length:Int))=true:=by simpa using hjl
    have hgj:=A0C hjl;have hwj:=w64 (n:=(j:Int)+1) (by omega) (by omega);have k0:K (j+1)=K j++hdT m.hds[j]:=by rw [hK,hK,A0X,hgj,A2S];simp
    have c0:((m.hds.take (j+1)).any S6)=S6 m.hds[j]:=by rw [A0X,hgj,List.any_append,hbj];simp
    have c1:S6 m.hds[j]=true->R=C9 [Q3]:=fun h=>b1 (List.any_eq_true.2 ⟨_,A0M hjl,h⟩);have hszj:=I3 (f:=Hd.sz) (A0M hjl);have h6:(m.hds.map Hd.sz).sum<Md.sz m:=by unfold Md.sz;omega
    have hKj:=hKl j;have hKj1:=hKl (j+1);generalize m.hds[j]=h at hgj k0 c0 c1 hszj;have ne0:=W0 0 c i n (by omega);have hb9:S6 h=true->∃ H2,GL (((((Sym.nil.upd 0 ⟨0,true,[D4 D,E0 M]⟩).upd c ⟨0,true,[.str m.name,I64 m.prio,S5 m.hds,I64 m.pos]⟩).upd i ⟨4,true,A4 ((K j).map Tok.v)⟩).upd n ⟨0,true,[I64 h.trig,.str h.name,F1 h.body,I64 h.pos]⟩).upd (n+1) ⟨4,true,[I64 0,.str [],I64 0,I64 0]⟩) [.slc (n+1) 0 1] H2 [R]:=fun hb=>by
     rw [c1 hb];exact L6 A0 rfl rfl (D8 [Q3]) ⟨[],rfl⟩
    by_cases t1:h.trig<1
    ·have x1:decide (h.trig<1)=true:=by simpa using t1
     repeat' ((with_reducible apply wr)<;>try simp only [go_sem,seval,hdj,hgj,hwj,x1,ne0,A0,A1])
     exact hb9 (by unfold S6;rw [x1];rfl)
    have x1:decide (h.trig<1)=false:=by simpa using t1
    by_cases t2:6<h.trig
    ·have x2:decide (h.trig>6)=true:=by simpa using t2
     have x2':decide (6<h.trig)=true:=by simpa using t2
     repeat' ((with_reducible apply wr)<;>try simp only [go_sem,seval,hdj,hgj,hwj,x1,x2,ne0,A0,A1])
     exact hb9 (by unfold S6;rw [x2',Bool.or_true])
    have x2:decide (h.trig>6)=false:=by simpa using t2
    have x2':decide (6<h.trig)=false:=by simpa using t2
    have c2:S6 h=false:=by unfold S6;rw [x1,x2'];rfl
    clear hb9 c1;obtain ⟨y,hy⟩:∃ y:Nat,h.trig=1+(y:Int):=⟨(h.trig-1).toNat,by omega⟩;have hyw:IntKind.i64.wrap (h.trig-1)=(y:Int):=by rw [w64 (by omega) (by omega)];omega
    have hyn:(h.trig-1).toNat=y:=by omega
    have hy6:y<6:=by omega
    have hgy:E6[y]? = some (E6.getD y []):=by
     rw [A1C,A0C (show y<E6.length from hy6)];rfl
    have hsl:(E6.getD y []).length<=1000000000:=by
     have:∀ i:Nat,i<6->(E6.getD i []).length<=1000000000:=by decide
     exact this y hy6
    have hTT:hdT h=wT2 [111,110] (E6.getD y [])++(if 2<h.trig then D1 h.name else [])++blT h.body:=by unfold hdT;rw [hyn];rfl
    generalize E6.getD y []=S at hgy hsl hTT;have hnh:=c_named h.name (by have h5:h.name.length<Hd.sz h:=(by unfold Hd.sz;omega);omega);have hbb:=c_blkT h.body (by have h5:Pb.St.szs h.body<Hd.sz h:=(by unfold Hd.sz;omega);omega);obtain ⟨bl1, -⟩:=A6i h.body;rw [k0,hTT] at hKj1;simp only [A0A] at hKj1;have hbn:∀ j':Nat,n<=j'->(((Sym.nil.upd 0 ⟨0,true,[D4 D,E0 M]⟩).upd c ⟨0,true,[.str m.name,I64 m.prio,S5 m.hds,I64 m.pos]⟩).upd i ⟨4,true,A4 ((K j).map Tok.v)⟩) j'=none:=fun j' h'=>by rw [A2 (by omega),A2 (by omega),A2 (by omega)];rfl
    have ne0:=A0q 0 c i n (n+1+7) (by omega);repeat' ((with_reducible first|apply wr|refine cpc c_trigs31 ?_|fail)<;>try simp only [go_sem,seval,hdj,hgj,hwj,x1,x2,hyw,hgy,ne0,A0,A1])
    refine ⟨by and_intros<;>(repeat rw [A2 (by omega)])<;>rfl,?_⟩;refine AC.call (wd2' A0 (by decide) hsl) ?_;rintro v H' c3 ⟨rfl,rfl,rfl⟩ -;have hw2:(wT2 [111,110] S).length=2:=rfl;have hun:=A2t (wT2 [111,110] S);have hunB:=A2t (blT h.body);have hunN:=A2t (D1 h.name);have hnl1:=A3 h.name;have hlnK:=O5 (K j);simp only [go_sem,seval,ne0,A0,A1,N5 hun];repeat' ((with_reducible apply wr)<;>try simp only [go_sem,seval,ne0,A0,A1,N5 hun])
    refine ⟨by and_intros<;>(repeat rw [A2 (by omega)])<;>rfl,?_⟩;rw [V4 hlnK (by omega) (by omega)];have ne0:=A0q 0 c i n (n+1+11) (by omega);simp only [go_sem,seval,ne0,A0,A1];by_cases t3:2<h.trig
    ·have x3:decide (h.trig>2)=true:=by simpa using t3
     rw [if_pos t3] at hTT hKj1;try simp only [A0A] at hKj1
     repeat' ((with_reducible first|apply wr|refine cpc hnh ?_|fail)<;>try simp only [go_sem,seval,ne0,A0,A1,x3,N5 hunN])
     refine F3 (V4 (by rw [A0A,O5,O5];omega) (by omega) (by omega)) ?_;have ne0:=A7z 0 c i n (n+1+11) (n+1+11+1) (by omega);simp only [go_sem,seval,ne0,A0,A1];repeat' ((with_reducible first|apply wr|refine cpc hbb ?_|fail)<;>try simp only [go_sem,seval,ne0,A0,A1,N5 hunB])
     refine F3 (V4 (by rw [A0A,A0A,O5,O5,O5];omega) (by omega) (by omega)) ?_;simp only [go_sem,seval,ne0,A0,A1,hwj];repeat' ((with_reducible apply wr)<;>try simp only [go_sem,seval,ne0,A0,A1,hwj])
     refine ⟨(j+1,n+1+11+1+1),by simp [C1,tm,Tm.upd,k0,hTT,hwj,A3J],?_,inv ⟨by simp only;omega,by simp only;omega,by simp only;omega,by rw [c0];exact c2⟩,by simp only;omega⟩;dsimp only;intro j' b' hj';by_cases e1:j'=n+1+11+1+1
     ·subst e1;rw [A0] at hj' ⊢;rw [<- hj',k0,hTT];simp only [A0W,C5,A0T,List.map_nil,List.nil_append];try rfl
     rw [A2 e1] at hj' ⊢;by_cases e2:j'=c
     ·subst e2;rw [A0] at hj'
      repeat (first|rw [A0]|rw [A2 (by omega)]|rw [B0r (by omega)])
      exact hj'
     rw [A2 e2] at hj';by_cases e3:j'=0
     ·subst e3;rw [A0] at hj'
      repeat (first|rw [A0]|rw [A2 (by omega)]|rw [B0r (by omega)])
      exact hj'
     ·rw [A2 e3] at hj';cases hj'
    ·have x3:decide (h.trig>2)=false:=by simpa using t3
     rw [if_neg t3] at hTT hKj1;try simp only [A0F] at hKj1
     repeat' ((with_reducible first|apply wr|refine cpc hbb ?_|fail)<;>try simp only [go_sem,seval,ne0,A0,A1,x3,N5 hunB])
     refine F3 (V4 (by rw [A0A,O5,O5];omega) (by omega) (by omega)) ?_;have ne0:=A7z 0 c i n (n+1+11) (n+1+11+1) (by omega);simp only [go_sem,seval,ne0,A0,A1,hwj];repeat' ((with_reducible apply wr)<;>try simp only [go_sem,seval,ne0,A0,A1,hwj])
     refine ⟨(j+1,n+1+11+1),by simp [C1,tm,Tm.upd,k0,hTT,hwj,A3J],?_,inv ⟨by simp only;omega,by simp only;omega,by simp only;omega,by rw [c0];exact c2⟩,by simp only;omega⟩;dsimp only;intro j' b' hj';by_cases e1:j'=n+1+11+1
     ·subst e1;rw [A0] at hj' ⊢;rw [<- hj',k0,hTT];simp only [A0W,C5,A0T,List.map_nil,List.nil_append];try rfl
     rw [A2 e1] at hj' ⊢;by_cases e2:j'=c
     ·subst e2;rw [A0] at hj'
      repeat (first|rw [A0]|rw [A2 (by omega)]|rw [B0r (by omega)])
      exact hj'
     rw [A2 e2] at hj';by_cases e3:j'=0
     ·subst e3;rw [A0] at hj'
      repeat (first|rw [A0]|rw [A2 (by omega)]|rw [B0r (by omega)])
      exact hj'
     ·rw [A2 e3] at hj';cases hj'
   ·have hdj:decide ((j:Int)<(m.hds.length:Int))=false:=by simpa using hjl
    have ne0:=W0 0 c i n (by omega);have hjE:j=m.hds.length:=by omega
    subst hjE;rw [A3H] at hbj;have hlw:=lw [125];have hun:=A2t (wT [125]);have hln2:=O5 (K m.hds.length);have hKm:=hKl m.hds.length;repeat' ((with_reducible apply wr)<;>try simp only [go_sem,seval,hdj,ne0,A0,A1])
    refine AC.call (wd1 A0 (by decide)) ?_;rintro v H' c3 ⟨rfl,rfl,rfl⟩ -;simp only [go_sem,seval,ne0,A0,A1,N5 hun];repeat' ((with_reducible apply wr)<;>try simp only [go_sem,seval,ne0,A0,A1,N5 hun])
    refine F3 (V4 hln2 (by omega) (by omega)) ?_;simp only [go_sem,seval,hw,ne0];repeat' ((with_reducible apply wr)<;>try simp only [go_sem,seval,hw,ne0])
    refine ⟨(k+1,some (n+1)),by simp [C1,tm,Tm.upd,B3, <- hKe,hlw],?_,inv ⟨by omega,by simp only;omega,(fun h=>by cases h),(fun i hi=>by cases hi;omega),by rw [b0];exact hbj⟩,by simp only;omega⟩;dsimp only [C0];rw [<- hKe,A0W,C5];intro j b hj;by_cases e1:j=n+1
    ·subst e1;rw [A0] at hj ⊢;exact hj
    rw [A2 e1] at hj ⊢;by_cases e2:j=0
    ·subst e2;rw [A0] at hj;rw [show ∀ X:Hp,X.del i=H9 X (some i) from fun _=>rfl,R2,if_neg (by omega),A2 (by omega),A2 (by omega),A0];exact hj
    ·rw [A2 e2] at hj;cases hj
  ·have hd:decide ((k:Int)<(M.length:Int))=false:=by simpa using hlt
   rw [A0J (by omega)] at hbad;rw [if_neg (by rw [hbad];decide)] at hR;repeat' ((with_reducible apply wr)<;>try simp only [go_sem,seval,hd,hbx])
   rw [hR,hG,A0J (by omega)];rw [hG,A0J (by omega)] at hno;exact B1x (fun e=>by rw [hno e];rfl) (by simp) (D8 _)
theorem B2m (p:Bool):∀ (l l':List Ex) (k:Nat),l.length=l'.length->(L9 p (l.take k) (l'.take k)=true)->∀ x x',l[k]? = some x->l'[k]? = some x'->L9 p (l.take (k+1)) (l'.take (k+1))=A8c p x x'/\(A8c p x x'=false->L9 p l l'=false)
 | [],_,k,_,_,x,x',h,_=>by simp at h
 | _ :: _,[],k,h,_,_,_,_,_=>by simp at h
 | a :: l,a' :: l',0,_,_,x,x',h,h'=>by
  cases h;cases h';refine ⟨?_,fun e=>?_⟩
  ·simp [L9]
  ·rw [L9,e];rfl
 | a :: l,a' :: l',k+1,hl,he,x,x',h,h'=>by
  rw [A0U,A0U,L9,A0G] at he;have ih:=B2m p l l' k (by simpa using hl) he.2 x x' (by simpa using h) (by simpa using h');refine ⟨?_,fun e=>?_⟩
  ·rw [A0U,A0U,L9,he.1,A1P];exact ih.1
  ·rw [L9,ih.2 e,A3P]
theorem A9d (p:Bool):∀ (l l':List Ex),¬ l.length=l'.length->L9 p l l'=false
 | [],[],h=>absurd rfl h
 | [],_ :: _,_=>rfl
 | _ :: _,[],_=>rfl
 | a :: l,a' :: l',h=>by rw [L9,A9d p l l' (by simpa using h),A3P]
theorem c_sameEs (p:Bool) (l l':List Ex) (hl:l.length<=100000000000) (h:∀ x∈l, ∀ y,PC Tryz.prog 101 [x.v,y.v,.bool p] (.bool (A8c p x y))):PC Tryz.prog 138 [H7 l,H7 l',.bool p] (.bool (L9 p l l')):=by
 refine PC.of A9 isU138 (A0B rfl) (by simp [DV.nlL,DV.nl,W5]) rfl ?_;show IW Tryz.prog 30 u138_1 ⟨B7 _,_,_⟩ (rt [.tmp 6] _);by_cases hlen:l.length=l'.length
 ·have hd0:((l.length:Int) != (l'.length:Int))=false:=by simp [hlen]
  repeat' ((with_reducible apply wr)<;>try simp only [go_sem,seval,hd0,A0D])
  refine B9 (fun k:Nat=>[(0,H7 l),(1,H7 l'),(2,.bool p),(7,I64 k)]) (fun _=>Sym.nil) (fun k c=>k<=l.length/\L9 p (l.take k) (l'.take k)=true) (fun k=>l.length-k) 0 (by simp [C1,tm,Tm.upd]) (Sub.nil _) ⟨A0N _,rfl⟩ ?_;rintro k c ⟨hk,he⟩;by_cases hlt:k<l.length
  ·have hd:decide ((k:Int)<(l.length:Int))=true:=by simpa using hlt
   have hg:=A0C hlt;have hg':=A0C (l:=l') (i:=k) (by omega);have hw:=w64 (n:=(k:Int)+1) (by omega) (by omega);have hc:=h _ (A0M hlt) (l'[k]'(by omega));obtain ⟨s1,s2⟩:=B2m p l l' k hlen he _ _ hg hg';generalize l[k]=x at hg hc s1 s2;generalize l'[k]'(by omega)=x' at hg' hc s1 s2;rw [Ex.v_w,Ex.v_w] at hc;cases hx:A8c p x x' with
   | true =>
    repeat' ((with_reducible first|apply wr|refine cpc hc ?_|fail)<;>try simp only [go_sem,seval,hd,hg,hg',hw,hx,Ex.v_w,A0D])
    exact ⟨k+1,by simp [C1,tm,Tm.upd],Sub.nil _,inv ⟨by omega,by rw [s1];exact hx⟩,by omega⟩
   | false =>
    repeat' ((with_reducible first|apply wr|refine cpc hc ?_|fail)<;>try simp only [go_sem,seval,hd,hg,hg',hw,hx,Ex.v_w,A0D])
    exact ⟨_,by rw [s2 hx];exact GL.refl _ _⟩
  ·have hd:decide ((k:Int)<(l.length:Int))=false:=by simpa using hlt
   rw [A0J (by omega),A0J (by omega)] at he;repeat' ((with_reducible apply wr)<;>try simp only [go_sem,seval,hd,A0D])
   exact ⟨_,by rw [he];exact GL.refl _ _⟩
 ·have hd0:((l.length:Int) != (l'.length:Int))=true:=by simp;omega
  repeat' ((with_reducible apply wr)<;>try simp only [go_sem,seval,hd0,A0D])
  exact ⟨_,by rw [A9d p l l' hlen];exact GL.refl _ _⟩
theorem c_sameE (p:Bool):∀ (m:Nat) (a b:Ex),a.sz<m->a.sz<=100000000000->PC Tryz.prog 101 [a.v,b.v,.bool p] (.bool (A8c p a b)):=by
 intro m
 induction m with
 | zero=>intro a b h;omega
 | succ m ih =>
 intro a b hm hB;have hs:=c_sameEs p a.args b.args (by have:=a.sz_args;omega) (fun x hx y=>ih x y (by have:=Ex.sz_arg hx;omega) (by have:=Ex.sz_arg hx;omega));have e0:A8c p a b=(a.kind == b.kind && (a.value == b.value && (a.name == b.name && ((p || a.pos == b.pos) && L9 p a.args b.args)))):=by
  cases a with|mk k v n l q=>cases b with|mk k' v' n' l' q'=>rw [A8c];rfl
 refine PC.of A9 isU101 (A0B rfl) (by simp [DV.nlL,DV.nl,Ex.nl]) rfl ?_;rw [Ex.v_w,Ex.v_w,e0];show IW Tryz.prog 44 u101_1 ⟨B7 _,_,_⟩ (rt [.tmp 6] _);cases h1:a.kind == b.kind with
 | false =>
  repeat' ((with_reducible apply wr)<;>try simp only [go_sem,seval,h1])
  exact ⟨_,GL.refl _ _⟩
 | true =>
  cases h2:a.value == b.value with
  | false =>
   repeat' ((with_reducible apply wr)<;>try simp only [go_sem,seval,h1,h2])
   exact ⟨_,GL.refl _ _⟩
  | true =>
   cases h3:a.name == b.name with
   | false =>
    repeat' ((with_reducible apply wr)<;>try simp only [go_sem,seval,h1,h2,h3])
    exact ⟨_,GL.refl _ _⟩
   | true =>
    cases hp:p with
    | true =>
     subst hp;repeat' ((with_reducible first|apply wr|refine cpc hs ?_|fail)<;>try simp only [go_sem,seval,h1,h2,h3])
     exact ⟨_,GL.refl _ _⟩
    | false =>
     subst hp;cases h4:a.pos == b.pos with
     | false =>
      repeat' ((with_reducible first|apply wr|refine cpc hs ?_|fail)<;>try simp only [go_sem,seval,h1,h2,h3,h4])
      exact ⟨_,GL.refl _ _⟩
     | true =>
      repeat' ((with_reducible first|apply wr|refine cpc hs ?_|fail)<;>try simp only [go_sem,seval,h1,h2,h3,h4])
      exact ⟨_,GL.refl _ _⟩
theorem B1h:∀ (l l':List Pb.St) (k:Nat),l.length=l'.length->(K2 (l.take k) (l'.take k)=true)->∀ x x',l[k]? = some x->l'[k]? = some x'->K2 (l.take (k+1)) (l'.take (k+1))=B3m x x'/\(B3m x x'=false->K2 l l'=false)
 | [],_,k,_,_,x,x',h,_=>by simp at h
 | _ :: _,[],k,h,_,_,_,_,_=>by simp at h
 | a :: l,a' :: l',0,_,_,x,x',h,h'=>by
  cases h;cases h';refine ⟨?_,fun e=>?_⟩
  ·simp [K2]
  ·rw [K2,e];rfl
 | a :: l,a' :: l',k+1,hl,he,x,x',h,h'=>by
  rw [A0U,A0U,K2,A0G] at he;have ih:=B1h l l' k (by simpa using hl) he.2 x x' (by simpa using h) (by simpa using h');refine ⟨?_,fun e=>?_⟩
  ·rw [A0U,A0U,K2,he.1,A1P];exact ih.1
  ·rw [K2,ih.2 e,A3P]
theorem A8j:∀ (l l':List Pb.St),¬ l.length=l'.length->K2 l l'=false
 | [],[],h=>absurd rfl h
 | [],_ :: _,_=>rfl
 | _ :: _,[],_=>rfl
 | a :: l,a' :: l',h=>by rw [K2,A8j l l' (by simpa using h),A3P]
theorem C8h (a b:Pb.St):B3m a b=(a.kind == b.kind && (a.name == b.name && (a.text == b.text && (a.pos == b.pos && (L9 false a.args b.args && (K2 a.thn b.thn && K2 a.els b.els)))))):=by
 cases a with|mk k n t a x y q=>cases b with|mk k' n' t' a' x' y' q'=>rw [B3m];rfl
theorem c_sameS:∀ (m:Nat) (l l':List Pb.St),Pb.St.szs l<m->Pb.St.szs l<=100000000000->PC Tryz.prog 136 [F1 l,F1 l'] (.bool (K2 l l')):=by
 intro m
 induction m with
 | zero=>intro a b h;omega
 | succ m ih =>
 intro l l' hm hB;have hl:=Pb.St.szs_len l;refine PC.of A9 isU136 (A0B rfl) (by simp [DV.nlL,DV.nl,O8]) rfl ?_;show IW Tryz.prog 77 u136_1 ⟨B7 _,_,_⟩ (rt [.tmp 4] _);by_cases hlen:l.length=l'.length
 ·have hd0:((l.length:Int) != (l'.length:Int))=false:=by simp [hlen]
  repeat' ((with_reducible apply wr)<;>try simp only [go_sem,seval,hd0,A0D])
  refine B9 (fun k:Nat=>[(0,F1 l),(1,F1 l'),(5,I64 k)]) (fun _=>Sym.nil) (fun k c=>k<=l.length/\K2 (l.take k) (l'.take k)=true) (fun k=>l.length-k) 0 (by simp [C1,tm,Tm.upd]) (Sub.nil _) ⟨A0N _,rfl⟩ ?_;rintro k c ⟨hk,he⟩;by_cases hlt:k<l.length
  ·have hd:decide ((k:Int)<(l.length:Int))=true:=by simpa using hlt
   have hg:=A0C hlt;have hg':=A0C (l:=l') (i:=k) (by omega);have hw:=w64 (n:=(k:Int)+1) (by omega) (by omega);obtain ⟨s1,s2⟩:=B1h l l' k hlen he _ _ hg hg';have hsx:=Pb.St.szs_mem (A0M hlt);generalize l[k]=x at hg hsx s1 s2;generalize l'[k]'(by omega)=x' at hg' s1 s2;have ht:=x.sz_thn;have hy:=x.sz_els;have hargs:∀ y∈x.args,y.sz<x.sz:=fun y hy=>Pb.St.sz_arg hy;have hal:=x.sz_args;have ca:=c_sameEs false x.args x'.args (by omega) (fun y hy z=>c_sameE false (y.sz+1) y z (by omega) (by have:=hargs y hy;omega));have ct:=ih x.thn x'.thn (by omega) (by omega);have cy:=ih x.els x'.els (by omega) (by omega);rw [C8h] at s1 s2;have ne0:=L2 (c+8) (c+9) (by omega);have hn8:∀ i:Nat,Sym.nil (c+i)=none:=fun _=>rfl;repeat' ((with_reducible apply wr)<;>try simp only [go_sem,seval,hd,hg,hg',Pb.St.v_w,A0D,ne0,A0,A1])
   refine ⟨by and_intros<;>(repeat rw [A2 (by omega)])<;>rfl,?_⟩;repeat' ((with_reducible first|refine G8 (p:=IW _ _ u136_14 _ _) ?_|refine wr ?_|fail)<;>try simp only [go_sem,seval,ne0,A0,A1])
   unfold A5n;clear hd hg hg';cases h1:x.kind == x'.kind with
   | false =>
    have n1:(x.kind != x'.kind)=true:=by rw [bne,h1];rfl
    repeat' ((with_reducible first|apply wr|refine cpc ca ?_|refine cpc ct ?_|refine cpc cy ?_|fail)<;>try simp only [go_sem,seval,hw,ne0,A0,A1,n1])
    exact ⟨_,by rw [s2 (by rw [h1];rfl)];exact GL.refl _ _⟩
   | true =>
    have n1:(x.kind != x'.kind)=false:=by rw [bne,h1];rfl
    cases h2:x.name == x'.name with
    | false =>
     repeat' ((with_reducible first|apply wr|refine cpc ca ?_|refine cpc ct ?_|refine cpc cy ?_|fail)<;>try simp only [go_sem,seval,hw,ne0,A0,A1,n1,h2])
     exact ⟨_,by rw [s2 (by rw [h1,h2];rfl)];exact GL.refl _ _⟩
    | true =>
     cases h3:x.text == x'.text with
     | false =>
      repeat' ((with_reducible first|apply wr|refine cpc ca ?_|refine cpc ct ?_|refine cpc cy ?_|fail)<;>try simp only [go_sem,seval,hw,ne0,A0,A1,n1,h2,h3])
      exact ⟨_,by rw [s2 (by rw [h1,h2,h3];rfl)];exact GL.refl _ _⟩
     | true =>
      cases h4:x.pos == x'.pos with
      | false =>
       have n4:(x.pos != x'.pos)=true:=by rw [bne,h4];rfl
       repeat' ((with_reducible first|apply wr|refine cpc ca ?_|refine cpc ct ?_|refine cpc cy ?_|fail)<;>try simp only [go_sem,seval,hw,ne0,A0,A1,n1,h2,h3,n4])
       exact ⟨_,by rw [s2 (by rw [h1,h2,h3,h4];rfl)];exact GL.refl _ _⟩
      | true =>
       have n4:(x.pos != x'.pos)=false:=by rw [bne,h4];rfl
       cases h5:L9 false x.args x'.args with
       | false =>
        repeat' ((with_reducible first|apply wr|refine cpc ca ?_|refine cpc ct ?_|refine cpc cy ?_|fail)<;>try simp only [go_sem,seval,hw,ne0,A0,A1,n1,h2,h3,n4,h5])
        exact ⟨_,by rw [s2 (by rw [h1,h2,h3,h4,h5];rfl)];exact GL.refl _ _⟩
       | true =>
        cases h6:K2 x.thn x'.thn with
        | false =>
         repeat' ((with_reducible first|apply wr|refine cpc ca ?_|refine cpc ct ?_|refine cpc cy ?_|fail)<;>try simp only [go_sem,seval,hw,ne0,A0,A1,n1,h2,h3,n4,h5,h6])
         exact ⟨_,by rw [s2 (by rw [h1,h2,h3,h4,h5,h6];rfl)];exact GL.refl _ _⟩
        | true =>
         cases h7:K2 x.els x'.els with
         | false =>
          repeat' ((with_reducible first|apply wr|refine cpc ca ?_|refine cpc ct ?_|refine cpc cy ?_|fail)<;>try simp only [go_sem,seval,hw,ne0,A0,A1,n1,h2,h3,n4,h5,h6,h7])
          exact ⟨_,by rw [s2 (by rw [h1,h2,h3,h4,h5,h6,h7];rfl)];exact GL.refl _ _⟩
         | true =>
          repeat' ((with_reducible first|apply wr|refine cpc ca ?_|refine cpc ct ?_|refine cpc cy ?_|fail)<;>try simp only [go_sem,seval,hw,ne0,A0,A1,n1,h2,h3,n4,h5,h6,h7])
          exact ⟨k+1,by simp [C1,tm,Tm.upd],Sub.nil _,inv ⟨by omega,by rw [s1,h1,h2,h3,h4,h5,h6,h7];rfl⟩,by omega⟩
  ·have hd:decide ((k:Int)<(l.length:Int))=false:=by simpa using hlt
   rw [A0J (by omega),A0J (by omega)] at he;repeat' ((with_reducible apply wr)<;>try simp only [go_sem,seval,hd,A0D])
   exact ⟨_,by rw [he];exact GL.refl _ _⟩
 ·have hd0:((l.length:Int) != (l'.length:Int))=true:=by simp;omega
  repeat' ((with_reducible apply wr)<;>try simp only [go_sem,seval,hd0,A0D])
  exact ⟨_,by rw [A8j l l' hlen];exact GL.refl _ _⟩
def B3q (a b:Ru):Bool:=@decide (a=b) (Classical.propDecidable _)
theorem C8m {a b:Ru} (h:a=b):B3q a b=true:=by unfold B3q;exact @decide_eq_true _ (_) h
theorem C8n {a b:Ru} (h:¬ a=b):B3q a b=false:=by unfold B3q;exact @decide_eq_false _ (_) h
theorem A9r {α : Type} {l l':List α} {k:Nat} {x x' : α} (h:l.take k=l'.take k) (hx:l[k]? = some x) (hx':l'[k]? = some x') (e:x=x'):l.take (k+1)=l'.take (k+1):=by
 rw [A0X,A0X,h,hx,hx',e]
theorem M1 {α : Type} {l l':List α} {k:Nat} {x x' : α} (hx:l[k]? = some x) (hx':l'[k]? = some x') (e:¬ x=x'):¬ l=l':=by
 rintro rfl;rw [hx] at hx';exact e (Option.some.inj hx')
theorem B5e {H H':Hp} {c:Nat} (h1:∀ j b,H j=some b->j<c) (h2:∀ j,j<c->H' j=H j):Sym.Sub H H':=fun j b hj=>by rw [h2 j (h1 j b hj)];exact hj
theorem c_Same31 (a b:Ru) (hB:a.sz<=100000000000):PC Tryz.prog 99 [a.v,b.v] (.bool (B3q a b)):=by
 refine PC.of A9 isU99 (A0B rfl) (by simp [DV.nlL,DV.nl,G6,G5]) rfl ?_;obtain ⟨R,hR⟩:∃ R,R=B3q a b:=⟨_,rfl⟩;rw [<- hR];obtain ⟨D,M⟩:=a;obtain ⟨D',M'⟩:=b;have hF:(¬ D=D'\/¬ M=M')->R=false:=fun h=>by
  rw [hR];exact C8n fun e=>by cases e;exact h.elim (· rfl) (· rfl)
 have hT:D=D'->M=M'->R=true:=fun h1 h2=>by rw [hR];exact C8m (by rw [h1,h2])
 clear hR;have hDs:(D.map Dc.sz).sum+(M.map Md.sz).sum<=100000000000:=hB;have hDl:D.length<=(D.map Dc.sz).sum:=G9 fun x _=>by show 1<=1+_;omega
 have hMl:M.length<=(M.map Md.sz).sum:=G9 fun x _=>by show 1<=1+_+_;omega
 dsimp only [Ru.v];show IW Tryz.prog 135 u99_1 ⟨B7 _,_,_⟩ (rt [.tmp 4] _);by_cases l1:D.length=D'.length
 case neg =>
  have f1:((D.length:Int) != (D'.length:Int))=true:=by simp;omega
  repeat' ((with_reducible apply wr)<;>try simp only [go_sem,seval,f1,A0D])
  exact ⟨_,by rw [hF (.inl fun e=>l1 (by rw [e]))];exact GL.refl _ _⟩
 have f1:((D.length:Int) != (D'.length:Int))=false:=by simp [l1]
 by_cases l2:M.length=M'.length
 case neg =>
  have f2:((M.length:Int) != (M'.length:Int))=true:=by simp;omega
  repeat' ((with_reducible apply wr)<;>try simp only [go_sem,seval,f1,f2,A0D])
  exact ⟨_,by rw [hF (.inr fun e=>l2 (by rw [e]))];exact GL.refl _ _⟩
 have f2:((M.length:Int) != (M'.length:Int))=false:=by simp [l2]
 repeat' ((with_reducible apply wr)<;>try simp only [go_sem,seval,f1,f2,A0D])
 refine B9 (fun k:Nat=>[(2,.ptr 0 0),(3,.ptr 1 0),(5,I64 k)]) (fun _=>(Sym.nil.upd 0 ⟨0,true,[D4 D,E0 M]⟩).upd 1 ⟨0,true,[D4 D',E0 M']⟩) (fun k c=>2<=c/\k<=D.length/\D.take k=D'.take k) (fun k=>D.length-k) 0 (by simp [C1,tm,Tm.upd]) (Sub.refl _) ⟨by omega,A0N _,rfl⟩ ?_;rintro k c ⟨hc,hk,he⟩;by_cases hlt:k<D.length
 ·have hd:decide ((k:Int)<(D.length:Int))=true:=by simpa using hlt
  have hg:=A0C hlt;have hg':=A0C (l:=D') (i:=k) (by omega);have hw:=w64 (n:=(k:Int)+1) (by omega) (by omega);generalize D[k]=x at hg;generalize D'[k]'(by omega)=x' at hg';have hq:(x.kind == x'.kind && (x.name == x'.name && (x.value == x'.value && x.pos == x'.pos)))=true↔x=x':=by
   cases x;cases x';simp only [A0G,A1I,Dc.mk.injEq]
  by_cases hx:x=x'
  ·have hqt:(true != (x.kind == x'.kind && (x.name == x'.name && (x.value == x'.value && x.pos == x'.pos))))=false:=by rw [hq.2 hx];rfl
   repeat' ((with_reducible apply wr)<;>try simp only [go_sem,seval,hd,hg,hg',hw,C7f,hqt,A0D])
   exact ⟨k+1,by simp [C1,tm,Tm.upd],Sub.refl _,inv ⟨by omega,by omega,A9r he hg hg' hx⟩,by omega⟩
  ·have hqf:(true != (x.kind == x'.kind && (x.name == x'.name && (x.value == x'.value && x.pos == x'.pos))))=true:=by
    rw [show (x.kind == x'.kind && (x.name == x'.name && (x.value == x'.value && x.pos == x'.pos)))=false from by
     cases hz:(x.kind == x'.kind && (x.name == x'.name && (x.value == x'.value && x.pos == x'.pos))) with
     | false=>rfl
     | true=>exact absurd (hq.1 hz) hx]
    rfl
   repeat' ((with_reducible apply wr)<;>try simp only [go_sem,seval,hd,hg,hg',hw,C7f,hqf,A0D])
   exact ⟨_,by rw [hF (.inl (M1 hg hg' hx))];exact GL.refl _ _⟩
 ·have hd:decide ((k:Int)<(D.length:Int))=false:=by simpa using hlt
  rw [A0J (by omega),A0J (by omega)] at he;repeat' ((with_reducible apply wr)<;>try simp only [go_sem,seval,hd,A0D])
  have hDD:=he;clear hd hlt he hk;refine B9 (fun k:Nat=>[(2,.ptr 0 0),(3,.ptr 1 0),(6,I64 k)]) (fun _=>(Sym.nil.upd 0 ⟨0,true,[D4 D,E0 M]⟩).upd 1 ⟨0,true,[D4 D',E0 M']⟩) (fun k c=>2<=c/\k<=M.length/\M.take k=M'.take k) (fun k=>M.length-k) 0 (by simp [C1,tm,Tm.upd]) (Sub.refl _) ⟨hc,A0N _,rfl⟩ ?_;clear hc k c;rintro k c ⟨hc,hk,he⟩;by_cases hlt:k<M.length
  ·have hd:decide ((k:Int)<(M.length:Int))=true:=by simpa using hlt
   have hg:=A0C hlt;have hg':=A0C (l:=M') (i:=k) (by omega);have hw:=w64 (n:=(k:Int)+1) (by omega) (by omega);have hsx:=I3 (f:=Md.sz) (A0M hlt);generalize M[k]=x at hg hsx;generalize M'[k]'(by omega)=x' at hg';have hxs:(x.hds.map Hd.sz).sum<Md.sz x:=by unfold Md.sz;omega
   have hxl:x.hds.length<=(x.hds.map Hd.sz).sum:=G9 fun x _=>by show 1<=1+_+_;omega
   have ne0:=W0 0 1 (c+10) (c+11) (by omega);repeat' ((with_reducible apply wr)<;>try simp only [go_sem,seval,hd,hg,hg',ne0,A0,A1,A0D])
   refine ⟨by and_intros<;>(repeat rw [A2 (by omega)])<;>rfl,?_⟩;repeat' ((with_reducible first|refine G8 (p:=IW _ _ u99_25 _ _) ?_|refine wr ?_|fail)<;>try simp only [go_sem,seval,ne0,A0,A1])
   unfold A5n;clear hd;by_cases h1:x.name=x'.name
   case neg =>
    have nh1:(x.name == x'.name)=false:=by simpa using h1
    repeat' ((with_reducible apply wr)<;>try simp only [go_sem,seval,ne0,A0,A1,A0D,nh1])
    exact ⟨_,by rw [hF (.inr (M1 hg hg' fun e=>h1 (by rw [e])))];exact GL.refl _ _⟩
   case pos =>
    have nh1:(x.name == x'.name)=true:=by simpa using h1
    by_cases h2:x.prio=x'.prio
    case neg =>
     have nh2:(x.prio != x'.prio)=true:=by simpa using h2
     repeat' ((with_reducible apply wr)<;>try simp only [go_sem,seval,ne0,A0,A1,A0D,nh1,nh2])
     exact ⟨_,by rw [hF (.inr (M1 hg hg' fun e=>h2 (by rw [e])))];exact GL.refl _ _⟩
    case pos =>
     have nh2:(x.prio != x'.prio)=false:=by simpa using h2
     by_cases h3:x.pos=x'.pos
     case neg =>
      have nh3:(x.pos != x'.pos)=true:=by simpa using h3
      repeat' ((with_reducible apply wr)<;>try simp only [go_sem,seval,ne0,A0,A1,A0D,nh1,nh2,nh3])
      exact ⟨_,by rw [hF (.inr (M1 hg hg' fun e=>h3 (by rw [e])))];exact GL.refl _ _⟩
     case pos =>
      have nh3:(x.pos != x'.pos)=false:=by simpa using h3
      by_cases h4:x.hds.length=x'.hds.length
      case neg =>
       have nh4:((x.hds.length:Int) != (x'.hds.length:Int))=true:=by simp;omega
       repeat' ((with_reducible apply wr)<;>try simp only [go_sem,seval,ne0,A0,A1,A0D,nh1,nh2,nh3,nh4])
       exact ⟨_,by rw [hF (.inr (M1 hg hg' fun e=>h4 (by rw [e])))];exact GL.refl _ _⟩
      case pos =>
       have nh4:((x.hds.length:Int) != (x'.hds.length:Int))=false:=by simp [h4]
       repeat' ((with_reducible apply wr)<;>try simp only [go_sem,seval,ne0,A0,A1,A0D,nh1,nh2,nh3,nh4])
       refine B9 (fun j:Nat=>[(2,.ptr 0 0),(3,.ptr 1 0),(6,I64 k),(7,.ptr (c+10) 0),(8,.ptr (c+11) 0),(9,I64 j)]) (fun _=>(((Sym.nil.upd 0 ⟨0,true,[D4 D,E0 M]⟩).upd 1 ⟨0,true,[D4 D',E0 M']⟩).upd (c+10) ⟨0,true,[.str x.name,I64 x.prio,S5 x.hds,I64 x.pos]⟩).upd (c+11) ⟨0,true,[.str x'.name,I64 x'.prio,S5 x'.hds,I64 x'.pos]⟩) (fun j n=>c+12<=n/\j<=x.hds.length/\x.hds.take j=x'.hds.take j) (fun j=>x.hds.length-j) 0 (by simp [C1,tm,Tm.upd]) ?_ ⟨by omega,A0N _,rfl⟩ ?_
       ·intro j b hj;by_cases e1:j=c+11
        ·subst e1;rw [A0] at hj ⊢;exact hj
        rw [A2 e1] at hj ⊢;by_cases e2:j=c+10
        ·subst e2;rw [A0] at hj ⊢;exact hj
        rw [A2 e2] at hj ⊢
        repeat rw [A2 (by omega)]
        exact hj
       rintro j n ⟨hn,hj,hej⟩;by_cases hjl:j<x.hds.length
       ·have hdj:decide ((j:Int)<(x.hds.length:Int))=true:=by simpa using hjl
        have gj:=A0C hjl;have gj':=A0C (l:=x'.hds) (i:=j) (by omega);have hwj:=w64 (n:=(j:Int)+1) (by omega) (by omega);have hsj:=I3 (f:=Hd.sz) (A0M hjl);generalize x.hds[j]=y at gj hsj;generalize x'.hds[j]'(by omega)=y' at gj';have hbs:Pb.St.szs y.body<Hd.sz y:=by unfold Hd.sz;omega
        have cs:=c_sameS (Pb.St.szs y.body+1) y.body y'.body (by omega) (by omega);have ne0:=A7z 0 1 (c+10) (c+11) (n+10) (n+11) (by omega);repeat' ((with_reducible apply wr)<;>try simp only [go_sem,seval,hdj,gj,gj',ne0,A0,A1,A0D])
        refine ⟨by and_intros<;>(repeat rw [A2 (by omega)])<;>rfl,?_⟩;repeat' ((with_reducible first|refine G8 (p:=IW _ _ u99_36 _ _) ?_|refine wr ?_|fail)<;>try simp only [go_sem,seval,ne0,A0,A1])
        unfold A5n;clear hdj;by_cases q1:y.trig=y'.trig
        case neg =>
         have nq1:(y.trig != y'.trig)=true:=by simpa using q1
         repeat' ((with_reducible first|apply wr|refine cpc cs ?_|fail)<;>try simp only [go_sem,seval,hwj,ne0,A0,A1,nq1])
         exact ⟨_,by rw [hF (.inr (M1 hg hg' fun e=>M1 gj gj' (fun e2=>by exact q1 (by rw [e2])) (by rw [e])))];exact GL.refl _ _⟩
        case pos =>
         have nq1:(y.trig != y'.trig)=false:=by simpa using q1
         by_cases q2:y.name=y'.name
         case neg =>
          have nq2:(y.name == y'.name)=false:=by simpa using q2
          repeat' ((with_reducible first|apply wr|refine cpc cs ?_|fail)<;>try simp only [go_sem,seval,hwj,ne0,A0,A1,nq1,nq2])
          exact ⟨_,by rw [hF (.inr (M1 hg hg' fun e=>M1 gj gj' (fun e2=>by exact q2 (by rw [e2])) (by rw [e])))];exact GL.refl _ _⟩
         case pos =>
          have nq2:(y.name == y'.name)=true:=by simpa using q2
          by_cases q3:y.pos=y'.pos
          case neg =>
           have nq3:(y.pos != y'.pos)=true:=by simpa using q3
           repeat' ((with_reducible first|apply wr|refine cpc cs ?_|fail)<;>try simp only [go_sem,seval,hwj,ne0,A0,A1,nq1,nq2,nq3])
           exact ⟨_,by rw [hF (.inr (M1 hg hg' fun e=>M1 gj gj' (fun e2=>by exact q3 (by rw [e2])) (by rw [e])))];exact GL.refl _ _⟩
          case pos =>
           have nq3:(y.pos != y'.pos)=false:=by simpa using q3
           cases q4:K2 y.body y'.body with
           | false =>
            repeat' ((with_reducible first|apply wr|refine cpc cs ?_|fail)<;>try simp only [go_sem,seval,hwj,ne0,A0,A1,nq1,nq2,nq3,q4])
            exact ⟨_,by rw [hF (.inr (M1 hg hg' fun e=>M1 gj gj' (fun e2=>by rw [e2,(X8 _ _).2 rfl] at q4;cases q4) (by rw [e])))];exact GL.refl _ _⟩
           | true =>
            repeat' ((with_reducible first|apply wr|refine cpc cs ?_|fail)<;>try simp only [go_sem,seval,hwj,ne0,A0,A1,nq1,nq2,nq3,q4])
            exact ⟨j+1,by simp [C1,tm,Tm.upd],(B5e (c:=n) (fun j0 b0 h0=>by by_cases a1:j0=c+11;omega;rw [A2 a1] at h0;by_cases a2:j0=c+10;omega;rw [A2 a2] at h0;by_cases a3:j0=1;omega;rw [A2 a3] at h0;by_cases a4:j0=0;omega;rw [A2 a4] at h0;cases h0) (fun j0 h0=>by repeat rw [A2 (by omega)])),inv ⟨by omega,by omega,A9r hej gj gj' (by cases y;cases y';simp only [Hd.mk.injEq] at *;exact ⟨q1,q2,(X8 _ _).1 q4,q3⟩)⟩,by omega⟩
       ·have hdj:decide ((j:Int)<(x.hds.length:Int))=false:=by simpa using hjl
        rw [A0J (by omega),A0J (by omega)] at hej;have ne0:=W0 0 1 (c+10) (c+11) (by omega);repeat' ((with_reducible apply wr)<;>try simp only [go_sem,seval,hdj,hw,ne0,A0,A1,A0D])
        exact ⟨k+1,by simp [C1,tm,Tm.upd],(B5e (c:=c) (fun j0 b0 h0=>by by_cases a3:j0=1;omega;rw [A2 a3] at h0;by_cases a4:j0=0;omega;rw [A2 a4] at h0;cases h0) (fun j0 h0=>by repeat rw [A2 (by omega)])),inv ⟨by omega,by omega,A9r he hg hg' (by cases x;cases x';simp only [Md.mk.injEq] at *;exact ⟨h1,h2,hej,h3⟩)⟩,by omega⟩
  ·have hd:decide ((k:Int)<(M.length:Int))=false:=by simpa using hlt
   rw [A0J (by omega),A0J (by omega)] at he;repeat' ((with_reducible apply wr)<;>try simp only [go_sem,seval,hd,A0D])
   exact ⟨_,by rw [hT hDD he];exact GL.refl _ _⟩
theorem c_plainE:∀ (m:Nat) (l:List Ex),Ex.szs l<m->Ex.szs l<=100000000000->PC Tryz.prog 90 [H7 l] (H7 (l.map Ex.plain)):=by
 intro m
 induction m with
 | zero=>intro l h;omega
 | succ m ih =>
 intro l hm hB;have hl:=Ex.szs_len l;refine PC.of A9 isU90 (A0B rfl) (by simp [DV.nlL,DV.nl,W5]) (W5 _) ?_;show IW Tryz.prog 26 u90_1 ⟨B7 _,_,_⟩ (rt [.tmp 2] _);repeat' ((with_reducible apply wr)<;>try simp only [go_sem,seval])
 obtain ⟨F,hF⟩:∃ F:Nat->List Ex, ∀ k,F k=(l.take k).map Ex.plain:=⟨_,fun _=>rfl⟩;have hF0:F 0=[]:=by rw [hF];rfl
 have hFl:∀ k,(F k).length<=l.length:=fun k=>by rw [hF,A0D,A0S];omega
 refine B9 (fun q:Nat × Option Nat=>[(0,H7 l),(3,B3 q.2 (F q.1).length),(4,I64 q.1)]) (fun q=>C0 Sym.nil q.2 ⟨5,true,A4 ((F q.1).map Ex.v)⟩)
  (fun q c=>q.1<=l.length/\(q.2=none->F q.1=[])/\(∀ i,q.2=some i->i<c)) (fun q=>l.length-q.1) (0,none)
  (by simp [C1,tm,Tm.upd,B3]) (Sub.nil _) ⟨A0N _,fun _=>hF0,(fun i hi=>by cases hi)⟩ ?_
 rintro ⟨k,o⟩ c ⟨hk,hno,ho⟩;dsimp only at hk hno ho ⊢;by_cases hlt:k<l.length
 ·have hd:decide ((k:Int)<(l.length:Int))=true:=by simpa using hlt
  have hg:=A0C hlt;have hsx:=Ex.szs_mem (A0M hlt);have hw:=w64 (n:=(k:Int)+1) (by omega) (by omega);have e0:F (k+1)=F k++[l[k].plain]:=by rw [hF,hF,A0X,hg,A0W];rfl
  have hFk:=hFl k;generalize l[k]=x at hg hsx e0;have hax:Ex.szs x.args<x.sz:=by cases x with|mk k v n a p=>rw [Ex.sz];show Ex.szs a<_;omega
  have hc:=ih x.args (by omega) (by omega);have hln:(A4 ((F k).map Ex.v)).length=(F k).length * 5:=(C2 (u:=5) (A3m _)).trans (by simp);have ne0:=T8 c (c+1) (c+2) (by omega);repeat' ((with_reducible first|apply wr|refine cpc hc ?_|fail)<;>try simp only [go_sem,seval,hd,hg,hw,Ex.v_w,ne0,A0,A1])
  refine F3 (F0 (cs:=A4 ((F k).map Ex.v)) (fun e=>by rw [hno e];exact ⟨rfl,rfl⟩) (fun i hi=>by have:=ho i hi;rw [A2 (by omega),A2 (by omega)];exact A0p hi) hln (by omega) (by omega) (by omega)) ?_;simp only [go_sem,seval,hw];repeat' ((with_reducible apply wr)<;>try simp only [go_sem,seval,hw])
  refine ⟨(k+1,some (c+1+1)),by simp [C1,tm,Tm.upd,B3,e0],?_,inv ⟨by omega,(fun h=>by cases h),(fun i hi=>by cases hi;omega)⟩,by simp only;omega⟩;dsimp only [C0];rw [e0,A0W,C5];refine R4 ?_;cases x with|mk kk v n a p=>simp only [Ex.plain,Ex.plains_map,Ex.kind,Ex.value,Ex.name,Ex.args,Ex.pos,A3n]
 ·have hd:decide ((k:Int)<(l.length:Int))=false:=by simpa using hlt
  repeat' ((with_reducible apply wr)<;>try simp only [go_sem,seval,hd])
  rw [hF,A0J (by omega)];exact A3c (fun e=>by have:=hno e;rw [hF,A0J (by omega)] at this;rw [this];rfl) (by simp) (A3m _)
theorem c_plainS:∀ (m:Nat) (l:List Pb.St),Pb.St.szs l<m->Pb.St.szs l<=100000000000->PC Tryz.prog 49 [F1 l] (F1 (l.map Pb.St.plain)):=by
 intro m
 induction m with
 | zero=>intro l h;omega
 | succ m ih =>
 intro l hm hB;have hl:=Pb.St.szs_len l;refine PC.of A9 isU49 (A0B rfl) (by simp [DV.nlL,DV.nl,O8]) (O8 _) ?_;show IW Tryz.prog 34 u49_1 ⟨B7 _,_,_⟩ (rt [.tmp 2] _);repeat' ((with_reducible apply wr)<;>try simp only [go_sem,seval])
 obtain ⟨F,hF⟩:∃ F:Nat->List Pb.St, ∀ k,F k=(l.take k).map Pb.St.plain:=⟨_,fun _=>rfl⟩;have hF0:F 0=[]:=by rw [hF];rfl
 have hFl:∀ k,(F k).length<=l.length:=fun k=>by rw [hF,A0D,A0S];omega
 refine B9 (fun q:Nat × Option Nat=>[(0,F1 l),(3,B3 q.2 (F q.1).length),(4,I64 q.1)]) (fun q=>C0 Sym.nil q.2 ⟨7,true,A4 ((F q.1).map Pb.St.v)⟩)
  (fun q c=>q.1<=l.length/\(q.2=none->F q.1=[])/\(∀ i,q.2=some i->i<c)) (fun q=>l.length-q.1) (0,none)
  (by simp [C1,tm,Tm.upd,B3]) (Sub.nil _) ⟨A0N _,fun _=>hF0,(fun i hi=>by cases hi)⟩ ?_
 rintro ⟨k,o⟩ c ⟨hk,hno,ho⟩;dsimp only at hk hno ho ⊢;by_cases hlt:k<l.length
 ·have hd:decide ((k:Int)<(l.length:Int))=true:=by simpa using hlt
  have hg:=A0C hlt;have hsx:=Pb.St.szs_mem (A0M hlt);have hw:=w64 (n:=(k:Int)+1) (by omega) (by omega);have e0:F (k+1)=F k++[l[k].plain]:=by rw [hF,hF,A0X,hg,A0W];rfl
  have hFk:=hFl k;generalize l[k]=x at hg hsx e0;have hax:Ex.szs x.args<x.sz:=by cases x with|mk k n t a x y p=>rw [Pb.St.sz];show Ex.szs a<_;omega
  have htx:=x.sz_thn;have hyx:=x.sz_els;have hc:=c_plainE (Ex.szs x.args+1) x.args (by omega) (by omega);have hct:=ih x.thn (by omega) (by omega);have hcy:=ih x.els (by omega) (by omega);have hln:(A4 ((F k).map Pb.St.v)).length=(F k).length * 7:=(C2 (u:=7) (A5v _)).trans (by simp);have hbn:∀ j:Nat,c<=j->C0 Sym.nil o ⟨7,true,A4 ((F k).map Pb.St.v)⟩ j=none:=fun j hj=>by rw [C7 (fun i hi=>by have:=ho i hi;omega)];rfl
  have ne0:=T8 c (c+1) (c+2) (by omega);repeat' ((with_reducible first|apply wr|refine cpc hc ?_|refine cpc hct ?_|refine cpc hcy ?_|fail)<;>try simp only [go_sem,seval,hd,hg,hw,Pb.St.v_w,ne0,A0,A1])
  refine ⟨by and_intros<;>(repeat rw [A2 (by omega)])<;>exact hbn _ (by omega),?_⟩;repeat' ((with_reducible first|apply wr|refine cpc hc ?_|refine cpc hct ?_|refine cpc hcy ?_|fail)<;>try simp only [go_sem,seval,Pb.St.v_w,ne0,A0,A1])
  refine ⟨by and_intros<;>(repeat rw [A2 (by omega)])<;>exact hbn _ (by omega),?_⟩;repeat' ((with_reducible first|apply wr|refine cpc hc ?_|refine cpc hct ?_|refine cpc hcy ?_|fail)<;>try simp only [go_sem,seval,Pb.St.v_w,ne0,A0,A1])
  refine ⟨by and_intros<;>(repeat rw [A2 (by omega)])<;>exact hbn _ (by omega),?_⟩;repeat' ((with_reducible first|apply wr|refine cpc hc ?_|refine cpc hct ?_|refine cpc hcy ?_|fail)<;>try simp only [go_sem,seval,Pb.St.v_w,ne0,A0,A1])
  refine F3 (F0 (cs:=A4 ((F k).map Pb.St.v)) (fun e=>by rw [hno e];exact ⟨rfl,rfl⟩) (fun i hi=>by have:=ho i hi;rw [A2 (by omega),A2 (by omega)];exact A0p hi) hln (by omega) (by omega) (by omega)) ?_;simp only [go_sem,seval,hw];repeat' ((with_reducible apply wr)<;>try simp only [go_sem,seval,hw])
  refine ⟨(k+1,some (c+1+17+1)),by simp [C1,tm,Tm.upd,B3,e0],?_,inv ⟨by omega,(fun h=>by cases h),(fun i hi=>by cases hi;omega)⟩,by simp only;omega⟩;dsimp only [C0];rw [e0,A0W,C5];refine R4 ?_;cases x with|mk kk n t a x y p=>simp only [Pb.St.plain,Ex.plains_map,Pb.St.plains_map,Pb.St.kind,Pb.St.name,Pb.St.text,Pb.St.args,Pb.St.thn,Pb.St.els,Pb.St.pos,B9h]
 ·have hd:decide ((k:Int)<(l.length:Int))=false:=by simpa using hlt
  repeat' ((with_reducible apply wr)<;>try simp only [go_sem,seval,hd])
  rw [hF,A0J (by omega)];exact A3c (fun e=>by have:=hno e;rw [hF,A0J (by omega)] at this;rw [this];rfl) (by simp) (A5v _)
theorem c_Plain31 (r:Ru) (hB:r.sz<=100000000000):PC Tryz.prog 19 [r.v] r.plain.v:=by
 refine PC.of A9 isU19 (A0B rfl) (by simp [DV.nlL,DV.nl,G6,G5]) (Ru.nl _) ?_;obtain ⟨D,M⟩:=r;have hDs:(D.map Dc.sz).sum+(M.map Md.sz).sum<=100000000000:=hB;have hDl:D.length<=(D.map Dc.sz).sum:=G9 fun x _=>by show 1<=1+_;omega
 have hMl:M.length<=(M.map Md.sz).sum:=G9 fun x _=>by show 1<=1+_+_;omega
 dsimp only [Ru.v,Ru.plain];show IW Tryz.prog 89 u19_1 ⟨B7 _,_,_⟩ (rt [.cell 2 2 true] _);repeat' ((with_reducible apply wr)<;>try simp only [go_sem,seval])
 obtain ⟨F,hF⟩:∃ F:Nat->List Dc, ∀ k,F k=(D.take k).map Dc.plain:=⟨_,fun _=>rfl⟩;have hF0:F 0=[]:=by rw [hF];rfl
 have hFl:∀ k,(F k).length<=D.length:=fun k=>by rw [hF,A0D,A0S];omega
 refine B9 (fun q:Nat × Option Nat=>[(1,.ptr 0 0),(2,.ptr 1 0),(3,.ptr 2 0),(4,I64 q.1)]) (fun q=>C0 (((Sym.nil.upd 0 ⟨0,true,[D4 D,E0 M]⟩).upd 1 ⟨0,true,[.snil,.snil]⟩).upd 2 ⟨0,true,[B3 q.2 (F q.1).length,.snil]⟩) q.2 ⟨4,true,A4 ((F q.1).map Dc.v)⟩)
  (fun q c=>3<=c/\q.1<=D.length/\(q.2=none->F q.1=[])/\(∀ i,q.2=some i->3<=i/\i<c)) (fun q=>D.length-q.1) (0,none)
  (by simp [C1,tm,Tm.upd]) (Sub.refl _) ⟨by omega,A0N _,fun _=>hF0,(fun i hi=>by cases hi)⟩ ?_
 rintro ⟨k,o⟩ c ⟨hc,hk,hno,ho⟩;dsimp only at hc hk hno ho ⊢;have hbr:C0 (((Sym.nil.upd 0 ⟨0,true,[D4 D,E0 M]⟩).upd 1 ⟨0,true,[.snil,.snil]⟩).upd 2 ⟨0,true,[B3 o (F k).length,.snil]⟩) o ⟨4,true,A4 ((F k).map Dc.v)⟩ 0=some ⟨0,true,[D4 D,E0 M]⟩:=by rw [C7 (fun i hi=>by have:=ho i hi;omega),A2 (by omega),A2 (by omega),A0]
 by_cases hlt:k<D.length
 ·have hd:decide ((k:Int)<(D.length:Int))=true:=by simpa using hlt
  have hg:=A0C hlt;have hw:=w64 (n:=(k:Int)+1) (by omega) (by omega);have e0:F (k+1)=F k++[D[k].plain]:=by rw [hF,hF,A0X,hg,A0W];rfl
  have hFk:=hFl k;generalize D[k]=x at hg e0;have hln:(A4 ((F k).map Dc.v)).length=(F k).length * 4:=(C2 (u:=4) (A1q _)).trans (by simp);have hbx:C0 (((Sym.nil.upd 0 ⟨0,true,[D4 D,E0 M]⟩).upd 1 ⟨0,true,[.snil,.snil]⟩).upd 2 ⟨0,true,[B3 o (F k).length,.snil]⟩) o ⟨4,true,A4 ((F k).map Dc.v)⟩ 2=some ⟨0,true,[B3 o (F k).length,.snil]⟩:=by rw [C7 (fun i hi=>by have:=ho i hi;omega),A0]
  have hb1:C0 (((Sym.nil.upd 0 ⟨0,true,[D4 D,E0 M]⟩).upd 1 ⟨0,true,[.snil,.snil]⟩).upd 2 ⟨0,true,[B3 o (F k).length,.snil]⟩) o ⟨4,true,A4 ((F k).map Dc.v)⟩ 1=some ⟨0,true,[.snil,.snil]⟩:=by rw [C7 (fun i hi=>by have:=ho i hi;omega),A2 (by omega),A0]
  have hbo:∀ i:Nat,o=some i->C0 (((Sym.nil.upd 0 ⟨0,true,[D4 D,E0 M]⟩).upd 1 ⟨0,true,[.snil,.snil]⟩).upd 2 ⟨0,true,[B3 o (F k).length,.snil]⟩) o ⟨4,true,A4 ((F k).map Dc.v)⟩ i=some ⟨4,true,A4 ((F k).map Dc.v)⟩:=fun i hi=>by subst hi;exact A0
  have hdx:∀ X:Hp,H9 X o 2=X 2:=fun X=>E9 (fun i hi=>by have:=ho i hi;omega);generalize hHH:C0 (((Sym.nil.upd 0 ⟨0,true,[D4 D,E0 M]⟩).upd 1 ⟨0,true,[.snil,.snil]⟩).upd 2 ⟨0,true,[B3 o (F k).length,.snil]⟩) o ⟨4,true,A4 ((F k).map Dc.v)⟩=HH at hbr hbx hbo hb1 ⊢;have ne0:=A7z 0 1 2 c (c+1) (c+1+1) (by omega);repeat' ((with_reducible apply wr)<;>try simp only [go_sem,seval,hd,hg,hw,hbr,hbx,ne0,A0,A1])
  refine F3 (F0 (cs:=A4 ((F k).map Dc.v)) (fun e=>by rw [hno e];exact ⟨rfl,rfl⟩) (fun i hi=>by have:=ho i hi;rw [A2 (by omega),A2 (by omega)];exact hbo i hi) hln (by omega) (by omega) (by omega)) ?_;simp only [go_sem,seval,hw,ne0,A0,A1,hdx,hbx];repeat' ((with_reducible apply wr)<;>try simp only [go_sem,seval,hw,ne0,A0,A1,hdx,hbx])
  refine ⟨(k+1,some (c+1+1)),by simp [C1,tm,Tm.upd],?_,inv ⟨by omega,by omega,(fun h=>by cases h),(fun i hi=>by cases hi;omega)⟩,by simp only;omega⟩;dsimp only [C0,B3];rw [e0,A0W,C5,A0A,A0H];intro j b hj;by_cases e1:j=c+1+1
  ·subst e1;rw [A0] at hj;rw [A2 (by omega),A0, <- hj];rfl
  rw [A2 e1] at hj;by_cases e2:j=2
  ·subst e2;rw [A0] at hj ⊢;exact hj
  rw [A2 e2] at hj ⊢;rw [A2 e1];by_cases e3:j=1
  ·subst e3;rw [A0] at hj;rw [E9 (fun i hi=>by have:=ho i hi;omega),A2 (by omega),A2 (by omega),hb1];exact hj
  rw [A2 e3] at hj;by_cases e4:j=0
  ·subst e4;rw [A0] at hj;rw [E9 (fun i hi=>by have:=ho i hi;omega),A2 (by omega),A2 (by omega),hbr];exact hj
  ·rw [A2 e4] at hj;cases hj
 ·have hd:decide ((k:Int)<(D.length:Int))=false:=by simpa using hlt
  repeat' ((with_reducible apply wr)<;>try simp only [go_sem,seval,hd,hbr])
  refine IW.keep [1,2,3,6] [.ptr 0 0,.ptr 1 0,.ptr 2 0,I64 0] (C1s (Hb:=((Sym.nil.upd 0 ⟨0,true,[D4 D,E0 M]⟩).upd 1 ⟨0,true,[.snil,.snil]⟩)) (ci:=2) (u:=4) (pre:=[]) (suf:=[.snil]) (xs:=(F k).map Dc.v) (by simp [DV.one]) (fun h=>by rw [hno h];rfl) (fun i hi=>by have:=ho i hi;exact ⟨by omega,by rw [A2 (by omega),A2 (by omega)];rfl⟩) (by simp) (A1q _)) ?_;have hFD:F k=D.map Dc.plain:=by rw [hF,A0J (by omega)]
  rw [hFD];clear hno ho hbr hFD hlt hd hFl hF0 hF hk;obtain ⟨G,hG⟩:∃ G:Nat->List Md, ∀ k,G k=(M.take k).map Md.plain:=⟨_,fun _=>rfl⟩;have hG0:G 0=[]:=by rw [hG];rfl
  have hGl:∀ k,(G k).length<=M.length:=fun k=>by rw [hG,A0D,A0S];omega
  refine B9 (fun q:Nat × Option Nat=>[(1,.ptr 0 0),(2,.ptr 1 0),(3,.ptr 2 0),(6,I64 q.1)]) (fun q=>C0 (((Sym.nil.upd 0 ⟨0,true,[D4 D,E0 M]⟩).upd 1 ⟨0,true,[.snil,.snil]⟩).upd 2 ⟨0,true,[D4 (D.map Dc.plain),B3 q.2 (G q.1).length]⟩) q.2 ⟨4,true,A4 ((G q.1).map Md.v)⟩)
   (fun q c=>3<=c/\q.1<=M.length/\(q.2=none->G q.1=[])/\(∀ i,q.2=some i->3<=i/\i<c)) (fun q=>M.length-q.1) (0,none)
   (by simp [C1,tm,Tm.upd]) (by rw [hG0];exact Sub.refl _) ⟨hc,A0N _,fun _=>hG0,(fun i hi=>by cases hi)⟩ ?_
  clear hc k c o;rintro ⟨k,o⟩ c ⟨hc,hk,hno,ho⟩;dsimp only at hc hk hno ho ⊢;have hGk:=hGl k;have hbr:C0 (((Sym.nil.upd 0 ⟨0,true,[D4 D,E0 M]⟩).upd 1 ⟨0,true,[.snil,.snil]⟩).upd 2 ⟨0,true,[D4 (D.map Dc.plain),B3 o (G k).length]⟩) o ⟨4,true,A4 ((G k).map Md.v)⟩ 0=some ⟨0,true,[D4 D,E0 M]⟩:=by rw [C7 (fun i hi=>by have:=ho i hi;omega),A2 (by omega),A2 (by omega),A0]
  have hbx:C0 (((Sym.nil.upd 0 ⟨0,true,[D4 D,E0 M]⟩).upd 1 ⟨0,true,[.snil,.snil]⟩).upd 2 ⟨0,true,[D4 (D.map Dc.plain),B3 o (G k).length]⟩) o ⟨4,true,A4 ((G k).map Md.v)⟩ 2=some ⟨0,true,[D4 (D.map Dc.plain),B3 o (G k).length]⟩:=by rw [C7 (fun i hi=>by have:=ho i hi;omega),A0]
  have hb1:C0 (((Sym.nil.upd 0 ⟨0,true,[D4 D,E0 M]⟩).upd 1 ⟨0,true,[.snil,.snil]⟩).upd 2 ⟨0,true,[D4 (D.map Dc.plain),B3 o (G k).length]⟩) o ⟨4,true,A4 ((G k).map Md.v)⟩ 1=some ⟨0,true,[.snil,.snil]⟩:=by rw [C7 (fun i hi=>by have:=ho i hi;omega),A2 (by omega),A0]
  have hbo:∀ i:Nat,o=some i->C0 (((Sym.nil.upd 0 ⟨0,true,[D4 D,E0 M]⟩).upd 1 ⟨0,true,[.snil,.snil]⟩).upd 2 ⟨0,true,[D4 (D.map Dc.plain),B3 o (G k).length]⟩) o ⟨4,true,A4 ((G k).map Md.v)⟩ i=some ⟨4,true,A4 ((G k).map Md.v)⟩:=fun i hi=>by subst hi;exact A0
  have hbn:∀ j:Nat,c<=j->C0 (((Sym.nil.upd 0 ⟨0,true,[D4 D,E0 M]⟩).upd 1 ⟨0,true,[.snil,.snil]⟩).upd 2 ⟨0,true,[D4 (D.map Dc.plain),B3 o (G k).length]⟩) o ⟨4,true,A4 ((G k).map Md.v)⟩ j=none:=fun j hj=>by rw [C7 (fun i hi=>by have:=ho i hi;omega),A2 (by omega),A2 (by omega),A2 (by omega)];rfl
  have hT:(B3 o (G k).length).one=true:=by cases o<;>rfl
  have hdx:∀ X:Hp,H9 X o 2=X 2:=fun X=>E9 (fun i hi=>by have:=ho i hi;omega);by_cases hlt:k<M.length
  ·have hd:decide ((k:Int)<(M.length:Int))=true:=by simpa using hlt
   have hg:=A0C hlt;have hw:=w64 (n:=(k:Int)+1) (by omega) (by omega);have e0:G (k+1)=G k++[M[k].plain]:=by rw [hG,hG,A0X,hg,A0W];rfl
   have hsx:=I3 (f:=Md.sz) (A0M hlt);generalize M[k]=x at hg hsx e0;have hxs:(x.hds.map Hd.sz).sum<Md.sz x:=by unfold Md.sz;omega
   have hxl:x.hds.length<=(x.hds.map Hd.sz).sum:=G9 fun x _=>by show 1<=1+_+_;omega
   have hln:(A4 ((G k).map Md.v)).length=(G k).length * 4:=(C2 (u:=4) (A6c _)).trans (by simp);generalize hHH:C0 (((Sym.nil.upd 0 ⟨0,true,[D4 D,E0 M]⟩).upd 1 ⟨0,true,[.snil,.snil]⟩).upd 2 ⟨0,true,[D4 (D.map Dc.plain),B3 o (G k).length]⟩) o ⟨4,true,A4 ((G k).map Md.v)⟩=HH at hbr hbx hbo hb1 hbn ⊢;have ne0:=W0 0 1 2 (c+13) (by omega);repeat' ((with_reducible apply wr)<;>try simp only [go_sem,seval,hd,hg,hw,hbr,hbx,ne0,A0,A1])
   obtain ⟨K,hK⟩:∃ K:Nat->List Hd, ∀ j,K j=(x.hds.take j).map Hd.plain:=⟨_,fun _=>rfl⟩;have hK0:K 0=[]:=by rw [hK];rfl
   have hKl:∀ j,(K j).length<=x.hds.length:=fun j=>by rw [hK,A0D,A0S];omega
   refine B9 (fun q:Nat × Option Nat=>[(1,.ptr 0 0),(2,.ptr 1 0),(3,.ptr 2 0),(6,I64 k),(7,.ptr (c+13) 0),(8,I64 q.1)]) (fun q=>C0 (HH.upd (c+13) ⟨0,true,[.str x.name,I64 x.prio,B3 q.2 (K q.1).length,I64 0]⟩) q.2 ⟨4,true,A4 ((K q.1).map Hd.v)⟩)
    (fun q n=>c+15<=n/\q.1<=x.hds.length/\(q.2=none->K q.1=[])/\(∀ i,q.2=some i->c+15<=i/\i<n)) (fun q=>x.hds.length-q.1) (0,none)
    (by simp [C1,tm,Tm.upd]) (by rw [hK0];exact Sub.refl _) ⟨A0I _,A0N _,fun _=>hK0,(fun i hi=>by cases hi)⟩ ?_
   rintro ⟨j,o2⟩ n ⟨hn,hj,hno2,ho2⟩;dsimp only at hn hj hno2 ho2 ⊢;have hKj:=hKl j;have h2r:C0 (HH.upd (c+13) ⟨0,true,[.str x.name,I64 x.prio,B3 o2 (K j).length,I64 0]⟩) o2 ⟨4,true,A4 ((K j).map Hd.v)⟩ 0=some ⟨0,true,[D4 D,E0 M]⟩:=by rw [C7 (fun i hi=>by have:=ho2 i hi;omega),A2 (by omega),hbr]
   have h2b:C0 (HH.upd (c+13) ⟨0,true,[.str x.name,I64 x.prio,B3 o2 (K j).length,I64 0]⟩) o2 ⟨4,true,A4 ((K j).map Hd.v)⟩ (c+13)=some ⟨0,true,[.str x.name,I64 x.prio,B3 o2 (K j).length,I64 0]⟩:=by rw [C7 (fun i hi=>by have:=ho2 i hi;omega),A0]
   have h2o:∀ i:Nat,o2=some i->C0 (HH.upd (c+13) ⟨0,true,[.str x.name,I64 x.prio,B3 o2 (K j).length,I64 0]⟩) o2 ⟨4,true,A4 ((K j).map Hd.v)⟩ i=some ⟨4,true,A4 ((K j).map Hd.v)⟩:=fun i hi=>by subst hi;exact A0
   have h2n:∀ i:Nat,n<=i->C0 (HH.upd (c+13) ⟨0,true,[.str x.name,I64 x.prio,B3 o2 (K j).length,I64 0]⟩) o2 ⟨4,true,A4 ((K j).map Hd.v)⟩ i=none:=fun i hi=>by rw [C7 (fun i hi=>by have:=ho2 i hi;omega),A2 (by omega)];exact hbn _ (by omega)
   have h2j:∀ i:Nat,i<c+13->C0 (HH.upd (c+13) ⟨0,true,[.str x.name,I64 x.prio,B3 o2 (K j).length,I64 0]⟩) o2 ⟨4,true,A4 ((K j).map Hd.v)⟩ i=HH i:=fun i hi=>by rw [C7 (fun i hi=>by have:=ho2 i hi;omega),A2 (by omega)]
   have hT2:(B3 o2 (K j).length).one=true:=by cases o2<;>rfl
   have hdx2:∀ X:Hp,H9 X o2 (c+13)=X (c+13):=fun X=>E9 (fun i hi=>by have:=ho2 i hi;omega);by_cases hjl:j<x.hds.length
   ·have hdj:decide ((j:Int)<(x.hds.length:Int))=true:=by simpa using hjl
    have hgj:=A0C hjl;have hwj:=w64 (n:=(j:Int)+1) (by omega) (by omega);have k0:K (j+1)=K j++[x.hds[j].plain]:=by rw [hK,hK,A0X,hgj,A0W];rfl
    have hsj:=I3 (f:=Hd.sz) (A0M hjl);generalize x.hds[j]=y at hgj hsj k0;have hbs:Pb.St.szs y.body<Hd.sz y:=by unfold Hd.sz;omega
    have cb:=c_plainS (Pb.St.szs y.body+1) y.body (by omega) (by omega);have hlj:(A4 ((K j).map Hd.v)).length=(K j).length * 4:=(C2 (u:=4) (A1l _)).trans (by simp);generalize hH2:C0 (HH.upd (c+13) ⟨0,true,[.str x.name,I64 x.prio,B3 o2 (K j).length,I64 0]⟩) o2 ⟨4,true,A4 ((K j).map Hd.v)⟩=H2 at h2r h2b h2o h2n h2j ⊢;have ne0:=A0q 0 1 2 (c+13) n (by omega);repeat' ((with_reducible first|apply wr|refine cpc cb ?_|fail)<;>try simp only [go_sem,seval,hdj,hg,hgj,hwj,h2r,h2b,ne0,A0,A1])
    refine ⟨by and_intros<;>(repeat rw [A2 (by omega)])<;>exact h2n _ (by omega),?_⟩;rw [F0 (cs:=A4 ((K j).map Hd.v)) (fun e=>by rw [hno2 e];exact ⟨rfl,rfl⟩) (fun i hi=>by have:=ho2 i hi;rw [A2 (by omega),A2 (by omega)];exact h2o i hi) hlj (by omega) (by omega) (by omega)];have ne0:=nes7 0 1 2 (c+13) n (n+1+10) (n+1+14) (by omega);simp only [go_sem,seval,ne0,A0,A1,hdx2,h2b,hwj];repeat' ((with_reducible apply wr)<;>try simp only [go_sem,seval,ne0,A0,A1,hdx2,h2b,hwj])
    refine ⟨(j+1,some (n+1+14)),by simp,?_,inv ⟨by omega,by omega,(fun h=>by cases h),(fun i hi=>by cases hi;omega)⟩,by simp only;omega⟩;dsimp only [C0,B3];rw [k0,A0W,C5,A0A,A0H];intro i b hi;by_cases e1:i=n+1+14
    ·subst e1;rw [A0] at hi;rw [A2 (by omega),A0, <- hi];simp only [Hd.plain,Pb.St.plains_map];rfl
    rw [A2 e1] at hi;by_cases e2:i=c+13
    ·subst e2;rw [A0] at hi ⊢;exact hi
    rw [A2 e2] at hi ⊢;rw [A2 e1];have hic:i<c:=Classical.byContradiction fun h=>by rw [hbn i (by omega)] at hi;cases hi
    rw [E9 (fun i' hi'=>by have:=ho2 i' hi';omega),A2 (by omega),A2 (by omega),h2j i (by omega)];exact hi
   ·have hdj:decide ((j:Int)<(x.hds.length:Int))=false:=by simpa using hjl
    have ne0:=A0q 0 1 2 (c+13) n (by omega);repeat' ((with_reducible first|refine G8 (p:=IW _ _ u19_32 _ _) ?_|refine wr ?_|fail)<;>try simp only [go_sem,seval,hdj,hg,h2r,h2b,ne0,A0,A1])
    unfold A5n;have hKM:K j=x.hds.map Hd.plain:=by rw [hK,A0J (by omega)]
    refine IW.keep [1,2,3,6,7] [.ptr 0 0,.ptr 1 0,.ptr 2 0,I64 k,.ptr (c+13) 0] (C1s (Hb:=HH) (ci:=c+13) (u:=4) (pre:=[.str x.name,I64 x.prio]) (suf:=[I64 0]) (xs:=(K j).map Hd.v) (by simp [DV.one]) (fun h=>by rw [hno2 h];rfl) (fun i hi=>by have:=ho2 i hi;exact ⟨by omega,hbn _ (by omega)⟩) (by simp) (A1l _)) ?_;rw [hKM];dsimp only [List.cons_append,List.nil_append];show IW Tryz.prog _ _ ⟨tm [(1,.ptr 0 0),(2,.ptr 1 0),(3,.ptr 2 0),(6,I64 k),(7,.ptr (c+13) 0)],_,_⟩ _;have ne0:=A7z 0 1 2 (c+13) n (n+1) (by omega);repeat' ((with_reducible apply wr)<;>try simp only [go_sem,seval,hbx,hbr,ne0,A0,A1])
    refine F3 (F0 (cs:=A4 ((G k).map Md.v)) (fun e=>by rw [hno e];exact ⟨rfl,rfl⟩) (fun i hi=>by have:=ho i hi;rw [A2 (by omega),A2 (by omega)];exact hbo i hi) hln (by omega) (by omega) (by omega)) ?_;simp only [go_sem,seval,hw,ne0,A0,A1,hdx,hbx];repeat' ((with_reducible apply wr)<;>try simp only [go_sem,seval,hw,ne0,A0,A1,hdx,hbx])
    refine ⟨(k+1,some (n+1)),by simp [C1,tm,Tm.upd],?_,inv ⟨by omega,by omega,(fun h=>by cases h),(fun i hi=>by cases hi;omega)⟩,by simp only;omega⟩;dsimp only [C0,B3];rw [e0,A0W,C5,A0A,A0H];intro i b hi;by_cases e1:i=n+1
    ·subst e1;rw [A0] at hi;rw [A2 (by omega),A0, <- hi];rfl
    rw [A2 e1] at hi;by_cases e2:i=2
    ·subst e2;rw [A0] at hi ⊢;exact hi
    rw [A2 e2] at hi ⊢;rw [A2 e1];by_cases e3:i=1
    ·subst e3;rw [A0] at hi;rw [E9 (fun i hi=>by have:=ho i hi;omega),A2 (by omega),A2 (by omega),hb1];exact hi
    rw [A2 e3] at hi;by_cases e4:i=0
    ·subst e4;rw [A0] at hi;rw [E9 (fun i hi=>by have:=ho i hi;omega),A2 (by omega),A2 (by omega),hbr];exact hi
    ·rw [A2 e4] at hi;cases hi
  ·have hd:decide ((k:Int)<(M.length:Int))=false:=by simpa using hlt
   generalize hHH:C0 (((Sym.nil.upd 0 ⟨0,true,[D4 D,E0 M]⟩).upd 1 ⟨0,true,[.snil,.snil]⟩).upd 2 ⟨0,true,[D4 (D.map Dc.plain),B3 o (G k).length]⟩) o ⟨4,true,A4 ((G k).map Md.v)⟩=HH at hbr hbx hbo hb1 hbn ⊢;have ne0:=T8 0 1 2 (by omega);repeat' ((with_reducible apply wr)<;>try simp only [go_sem,seval,hd,hbr,hbx,hb1,ne0,A0,A1,hT])
   refine F3 (B0v (by rfl) (by decide) (by cases o<;>rfl)) ?_;simp only [go_sem,seval,ne0,A0];repeat' ((with_reducible apply wr)<;>try simp only [go_sem,seval,ne0,A0])
   rw [E7 (rv2 rfl rfl)];have hGM:M.map Md.plain=G k:=by rw [hG,A0J (by omega)]
   rw [hGM];exact ⟨Sym.nil,C7a (cc:=0) (G k) (fun _ _=>rfl) (fun _ _=>A0N _) hno (fun i hi=>by have:=ho i hi;show (HH.upd 1 _) i=_;rw [A2 (by omega)];exact hbo i hi) (fun j hj=>by omega)⟩
end Go.Proofs.YtnmkkggfgdfmeaaGreatDoor
set_option linter.unusedSectionVars false
namespace Go.Pb
variable [Go.Sym.Tab]
open Go.Sym
def B6u (t:Tok):Prop:=H3 t/\0<=t.value/\t.value<=2147483647
abbrev D2 (l:List Tok):Prop:=∀ t∈l,B6u t
theorem A0u:B6u Q3:=⟨⟨fun h=>by simp [Q3] at h,fun h=>by simp [Q3] at h,fun h=>by simp [Q3] at h⟩,by simp [Q3],by simp [Q3]⟩
theorem Q7 (s:List UInt8):B6u (A5 s):=by
 refine ⟨⟨fun h=>?_,fun h=>?_,fun h=>?_⟩,by simp [A5],by simp [A5]⟩;all_goals simp only [A5] at h ⊢
 all_goals (by_cases h1:G7 s=true)
 all_goals (by_cases h2:D7 s=true)
 all_goals (simp_all)
theorem Y2 (s:List UInt8):D2 (D1 s):=by
 intro t ht;unfold D1 at ht;split at ht
 ·rw [A2D] at ht;subst ht;exact A0u
 ·rename_i h;rw [A2D] at ht;subst ht;exact ⟨⟨fun _=>by simpa using h,fun h=>by simp at h,fun h=>by simp at h⟩,by simp,by simp⟩
theorem B6o (n:Int):D2 (S1 n):=by
 intro t ht;unfold S1 at ht;split at ht
 ·rw [A2D] at ht;subst ht;exact A0u
 ·rename_i h;rw [A2D] at ht;subst ht;refine ⟨⟨fun h=>by simp at h,fun _=>?_,fun h=>by simp at h⟩,?_,?_⟩<;>simp only<;>omega
theorem D3h (s:List UInt8):D2 (A0b s):=by
 intro t ht;unfold A0b at ht;split at ht
 ·rw [A2D] at ht;subst ht;exact A0u
 ·rename_i h;rw [A2D] at ht;subst ht;refine ⟨⟨fun h=>by simp at h,fun h=>by simp at h,fun _=>?_⟩,by simp,by simp⟩;simp only [S4,A0G,A0L];refine ⟨?_,by omega⟩;cases hz:s.all txB with
  | true=>rfl
  | false=>exact absurd (.inl hz) h
theorem D2.app {a b:List Tok} (ha:D2 a) (hb:D2 b):D2 (a++b):=fun t ht=>(A1X.1 ht).elim (ha t) (hb t)
theorem D2.one {t:Tok} (h:B6u t):D2 [t]:=fun x hx=>by rw [A2D] at hx;subst hx;exact h
theorem D2.nil:D2 []:=fun x hx=>by cases hx
theorem D2.flat {α : Type} {f : α -> List Tok} {l:List α} (h:∀ x∈l,D2 (f x)):D2 (l.flatMap f):=fun t ht=>by
 obtain ⟨x,hx,h2⟩:=List.mem_flatMap.1 ht;exact h x hx t h2
theorem C1p {q:Int × List Tok} (n:Int) (h:D2 q.2):D2 (E2 q n):=by
 unfold E2;split
 ·exact ((D2.one (Q7 _)).app h).app (D2.one (Q7 _))
 ·exact h
theorem D3i {k v:Int} {n:List UInt8} {as1:List (Int × List Tok)} (h:∀ q∈as1,D2 q.2):D2 (J6 k v n as1):=by
 unfold J6;dsimp only;by_cases h1:k=1
 ·rw [if_pos h1];exact B6o _
 rw [if_neg h1];by_cases h2:k=2
 ·rw [if_pos h2];exact Y2 _
 rw [if_neg h2];by_cases h3:k=3
 ·rw [if_pos h3];exact D2.one (Q7 _)
 rw [if_neg h3];by_cases h4:k=4
 ·rw [if_pos h4];exact D2.one (Q7 _)
 rw [if_neg h4];by_cases h8:k=8
 ·rw [if_pos h8];exact D2.one (Q7 _)
 rw [if_neg h8];by_cases h9:k=9
 ·rw [if_pos h9];exact D2.one (Q7 _)
 rw [if_neg h9];by_cases h5:k=5
 ·rw [if_pos h5];exact (D2.one (Q7 _)).app (Y2 _)
 rw [if_neg h5];by_cases h6:k=6
 ·rw [if_pos h6];exact (D2.one (Q7 _)).app (Y2 _)
 rw [if_neg h6];by_cases h7:k=7
 ·rw [if_pos h7];exact (D2.one (Q7 _)).app (Y2 _)
 rw [if_neg h7]
 match as1,h with
 | [],_=>exact D2.one A0u
 | [q],h =>
  dsimp only;split
  ·exact (D2.one (Q7 _)).app (C1p _ (h q A0O))
  ·exact D2.one A0u
 | [q,r],h =>
  dsimp only;split
  ·exact ((C1p _ (h q A0O)).app (D2.one (Q7 _))).app (C1p _ (h r (A0P _ A0O)))
  ·exact D2.one A0u
 | _ :: _ :: _ :: _,_=>exact D2.one A0u
theorem C6z:∀ e:Ex,D2 (exT e)
 | .mk k v n a p=>by
  have ih:∀ x∈a,D2 (exT x):=fun x hx=>C6z x;rw [exT,A3o];exact D3i fun q hq=>by
   obtain ⟨x,hx,rfl⟩:=A1Z.1 hq;exact ih x hx
theorem A7g (l:List Ex) (i:Nat):D2 (agT l i):=by
 unfold agT;cases h:l[i]? with
 | none=>exact D2.one A0u
 | some e=>exact C6z e
mutual
theorem C1n:∀ s:St,D2 (stT s)
 | .mk k n t a x y p=>by
  have hx:=A6f x;have hy:∀ l,l=y->D2 (N4 l):=fun l h=>by subst h;exact A6f l
  have hq:∀ q,y=[q]->D2 (stT q):=fun q h=>by subst h;exact C1n q
  have w:∀ s,D2 [A5 s]:=fun s=>D2.one (Q7 s);unfold stT;split
  ·exact (((Y2 _).app (w _)).app (A7g _ _)).app (w _)
  split
  ·exact D2.one A0u
  dsimp only;split
  ·have ho:D2 ([A5 (C3.getD (k-2).toNat [])]++agT a 0++([A5 [123]]++N4 x++[A5 [125]])):=((w _).app (A7g _ _)).app (((w _).app hx).app (w _))
   match y,hy,hq with
   | [],_,_=>exact ho
   | [q],_,hq =>
    dsimp only;split
    ·exact (ho.app (w _)).app (hq q rfl)
    ·exact (ho.app (w _)).app (((w _).app (hq q rfl)).app (w _))
   | q :: q2 :: r,hy,_=>exact (ho.app (w _)).app (((w _).app (hy _ rfl)).app (w _))
  split
  ·exact ((w _).app (A7g _ _)).app (w _)
  split
  ·exact ((((w _).app (D3h _)).app (w _)).app (A7g _ _)).app (w _)
  split
  ·exact (((w _).app (Y2 _)).app (A7g _ _)).app (w _)
  split
  ·exact (((((w _).app (Y2 _)).app (A7g _ _)).app (w _)).app (A7g _ _)).app (w _)
  split
  ·exact (w _).app (w _)
  ·exact ((w _).app (Y2 _)).app (w _)
theorem A6f:∀ l:List St,D2 (N4 l)
 | []=>by rw [N4];exact D2.nil
 | s :: l=>by rw [N4];exact (C1n s).app (A6f l)
end
theorem D0r (l:List St):D2 (blT l):=((D2.one (Q7 _)).app (A6f l)).app (D2.one (Q7 _))
theorem D0q (d:Dc):D2 (dcT d):=by
 have w:∀ s,D2 [A5 s]:=fun s=>D2.one (Q7 s);unfold dcT;split
 ·exact D2.one A0u
 ·dsimp only;refine D2.app ?_ (w _);split
  ·exact (w _).app (Y2 _)
  split
  ·exact (((w _).app (Y2 _)).app (w _)).app (B6o _)
  ·exact ((w _).app (Y2 _)).app (B6o _)
theorem D0p (h:Hd):D2 (hdT h):=by
 unfold hdT;refine D2.app (D2.app ?_ ?_) (D0r _)
 ·exact (D2.one (Q7 _)).app (D2.one (Q7 _))
 ·split
  ·exact Y2 _
  ·exact D2.nil
theorem D0o (m:Md):D2 (mdT m):=by
 have w:∀ s,D2 [A5 s]:=fun s=>D2.one (Q7 s);unfold mdT;exact (((((w _).app (Y2 _)).app (B6o _)).app (w _)).app (D2.flat fun x _=>D0p x)).app (w _)
theorem C1o (r:Ru):D2 (ruT r):=by
 unfold ruT;split
 ·exact D2.one A0u
 ·exact (D2.flat fun x _=>D0q x).app (D2.flat fun x _=>D0o x)
section
variable {L:List Tok} {E:Int}
theorem B5z {s:List UInt8} (h:D7 s=true):s.length<=12:=by
 unfold D7 at h;simp only [A0G,A0L] at h;exact h.1.1.1.2
theorem A1g (hG:∀ t∈L,H3 t) {s:Rd}:(B2 L E s 1).1.text.length<=12:=by
 cases h:I9 L E s 1 with
 | false=>unfold B2;rw [if_pos h];exact A0N _
 | true =>
  unfold B2;rw [if_neg (by rw [h];decide)];exact B5z ((hG _ (I8 (by decide) (H4 h).2).1).1 (H4 h).2)
theorem C3n (hG:∀ t∈L,H3 t) {s:Rd}:(B2 L E s 4).1.text.length<=32:=by
 cases h:I9 L E s 4 with
 | false=>unfold B2;rw [if_pos h];exact A0N _
 | true =>
  unfold B2;rw [if_neg (by rw [h];decide)];have:=(hG _ (I8 (by decide) (H4 h).2).1).2.2 (H4 h).2;unfold S4 at this;simp only [A0G,A0L] at this;exact this.2
theorem C4f (hG:∀ t∈L,H3 t) {s:Rd}:(I5 L E s).1.sz+13 * s.i<=13 * (I5 L E s).2.i+1:=by
 have hge:=B5t (L:=L) (E:=E) (s:=s);have h2:(C8 L E { s with ops:=s.ops+1 } (s.ops+1) 32 9).i=s.i:=F6;unfold I5 at hge ⊢;dsimp only at hge ⊢;split
 ·rename_i hc;rw [if_pos hc] at hge;show 1+0+0+_<=_;have:s.i<=(M7 L E s).i:=hge;show 1+0+0+13 * s.i<=13 * (M7 L E s).i+1;omega
 ·rename_i hc;rw [if_neg hc] at hge;split
  ·show 1+0+0+13 * s.i<=13 * (C8 L E { s with ops:=s.ops+1 } (s.ops+1) 32 9).i+1;omega
  ·have h3:(B1 (C8 L E { s with ops:=s.ops+1 } (s.ops+1) 32 9)).i=s.i+1:=by show (C8 L E { s with ops:=s.ops+1 } (s.ops+1) 32 9).i+1=_;rw [h2]
   generalize B1 (C8 L E { s with ops:=s.ops+1 } (s.ops+1) 32 9)=s3 at h3;have h4:=I2 (L:=L) (E:=E) (s:=s3) (x:=1);have h5:=A1g (L:=L) (E:=E) hG (s:=s3);split
   ·split
    ·show 1+(B2 L E s3 1).1.text.length+0+13 * s.i<=13 * (B2 L E s3 1).2.i+1;omega
    ·show 1+0+0+13 * s.i<=13 * s3.i+1;omega
   ·rename_i hk;split
    ·show 1+0+0+13 * s.i<=13 * s3.i+1;omega
    ·rename_i hk3;have h1k:I9 L E s 1=true:=by
      cases hz:I9 L E s 1 with
      | true=>rfl
      | false =>
       refine absurd ⟨by omega,?_,hz⟩ hc;cases hy:I9 L E s 3 with
       | false=>rfl
       | true=>exact absurd (H4 hy).2 hk3
     have:=B5z ((hG _ (I8 (by decide) (H4 h1k).2).1).1 (H4 h1k).2);show 1+(B8 L E s).text.length+0+13 * s.i<=13 * s3.i+1;omega
theorem EZ.all (hG:∀ t∈L,H3 t):∀ f:Nat,(∀ n s r,I0 L E f n s=some r->r.1.sz+13 * s.i<=13 * r.2.i+1)/\(∀ n e s r,N2 L E f n e s=some r->r.1.sz+13 * s.i<=13 * r.2.i+e.sz)/\(∀ s r,Q9 L E f s=some r->r.1.sz+13 * s.i<=13 * r.2.i+1)
 | 0=>⟨fun n s r h=>by simp [I0] at h,fun n e s r h=>by simp [N2] at h,fun s r h=>by simp [Q9] at h⟩
 | f+1=>by
  obtain ⟨i1,i2,i3⟩:=EZ.all hG f;refine ⟨fun n s r h=>?_,fun n e s r h=>?_,fun s r h=>?_⟩
  ·unfold I0 at h;split at h
   ·exact i3 _ _ h
   ·split at h
    ·cases h
    ·rename_i hb;have h1:=i1 _ _ _ hb;have h2:=i2 _ _ _ _ h;dsimp only at h1;omega
  ·unfold N2 at h;dsimp only at h;split at h
   ·cases h;dsimp only;omega
   ·split at h
    ·cases h
    ·rename_i x s1 hb;have h1:=i1 _ _ _ hb;have h1:x.sz+13 * (s.i+1)<=13 * s1.i+1:=h1;have h3:(Ex.mk (12+C4 L E s D3) 0 [] [e,x] (B8 L E s).pos).sz=1+e.sz+x.sz:=by rw [Ex.sz,Ex.szs,Ex.szs,Ex.szs];simp;omega
     split at h
     ·cases h;rw [h3];show 1+e.sz+x.sz+13 * s.i<=13 * s1.i+e.sz;omega
     ·have h2:=i2 _ _ _ _ h;rw [h3] at h2;omega
  ·unfold Q9 at h;dsimp only at h;split at h
   ·cases h;exact C4f hG
   ·split at h
    ·cases h;show 1+0+0+13 * s.i<=13 * (C8 L E s (s.par+1) 16 50).i+1;rw [F6];omega
    ·rename_i hl;have hl:okR (C8 L E s (s.par+1) 16 50)=true:=by simpa using hl
     obtain ⟨-, -,h3⟩:=F9 (by decide) hl;rw [h3] at h;split at h
     ·split at h
      ·cases h
      ·rename_i e s3 hb;cases h;have h1:=i1 _ _ _ hb;have h1:e.sz+13 * (s.i+1)<=13 * s3.i+1:=h1;have h2:=E5 (L:=L) (E:=E) (s:=s3) (x:=[41]);show e.sz+13 * s.i<=13 * (D6 L E s3 [41]).i+1;omega
     ·split at h
      ·cases h
      ·rename_i e s3 hb;cases h;have h1:=i3 _ _ hb;have h1:e.sz+13 * (s.i+1)<=13 * s3.i+1:=h1;have h4:(Ex.mk (10+C4 L E s O3) 0 [] [e] (B8 L E s).pos).sz=1+e.sz:=by rw [Ex.sz,Ex.szs,Ex.szs];simp
       rw [h4];show 1+e.sz+13 * s.i<=13 * s3.i+1;omega
theorem A1o (hG:∀ t∈L,H3 t) {f:Nat} {s:Rd} {r:Ex × Rd} (h:P3 L E f s=some r):r.1.sz+13 * s.i<=13 * r.2.i+1:=(EZ.all hG f).1 1 { s with ops:=0,par:=0 } r h
theorem A1x (k p:Int) (n t:List UInt8) (a:List Ex) (x y:List St):(St.mk k n t a x y p).sz=1+n.length+t.length+Ex.szs a+St.szs x+St.szs y:=by rw [St.sz]
theorem C3p (hG:∀ t∈L,H3 t) {f:Nat} {k p:Int} {s:Rd} {r:St × Rd} (h:L4 L E f k p s=some r):r.1.sz+100 * s.i<=100 * r.2.i+40:=by
 have t1:=A1g (L:=L) (E:=E) hG (s:=s);have t4:=C3n (L:=L) (E:=E) hG (s:=s);have g1:=I2 (L:=L) (E:=E) (s:=s) (x:=1);have g4:=I2 (L:=L) (E:=E) (s:=s) (x:=4);unfold L4 at h;dsimp only at h;split at h
 ·split at h
  ·cases h
  ·rename_i e s1 he;cases h;have h1:=A1o hG he;have h2:=E5 (L:=L) (E:=E) (s:=s1) (x:=[59]);rw [A1x,Ex.szs,Ex.szs,St.szs];simp only [A0F] at h1 ⊢;omega
 split at h
 ·split at h
  ·cases h
  ·rename_i e s1 he;cases h;have h1:=A1o hG he;have h2:=E5 (L:=L) (E:=E) (s:=s1) (x:=[59]);have h3:=E5 (L:=L) (E:=E) (s:=(B2 L E s 4).2) (x:=[44]);rw [A1x,Ex.szs,Ex.szs,St.szs];simp only [A0F] at h1 ⊢;omega
 split at h
 ·cases h;have h2:=E5 (L:=L) (E:=E) (s:=s) (x:=[59]);rw [A1x,Ex.szs,St.szs];simp only [A0F];omega
 split at h
 ·split at h
  ·cases h
  ·rename_i e s1 he;have h1:=A1o hG he;split at h
   ·split at h
    ·cases h
    ·rename_i e2 s2 he2;cases h;have h4:=A1o hG he2;have h2:=E5 (L:=L) (E:=E) (s:=s2) (x:=[59]);have h3:=E5 (L:=L) (E:=E) (s:=s1) (x:=[44]);rw [A1x,Ex.szs,Ex.szs,Ex.szs,St.szs];simp only [A0F] at h1 h4 ⊢;omega
   ·cases h;have h2:=E5 (L:=L) (E:=E) (s:=s1) (x:=[59]);rw [A1x,Ex.szs,Ex.szs,St.szs];simp only [A0F] at h1 ⊢;omega
 ·cases h;have h2:=E5 (L:=L) (E:=E) (s:=(B2 L E s 1).2) (x:=[59]);rw [A1x,Ex.szs,St.szs];simp only [A0F];omega
theorem B5c:∀ (l:List St) (x:St),St.szs (l++[x])=St.szs l+x.sz
 | [],x=>by simp [St.szs]
 | a :: l,x=>by rw [List.cons_append,St.szs,St.szs,B5c l x];omega
theorem SZ.all (hG:∀ t∈L,H3 t):∀ f:Nat,(∀ d s r,L1 L E f d s=some r->St.szs r.1+100 * s.i<=100 * r.2.i+40) /\
  (∀ d l s r,O1 L E f d l s=some r->St.szs r.1+100 * s.i<=100 * r.2.i+St.szs l+40/\(okR s=false->St.szs r.1<=St.szs l)) /\
  (∀ d s r,Q4 L E f d s=some r->r.1.sz+100 * s.i<=100 * r.2.i+40/\(r.1.sz+100 * s.i<=100 * r.2.i\/okR r.2=false/\r.1.sz<=40)/\s.i<=r.2.i) /\
  (∀ d s r,O7 L E f d s=some r->St.szs r.1+100 * s.i<=100 * r.2.i+40)
 | 0=>⟨fun d s r h=>by simp [L1] at h,fun d l s r h=>by simp [O1] at h,fun d s r h=>by simp [Q4] at h,fun d s r h=>by simp [O7] at h⟩
 | f+1=>by
  obtain ⟨i1,i2,i3,i4⟩:=SZ.all hG f;refine ⟨fun d s r h=>?_,fun d l s r h=>?_,fun d s r h=>?_,fun d s r h=>?_⟩
  ·unfold L1 at h;have h1:=(i2 _ _ _ _ h).1;have h2:=E5 (L:=L) (E:=E) (s:=s) (x:=[123]);rw [St.szs] at h1;omega
  ·unfold O1 at h;split at h
   ·rename_i hc;refine ⟨?_,fun h0=>by rw [h0] at hc;cases hc.1⟩;split at h
    ·cases h;show St.szs []+100 * s.i<=100 * (M7 L E s).i+St.szs l+40;rw [R8,St.szs];omega
    ·split at h
     ·cases h
     ·rename_i x s1 he;obtain ⟨h1,h2⟩:=i2 _ _ _ _ h;obtain ⟨h3,h4,h5⟩:=i3 _ _ _ he;rw [F6] at h3 h4 h5;rw [B5c] at h1 h2;dsimp only at h3 h4 h5;rcases h4 with h4|⟨h4,h6⟩
      ·omega
      ·have h7:=h2 h4;have h8:s1.i<=r.2.i:=by
        obtain ⟨N,hN⟩:=(ST.all (L:=L) (E:=E) _).2 d (l++[x]) s1 (A0I _);obtain ⟨⟨M,hM⟩,hg⟩:=hN;have h9:okR s1=false:=h4;have hfr:X4 L E d (l++[x]) s1 (l++[x],D6 L E s1 [125]):=X4.stop (by rw [h9];simp);cases f with
        | zero=>simp [O1] at h
        | succ f =>
         rw [O1,if_neg (by rw [h9];simp)] at h;cases h;exact E5
       omega
   ·rename_i hc;cases h;have h2:=E5 (L:=L) (E:=E) (s:=s) (x:=[125]);exact ⟨by dsimp only;omega,fun _=>A0I _⟩
  ·have hst:=(ST.all (L:=L) (E:=E) (L.length-s.i)).1 d s (A0I _);unfold Q4 at h;dsimp only at h;split at h
   ·rename_i hl;cases h;have e1:St0.sz=1:=by unfold St0;rw [A1x,Ex.szs,St.szs];rfl
    refine ⟨?_,.inr ⟨hl,by show St0.sz<=40;omega⟩,?_⟩
    ·show St0.sz+100 * s.i<=100 * (C8 L E s d 8 50).i+40;rw [F6];omega
    ·show s.i<=(C8 L E s d 8 50).i;rw [F6];exact A0I _
   rename_i hl;have hl:okR (C8 L E s d 8 50)=true:=by simpa using hl
   obtain ⟨hs,hd,hle⟩:=F9 (by decide) hl;rw [hle] at h;split at h
   ·split at h
    ·cases h
    ·rename_i e s1 he;cases h;have h1:=A1o hG he;have h2:=E5 (L:=L) (E:=E) (s:=s1) (x:=[59]);have h3:=E5 (L:=L) (E:=E) (s:=(B2 L E s 1).2) (x:=[61]);have h4:=I2 (L:=L) (E:=E) (s:=s) (x:=1);have h5:=A1g (L:=L) (E:=E) hG (s:=s);have hsz:(St.mk 1 (B2 L E s 1).1.text [] [e] [] [] (B8 L E s).pos).sz=1+(B2 L E s 1).1.text.length+e.sz:=by
      rw [A1x,Ex.szs,Ex.szs,St.szs];simp
     rw [hsz];dsimp only at h1 ⊢;refine ⟨by omega,?_,by omega⟩;by_cases ht:I9 L E s 1=true
     ·have h6:(B2 L E s 1).2.i=s.i+1:=by unfold B2;rw [if_neg (by rw [ht];decide)];rfl
      exact .inl (by omega)
     ·have ht:I9 L E s 1=false:=by simpa using ht
      have h6:(B2 L E s 1).2=M7 L E s:=by unfold B2;rw [if_pos ht]
      by_cases hp:1<=(D6 L E s1 [59]).i-s.i
      ·exact .inl (by omega)
      ·refine .inr ⟨?_,by omega⟩;cases hz:okR (D6 L E s1 [59]) with
       | false=>rfl
       | true =>
        have h7:=(B0q hz).2;have h8:(D6 L E s1 [59]).i=s1.i+1:=by rw [h7];rfl
        omega
   ·rename_i hk;obtain ⟨-,hi, -,hk18⟩:=G3 (show 0<=C4 L E s C3 by omega);have hn:(B1 s).i=s.i+1:=rfl;split at h
    ·split at h
     ·cases h
     ·rename_i e s2 he;split at h
      ·cases h
      ·rename_i t s3 ht;have h1:=A1o hG he;have h2:=i1 _ _ _ ht;rw [hn] at h1;dsimp only at h1 h2;split at h
       ·split at h
        ·cases h
        ·rename_i o s4 ho;cases h;have h3:=i4 _ _ _ ho;have h3:St.szs o+100 * (s3.i+1)<=100 * s4.i+40:=h3;have hsz:(St.mk 2 [] [] [e] t o (B8 L E s).pos).sz=1+e.sz+St.szs t+St.szs o:=by
          rw [A1x,Ex.szs,Ex.szs];simp
         rw [hsz];dsimp only;exact ⟨by omega,.inl (by omega),by omega⟩
       ·cases h;have hsz:(St.mk (2+C4 L E s C3) [] [] [e] t [] (B8 L E s).pos).sz=1+e.sz+St.szs t:=by
         rw [A1x,Ex.szs,Ex.szs,St.szs];simp
        rw [hsz];dsimp only;exact ⟨by omega,.inl (by omega),by omega⟩
    ·have h1:=C3p hG h;rw [hn] at h1;exact ⟨by omega,.inl (by omega),by omega⟩
  ·unfold O7 at h;split at h
   ·split at h
    ·cases h
    ·rename_i x s1 he;cases h;have h1:=(i3 _ _ _ he).1;rw [St.szs,St.szs];dsimp only at h1 ⊢;omega
   ·exact i1 _ _ _ h
end
end Go.Pb
namespace Go.Pb
variable [Go.Sym.Tab]
open Go.Sym
section
variable {L:List Tok} {E:Int}
theorem D0x (hG:∀ t∈L,H3 t) {k:Int} {s:Rd}:(R3 L E k s).1.sz<=13:=by
 have h:=A1g (L:=L) (E:=E) hG (s:=B1 s);unfold R3 Dc.sz;dsimp only;split
 ·dsimp only;omega
 ·dsimp only;omega
theorem A9t {α : Type} (f : α -> Nat) (l:List α) (x : α):((l++[x]).map f).sum=(l.map f).sum+f x:=by simp
theorem C0w (hG:∀ t∈L,H3 t):∀ (f:Nat) (l:List Hd) (s:Rd) (r:List Hd × Rd),U9 L E f l s=some r->(r.1.map Hd.sz).sum+100 * s.i<=100 * r.2.i+(l.map Hd.sz).sum
 | 0,l,s,r,h=>by simp [U9] at h
 | f+1,l,s,r,h=>by
  unfold U9 at h;dsimp only at h;split at h
  ·split at h
   ·cases h;show (l.map Hd.sz).sum+100 * s.i<=100 * (M7 L E s).i+_;rw [R8];omega
   ·have h1:(C8 L E s ((l.length:Int)+1) 32 9).i=s.i:=F6;generalize C8 L E s ((l.length:Int)+1) 32 9=s1 at h h1;split at h
    ·cases h;have h2:=E5 (L:=L) (E:=E) (s:=s1) (x:=[111,110]);show (l.map Hd.sz).sum+100 * s.i<=100 * (M7 L E (D6 L E s1 [111,110])).i+_;rw [R8];omega
    ·rename_i hk;obtain ⟨hok,hi, -⟩:=G3 (show 0<=C4 L E (D6 L E s1 [111,110]) E6 by omega);have h3:(D6 L E s1 [111,110]).i=s1.i+1:=by rw [(B0q hok).2];rfl
     generalize D6 L E s1 [111,110]=s2 at h hk h3;have h4:=I2 (L:=L) (E:=E) (s:=B1 s2) (x:=1);have h5:=A1g (L:=L) (E:=E) hG (s:=B1 s2);have h6:(B1 s2).i=s2.i+1:=rfl;split at h
     ·cases h
     ·rename_i b s5 hb;have h7:=(SZ.all hG f).1 _ _ _ hb;have h8:=C0w hG f _ _ _ h;rw [A9t] at h8;have h9:s2.i+1<=(if 2<=C4 L E s2 E6 then (B2 L E (B1 s2) 1).2 else B1 s2).i:=by
       split
       ·omega
       ·omega
      have h10:(if 2<=C4 L E s2 E6 then (B2 L E (B1 s2) 1).1.text else []).length<=12:=by
       split
       ·exact h5
       ·exact A0N _
      have h11:Hd.sz ⟨1+C4 L E s2 E6,if 2<=C4 L E s2 E6 then (B2 L E (B1 s2) 1).1.text else [],b,(B8 L E s1).pos⟩<=13+St.szs b:=by
       unfold Hd.sz;dsimp only;omega
      dsimp only at h7 h8;omega
  ·cases h;have h2:=E5 (L:=L) (E:=E) (s:=s) (x:=[125]);dsimp only;omega
theorem C9w (hG:∀ t∈L,H3 t) {f:Nat} {s:Rd} {r:Md × Rd} (h:A3g L E f s=some r) (hm:isR L E s [109,111,100,101]=true):r.1.sz+100 * s.i<=100 * r.2.i:=by
 unfold A3g at h;dsimp only at h;split at h
 ·cases h
 ·rename_i l s3 hml;cases h;have h1:=C0w hG _ _ _ _ hml;have h2:(D6 L E s [109,111,100,101]).i=s.i+1:=by unfold D6;rw [if_neg (by rw [hm];decide)];rfl
  generalize D6 L E s [109,111,100,101]=s1 at h1 h2 ⊢;have h3:=A1g (L:=L) (E:=E) hG (s:=s1);have h4:=I2 (L:=L) (E:=E) (s:=s1) (x:=1);have h5:=I2 (L:=L) (E:=E) (s:=(B2 L E s1 1).2) (x:=3);have h6:=E5 (L:=L) (E:=E) (s:=(B2 L E (B2 L E s1 1).2 3).2) (x:=[123]);unfold Md.sz;dsimp only at h1 ⊢;simp only [List.map_nil,List.sum_nil] at h1;omega
theorem B3s (hG:∀ t∈L,H3 t):∀ (f:Nat) (l:List Dc) (s:Rd) (r:List Dc × Rd),T2 L E f l s=some r->(r.1.map Dc.sz).sum+100 * s.i<=100 * r.2.i+(l.map Dc.sz).sum
 | 0,l,s,r,h=>by simp [T2] at h
 | f+1,l,s,r,h=>by
  unfold T2 at h;dsimp only at h;split at h
  ·cases h;dsimp only;omega
  ·have h1:(C8 L E s ((l.length:Int)+1) 128 9).i=s.i:=F6;split at h
   ·have h2:=B3s hG f _ _ _ h;rw [A9t] at h2;have h3:=D0x (L:=L) (E:=E) hG (k:=C4 L E s E1) (s:=C8 L E s ((l.length:Int)+1) 128 9);have h4:=C2r (L:=L) (E:=E) (k:=C4 L E s E1) (s:=C8 L E s ((l.length:Int)+1) 128 9);omega
   ·have h2:=B3s hG f _ _ _ h;omega
theorem B3r (hG:∀ t∈L,H3 t):∀ (f:Nat) (l:List Md) (s:Rd) (r:List Md × Rd),R9 L E f l s=some r->(r.1.map Md.sz).sum+100 * s.i<=100 * r.2.i+(l.map Md.sz).sum
 | 0,l,s,r,h=>by simp [R9] at h
 | f+1,l,s,r,h=>by
  unfold R9 at h;dsimp only at h;split at h
  ·split at h
   ·cases h;show (l.map Md.sz).sum+100 * s.i<=100 * (M7 L E s).i+_;rw [R8];omega
   ·rename_i hm;have hm:isR L E s [109,111,100,101]=true:=by simpa using hm
    split at h
    ·rename_i hl;have e0:=(F9 (by decide) hl).2.2;rw [e0] at h;split at h
     ·cases h
     ·rename_i m s2 hmd;have h1:=C9w hG hmd hm;have h2:=B3r hG f _ _ _ h;rw [A9t] at h2;dsimp only at h1;omega
    ·have h1:(C8 L E s ((l.length:Int)+1) 16 9).i=s.i:=F6;have h2:=B3r hG f _ _ _ h;omega
  ·cases h;dsimp only;omega
theorem C8l (hG:∀ t∈L,H3 t) {f:Nat} {s:Rd} {r:Ru × Rd} (h:A4a L E f s=some r) (hi:s.i<=L.length):r.1.sz<=100 * L.length:=by
 unfold A4a at h;split at h
 ·cases h
 ·rename_i d s1 hd;split at h
  ·cases h
  ·rename_i m s2 hm;cases h;have h1:=B3s hG _ _ _ _ hd;have h2:=B3r hG _ _ _ _ hm;have h3:=B9v _ _ _ _ hm (B9w _ _ _ _ hd hi);unfold Ru.sz;simp only [List.map_nil,List.sum_nil] at h1 h2 h3 ⊢;omega
end
theorem B5n {L:List Tok} {E:Int} (hG:∀ t∈L,H3 t):(X0 L E).1.sz<=100 * L.length:=by
 obtain ⟨f,hf⟩:=(A4b L E).get;exact C8l hG hf (A0N _)
theorem C4k (s:List UInt8):(X2 s).1.sz<=2000000:=by
 unfold X2;dsimp only;split
 ·show 0+0<=_;omega
 ·rename_i h;have h:(F4 s).2.2=0:=by simpa using h
  have h1:=B5l h;split
  ·show 0+0<=_;omega
  ·have:=B5n (E:=s.length) (B3p h);dsimp only;omega
mutual
theorem Ex.plain_sz:∀ e:Ex,e.plain.sz=e.sz
 | .mk k v n a p=>by rw [Ex.plain,Ex.sz,Ex.sz,Ex.plains_sz a]
theorem Ex.plains_sz:∀ l:List Ex,Ex.szs (Ex.plains l)=Ex.szs l
 | []=>rfl
 | e :: l=>by rw [Ex.plains,Ex.szs,Ex.szs,Ex.plain_sz e,Ex.plains_sz l]
end
mutual
theorem St.plain_sz:∀ e:St,e.plain.sz=e.sz
 | .mk k n t a x y p=>by rw [St.plain,St.sz,St.sz,Ex.plains_sz a,St.plains_sz x,St.plains_sz y]
theorem St.plains_sz:∀ l:List St,St.szs (St.plains l)=St.szs l
 | []=>rfl
 | e :: l=>by rw [St.plains,St.szs,St.szs,St.plain_sz e,St.plains_sz l]
end
theorem Md.plain_sz (m:Md):m.plain.sz=m.sz:=by
 unfold Md.sz Md.plain;dsimp only;rw [A4B]
 congr 2
 refine A4A fun h _=>?_;show Hd.sz h.plain=Hd.sz h;unfold Hd.sz Hd.plain;dsimp only;rw [St.plains_sz]
theorem Ru.plain_sz (r:Ru):r.plain.sz=r.sz:=by
 unfold Ru.sz Ru.plain;dsimp only;rw [A4B,A4B]
 congr 2
 exact A4A fun m _=>Md.plain_sz m
def B6y (r:Ru):Bool:=okR (X0 (ruT r) 0).2 && @decide ((X0 (ruT r) 0).1.plain=r.plain) (Classical.propDecidable _)
end Go.Pb
namespace Go.Proofs.YtnmkkggfgdfmeaaGreatDoor
open Go.Eng (IC IOper DReg IFn A7)
open Go.Sym Go.Pb
theorem c_ValidR31 (r:Ru) (hB:r.sz<4000000):PC Tryz.prog 59 [r.v] (.bool (B6y r)):=by
 refine PC.of A9 isU59 (A0B rfl) (by simp [DV.nlL,DV.nl,G6,G5]) rfl ?_;have hg:=C1o r;have hGT:∀ t∈ruT r,H3 t:=fun t ht=>(hg t ht).1;have hval:∀ t∈ruT r,0<=t.value/\t.value<=9223372036854775807:=fun t ht=>by have:=(hg t ht).2;omega
 obtain ⟨l1,l2⟩:=C4a r;have hsz:=B5n (E:=0) hGT;have ht:=c_rulesT r hB (by omega);have hp:=c_Plain31 r (by omega);obtain ⟨f,hf⟩:=(A4b (ruT r) 0).get;have hr:=c_rules (ruT r) 0 (by omega) hval f rd0 _ hf (A0N _);have hv:B6y r=(okR (X0 (ruT r) 0).2 && B3q (X0 (ruT r) 0).1.plain r.plain):=rfl;rw [hv];have hpo:=c_Plain31 (X0 (ruT r) 0).1 (by omega);have hps:(X0 (ruT r) 0).1.plain.sz<=100000000000:=by rw [Ru.plain_sz];omega
 have hsm:=c_Same31 (X0 (ruT r) 0).1.plain r.plain hps;generalize X0 (ruT r) 0=w at hr hpo hsm hsz ⊢;generalize hL:ruT r=L at ht hr;show IW Tryz.prog 20 u59_1 ⟨B7 _,_,_⟩ (rt [.tmp 2] _);repeat' ((with_reducible first|apply wr|refine cpc ht ?_|fail)<;>try simp only [go_sem,seval])
 refine AC.call (hr _ _ 1 rfl (by decide)) ?_;rintro v H' c2 ⟨rfl,rfl⟩ hc2;dsimp only at hc2 ⊢;have ne0:=T8 0 1 c2 (by omega);simp only [go_sem,seval,ne0,A0,A1];repeat' ((with_reducible apply wr)<;>try simp only [go_sem,seval,ne0,A0,A1])
 refine AC.call (c_rdok L 0 w.2 _ _ 1 (by rw [A2 (by omega)];exact A0) (by omega)) ?_;rintro v H' c3 ⟨rfl,rfl⟩ hc3;cases hok:okR w.2 with
 | false =>
  simp only [go_sem,seval,hok,ne0,A0,A1];repeat' ((with_reducible apply wr)<;>try simp only [go_sem,seval,hok,ne0,A0,A1])
  refine ⟨by repeat rw [A2 (by omega)]<;>rfl,?_⟩;repeat' ((with_reducible apply wr)<;>try simp only [go_sem,seval,hok,ne0,A0,A1])
  exact ⟨_,GL.refl _ _⟩
 | true =>
  simp only [go_sem,seval,hok,ne0,A0,A1];repeat' ((with_reducible first|apply wr|refine cpc hpo ?_|refine cpc hp ?_|refine cpc hsm ?_|fail)<;>try simp only [go_sem,seval,hok,ne0,A0,A1])
  refine ⟨by and_intros<;>(repeat rw [A2 (by omega)])<;>rfl,?_⟩;repeat' ((with_reducible first|apply wr|refine cpc hpo ?_|refine cpc hp ?_|refine cpc hsm ?_|fail)<;>try simp only [go_sem,seval,hok,ne0,A0,A1])
  exact ⟨_,GL.refl _ _⟩
end Go.Proofs.YtnmkkggfgdfmeaaGreatDoor
set_option maxHeartbeats 4000000
namespace Go.Proofs.YtnmkkggfgdfmeaaGreatDoor
open Go.Eng (IC IOper DReg IFn A7)
open Go.Sym
abbrev u95_8:=qE [oI 5 1] [1,2,3]
abbrev u95_11:=qE [oI 5 2] [1,2,3]
abbrev u95_14:=qS [oI 2 0,oI 3 0,oV 4 (.bool false)] .ret []
abbrev u95_13:=qK u95_14 .skip (.t 23) [1,2,3,5,23]
abbrev u95_12:=qS [oF 24 1 0,oL 25 24,oK 26 25 .lss 1,oM 27 26,hF 28 1 0 27,hL 29 28 27,hK 30 29 27 .gtr 24,oO 31 27 30,oM 23 31] u95_13 [1,2,3,5]
abbrev u95_10:=qK u95_11 u95_12 (.t 20) [1,2,3,5,20]
abbrev u95_9:=qS [oM 21 6,oK 22 21 .lss 6,oM 20 22] u95_10 [1,2,3,5,6]
abbrev u95_7:=qK u95_8 u95_9 (.t 17) [1,2,3,5,6,17]
abbrev u95_6:=qS [oM 18 6,oK 19 18 .eql 6,oM 17 19] u95_7 [1,2,3,5,6]
abbrev u95_5:=qJ u95_6 0 [1,2,3,5,6]
abbrev u95_4:=qS [oF 14 1 0,oL 15 14,oC 16 127 [.t 15],oM 6 16] u95_5 [1,2,3,5]
abbrev u95_19:=qE [oF 43 1 2,oL 44 43,oC 45 121 [.t 44],oM 7 45] [1,2,3,5]
abbrev u95_18:=qK u95_19 .skip (.t 42) [1,2,3,5,7,42]
abbrev u95_17:=qS [oF 35 1 0,oL 36 35,oK 37 36 .eql 2,oM 38 37,hF 39 1 0 38,hL 40 39 38,⟨some 41,.call 128 [.t 40],some (38,false)⟩,oO 42 38 41] u95_18 [1,2,3,5,7]
abbrev u95_24:=qS [oI 2 0,oI 3 0,oV 4 (.bool false)] .ret []
abbrev u95_23:=qK u95_24 .skip (.t 76) [1,2,3,5,76]
abbrev u95_22:=qS [oF 64 1 3,oL 65 64,oH 66 65,oM 67 5,oB 68 66 67 .neq,oM 69 68,hM 70 7 69,oR 71 (.un .not (.t 70)) 69,oO 72 69 71,oM 73 72,hM 74 8 73,oR 75 (.un .not (.t 74)) 73,oO 76 73 75] u95_23 [1,2,3,5,7,8]
abbrev u95_28:=qS [oI 2 1,oI 3 0,oV 4 (.bool true)] .ret []
abbrev u95_27:=qK u95_28 .skip (.t 78) [1,2,3,5,78]
abbrev u95_26:=qS [oM 77 5,oK 78 77 .eql 0] u95_27 [1,2,3,5]
abbrev u95_40:=qS [oI 2 0,oI 3 0,oV 4 (.bool false)] .ret []
abbrev u95_39:=qK u95_40 .skip (.t 94) [1,2,3,5,9,11,12,80,81,82,94]
abbrev u95_38:=qS [oM 93 13,oY 94 93] u95_39 [1,2,3,5,9,11,12,13,80,81,82]
abbrev u95_44:=qE [oM 98 12,oK 99 98 .add 1,oM 12 99] [1,2,3,5,11,12,80,81,82]
abbrev u95_43:=qK u95_44 .skip (.t 97) [1,2,3,5,11,12,80,81,82,97]
abbrev u95_42:=qS [oD 95 1 5,oM 96 9,oC 97 129 [.t 95,.t 96]] u95_43 [1,2,3,5,9,11,12,80,81,82]
abbrev u95_45:=qE [oM 100 2,oM 101 11,oB 102 100 101 .add,oM 103 3,oM 104 12,oP 105 (.mx (.t 103) (.t 104)),oM 2 102,oM 3 105] [1,2,3,5,11,12,80,81,82]
abbrev u95_41:=qQ u95_42 u95_45 [1,2,3,5,9,11,12,80,81,82]
abbrev u95_37:=qQ u95_38 u95_41 [1,2,3,5,9,11,12,13,80,81,82]
abbrev u95_36:=qS [oD 88 10 5,oC 89 95 [.t 88],oM 87 89,oE 90 87 0,oE 91 87 1,oE 92 87 2,oM 11 90,oM 12 91,oM 13 92] u95_37 [1,2,3,5,9,10,80,81,82]
abbrev u95_35:=qS [oM 84 82,oA 85 80 82 5,oD 86 85 5,oW 10 (.agg #[.int .i64 0,.int .i64 0,.string ⟨#[]⟩,.slice none 0 0,.int .i64 0]),oM 9 84,oS 10 86 5] u95_36 [1,2,3,5,80,81,82]
abbrev u95_46:=qE [oK 106 82 .add 1,oM 82 106] [1,2,3,5,80,81,82]
abbrev u95_34:=qB u95_35 u95_46 2 [1,2,3,5,80,81,82]
abbrev u95_33:=qC .skip u95_34 (.exit 1) (.t 83) [1,2,3,5,80,81,82,83]
abbrev u95_32:=qS [oB 83 82 81 .lss] u95_33 [1,2,3,5,80,81,82]
abbrev u95_31:=qJ (.loop u95_32) 1 [1,2,3,5,80,81,82]
abbrev u95_30:=qS [oF 79 1 3,oL 80 79,oH 81 80,oI 82 0] u95_31 [1,2,3,5]
abbrev u95_50:=qE [oM 109 3,oK 110 109 .add 1,oM 3 110] [2,3]
abbrev u95_49:=qK u95_50 .skip (.t 108) [2,3,108]
abbrev u95_48:=qS [oM 107 5,oK 108 107 .eql 1] u95_49 [2,3,5]
abbrev u95_51:=qS [oM 111 2,oM 112 3,oM 2 111,oM 3 112,oV 4 (.bool true)] .ret [2,3]
abbrev u95_47:=qQ u95_48 u95_51 [2,3,5]
abbrev u95_29:=qQ u95_30 u95_47 [1,2,3,5]
abbrev u95_25:=qQ u95_26 u95_29 [1,2,3,5]
abbrev u95_21:=qQ u95_22 u95_25 [1,2,3,5,7,8]
abbrev u95_20:=qS [oF 46 1 1,oL 47 46,oK 48 47 .eql 0,oM 49 48,hF 50 1 0 49,hL 51 50 49,hK 52 51 49 .eql 1,hM 53 52 49,gF 54 1 1 53,gL 55 54 53,gK 56 55 53 .gtr 0,oR 57 (.pick (.t 53) (.t 56) (.k (.bool false))) 49,hM 58 57 49,gF 59 1 1 58,gL 60 59 58,gK 61 60 58 .leq 2147483647,oR 62 (.pick (.t 58) (.t 61) (.k (.bool false))) 49,oO 63 49 62,oM 8 63] u95_21 [1,2,3,5,7]
abbrev u95_16:=qQ u95_17 u95_20 [1,2,3,5,7]
abbrev u95_15:=qS [oF 32 1 2,oL 33 32,oP 34 (.bin .eql (.t 33) (.k (.string ⟨#[]⟩))),oM 7 34] u95_16 [1,2,3,5]
abbrev u95_3:=qQ u95_4 u95_15 [1,2,3,5]
abbrev u95_2:=qS [oI 5 0] u95_3 [1,2,3]
abbrev u95_1:=qS [oX 1 0,oI 2 0,oI 3 0,oV 4 (.bool false)] u95_2 [0]
def u95:IFn:=⟨113,u95_1,[.tmp 2,.tmp 3,.tmp 4]⟩
theorem isU95:A7 Tryz.prog 95 u95:=by unfold A7;kernel_rfl
abbrev u56_3:=qS [oM 12 5,oM 13 12,gM 14 3 13,gK 15 14 13 .leq 32,oJ 16 13 15,oM 17 16,gM 18 4 17,gK 19 18 17 .leq 16,oJ 20 17 19,oM 2 20] .ret [3,4,5]
abbrev u56_2:=qS [oD 7 1 5,oC 8 95 [.t 7],oM 6 8,oE 9 6 0,oE 10 6 1,oE 11 6 2,oM 3 9,oM 4 10,oM 5 11] u56_3 [1]
abbrev u56_1:=qS [oX 1 0,oV 2 (.bool false)] u56_2 [0]
def u56:IFn:=⟨21,u56_1,[.tmp 2]⟩
theorem isU56:A7 Tryz.prog 56 u56:=by unfold A7;kernel_rfl
abbrev u128_2:=qS [oM 3 0,oK 4 3 .eql 5,oM 5 4,hM 6 0 5,hK 7 6 5 .eql 6,oO 8 5 7,oM 9 8,hM 10 0 9,hK 11 10 9 .eql 7,oO 12 9 11,oM 2 12] .ret [0]
abbrev u128_1:=qS [oV 2 (.bool false)] u128_2 [0]
def u128:IFn:=⟨13,u128_1,[.tmp 2]⟩
theorem isU128:A7 Tryz.prog 128 u128:=by unfold A7;kernel_rfl
abbrev u127_5:=qS [oI 2 1] .ret []
abbrev u127_8:=qS [oI 2 2] .ret []
abbrev u127_11:=qS [oI 2 3] .ret []
abbrev u127_14:=qS [oI 2 4] .ret []
abbrev u127_17:=qS [oI 2 5] .ret []
abbrev u127_20:=qS [oI 2 6] .ret []
abbrev u127_19:=qK u127_20 .skip (.t 30) [30]
abbrev u127_18:=qS [oM 31 0,oK 32 31 .eql 10,oM 33 32,hM 34 0 33,hK 35 34 33 .eql 11,oO 36 33 35,oM 30 36] u127_19 [0]
abbrev u127_16:=qK u127_17 u127_18 (.t 23) [0,23]
abbrev u127_15:=qS [oM 24 0,oK 25 24 .geq 12,oM 26 25,gM 27 0 26,gK 28 27 26 .leq 14,oJ 29 26 28,oM 23 29] u127_16 [0]
abbrev u127_13:=qK u127_14 u127_15 (.t 16) [0,16]
abbrev u127_12:=qS [oM 17 0,oK 18 17 .eql 15,oM 19 18,hM 20 0 19,hK 21 20 19 .eql 16,oO 22 19 21,oM 16 22] u127_13 [0]
abbrev u127_10:=qK u127_11 u127_12 (.t 9) [0,9]
abbrev u127_9:=qS [oM 10 0,oK 11 10 .geq 17,oM 12 11,gM 13 0 12,gK 14 13 12 .leq 22,oJ 15 12 14,oM 9 15] u127_10 [0]
abbrev u127_7:=qK u127_8 u127_9 (.t 6) [0,6]
abbrev u127_6:=qS [oM 7 0,oK 8 7 .eql 23,oM 6 8] u127_7 [0]
abbrev u127_4:=qK u127_5 u127_6 (.t 3) [0,3]
abbrev u127_3:=qS [oM 4 0,oK 5 4 .eql 24,oM 3 5] u127_4 [0]
abbrev u127_21:=qS [oI 2 7] .ret []
abbrev u127_2:=qB u127_3 u127_21 0 [0]
abbrev u127_1:=qS [oI 2 0] u127_2 [0]
def u127:IFn:=⟨37,u127_1,[.tmp 2]⟩
theorem isU127:A7 Tryz.prog 127 u127:=by unfold A7;kernel_rfl
abbrev u129_3:=qS [oM 17 6,oM 18 5,oB 19 17 18 .lss,oM 20 19,hM 21 6 20,hM 22 5 20,oR 23 (.bin .eql (.t 21) (.t 22)) 20,hM 24 23 20,gM 25 1 24,gK 26 25 24 .eql 1,gM 27 26 24,hM 28 5 27,hK 29 28 27 .eql 3,oG 30 (.pick (.t 27) (.k (.bool true)) (.t 29)) 24,oR 31 (.pick (.t 24) (.t 30) (.k (.bool false))) 20,oO 32 20 31,oM 4 32] .ret [1,5,6]
abbrev u129_2:=qD [oF 7 2 0,oL 8 7,oC 9 127 [.t 8],oF 10 2 3,oL 11 10,oM 12 1,oA 13 11 12 5,oF 14 13 0,oL 15 14,oC 16 127 [.t 15],oM 5 9,oM 6 16] u129_3 [(0,none),(1,none),(3,none),(4,none),(5,none),(6,none),(7,none),(8,none),(2,some [3,4,5,6,7,8]),(9,some []),(10,some []),(11,some [])] 12 [1,2]
abbrev u129_1:=qS [oX 2 0,oV 4 (.bool false)] u129_2 [0,1]
def u129:IFn:=⟨33,u129_1,[.tmp 4]⟩
theorem isU129:A7 Tryz.prog 129 u129:=by unfold A7;kernel_rfl
abbrev u159_10:=qE [oK 8 4 .eql 10,oM 5 8] [0,2,4]
abbrev u159_9:=qK .skip u159_10 (.t 5) [0,2,4,5]
abbrev u159_8:=qS [oK 7 4 .eql 8,oM 5 7] u159_9 [0,2,4]
abbrev u159_7:=qK .skip u159_8 (.t 5) [0,2,4,5]
abbrev u159_6:=qS [oK 6 4 .eql 1,oM 5 6] u159_7 [0,2,4]
abbrev u159_12:=qS [oP 9 (.bld #[.bool false,.bool false,.int .i64 0,.bool false,.bool false] [(0,1),(1,1),(2,1),(3,1),(4,1)] [(0,.k (.bool true)),(2,.k (.int .i64 1))]),oS 2 9 5,oV 3 (.bool true)] .ret [2]
abbrev u159_15:=qS [oP 12 (.bld #[.bool false,.bool false,.int .i64 0,.bool false,.bool false] [(0,1),(1,1),(2,1),(3,1),(4,1)] [(0,.k (.bool true)),(2,.k (.int .i64 2))]),oS 2 12 5,oV 3 (.bool true)] .ret [2]
abbrev u159_18:=qS [oP 15 (.bld #[.bool false,.bool false,.int .i64 0,.bool false,.bool false] [(0,1),(1,1),(2,1),(3,1),(4,1)] [(2,.k (.int .i64 1)),(3,.k (.bool true)),(4,.k (.bool true))]),oS 2 15 5,oV 3 (.bool true)] .ret [2]
abbrev u159_21:=qS [oP 18 (.bld #[.bool false,.bool false,.int .i64 0,.bool false,.bool false] [(0,1),(1,1),(2,1),(3,1),(4,1)] [(2,.k (.int .i64 1)),(3,.k (.bool true))]),oS 2 18 5,oV 3 (.bool true)] .ret [2]
abbrev u159_24:=qS [oP 21 (.bld #[.bool false,.bool false,.int .i64 0,.bool false,.bool false] [(0,1),(1,1),(2,1),(3,1),(4,1)] [(2,.k (.int .i64 1))]),oS 2 21 5,oV 3 (.bool true)] .ret [2]
abbrev u159_27:=qS [oP 24 (.bld #[.bool false,.bool false,.int .i64 0,.bool false,.bool false] [(0,1),(1,1),(2,1),(3,1),(4,1)] [(1,.k (.bool true)),(2,.k (.int .i64 1))]),oS 2 24 5,oV 3 (.bool true)] .ret [2]
abbrev u159_30:=qS [oP 27 (.bld #[.bool false,.bool false,.int .i64 0,.bool false,.bool false] [(0,1),(1,1),(2,1),(3,1),(4,1)] []),oS 2 27 5,oV 3 (.bool true)] .ret [2]
abbrev u159_29:=qK u159_30 .skip (.t 25) [0,2,25]
abbrev u159_28:=qS [oK 26 4 .eql 19,oM 25 26] u159_29 [0,2,4]
abbrev u159_26:=qK u159_27 u159_28 (.t 22) [0,2,4,22]
abbrev u159_25:=qS [oK 23 4 .eql 18,oM 22 23] u159_26 [0,2,4]
abbrev u159_23:=qK u159_24 u159_25 (.t 19) [0,2,4,19]
abbrev u159_22:=qS [oK 20 4 .eql 4,oM 19 20] u159_23 [0,2,4]
abbrev u159_20:=qK u159_21 u159_22 (.t 16) [0,2,4,16]
abbrev u159_19:=qS [oK 17 4 .eql 3,oM 16 17] u159_20 [0,2,4]
abbrev u159_17:=qK u159_18 u159_19 (.t 13) [0,2,4,13]
abbrev u159_16:=qS [oK 14 4 .eql 2,oM 13 14] u159_17 [0,2,4]
abbrev u159_14:=qK u159_15 u159_16 (.t 10) [0,2,4,10]
abbrev u159_13:=qS [oK 11 4 .eql 9,oM 10 11] u159_14 [0,2,4]
abbrev u159_11:=qK u159_12 u159_13 (.t 5) [0,2,4,5]
abbrev u159_5:=qQ u159_6 u159_11 [0,2,4]
abbrev u159_4:=qJ u159_5 0 [0,2,4]
abbrev u159_3:=qS [oM 4 0] u159_4 [0,2]
abbrev u159_31:=qS [oP 28 (.bld #[.bool false,.bool false,.int .i64 0,.bool false,.bool false] [(0,1),(1,1),(2,1),(3,1),(4,1)] [(0,.k (.bool true))]),oM 29 0,oK 30 29 .geq 1,oM 31 30,gM 32 0 31,gK 33 32 31 .leq 19,oJ 34 31 33,oS 2 28 5,oM 3 34] .ret [0,2]
abbrev u159_2:=qQ u159_3 u159_31 [0,2]
abbrev u159_1:=qS [oW 2 (.agg #[.bool false,.bool false,.int .i64 0,.bool false,.bool false]),oV 3 (.bool false)] u159_2 [0]
def u159:IFn:=⟨35,u159_1,[.cell 2 5 true,.tmp 3]⟩
theorem isU159:A7 Tryz.prog 159 u159:=by unfold A7;kernel_rfl
abbrev u162_7:=qK .skip (.exit 0) (.t 7) [0,3,7]
abbrev u162_6:=qS [oM 4 3,oM 5 0,oP 6 (.lens (.t 5)),oB 7 4 6 .lss] u162_7 [0,3]
abbrev u162_11:=qS [oV 2 (.bool false)] .ret []
abbrev u162_10:=qK u162_11 .skip (.t 19) [0,3,19]
abbrev u162_9:=qS [oM 10 0,oM 11 3,oP 12 (.idx (.t 10) (.t 11)),oP 13 (.bin .lss (.t 12) (.k (.int .u8 32))),oM 14 13,hM 15 0 14,hM 16 3 14,oR 17 (.idx (.t 15) (.t 16)) 14,oR 18 (.bin .gtr (.t 17) (.k (.int .u8 126))) 14,oO 19 14 18] u162_10 [0,3]
abbrev u162_12:=qE [oM 8 3,oK 9 8 .add 1,oM 3 9] [0,3]
abbrev u162_8:=qB u162_9 u162_12 1 [0,3]
abbrev u162_5:=qQ u162_6 u162_8 [0,3]
abbrev u162_4:=qJ (.loop u162_5) 0 [0,3]
abbrev u162_3:=qS [oI 3 0] u162_4 [0]
abbrev u162_13:=qS [oM 20 0,oP 21 (.lens (.t 20)),oK 22 21 .leq 32,oM 2 22] .ret [0]
abbrev u162_2:=qQ u162_3 u162_13 [0]
abbrev u162_1:=qS [oV 2 (.bool false)] u162_2 [0]
def u162:IFn:=⟨23,u162_1,[.tmp 2]⟩
theorem isU162:A7 Tryz.prog 162 u162:=by unfold A7;kernel_rfl
abbrev u123_5:=qS [oV 4 (.bool false)] .ret []
abbrev u123_4:=qK u123_5 .skip (.t 16) [0,3,16]
abbrev u123_3:=qS [oM 5 0,oH 6 5,oK 7 6 .gtr 64,oM 8 7,hM 9 0 8,oR 10 (.len (.t 9)) 8,hK 11 10 8 .gtr 0,hM 12 11 8,gL 13 3 12,gK 14 13 12 .gtr 8,oR 15 (.pick (.t 12) (.t 14) (.k (.bool false))) 8,oO 16 8 15] u123_4 [0,3]
abbrev u123_6:=qS [oM 17 0,oP 18 (.mkf 149 [] [.t 3]),oC 19 148 [.t 17,.t 18],oY 20 19,oM 4 20] .ret [0,3]
abbrev u123_2:=qQ u123_3 u123_6 [0,3]
abbrev u123_1:=qS [oX 3 1,oV 4 (.bool false)] u123_2 [0,1]
def u123:IFn:=⟨21,u123_1,[.tmp 4]⟩
theorem isU123:A7 Tryz.prog 123 u123:=by unfold A7;kernel_rfl
abbrev u149_2:=qS [oD 4 2 7,oL 5 1,oC 6 150 [.t 4,.t 5],oY 7 6,oM 3 7] .ret [1,2]
abbrev u149_1:=qS [oX 2 0,oV 3 (.bool false)] u149_2 [0,1]
def u149:IFn:=⟨8,u149_1,[.tmp 3]⟩
theorem isU149:A7 Tryz.prog 149 u149:=by unfold A7;kernel_rfl
abbrev u150_6:=qS [oV 4 (.bool false)] .ret []
abbrev u150_5:=qK u150_6 .skip (.t 29) [1,2,5,29]
abbrev u150_4:=qS [oM 15 6,oY 16 15,oM 17 16,hF 18 2 3 17,hL 19 18 17,oR 20 (.len (.t 19)) 17,hF 21 5 2 17,hL 22 21 17,oR 23 (.bin .neq (.t 20) (.t 22)) 17,oO 24 17 23,oM 25 24,hF 26 2 3 25,hL 27 26 25,⟨some 28,.call 160 [.t 27,.f 161],some (25,false)⟩,oO 29 25 28] u150_5 [1,2,5,6]
abbrev u150_11:=qE [oF 38 2 1,oL 39 38,oC 40 121 [.t 39],oM 7 40] [1,2,5,8]
abbrev u150_10:=qK u150_11 .skip (.t 37) [1,2,5,7,8,37]
abbrev u150_9:=qS [oF 36 5 0,oL 37 36] u150_10 [1,2,5,7,8]
abbrev u150_15:=qE [oF 43 2 2,oL 44 43,oC 45 162 [.t 44],oM 8 45] [1,2,5,7]
abbrev u150_14:=qK u150_15 .skip (.t 42) [1,2,5,7,8,42]
abbrev u150_13:=qS [oF 41 5 1,oL 42 41] u150_14 [1,2,5,7,8]
abbrev u150_19:=qS [oV 4 (.bool false)] .ret []
abbrev u150_18:=qK u150_19 .skip (.t 73) [1,2,73]
abbrev u150_17:=qS [oM 46 7,oY 47 46,oM 48 47,hM 49 8 48,oR 50 (.un .not (.t 49)) 48,oO 51 48 50,oM 52 51,hF 53 5 3 52,hL 54 53 52,oR 55 (.un .not (.t 54)) 52,hM 56 55 52,gF 57 2 4 56,gL 58 57 56,oG 59 (.len (.t 58)) 56,gK 60 59 56 .gtr 0,oR 61 (.pick (.t 56) (.t 60) (.k (.bool false))) 52,oO 62 52 61,oM 63 62,hF 64 5 4 63,hL 65 64 63,oR 66 (.un .not (.t 65)) 63,hM 67 66 63,gF 68 2 5 67,gL 69 68 67,oG 70 (.len (.t 69)) 67,gK 71 70 67 .gtr 0,oR 72 (.pick (.t 67) (.t 71) (.k (.bool false))) 63,oO 73 63 72] u150_18 [1,2,5,7,8]
abbrev u150_20:=qS [oF 74 2 4,oL 75 74,oM 76 1,oK 77 76 .add 1,oC 78 123 [.t 75,.t 77],oM 79 78,gF 80 2 5 79,gL 81 80 79,gM 82 1 79,gK 83 82 79 .add 1,⟨some 84,.call 123 [.t 81,.t 83],some (79,true)⟩,oJ 85 79 84,oM 4 85] .ret [1,2]
abbrev u150_16:=qQ u150_17 u150_20 [1,2,5,7,8]
abbrev u150_12:=qQ u150_13 u150_16 [1,2,5,7,8]
abbrev u150_8:=qQ u150_9 u150_12 [1,2,5,7,8]
abbrev u150_7:=qD [oF 30 2 1,oL 31 30,oP 32 (.bin .eql (.t 31) (.k (.string ⟨#[]⟩))),oF 33 2 2,oL 34 33,oP 35 (.bin .eql (.t 34) (.k (.string ⟨#[]⟩))),oM 7 32,oM 8 35] u150_8 [(0,none),(1,none),(2,none),(3,none),(4,none),(5,none),(6,some [3,4,5]),(7,some [])] 8 [1,2,5]
abbrev u150_3:=qQ u150_4 u150_7 [1,2,5,6]
abbrev u150_2:=qS [oF 10 2 0,oL 11 10,oC 12 159 [.t 11],oM 9 12,oE 13 9 0,oE 14 9 1,oW 5 (.agg #[.bool false,.bool false,.int .i64 0,.bool false,.bool false]),oS 5 13 5,oM 6 14] u150_3 [1,2]
abbrev u150_1:=qS [oX 2 0,oV 4 (.bool false)] u150_2 [0,1]
def u150:IFn:=⟨86,u150_1,[.tmp 4]⟩
theorem isU150:A7 Tryz.prog 150 u150:=by unfold A7;kernel_rfl
abbrev u161_2:=qS [oD 3 1 5,oC 4 56 [.t 3],oY 5 4,oM 2 5] .ret [1]
abbrev u161_1:=qS [oX 1 0,oV 2 (.bool false)] u161_2 [0]
def u161:IFn:=⟨6,u161_1,[.tmp 2]⟩
theorem isU161:A7 Tryz.prog 161 u161:=by unfold A7;kernel_rfl
abbrev u81_8:=qE [oI 3 (-2147483647)] [1,4]
abbrev u81_12:=qE [oK 11 6 .eql 8,oM 9 11] [1,3,4,6]
abbrev u81_11:=qK .skip u81_12 (.t 9) [1,3,4,6,9]
abbrev u81_10:=qS [oK 10 6 .eql 7,oM 9 10] u81_11 [1,3,4,6]
abbrev u81_14:=qE [oI 4 0] [1,3]
abbrev u81_13:=qK u81_14 .skip (.t 9) [1,3,4,9]
abbrev u81_9:=qQ u81_10 u81_13 [1,3,4,6]
abbrev u81_7:=qK u81_8 u81_9 (.t 7) [1,3,4,6,7]
abbrev u81_6:=qS [oK 8 6 .eql 6,oM 7 8] u81_7 [1,3,4,6]
abbrev u81_5:=qJ u81_6 0 [1,3,4,6]
abbrev u81_4:=qS [oF 5 1 0,oL 6 5] u81_5 [1,3,4]
abbrev u81_15:=qS [oF 12 1 0,oL 13 12,oK 14 13 .geq 1,oM 15 14,gF 16 1 0 15,gL 17 16 15,gK 18 17 15 .leq 8,oJ 19 15 18,oM 20 19,gF 21 1 1 20,gL 22 21 20,⟨some 23,.call 121 [.t 22],some (20,true)⟩,oJ 24 20 23,oM 25 24,gF 26 1 2 25,gL 27 26 25,gM 28 3 25,oG 29 (.bin .geq (.t 27) (.t 28)) 25,oJ 30 25 29,oM 31 30,gF 32 1 2 31,gL 33 32 31,gM 34 4 31,oG 35 (.bin .leq (.t 33) (.t 34)) 31,oJ 36 31 35,oM 2 36] .ret [1,3,4]
abbrev u81_3:=qQ u81_4 u81_15 [1,3,4]
abbrev u81_2:=qS [oI 3 0,oI 4 2147483647] u81_3 [1]
abbrev u81_1:=qS [oX 1 0,oV 2 (.bool false)] u81_2 [0]
def u81:IFn:=⟨37,u81_1,[.tmp 2]⟩
theorem isU81:A7 Tryz.prog 81 u81:=by unfold A7;kernel_rfl
abbrev u84_5:=qS [oV 2 (.bool false)] .ret []
abbrev u84_4:=qK u84_5 .skip (.t 25) [1,25]
abbrev u84_3:=qS [oF 6 1 0,oL 7 6,oC 8 121 [.t 7],oY 9 8,oM 10 9,hF 11 1 1 10,hL 12 11 10,hK 13 12 10 .lss 0,oO 14 10 13,oM 15 14,hF 16 1 1 15,hL 17 16 15,hK 18 17 15 .gtr 2147483647,oO 19 15 18,oM 20 19,hF 21 1 2 20,hL 22 21 20,oR 23 (.len (.t 22)) 20,hK 24 23 20 .gtr 32,oO 25 20 24] u84_4 [1]
abbrev u84_17:=qE [oF 39 4 1,oL 40 39,oC 41 121 [.t 40],oM 5 41] [4,27,28,29]
abbrev u84_16:=qK u84_17 .skip (.t 38) [4,5,27,28,29,38]
abbrev u84_15:=qS [oF 36 4 0,oL 37 36,oK 38 37 .geq 3] u84_16 [4,5,27,28,29]
abbrev u84_20:=qS [oV 2 (.bool false)] .ret []
abbrev u84_19:=qK u84_20 .skip (.t 59) [27,28,29,59]
abbrev u84_18:=qS [oF 42 4 0,oL 43 42,oK 44 43 .lss 1,oM 45 44,hF 46 4 0 45,hL 47 46 45,hK 48 47 45 .gtr 6,oO 49 45 48,oM 50 49,hM 51 5 50,oR 52 (.un .not (.t 51)) 50,oO 53 50 52,oM 54 53,hF 55 4 2 54,hL 56 55 54,⟨some 57,.call 123 [.t 56,.k (.int .i64 1)],some (54,false)⟩,oR 58 (.un .not (.t 57)) 54,oO 59 54 58] u84_19 [4,5,27,28,29]
abbrev u84_14:=qQ u84_15 u84_18 [4,5,27,28,29]
abbrev u84_13:=qS [oF 33 4 1,oL 34 33,oP 35 (.bin .eql (.t 34) (.k (.string ⟨#[]⟩))),oM 5 35] u84_14 [4,27,28,29]
abbrev u84_12:=qS [oA 31 27 29 4,oD 32 31 4,oW 4 (.agg #[.int .i64 0,.string ⟨#[]⟩,.slice none 0 0,.int .i64 0]),oS 4 32 4] u84_13 [27,28,29]
abbrev u84_21:=qE [oK 60 29 .add 1,oM 29 60] [27,28,29]
abbrev u84_11:=qB u84_12 u84_21 1 [27,28,29]
abbrev u84_10:=qC .skip u84_11 (.exit 0) (.t 30) [27,28,29,30]
abbrev u84_9:=qS [oB 30 29 28 .lss] u84_10 [27,28,29]
abbrev u84_8:=qJ (.loop u84_9) 0 [27,28,29]
abbrev u84_7:=qS [oF 26 1 2,oL 27 26,oH 28 27,oI 29 0] u84_8 [1]
abbrev u84_22:=qS [oV 2 (.bool true)] .ret []
abbrev u84_6:=qQ u84_7 u84_22 [1]
abbrev u84_2:=qQ u84_3 u84_6 [1]
abbrev u84_1:=qS [oX 1 0,oV 2 (.bool false)] u84_2 [0]
def u84:IFn:=⟨61,u84_1,[.tmp 2]⟩
theorem isU84:A7 Tryz.prog 84 u84:=by unfold A7;kernel_rfl
abbrev u40_5:=qS [oV 2 (.bool false)] .ret []
abbrev u40_4:=qK u40_5 .skip (.t 12) [1,12]
abbrev u40_3:=qS [oF 3 1 0,oL 4 3,oH 5 4,oK 6 5 .gtr 128,oM 7 6,hF 8 1 1 7,hL 9 8 7,oR 10 (.len (.t 9)) 7,hK 11 10 7 .gtr 16,oO 12 7 11] u40_4 [1]
abbrev u40_6:=qS [oF 13 1 0,oL 14 13,oC 15 79 [.t 14,.f 80],oY 16 15,oM 17 16,gF 18 1 1 17,gL 19 18 17,⟨some 20,.call 82 [.t 19,.f 83],some (17,true)⟩,oG 21 (.un .not (.t 20)) 17,oJ 22 17 21,oM 2 22] .ret [1]
abbrev u40_2:=qQ u40_3 u40_6 [1]
abbrev u40_1:=qS [oX 1 0,oV 2 (.bool false)] u40_2 [0]
def u40:IFn:=⟨23,u40_1,[.tmp 2]⟩
theorem isU40:A7 Tryz.prog 40 u40:=by unfold A7;kernel_rfl
abbrev u80_2:=qS [oD 3 1 4,oC 4 81 [.t 3],oY 5 4,oM 2 5] .ret [1]
abbrev u80_1:=qS [oX 1 0,oV 2 (.bool false)] u80_2 [0]
def u80:IFn:=⟨6,u80_1,[.tmp 2]⟩
theorem isU80:A7 Tryz.prog 80 u80:=by unfold A7;kernel_rfl
abbrev u83_2:=qS [oD 3 1 4,oC 4 84 [.t 3],oY 5 4,oM 2 5] .ret [1]
abbrev u83_1:=qS [oX 1 0,oV 2 (.bool false)] u83_2 [0]
def u83:IFn:=⟨6,u83_1,[.tmp 2]⟩
theorem isU83:A7 Tryz.prog 83 u83:=by unfold A7;kernel_rfl
abbrev u45_2:=qS [oM 5 0,oM 6 1,oC 7 88 [.t 5,.t 6],oK 8 7 .geq 0,oM 4 8] .ret [0,1]
abbrev u45_1:=qS [oV 4 (.bool false)] u45_2 [0,1]
def u45:IFn:=⟨9,u45_1,[.tmp 4]⟩
theorem isU45:A7 Tryz.prog 45 u45:=by unfold A7;kernel_rfl
abbrev u88_11:=qS [oM 17 5,oM 4 17] .ret [5]
abbrev u88_10:=qK u88_11 .skip (.t 16) [0,1,5,7,8,16]
abbrev u88_9:=qS [oM 11 1,oM 12 0,oM 13 5,oA 14 12 13 4,oD 15 14 4,⟨some 16,.callv (.t 11) [.t 15],none⟩] u88_10 [0,1,5,7,8]
abbrev u88_8:=qS [oM 10 8,oM 5 10] u88_9 [0,1,7,8]
abbrev u88_12:=qE [oK 18 8 .add 1,oM 8 18] [0,1,7,8]
abbrev u88_7:=qB u88_8 u88_12 1 [0,1,7,8]
abbrev u88_6:=qC .skip u88_7 (.exit 0) (.t 9) [0,1,7,8,9]
abbrev u88_5:=qS [oB 9 8 7 .lss] u88_6 [0,1,7,8]
abbrev u88_4:=qJ (.loop u88_5) 0 [0,1,7,8]
abbrev u88_3:=qS [oM 6 0,oH 7 6,oI 8 0] u88_4 [0,1]
abbrev u88_13:=qS [oI 4 (-1)] .ret []
abbrev u88_2:=qQ u88_3 u88_13 [0,1]
abbrev u88_1:=qS [oI 4 0] u88_2 [0,1]
def u88:IFn:=⟨19,u88_1,[.tmp 4]⟩
theorem isU88:A7 Tryz.prog 88 u88:=by unfold A7;kernel_rfl
abbrev u79_2:=qS [oM 5 0,oM 6 1,oC 7 120 [.t 5,.t 6],oK 8 7 .geq 0,oM 4 8] .ret [0,1]
abbrev u79_1:=qS [oV 4 (.bool false)] u79_2 [0,1]
def u79:IFn:=⟨9,u79_1,[.tmp 4]⟩
theorem isU79:A7 Tryz.prog 79 u79:=by unfold A7;kernel_rfl
abbrev u120_11:=qS [oM 17 5,oM 4 17] .ret [5]
abbrev u120_10:=qK u120_11 .skip (.t 16) [0,1,5,7,8,16]
abbrev u120_9:=qS [oM 11 1,oM 12 0,oM 13 5,oA 14 12 13 4,oD 15 14 4,⟨some 16,.callv (.t 11) [.t 15],none⟩] u120_10 [0,1,5,7,8]
abbrev u120_8:=qS [oM 10 8,oM 5 10] u120_9 [0,1,7,8]
abbrev u120_12:=qE [oK 18 8 .add 1,oM 8 18] [0,1,7,8]
abbrev u120_7:=qB u120_8 u120_12 1 [0,1,7,8]
abbrev u120_6:=qC .skip u120_7 (.exit 0) (.t 9) [0,1,7,8,9]
abbrev u120_5:=qS [oB 9 8 7 .lss] u120_6 [0,1,7,8]
abbrev u120_4:=qJ (.loop u120_5) 0 [0,1,7,8]
abbrev u120_3:=qS [oM 6 0,oH 7 6,oI 8 0] u120_4 [0,1]
abbrev u120_13:=qS [oI 4 (-1)] .ret []
abbrev u120_2:=qQ u120_3 u120_13 [0,1]
abbrev u120_1:=qS [oI 4 0] u120_2 [0,1]
def u120:IFn:=⟨19,u120_1,[.tmp 4]⟩
theorem isU120:A7 Tryz.prog 120 u120:=by unfold A7;kernel_rfl
abbrev u82_2:=qS [oM 5 0,oM 6 1,oC 7 122 [.t 5,.t 6],oK 8 7 .geq 0,oM 4 8] .ret [0,1]
abbrev u82_1:=qS [oV 4 (.bool false)] u82_2 [0,1]
def u82:IFn:=⟨9,u82_1,[.tmp 4]⟩
theorem isU82:A7 Tryz.prog 82 u82:=by unfold A7;kernel_rfl
abbrev u122_11:=qS [oM 17 5,oM 4 17] .ret [5]
abbrev u122_10:=qK u122_11 .skip (.t 16) [0,1,5,7,8,16]
abbrev u122_9:=qS [oM 11 1,oM 12 0,oM 13 5,oA 14 12 13 4,oD 15 14 4,⟨some 16,.callv (.t 11) [.t 15],none⟩] u122_10 [0,1,5,7,8]
abbrev u122_8:=qS [oM 10 8,oM 5 10] u122_9 [0,1,7,8]
abbrev u122_12:=qE [oK 18 8 .add 1,oM 8 18] [0,1,7,8]
abbrev u122_7:=qB u122_8 u122_12 1 [0,1,7,8]
abbrev u122_6:=qC .skip u122_7 (.exit 0) (.t 9) [0,1,7,8,9]
abbrev u122_5:=qS [oB 9 8 7 .lss] u122_6 [0,1,7,8]
abbrev u122_4:=qJ (.loop u122_5) 0 [0,1,7,8]
abbrev u122_3:=qS [oM 6 0,oH 7 6,oI 8 0] u122_4 [0,1]
abbrev u122_13:=qS [oI 4 (-1)] .ret []
abbrev u122_2:=qQ u122_3 u122_13 [0,1]
abbrev u122_1:=qS [oI 4 0] u122_2 [0,1]
def u122:IFn:=⟨19,u122_1,[.tmp 4]⟩
theorem isU122:A7 Tryz.prog 122 u122:=by unfold A7;kernel_rfl
abbrev u148_2:=qS [oM 5 0,oM 6 1,oC 7 158 [.t 5,.t 6],oK 8 7 .geq 0,oM 4 8] .ret [0,1]
abbrev u148_1:=qS [oV 4 (.bool false)] u148_2 [0,1]
def u148:IFn:=⟨9,u148_1,[.tmp 4]⟩
theorem isU148:A7 Tryz.prog 148 u148:=by unfold A7;kernel_rfl
abbrev u158_11:=qS [oM 17 5,oM 4 17] .ret [5]
abbrev u158_10:=qK u158_11 .skip (.t 16) [0,1,5,7,8,16]
abbrev u158_9:=qS [oM 11 1,oM 12 0,oM 13 5,oA 14 12 13 7,oD 15 14 7,⟨some 16,.callv (.t 11) [.t 15],none⟩] u158_10 [0,1,5,7,8]
abbrev u158_8:=qS [oM 10 8,oM 5 10] u158_9 [0,1,7,8]
abbrev u158_12:=qE [oK 18 8 .add 1,oM 8 18] [0,1,7,8]
abbrev u158_7:=qB u158_8 u158_12 1 [0,1,7,8]
abbrev u158_6:=qC .skip u158_7 (.exit 0) (.t 9) [0,1,7,8,9]
abbrev u158_5:=qS [oB 9 8 7 .lss] u158_6 [0,1,7,8]
abbrev u158_4:=qJ (.loop u158_5) 0 [0,1,7,8]
abbrev u158_3:=qS [oM 6 0,oH 7 6,oI 8 0] u158_4 [0,1]
abbrev u158_13:=qS [oI 4 (-1)] .ret []
abbrev u158_2:=qQ u158_3 u158_13 [0,1]
abbrev u158_1:=qS [oI 4 0] u158_2 [0,1]
def u158:IFn:=⟨19,u158_1,[.tmp 4]⟩
theorem isU158:A7 Tryz.prog 158 u158:=by unfold A7;kernel_rfl
abbrev u160_2:=qS [oM 5 0,oM 6 1,oC 7 166 [.t 5,.t 6],oK 8 7 .geq 0,oM 4 8] .ret [0,1]
abbrev u160_1:=qS [oV 4 (.bool false)] u160_2 [0,1]
def u160:IFn:=⟨9,u160_1,[.tmp 4]⟩
theorem isU160:A7 Tryz.prog 160 u160:=by unfold A7;kernel_rfl
abbrev u166_11:=qS [oM 17 5,oM 4 17] .ret [5]
abbrev u166_10:=qK u166_11 .skip (.t 16) [0,1,5,7,8,16]
abbrev u166_9:=qS [oM 11 1,oM 12 0,oM 13 5,oA 14 12 13 5,oD 15 14 5,⟨some 16,.callv (.t 11) [.t 15],none⟩] u166_10 [0,1,5,7,8]
abbrev u166_8:=qS [oM 10 8,oM 5 10] u166_9 [0,1,7,8]
abbrev u166_12:=qE [oK 18 8 .add 1,oM 8 18] [0,1,7,8]
abbrev u166_7:=qB u166_8 u166_12 1 [0,1,7,8]
abbrev u166_6:=qC .skip u166_7 (.exit 0) (.t 9) [0,1,7,8,9]
abbrev u166_5:=qS [oB 9 8 7 .lss] u166_6 [0,1,7,8]
abbrev u166_4:=qJ (.loop u166_5) 0 [0,1,7,8]
abbrev u166_3:=qS [oM 6 0,oH 7 6,oI 8 0] u166_4 [0,1]
abbrev u166_13:=qS [oI 4 (-1)] .ret []
abbrev u166_2:=qQ u166_3 u166_13 [0,1]
abbrev u166_1:=qS [oI 4 0] u166_2 [0,1]
def u166:IFn:=⟨19,u166_1,[.tmp 4]⟩
theorem isU166:A7 Tryz.prog 166 u166:=by unfold A7;kernel_rfl
end Go.Proofs.YtnmkkggfgdfmeaaGreatDoor
namespace Go.Pb
variable [Go.Sym.Tab]
open Go.Sym
def O2 (t:Tok):Bool:=t.kind == 5 || t.kind == 2
def ixA:Nat->List (List UInt8)->List UInt8->Int
 | _,[],_ => -1
 | k,t :: l,x=>if x == t then (k:Int) else ixA (k+1) l x
def amT (t:Tok) (l:List (List UInt8)):Int:=if O2 t=true then ixA 0 l t.text else -1
def hd0 (E:Int) (ts:List Tok):Tok:=ts.headD ⟨0,[],0,E⟩
def O0 (t:Tok):Int:=if amT t D3<0 then 0 else B4 (12+amT t D3)
abbrev lvo (E:Int) (ts:List Tok):Int:=O0 (hd0 E ts)
section
variable {L:List Tok} {E:Int}
theorem A5y (s:Rd):B8 L E s=hd0 E (L.drop s.i):=by
 unfold B8 hd0;rw [A1C, <- List.head?_drop];cases L.drop s.i<;>rfl
theorem C6 {s:Rd} {t:Tok} {ts:List Tok} (h:L.drop s.i=t :: ts):B8 L E s=t:=by rw [A5y,h];rfl
theorem E8 {s:Rd} {t:Tok} {ts:List Tok} (h:L.drop s.i=t :: ts):L.drop (s.i+1)=ts:=by
 rw [<- A3G,h];rfl
theorem G1 {i:Nat} {a b:List Tok} (h:L.drop i=a++b):L.drop (i+a.length)=b:=by
 rw [<- A3G,h,List.drop_left]
theorem C7h {s:Rd} (hok:okR s=true):∀ (l:List (List UInt8)) (k:Nat),Y8 L E s k l=if O2 (B8 L E s)=true then ixA k l (B8 L E s).text else -1
 | [],k=>by simp [Y8,ixA]
 | t :: l,k=>by
  have ih:=C7h hok l (k+1);have hi:isR L E s t=(O2 (B8 L E s) && (B8 L E s).text == t):=by unfold isR O2;rw [hok,A1P]
  rw [Y8,ixA,ih,hi];by_cases hs:O2 (B8 L E s)=true
  ·rw [hs,if_pos rfl,A1P,if_pos rfl]
  ·have hs:O2 (B8 L E s)=false:=by simpa using hs
   rw [hs,Bool.false_and,if_neg (by decide),if_neg (by decide),if_neg (by decide)]
theorem S8 {s:Rd} (hok:okR s=true) (l:List (List UInt8)):C4 L E s l=amT (B8 L E s) l:=C7h hok l 0
theorem A1w {s:Rd} (hok:okR s=true) (t:List UInt8):isR L E s t=(O2 (B8 L E s) && (B8 L E s).text == t):=by unfold isR O2;rw [hok,A1P]
theorem A9a {s:Rd} (hok:okR s=true) (k:Int):I9 L E s k=((B8 L E s).kind == k):=by unfold I9;rw [hok,A1P]
theorem C7d {s:Rd} {t:List UInt8} (hok:okR s=true) (h1:O2 (B8 L E s)=true) (h2:(B8 L E s).text=t):D6 L E s t=B1 s:=by
 unfold D6;rw [A1w hok,h1,h2,if_neg (by simp)]
theorem A9s {s:Rd} {k:Int} (hok:okR s=true) (h1:(B8 L E s).kind=k):B2 L E s k=(B8 L E s,B1 s):=by
 unfold B2;rw [A9a hok,if_neg (by simp [h1])]
def adv (s:Rd) (k:Nat) (o:Nat):Rd:={ s with i:=s.i+k,ops:=s.ops+(o:Int) }
theorem A1c {s:Rd} {k o:Nat} (h:okR s=true):okR (adv s k o)=true:=h
theorem V0 {n:Int} {e:Ex} {s:Rd} (hok:okR s=true) (hn:1<=n) (h:lvo E (L.drop s.i)≠n):Lop L E n e s (e,s):=by
 refine Lop.stop ?_;rw [S8 hok,A5y];unfold lvo O0 at h;by_cases hk:amT (hd0 E (L.drop s.i)) D3<0
 ·exact .inl hk
 ·rw [if_neg hk] at h;exact .inr h
theorem A7s {s s1:Rd} {e:Ex} (hok:okR s1=true):∀ (j:Nat) {m n:Int} {r:Ex × Rd},m-n<=j->Bin L E m s (e,s1)->1<=n->n<m->m<=6->lvo E (L.drop s1.i)<=n->Lop L E n e s1 r->Bin L E n s r
 | 0,m,n,r,hj,h,h1,h2,h3,h4,hr=>by omega
 | j+1,m,n,r,hj,h,h1,h2,h3,h4,hr=>by
  by_cases he:n+1=m
  ·exact Bin.go (by omega) (by rw [he];exact h) hr
  ·refine Bin.go (by omega) ?_ hr;exact A7s hok j (m:=m) (n:=n+1) (by omega) h (by omega) (by omega) h3 (by omega) (V0 hok (by omega) (by omega))
theorem A9m {s s1:Rd} {e:Ex} {n:Int} {r:Ex × Rd} (hok:okR s1=true) (h:Un L E s (e,s1)) (h1:1<=n) (h2:n<=5) (h4:lvo E (L.drop s1.i)<=n) (hr:Lop L E n e s1 r):Bin L E n s r :=
 A7s hok 6 (m:=6) (by omega) (Bin.un (by decide) h) h1 (by omega) (by omega) h4 hr
theorem C7t {s s1:Rd} {e:Ex} {n:Int} (hok:okR s1=true) (h:Un L E s (e,s1)) (h1:1<=n) (h2:n<=5) (h4:lvo E (L.drop s1.i)<n):Bin L E n s (e,s1) :=
 A9m hok h h1 h2 (by omega) (V0 hok h1 (by omega))
theorem B6s {t:Tok} (l:List (List UInt8)) (h:O2 t=false):amT t l = -1:=by unfold amT;rw [if_neg (by rw [h];decide)]
theorem C0e {s:Rd} {v:Int} {ts:List Tok} (hok:okR s=true) (h:L.drop s.i=⟨3,[],v,0⟩ :: ts) (ho:s.ops+1<=32):Un L E s (.mk 1 v [] [] 0,adv s 1 1):=by
 have hp:=C6 (E:=E) h;have ha:∀ l,C4 L E s l = -1:=fun l=>by rw [S8 hok,hp];exact B6s l rfl
 have h1:=Un.prim (L:=L) (E:=E) (s:=s) (by rw [ha];decide);have h2:I5 L E s=(.mk 1 v [] [] 0,adv s 1 1):=by
  unfold I5;dsimp only;rw [ha,hp,A9a hok,A9a hok,hp,if_neg (by simp),show C8 L E { s with ops:=s.ops+1 } (s.ops+1) 32 9 = { s with ops:=s.ops+1 } from if_neg (by omega),if_neg (by show ¬ okR s=false;rw [hok];decide),if_neg (by decide),if_pos rfl];rfl
 rw [h2] at h1;exact h1
theorem C0d {s:Rd} {n:List UInt8} {ts:List Tok} (hok:okR s=true) (h:L.drop s.i=⟨1,n,0,0⟩ :: ts) (ho:s.ops+1<=32):Un L E s (.mk 2 0 n [] 0,adv s 1 1):=by
 have hp:=C6 (E:=E) h;have ha:∀ l,C4 L E s l = -1:=fun l=>by rw [S8 hok,hp];exact B6s l rfl
 have h1:=Un.prim (L:=L) (E:=E) (s:=s) (by rw [ha];decide);have h2:I5 L E s=(.mk 2 0 n [] 0,adv s 1 1):=by
  unfold I5;dsimp only;rw [ha,hp,A9a hok,A9a hok,hp,if_neg (by simp),show C8 L E { s with ops:=s.ops+1 } (s.ops+1) 32 9 = { s with ops:=s.ops+1 } from if_neg (by omega),if_neg (by show ¬ okR s=false;rw [hok];decide),if_neg (by decide),if_neg (by show ¬ (1:Int)=3;decide)];rfl
 rw [h2] at h1;exact h1
theorem A1i {s:Rd} {w:List UInt8} {ts:List Tok} {j:Nat} (hok:okR s=true) (h:L.drop s.i=A5 w :: ts) (ho:s.ops+1<=32) (hj:j<4) (hi:amT (A5 w) R1=(j:Int)) (hpre:amT (A5 w) O3<0) :
  Un L E s (.mk (A4i.getD j 0) 0 [] [] 0,adv s 1 1):=by
 have hp:=C6 (E:=E) h;have h1:=Un.prim (L:=L) (E:=E) (s:=s) (by rw [S8 hok,hp];exact hpre);have ha:C4 L E s R1=(j:Int):=by rw [S8 hok,hp];exact hi
 have h2:I5 L E s=(.mk (A4i.getD j 0) 0 [] [] 0,adv s 1 1):=by
  unfold I5;dsimp only;rw [ha,hp,if_neg (by omega),show C8 L E { s with ops:=s.ops+1 } (s.ops+1) 32 9 = { s with ops:=s.ops+1 } from if_neg (by omega),if_neg (by show ¬ okR s=false;rw [hok];decide),if_pos (by omega),if_neg (by omega)];rfl
 rw [h2] at h1;exact h1
theorem A4h {s:Rd} {w n:List UInt8} {ts:List Tok} {j:Nat} (hok:okR s=true) (h:L.drop s.i=A5 w :: ⟨1,n,0,0⟩ :: ts) (ho:s.ops+1<=32) (hj4:4<=j) (hj:j<7) (hi:amT (A5 w) R1=(j:Int)) (hpre:amT (A5 w) O3<0) :
  Un L E s (.mk (A4i.getD j 0) 0 n [] 0,adv s 2 1):=by
 have hp:=C6 (E:=E) h;have hd:=E8 h;have h1:=Un.prim (L:=L) (E:=E) (s:=s) (by rw [S8 hok,hp];exact hpre);have ha:C4 L E s R1=(j:Int):=by rw [S8 hok,hp];exact hi
 have hp2:B8 L E (B1 { s with ops:=s.ops+1 })=⟨1,n,0,0⟩:=C6 hd;have ht:B2 L E (B1 { s with ops:=s.ops+1 }) 1=(⟨1,n,0,0⟩,B1 (B1 { s with ops:=s.ops+1 })):=by
  rw [A9s (show okR (B1 { s with ops:=s.ops+1 })=true from hok) (by rw [hp2]),hp2]
 have h2:I5 L E s=(.mk (A4i.getD j 0) 0 n [] 0,adv s 2 1):=by
  unfold I5;dsimp only;rw [ha,hp,if_neg (by omega),show C8 L E { s with ops:=s.ops+1 } (s.ops+1) 32 9 = { s with ops:=s.ops+1 } from if_neg (by omega),if_neg (by show ¬ okR s=false;rw [hok];decide),if_pos (by omega),if_pos (by omega),ht];rfl
 rw [h2] at h1;exact h1
def CE (L:List Tok) (E:Int) (e:Ex):Prop:=∀ o d,msM e=some (o,d)->∀ (s:Rd) (post:List Tok),L.drop s.i=exT e++post->okR s=true->s.ops+(o:Int)<=32->s.par+(d:Int)<=16 ->
 ∃ e',e'.plain=e.plain/\(6<=B4 e.kind->Un L E s (e',adv s (exT e).length o)) /\
  (∀ n,1<=n->n<=5->n<=B4 e.kind->lvo E post<=n->(n=3->lvo E post≠3)->∀ r,Lop L E n e' (adv s (exT e).length o) r->Bin L E n s r)
theorem D1e:amT (A5 [40]) O3=2:=by decide +kernel
theorem C3a:amT (A5 [45]) O3=0:=by decide +kernel
theorem C6j:amT (A5 [33]) O3=1:=by decide +kernel
theorem B6e:O0 (A5 [41])=0:=by decide +kernel
theorem C3y:O2 (A5 [41])=true:=by decide +kernel
theorem A2l {s:Rd} {n m e:Int} (h:n<=m):C8 L E s n m e=s:=if_neg (by omega)
theorem C6q {x:Ex} (hx:CE L E x) {o d:Nat} (hm:msM x=some (o,d)) {s:Rd} {post:List Tok} (h:L.drop s.i=[A5 [40]]++exT x++[A5 [41]]++post) (hok:okR s=true) (ho:s.ops+(o:Int)<=32) (hp:s.par+((d+1:Nat):Int)<=16) :
  ∃ x',x'.plain=x.plain/\Un L E s (x',adv s ([A5 [40]]++exT x++[A5 [41]]).length o):=by
 have h0:L.drop s.i=A5 [40] :: (exT x++([A5 [41]]++post)):=by rw [h];simp
 have h1:=E8 h0;have hpk:=C6 (E:=E) h0;obtain ⟨x',e1, -,e3⟩:=hx o d hm { s with i:=s.i+1,par:=s.par+1 } ([A5 [41]]++post) h1 hok ho (by show s.par+1+(d:Int)<=16;omega);have hd2:L.drop (s.i+1+(exT x).length)=A5 [41] :: post:=G1 h1;have hb:=e3 1 (by decide) (by decide) (by have:=U2 x.kind;omega) (by show O0 (A5 [41])<=1;rw [B6e];decide) (fun h=>absurd h (by decide)) _ (V0 (show okR s=true from hok) (by decide) (by show O0 (hd0 E (L.drop (s.i+1+(exT x).length)))≠1;rw [hd2];show O0 (A5 [41])≠1;rw [B6e];decide));have hu:=Un.par (by rw [S8 hok,hpk];exact D1e) (by rw [A2l (by omega)];exact hok) hb;refine ⟨x',e1,?_⟩;have hpk2:B8 L E (adv { s with i:=s.i+1,par:=s.par+1 } (exT x).length o)=A5 [41]:=C6 hd2;rw [C7d (show okR (adv { s with i:=s.i+1,par:=s.par+1 } (exT x).length o)=true from hok) (by rw [hpk2];exact C3y) (by rw [hpk2];rfl)] at hu;have e4:({ B1 (adv { s with i:=s.i+1,par:=s.par+1 } (exT x).length o) with par:=(B1 (adv { s with i:=s.i+1,par:=s.par+1 } (exT x).length o)).par-1 }:Rd)=adv s ([A5 [40]]++exT x++[A5 [41]]).length o:=by
  have a1:s.i+1+(exT x).length+1=s.i+([A5 [40]]++exT x++[A5 [41]]).length:=by simp;omega
  have a2:s.par+1-1=s.par:=by omega
  show Rd.mk (s.i+1+(exT x).length+1) s.e s.pos (s.ops+(o:Int)) (s.par+1-1)=Rd.mk (s.i+([A5 [40]]++exT x++[A5 [41]]).length) s.e s.pos (s.ops+(o:Int)) s.par;rw [a1,a2]
 rw [e4] at hu;exact hu
theorem B0c {x:Ex} (hx:CE L E x) {o d:Nat} {least:Int} (hm:msM x=some (o,d)) {s:Rd} {post:List Tok} (h:L.drop s.i=E2 (x.kind,exT x) least++post) (hok:okR s=true) (ho:s.ops+(o:Int)<=32) (hp:s.par+((if B4 x.kind<least then d+1 else d:Nat):Int)<=16) (h1:1<=least) (h6:least<=6) (hl:lvo E post<least) :
  ∃ x',x'.plain=x.plain/\(least<=5->Bin L E least s (x',adv s (E2 (x.kind,exT x) least).length o))/\(least=6->Un L E s (x',adv s (E2 (x.kind,exT x) least).length o)):=by
 have hdp:=G1 h;unfold E2 at h hdp ⊢;dsimp only at h hdp ⊢;by_cases hlt:B4 x.kind<least
 ·rw [if_pos hlt] at h hp hdp ⊢;obtain ⟨x',e1,e2⟩:=C6q hx hm h hok ho hp;exact ⟨x',e1,fun h5=>C7t (A1c hok) e2 h1 h5 (by show lvo E (L.drop (s.i+_))<least;rw [hdp];exact hl),fun _=>e2⟩
 ·rw [if_neg hlt] at h hp hdp ⊢;obtain ⟨x',e1,e2,e3⟩:=hx o d hm s post h hok ho hp;refine ⟨x',e1,fun h5=>?_,fun h=>e2 (by omega)⟩;refine e3 least h1 h5 (by omega) (by omega) (by omega) _ (V0 (A1c hok) h1 ?_);show lvo E (L.drop (s.i+_))≠least;rw [hdp];omega
theorem C5e {x:Ex} (hx:CE L E x) {o d:Nat} {q:Int} (hm:msM x=some (o,d)) {s:Rd} {post:List Tok} (h:L.drop s.i=E2 (x.kind,exT x) (if q=3 then 4 else q)++post) (hok:okR s=true) (ho:s.ops+(o:Int)<=32) (hp:s.par+((if B4 x.kind<(if q=3 then 4 else q) then d+1 else d:Nat):Int)<=16) (h1:1<=q) (h5:q<=5) (hl:lvo E post=q) :
  ∃ x',x'.plain=x.plain/\∀ r,Lop L E q x' (adv s (E2 (x.kind,exT x) (if q=3 then 4 else q)).length o) r->Bin L E q s r:=by
 have hdp:=G1 h;by_cases h3:q=3
 ·subst h3;rw [if_pos rfl] at h hp hdp ⊢;obtain ⟨x',e1,e2, -⟩:=B0c hx hm h hok ho hp (by decide) (by decide) (by omega);exact ⟨x',e1,fun r hr=>Bin.go (by decide) (e2 (by decide)) hr⟩
 ·rw [if_neg h3] at h hp hdp ⊢;unfold E2 at h hdp ⊢;dsimp only at h hdp ⊢;by_cases hlt:B4 x.kind<q
  ·rw [if_pos hlt] at h hp hdp ⊢;obtain ⟨x',e1,e2⟩:=C6q hx hm h hok ho hp;exact ⟨x',e1,fun r hr=>A9m (A1c hok) e2 h1 h5 (by show lvo E (L.drop (s.i+_))<=q;rw [hdp];omega) hr⟩
  ·rw [if_neg hlt] at h hp hdp ⊢;obtain ⟨x',e1,e2,e3⟩:=hx o d hm s post h hok ho hp;exact ⟨x',e1,e3 q h1 h5 (by omega) (by omega) (fun h=>absurd h h3)⟩
theorem A4l {k v:Int} {n:List UInt8} {a:List Ex} {p:Int} {o d:Nat} (h:msM (.mk k v n a p)=some (o,d)) :
  kOk k=true/\a.length=J1 k/\A0i k n=true/\A0f k v=true/\(J1 k=0->o=1/\d=0)/\(J1 k≠0->∃ d',msL k 0 a=some (o,d')/\d=if J1 k=1 then d'+1 else d'):=by
 unfold msM at h;split at h
 ·cases h
 ·rename_i hc;have h1:kOk k=true:=by cases hz:kOk k with|true=>rfl|false=>exact absurd (.inl hz) hc
  have h2:a.length=J1 k:=Classical.byContradiction fun hz=>hc (.inr (.inl hz));have h3:A0i k n=true:=by cases hz:A0i k n with|true=>rfl|false=>exact absurd (.inr (.inr (.inl hz))) hc
  have h4:A0f k v=true:=by cases hz:A0f k v with|true=>rfl|false=>exact absurd (.inr (.inr (.inr hz))) hc
  refine ⟨h1,h2,h3,h4,?_,?_⟩
  ·intro h0;rw [if_pos h0] at h;cases h;exact ⟨rfl,rfl⟩
  ·intro h0;rw [if_neg h0] at h;split at h
   ·cases h
   ·rename_i o' d' hm;cases h;exact ⟨d',hm,rfl⟩
theorem B9m:∀ j:Nat,j<13->amT (A5 (D3.getD j [])) D3=(j:Int)/\O2 (A5 (D3.getD j []))=true:=by decide +kernel
theorem nm0 {k:Int} {n:List UInt8} (h:A0i k n=true) (h2:k≠2) (h5:B0i k=false):n=[]:=by
 unfold A0i at h;rw [if_neg (by rw [h5];simp [h2])] at h;simpa using h
theorem vl0 {k v:Int} (h:A0f k v=true) (h1:k≠1):v=0:=by
 unfold A0f at h;simp only [A1A,A0G,A1I,A0L] at h;rcases h with h|h
 ·exact h
 ·exact absurd h.1 h1
theorem B6i {α : Type} {l:List α} (h:l.length=2):∃ x y,l=[x,y]:=by
 match l,h with
 | [x,y],_=>exact ⟨x,y,rfl⟩
theorem B2n:∀ (m:Nat) (e:Ex),e.sz<m->CE L E e:=by
 intro m
 induction m with
 | zero=>intro e h;omega
 | succ m ih =>
 intro e hm o d hms s post h hok ho hp;cases e with|mk k v n a p =>
 obtain ⟨h1,h2,h3,h4,h5,h6⟩:=A4l hms;have hlr:=U2 k
 have viaUn:∀ e':Ex,e'.plain=(Ex.mk k v n a p).plain->Un L E s (e',adv s (exT (.mk k v n a p)).length o) ->
   ∃ e',e'.plain=(Ex.mk k v n a p).plain/\(6<=B4 k->Un L E s (e',adv s (exT (.mk k v n a p)).length o)) /\
    (∀ n',1<=n'->n'<=5->n'<=B4 k->lvo E post<=n'->(n'=3->lvo E post≠3)->∀ r,Lop L E n' e' (adv s (exT (.mk k v n a p)).length o) r->Bin L E n' s r):=fun e' he hu =>
  ⟨e',he,fun _=>hu,fun n' q1 q2 _ q4 _ r hr=>A9m (A1c hok) hu q1 q2 (by show lvo E (L.drop (s.i+_))<=n';rw [G1 h];exact q4) hr⟩
 by_cases hc0:J1 k=0
 ·obtain ⟨rfl,rfl⟩:=h5 hc0;have ha:a=[]:=A1R (by omega);subst ha;have hl7:B4 k=7:=by
   unfold J1 at hc0;split at hc0
   ·omega
   ·split at hc0<;>omega
  have hk9:1<=k/\k<=9:=by
   unfold kOk at h1;simp only [A1A,A0G,A0L] at h1;have hk24:1<=k/\k<=24:=by omega
   refine ⟨hk24.1,?_⟩;apply Classical.byContradiction;intro hc;unfold B4 at hl7;repeat' split at hl7
   all_goals omega
  refine (show ∃ e',_ from ?_);have hT:exT (.mk k v n [] p)=J6 k v n []:=by rw [exT,A5j]
  rw [hT] at h viaUn ⊢;have ho1:s.ops+1<=32:=ho;have:k=1\/k=2\/k=3\/k=4\/k=5\/k=6\/k=7\/k=8\/k=9:=by omega
  rcases this with rfl|rfl|rfl|rfl|rfl|rfl|rfl|rfl|rfl
  ·have hn:=nm0 h3 (by decide) (by decide);subst hn;have hv:¬ (v<0\/2147483647<v):=by
    unfold A0f at h4;simp only [A1A,A0G,A1I,A0L] at h4;omega
   have hb:J6 1 v [] []=[⟨3,[],v,0⟩]:=by unfold J6;dsimp only;rw [if_pos rfl];unfold S1;rw [if_neg hv]
   rw [hb] at h viaUn ⊢;exact viaUn (.mk 1 v [] [] 0) rfl (C0e hok h ho1)
  ·have hv:=vl0 h4 (by decide);subst hv;have hn:D7 n=true:=h3;have hb:J6 2 0 n []=[⟨1,n,0,0⟩]:=by unfold J6;dsimp only;rw [if_neg (by decide),if_pos rfl];unfold D1;rw [if_neg (by rw [hn];decide)]
   rw [hb] at h viaUn ⊢;exact viaUn (.mk 2 0 n [] 0) rfl (C0d hok h ho1)
  ·have hv:=vl0 h4 (by decide);have hn:=nm0 h3 (by decide) (by decide);subst hv hn;have hb:J6 3 0 [] []=[A5 [116,114,117,101]]:=rfl;rw [hb] at h viaUn ⊢;exact viaUn (.mk 3 0 [] [] 0) rfl (A1i (j:=0) hok h ho1 (by decide) (by decide +kernel) (by decide +kernel))
  ·have hv:=vl0 h4 (by decide);have hn:=nm0 h3 (by decide) (by decide);subst hv hn;have hb:J6 4 0 [] []=[A5 [102,97,108,115,101]]:=rfl;rw [hb] at h viaUn ⊢;exact viaUn (.mk 4 0 [] [] 0) rfl (A1i (j:=1) hok h ho1 (by decide) (by decide +kernel) (by decide +kernel))
  ·have hv:=vl0 h4 (by decide);subst hv;have hn:D7 n=true:=h3;have hb:J6 5 0 n []=[A5 [99,108,111,115,101,100],⟨1,n,0,0⟩]:=by
    show [A5 [99,108,111,115,101,100]]++D1 n=_;unfold D1;rw [if_neg (by rw [hn];decide)];rfl
   rw [hb] at h viaUn ⊢;exact viaUn (.mk 5 0 n [] 0) rfl (A4h (j:=4) hok h ho1 (by decide) (by decide) (by decide +kernel) (by decide +kernel))
  ·have hv:=vl0 h4 (by decide);subst hv;have hn:D7 n=true:=h3;have hb:J6 6 0 n []=[A5 [97,99,116,105,118,101],⟨1,n,0,0⟩]:=by
    show [A5 [97,99,116,105,118,101]]++D1 n=_;unfold D1;rw [if_neg (by rw [hn];decide)];rfl
   rw [hb] at h viaUn ⊢;exact viaUn (.mk 6 0 n [] 0) rfl (A4h (j:=5) hok h ho1 (by decide) (by decide) (by decide +kernel) (by decide +kernel))
  ·have hv:=vl0 h4 (by decide);subst hv;have hn:D7 n=true:=h3;have hb:J6 7 0 n []=[A5 [108,101,102,116],⟨1,n,0,0⟩]:=by
    show [A5 [108,101,102,116]]++D1 n=_;unfold D1;rw [if_neg (by rw [hn];decide)];rfl
   rw [hb] at h viaUn ⊢;exact viaUn (.mk 7 0 n [] 0) rfl (A4h (j:=6) hok h ho1 (by decide) (by decide) (by decide +kernel) (by decide +kernel))
  ·have hv:=vl0 h4 (by decide);have hn:=nm0 h3 (by decide) (by decide);subst hv hn;have hb:J6 8 0 [] []=[A5 [112,108,97,121,101,114]]:=rfl;rw [hb] at h viaUn ⊢;exact viaUn (.mk 8 0 [] [] 0) rfl (A1i (j:=2) hok h ho1 (by decide) (by decide +kernel) (by decide +kernel))
  ·have hv:=vl0 h4 (by decide);have hn:=nm0 h3 (by decide) (by decide);subst hv hn;have hb:J6 9 0 [] []=[A5 [98,97,108,108]]:=rfl;rw [hb] at h viaUn ⊢;exact viaUn (.mk 9 0 [] [] 0) rfl (A1i (j:=3) hok h ho1 (by decide) (by decide +kernel) (by decide +kernel))
 obtain ⟨d',hl,hd'⟩:=h6 hc0;clear h5 h6;have hv:=vl0 h4 (by rintro rfl;exact hc0 rfl);have hn:=nm0 h3 (by rintro rfl;exact hc0 rfl) (by
  cases hz:B0i k with
  | false=>rfl
  | true =>
   unfold B0i at hz;simp only [A1A,A1I] at hz;rcases hz with rfl|rfl|rfl<;>exact absurd rfl hc0)
 subst hv hn;by_cases hl6:B4 k=6
 ·
  have hk:k=10\/k=11:=by
   unfold B4 at hl6;repeat' split at hl6
   all_goals omega
  have hc1:J1 k=1:=by unfold J1;rw [if_pos hl6]
  rw [hc1] at h2 hd';rw [if_pos rfl] at hd';obtain ⟨x,rfl⟩:∃ x,a=[x]:=List.length_eq_one_iff.1 h2;have hxc:=ih x (by rw [Ex.sz,Ex.szs,Ex.szs] at hm;omega);unfold msL at hl;cases hx:msM x with
  | none=>rw [hx] at hl;cases hl
  | some q =>
   obtain ⟨o1,d1⟩:=q;rw [hx] at hl;dsimp only at hl;unfold msL at hl;dsimp only at hl;simp only [Option.some.injEq,Prod.mk.injEq,A2X,Nat.max_zero] at hl;obtain ⟨rfl,hd1⟩:=hl;have hwr:V7 k x.kind 0=decide (B4 x.kind<6):=by
    unfold V7;rw [hl6];simp
   rw [hwr] at hd1;have hT:exT (.mk k 0 [] [x] p)=[A5 (if k=10 then [45] else [33])]++E2 (x.kind,exT x) 6:=by
    rw [exT,A5j,A5j];rcases hk with rfl|rfl<;>rfl
   rw [hT] at h viaUn ⊢;have h0:L.drop s.i=A5 (if k=10 then [45] else [33]) :: (E2 (x.kind,exT x) 6++post):=by rw [h];simp
   have hdn:=E8 h0;have hpk:=C6 (E:=E) h0;have ham:C4 L E s O3=k-10:=by
    rw [S8 hok,hpk];rcases hk with rfl|rfl
    ·exact C3a
    ·exact C6j
   have hlt6:lvo E post<6:=by
    unfold lvo O0;split
    ·decide
    ·rename_i hz;have:=U2 (12+amT (hd0 E post) D3);have h13:amT (hd0 E post) D3<13:=by
      have gen:∀ (l:List (List UInt8)) (j:Nat) (w:List UInt8),ixA j l w<((j+l.length:Nat):Int):=by
       intro l
       induction l with
       | nil=>intro j w;simp [ixA];omega
       | cons a l ih =>
        intro j w;have:=ih (j+1) w;simp only [ixA,A0E];split<;>omega
      unfold amT;split
      ·exact gen D3 0 _
      ·decide
     exact C5d (by omega) h13
   obtain ⟨x',e1, -,e3⟩:=B0c (least:=6) hxc hx (s:={ s with i:=s.i+1,par:=s.par+1 }) hdn hok ho (by
    show s.par+1+_<=16;have:((if B4 x.kind<6 then d1+1 else d1:Nat):Int)=(d':Int):=by
     rw [<- hd1];by_cases hz:B4 x.kind<6
     ·rw [if_pos hz,if_pos (by simpa using hz)]
     ·rw [if_neg hz,if_neg (by simpa using hz)]
    rw [this];omega) (by decide) (by decide) hlt6
   have hu:=Un.pre (L:=L) (E:=E) (s:=s) (by rw [ham];omega) (by rw [ham];omega) (by rw [A2l (by omega)];exact hok) (e3 rfl);rw [ham,hpk] at hu;have e4:({ adv { s with i:=s.i+1,par:=s.par+1 } (E2 (x.kind,exT x) 6).length o1 with par:=(adv { s with i:=s.i+1,par:=s.par+1 } (E2 (x.kind,exT x) 6).length o1).par-1 }:Rd)=adv s ([A5 (if k=10 then [45] else [33])]++E2 (x.kind,exT x) 6).length o1:=by
    have a1:s.i+1+(E2 (x.kind,exT x) 6).length=s.i+([A5 (if k=10 then [45] else [33])]++E2 (x.kind,exT x) 6).length:=by simp;omega
    have a2:s.par+1-1=s.par:=by omega
    show Rd.mk (s.i+1+(E2 (x.kind,exT x) 6).length) s.e s.pos (s.ops+(o1:Int)) (s.par+1-1)=Rd.mk (s.i+_) s.e s.pos (s.ops+(o1:Int)) s.par;rw [a1,a2]
   rw [e4] at hu;refine viaUn _ ?_ hu;rw [Ex.plain,Ex.plain,Ex.plains,Ex.plains,Ex.plains,Ex.plains,e1]
   congr 1
   omega
 ·
  have hl5:B4 k<=5:=by
   unfold J1 at hc0;rw [if_neg hl6] at hc0;split at hc0
   ·omega
   ·exact absurd rfl hc0
  have hc2:J1 k=2:=by unfold J1;rw [if_neg hl6,if_pos (by omega)]
  rw [hc2] at h2 hd';rw [if_neg (by decide)] at hd';subst hd';obtain ⟨x,y,rfl⟩:∃ x y,a=[x,y]:=B6i h2;have hxc:=ih x (by rw [Ex.sz,Ex.szs,Ex.szs] at hm;omega);have hyc:=ih y (by rw [Ex.sz,Ex.szs,Ex.szs,Ex.szs] at hm;omega);unfold msL at hl;cases hx:msM x with
  | none=>rw [hx] at hl;cases hl
  | some q =>
   obtain ⟨o1,d1⟩:=q;rw [hx] at hl;dsimp only at hl;unfold msL at hl;cases hy:msM y with
   | none=>rw [hy] at hl;cases hl
   | some q2 =>
    obtain ⟨o2,d2⟩:=q2;rw [hy] at hl;dsimp only at hl;unfold msL at hl;dsimp only at hl;simp only [Option.some.injEq,Prod.mk.injEq,A2X,Nat.max_zero] at hl;obtain ⟨rfl,hdd⟩:=hl;have hlk:=B0m (k:=k) (by omega);have hk12:12<=k:=by
     apply Classical.byContradiction;intro hc;have:k=10\/k=11:=by omega
     exact hl6 (A3j this)
    obtain ⟨j,hj⟩:∃ j:Nat,k=12+(j:Int):=⟨(k-12).toNat,by omega⟩;have hj13:j<13:=by omega
    have hjn:(k-12).toNat=j:=by omega
    obtain ⟨hs1,hs2⟩:=B9m j hj13;have hT:exT (.mk k 0 [] [x,y] p)=E2 (x.kind,exT x) (if B4 k=3 then 4 else B4 k)++[A5 (D3.getD j [])]++E2 (y.kind,exT y) (B4 k+1):=by
     rw [exT,A5j,A5j,A5j];unfold J6;dsimp only;rw [if_neg (by omega),if_neg (by omega),if_neg (by omega),if_neg (by omega),if_neg (by omega),if_neg (by omega),if_neg (by omega),if_neg (by omega),if_neg (by omega),if_pos (by omega),hjn]
    rw [hT] at h ⊢;generalize A5 (D3.getD j [])=sg at hs1 hs2 hT h ⊢;have hsl:O0 sg=B4 k:=by unfold O0;rw [hs1,if_neg (by omega), <- hj]
    have hdx:((if B4 x.kind<(if B4 k=3 then 4 else B4 k) then d1+1 else d1:Nat):Int)<=(d:Int):=by
     have hwr:(V7 k x.kind 0=true)↔B4 x.kind<(if B4 k=3 then 4 else B4 k):=by
      unfold V7;simp only [A1A,A0G,A0L,A1I];by_cases h3:B4 k=3
      ·rw [if_pos h3];omega
      ·rw [if_neg h3];omega
     by_cases hz:B4 x.kind<(if B4 k=3 then 4 else B4 k)
     ·rw [if_pos hz];rw [if_pos (hwr.2 hz)] at hdd;omega
     ·rw [if_neg hz];rw [if_neg (fun h=>hz (hwr.1 h))] at hdd;omega
    have hdy:((if B4 y.kind<B4 k+1 then d2+1 else d2:Nat):Int)<=(d:Int):=by
     have hwr:(V7 k y.kind (0+1)=true)↔B4 y.kind<B4 k+1:=by
      unfold V7;rw [show ((0+1:Nat) == 1)=true from rfl,Bool.true_or,A2E];simp only [A1A,A0L,A1I];omega
     by_cases hz:B4 y.kind<B4 k+1
     ·rw [if_pos hz];rw [if_pos (hwr.2 hz)] at hdd;omega
     ·rw [if_neg hz];rw [if_neg (fun h=>hz (hwr.1 h))] at hdd;omega
    have h0:L.drop s.i=E2 (x.kind,exT x) (if B4 k=3 then 4 else B4 k)++(sg :: (E2 (y.kind,exT y) (B4 k+1)++post)):=by rw [h];simp
    obtain ⟨x',e1,e2⟩:=C5e hxc hx h0 hok (by omega) (by omega) hlr.1 hl5 (by show O0 sg=B4 k;exact hsl);have hd1:=G1 h0;have hpk:B8 L E (adv s (E2 (x.kind,exT x) (if B4 k=3 then 4 else B4 k)).length o1)=sg:=C6 hd1;have hd2:=E8 (s:=adv s (E2 (x.kind,exT x) (if B4 k=3 then 4 else B4 k)).length o1) hd1;have ham:C4 L E (adv s (E2 (x.kind,exT x) (if B4 k=3 then 4 else B4 k)).length o1) D3=(j:Int):=by rw [S8 (A1c hok),hpk];exact hs1
    have hfin:s.i+(E2 (x.kind,exT x) (if B4 k=3 then 4 else B4 k)).length+1+(E2 (y.kind,exT y) (B4 k+1)).length=s.i+(E2 (x.kind,exT x) (if B4 k=3 then 4 else B4 k)++[sg]++E2 (y.kind,exT y) (B4 k+1)).length:=by simp only [A0A,A0H];omega
    have hadv:adv (B1 (adv s (E2 (x.kind,exT x) (if B4 k=3 then 4 else B4 k)).length o1)) (E2 (y.kind,exT y) (B4 k+1)).length o2=adv s (E2 (x.kind,exT x) (if B4 k=3 then 4 else B4 k)++[sg]++E2 (y.kind,exT y) (B4 k+1)).length (o1+o2):=by
     have a2:s.ops+(o1:Int)+(o2:Int)=s.ops+((o1+o2:Nat):Int):=by omega
     show Rd.mk (s.i+_+1+_) s.e s.pos (s.ops+(o1:Int)+(o2:Int)) s.par=Rd.mk (s.i+_) s.e s.pos (s.ops+((o1+o2:Nat):Int)) s.par;rw [hfin,a2]
    have hdr:=G1 h;have main:lvo E post<=B4 k->∃ y',y'.plain=y.plain/\Bin L E (B4 k+1) (B1 (adv s (E2 (x.kind,exT x) (if B4 k=3 then 4 else B4 k)).length o1)) (y',adv s (E2 (x.kind,exT x) (if B4 k=3 then 4 else B4 k)++[sg]++E2 (y.kind,exT y) (B4 k+1)).length (o1+o2)):=by
     intro hlv;obtain ⟨y',f1,f2,f3⟩:=B0c (least:=B4 k+1) hyc hy (s:=B1 (adv s (E2 (x.kind,exT x) (if B4 k=3 then 4 else B4 k)).length o1)) hd2 hok (by show s.ops+(o1:Int)+(o2:Int)<=32;omega) (by show s.par+_<=16;omega) (by omega) (by omega) (by omega);rw [hadv] at f2 f3;refine ⟨y',f1,?_⟩;by_cases h5':B4 k+1<=5
     ·exact f2 h5'
     ·exact Bin.un (by omega) (f3 (by omega))
    by_cases hlv:lvo E post<=B4 k
    ·obtain ⟨y',f1,f2⟩:=main hlv;refine ⟨.mk k 0 [] [x',y'] sg.pos,?_,fun h=>absurd h (by show ¬ 6<=B4 k;omega),?_⟩
     ·rw [Ex.plain,Ex.plain,Ex.plains,Ex.plains,Ex.plains,Ex.plains,Ex.plains,Ex.plains,e1,f1]
     ·intro n' q1 q2 q3 q4 q5 r hr;have q3:n'<=B4 k:=q3;have key:∀ r',Lop L E (B4 k) (.mk k 0 [] [x',y'] sg.pos) (adv s (E2 (x.kind,exT x) (if B4 k=3 then 4 else B4 k)++[sg]++E2 (y.kind,exT y) (B4 k+1)).length (o1+o2)) r'->(B4 k=3->lvo E post≠3)->Bin L E (B4 k) s r':=by
       intro r' hr' h33;refine e2 r' ?_;by_cases h3:B4 k=3
       ·have hst:=V0 (L:=L) (E:=E) (n:=B4 k) (e:=.mk k 0 [] [x',y'] sg.pos) (s:=adv s (E2 (x.kind,exT x) (if B4 k=3 then 4 else B4 k)++[sg]++E2 (y.kind,exT y) (B4 k+1)).length (o1+o2)) (A1c hok) hlr.1 (by show lvo E (L.drop (s.i+_))≠B4 k;rw [hdr,h3];exact h33 h3);have:=Evt.uniq hr' hst;rw [this];have ht:=Lop.three (L:=L) (E:=E) (n:=B4 k) (e:=x') (x:=y') (s:=adv s (E2 (x.kind,exT x) (if B4 k=3 then 4 else B4 k)).length o1) (by rw [ham];omega) (by rw [ham, <- hj]) h3 f2;rw [ham, <- hj,hpk] at ht;exact ht
       ·refine Lop.more (by rw [ham];omega) (by rw [ham, <- hj]) h3 f2 ?_;rw [ham, <- hj,hpk];exact hr'
      by_cases hnq:n'=B4 k
      ·subst hnq;exact key r hr q5
      ·refine A7s (A1c hok) 6 (m:=B4 k) (by omega) (key _ (V0 (A1c hok) hlr.1 ?_) (by omega)) q1 (by omega) (by omega) ?_ hr
       ·show lvo E (L.drop (s.i+_))≠B4 k;rw [hdr];omega
       ·show lvo E (L.drop (s.i+_))<=n';rw [hdr];exact q4
    ·refine ⟨.mk k 0 [] [x,y] p,rfl,fun h=>absurd h (by show ¬ 6<=B4 k;omega),?_⟩;intro n' q1 q2 q3 q4 q5 r hr;have q3:n'<=B4 k:=q3;omega
theorem J8 {e:Ex} (hv:V8 e=true) {s:Rd} {post:List Tok} (h:L.drop s.i=exT e++post) (hok:okR s=true) (hl:lvo E post=0) :
  ∃ e' s',e'.plain=e.plain/\Xpn L E s (e',s')/\s'.i=s.i+(exT e).length/\okR s'=true:=by
 unfold V8 at hv;cases hms:msM e with
 | none=>rw [hms] at hv;cases hv
 | some q =>
  obtain ⟨o,d⟩:=q;rw [hms] at hv;simp only [A0G,A0L] at hv;obtain ⟨e',e1, -,e3⟩:=B2n (L:=L) (E:=E) (e.sz+1) e (by omega) o d hms { s with ops:=0,par:=0 } post h hok (by show (0:Int)+(o:Int)<=32;omega) (by show (0:Int)+(d:Int)<=16;omega);refine ⟨e',adv { s with ops:=0,par:=0 } (exT e).length o,e1,?_,rfl,hok⟩;refine e3 1 (by decide) (by decide) (U2 _).1 (by omega) (fun h=>absurd h (by decide)) _ (V0 (show okR s=true from hok) (by decide) ?_);show lvo E (L.drop (s.i+_))≠1;rw [G1 h];omega
end
end Go.Pb
namespace Go.Pb
variable [Go.Sym.Tab]
open Go.Sym
section
variable {L:List Tok} {E:Int}
theorem P4 {s:Rd} {w:List UInt8} {ts:List Tok} (h:L.drop s.i=A5 w :: ts) (hok:okR s=true) (hs:O2 (A5 w)=true):D6 L E s w=B1 s :=
 C7d hok (by rw [C6 h];exact hs) (by rw [C6 h];rfl)
theorem A2f {s:Rd} {n:List UInt8} {ts:List Tok} (h:L.drop s.i=D1 n++ts) (hok:okR s=true) (hn:D7 n=true):B2 L E s 1=(⟨1,n,0,0⟩,B1 s):=by
 have h0:L.drop s.i=⟨1,n,0,0⟩ :: ts:=by rw [h];unfold D1;rw [if_neg (by rw [hn];decide)];rfl
 rw [A9s hok (by rw [C6 h0]),C6 h0]
theorem A9q {s:Rd} {v:Int} {ts:List Tok} (h:L.drop s.i=S1 v++ts) (hok:okR s=true) (h0:0<=v) (h1:v<=2147483647):B2 L E s 3=(⟨3,[],v,0⟩,B1 s):=by
 have h2:L.drop s.i=⟨3,[],v,0⟩ :: ts:=by rw [h];unfold S1;rw [if_neg (by omega)];rfl
 rw [A9s hok (by rw [C6 h2]),C6 h2]
theorem C3o {s:Rd} {t:List UInt8} {ts:List Tok} (h:L.drop s.i=A0b t++ts) (hok:okR s=true) (ht:S4 t=true):B2 L E s 4=(⟨4,t,0,0⟩,B1 s):=by
 unfold S4 at ht;simp only [A0G,A0L] at ht;have h0:L.drop s.i=⟨4,t,0,0⟩ :: ts:=by rw [h];unfold A0b;rw [if_neg (by rw [ht.1];simp;omega)];rfl
 rw [A9s hok (by rw [C6 h0]),C6 h0]
theorem V5 {s:Rd} {a ts:List Tok} (h:L.drop s.i=a++ts) (ha:a.length=1):L.drop (s.i+1)=ts:=by
 rw [<- ha];exact G1 h
def C5v (E:Int) (ts:List Tok):Bool:=O2 (hd0 E ts) && (hd0 E ts).text == [101,108,115,101]
theorem B3l:∀ j:Nat,j<18->amT (A5 (C3.getD j [])) C3=(j:Int)/\O2 (A5 (C3.getD j []))=true/\(A5 (C3.getD j [])).text≠[125]/\(A5 (C3.getD j [])).text≠[101,108,115,101]:=by decide +kernel
theorem w61:O2 (A5 [61])=true:=by decide +kernel
theorem w59:O2 (A5 [59])=true/\O0 (A5 [59])=0:=by decide +kernel
theorem w44:O2 (A5 [44])=true/\O0 (A5 [44])=0:=by decide +kernel
theorem w123:O2 (A5 [123])=true/\O0 (A5 [123])=0/\(A5 [123]).text≠[105,102]:=by decide +kernel
theorem w125:O2 (A5 [125])=true/\(A5 [125]).text≠[101,108,115,101]:=by decide +kernel
theorem C7q:O2 (A5 [101,108,115,101])=true:=by decide +kernel
def HdS (t:Tok):Prop:=t.kind=1\/∃ j,j<18/\t=A5 (C3.getD j [])
theorem HdS.facts {t:Tok} (h:HdS t):(O2 t && t.text == [125])=false/\(O2 t && t.text == [101,108,115,101])=false/\(0<=amT t C3\/t.kind=1):=by
 rcases h with h|⟨j,hj,rfl⟩
 ·have:O2 t=false:=by unfold O2;rw [h];rfl
  exact ⟨by rw [this];rfl,by rw [this];rfl,.inr h⟩
 ·obtain ⟨h1,h2,h3,h4⟩:=B3l j hj;refine ⟨?_,?_,.inl (by omega)⟩
  ·rw [h2,A1P];simpa using h3
  ·rw [h2,A1P];simpa using h4
theorem B8m {d:Nat} {k p:Int} {n t:List UInt8} {a:List Ex} {x y:List St} (h:Q2 d (.mk k n t a x y p)=true) :
  (1<=k/\k<=19)/\(a.length=(L5 k).args/\a.all V8=true)/\((if (L5 k).name=true then D7 n else n == [])=true/\(if (L5 k).text=true then S4 t else t == [])=true) /\
   (((L5 k).thn=true\/x=[])/\((L5 k).els=true\/y=[]))/\M5 x (d+1)=true/\M5 y (d+1)=true:=by
 unfold Q2 at h;simp only [A0G,A0L,A1I,A1A,A3S] at h;obtain ⟨⟨⟨⟨⟨h1,h2⟩,h3,h4⟩,h5,h6⟩,h7,h8⟩,h9,h10⟩:=h;refine ⟨⟨h1,h2⟩,⟨h3,h4⟩,⟨h5,h6⟩,⟨h7,h8⟩,?_,?_⟩
 ·unfold M5;simp only [A0G,A0L,A1A,A3S];exact h9
 ·unfold M5;simp only [A0G,A0L,A1A,A3S];exact h10
theorem B5g {d:Nat} {x:St} (h:Q2 d x=true):∃ t ts,stT x=t :: ts/\HdS t:=by
 cases x with|mk k n t a x y p =>
 obtain ⟨⟨k1,k2⟩, -,⟨hn, -⟩, -⟩:=B8m h;unfold stT;by_cases h1:k=1
 ·subst h1;rw [if_pos rfl];have hn:D7 n=true:=hn;refine ⟨⟨1,n,0,0⟩,[A5 [61]]++agT a 0++[A5 [59]],?_,.inl rfl⟩;unfold D1;rw [if_neg (by rw [hn];decide)];simp
 rw [if_neg h1,if_neg (by omega)];dsimp only;have hw:HdS (A5 (C3.getD (k-2).toNat [])):=.inr ⟨(k-2).toNat,by omega,rfl⟩;generalize A5 (C3.getD (k-2).toNat [])=w at hw;by_cases h23:k=2\/k=3
 ·rw [if_pos h23]
  match y with
  | []=>exact ⟨w,_,rfl,hw⟩
  | [q] =>
   dsimp only;split
   ·exact ⟨w,_,rfl,hw⟩
   ·exact ⟨w,_,rfl,hw⟩
  | q :: q2 :: l=>exact ⟨w,_,rfl,hw⟩
 rw [if_neg h23];repeat' split
 all_goals exact ⟨w,_,rfl,hw⟩
def CSt (L:List Tok) (E:Int) (x:St):Prop:=∀ (d:Nat) (s:Rd) (post:List Tok),Q2 d x=true->d<=8->L.drop s.i=stT x++post->okR s=true->C5v E post=false ->
 ∃ x' s',x'.plain=x.plain/\Q0 L E d s (x',s')/\s'.i=s.i+(stT x).length/\okR s'=true
theorem A2a:∀ (l:List St),(∀ x∈l,CSt L E x)->∀ (acc:List St) (d:Nat) (s:Rd) (post:List Tok),G4 d l=true->acc.length+l.length<=64->(l=[]\/d<=8)->L.drop s.i=N4 l++([A5 [125]]++post)->okR s=true ->
  ∃ l' s',St.plains l'=St.plains l/\X4 L E d acc s (acc++l',s')/\s'.i=s.i+(N4 l).length+1/\okR s'=true
 | [],_,acc,d,s,post,hv,hl,hd,h,hok=>by
  have h0:L.drop s.i=A5 [125] :: post:=by rw [h];rfl
  have hi:isR L E s [125]=true:=by rw [A1w hok,C6 h0,w125.1];rfl
  have hb:=X4.stop (L:=L) (E:=E) (d:=d) (l:=acc) (s:=s) (by rw [hi];simp);rw [P4 h0 hok w125.1] at hb;exact ⟨[],B1 s,rfl,by rw [A1T];exact hb,rfl,hok⟩
 | x :: l,hx,acc,d,s,post,hv,hl,hd,h,hok=>by
  rw [G4,A0G] at hv;have hd8:d<=8:=hd.resolve_left (by simp);obtain ⟨t,ts,e1,e2⟩:=B5g hv.1;obtain ⟨f1,f2,f3⟩:=e2.facts;have h0:L.drop s.i=stT x++(N4 l++([A5 [125]]++post)):=by rw [h,N4,A0T]
  have hp:B8 L E s=t:=C6 (ts:=ts++(N4 l++([A5 [125]]++post))) (by rw [h0,e1];rfl);have hels:C5v E (N4 l++([A5 [125]]++post))=false:=by
   unfold C5v;cases l with
   | nil =>
    show (O2 (A5 [125]) && (A5 [125]).text == [101,108,115,101])=false;rw [w125.1,A1P];simpa using w125.2
   | cons y l =>
    have hv2:=hv.2;rw [G4,A0G] at hv2;obtain ⟨u,us,g1,g2⟩:=B5g hv2.1;rw [N4,g1];exact g2.facts.2.1
  obtain ⟨x',s1,p1,p2,p3,p4⟩:=hx x A0O d s _ hv.1 hd8 h0 hok hels;have hdr:L.drop s1.i=N4 l++([A5 [125]]++post):=by rw [p3];exact G1 h0
  obtain ⟨l',s',q1,q2,q3,q4⟩:=A2a l (fun y hy=>hx y (A0P _ hy)) (acc++[x']) d s1 post hv.2 (by simp only [A0A,A0E,A0F] at hl ⊢;omega) (.inr hd8) hdr p4;refine ⟨x' :: l',s',by rw [St.plains,St.plains,p1,q1],?_,by rw [q3,p3,N4,A0A];omega,q4⟩;refine X4.more (s1:=s1) (x:=x') ⟨hok,by rw [A1w hok,hp];exact f1⟩ ?_ ?_ (by rw [A0T] at q2;exact q2)
  ·rintro ⟨g1,g2⟩;rw [S8 hok,hp] at g1;rw [A9a hok,hp] at g2;rcases f3 with f3|f3
   ·omega
   ·rw [f3] at g2;simp at g2
  ·rw [A2l (by simp only [A0E] at hl;omega)];exact p2
theorem P7 {l:List St} (hx:∀ x∈l,CSt L E x) {d:Nat} {s:Rd} {post:List Tok} (hv:M5 l d=true) (h:L.drop s.i=blT l++post) (hok:okR s=true) :
  ∃ l' s',St.plains l'=St.plains l/\A5p L E d s (l',s')/\s'.i=s.i+(blT l).length/\okR s'=true:=by
 unfold M5 at hv;simp only [A0G,A0L,A1A,A3S] at hv;have h0:L.drop s.i=A5 [123] :: (N4 l++([A5 [125]]++post)):=by rw [h];unfold blT;simp
 have he:=P4 (E:=E) h0 hok w123.1;obtain ⟨l',s',q1,q2,q3,q4⟩:=A2a l hx [] d (B1 s) post hv.2 (by simp only [A0F];omega) hv.1.2 (E8 h0) hok;refine ⟨l',s',q1,A5p.mk (by rw [he];exact q2),?_,q4⟩;rw [q3];unfold blT;simp only [A0A,A0H];show s.i+1+_+1=_;omega
theorem A3t {a:List Ex} (h:a.length=1) (hv:a.all V8=true):∃ e,a=[e]/\V8 e=true:=by
 obtain ⟨e,rfl⟩:=List.length_eq_one_iff.1 h;exact ⟨e,rfl,by simpa using hv⟩
theorem ag0 (e:Ex) (l:List Ex):agT (e :: l) 0=exT e:=rfl
theorem ag1 (e e2:Ex) (l:List Ex):agT (e :: e2 :: l) 1=exT e2:=rfl
theorem B7c {k:Int} (h1:k≠1) (h2:k≠2) (h3:k≠3) (h4:k≠4) (h8:k≠8) (h9:k≠9) (h10:k≠10) (h18:k≠18) (h19:k≠19):L5 k=⟨true,false,0,false,false⟩:=by
 unfold L5;rw [if_neg (by omega),if_neg h9,if_neg h2,if_neg h3,if_neg h4,if_neg h18,if_neg h19]
def B5o:List St->List Tok
 | []=>[]
 | [q]=>if q.kind=2 then [A5 [101,108,115,101]]++stT q else [A5 [101,108,115,101]]++blT [q]
 | q :: q2 :: r=>[A5 [101,108,115,101]]++blT (q :: q2 :: r)
theorem B1i:∀ (m:Nat) (x:St),x.sz<m->CSt L E x:=by
 intro m
 induction m with
 | zero=>intro x h;omega
 | succ m ih =>
 intro x hm d s post hv hd h hok hels;cases x with|mk k n t a x y p =>
 obtain ⟨⟨k1,k2⟩,⟨ha,hav⟩,⟨hn,ht⟩,⟨hx,hy⟩,hbx,hby⟩:=B8m hv;have hcx:∀ q∈x,CSt L E q:=fun q hq=>ih q (by rw [St.sz] at hm;have:=St.szs_mem hq;omega);have hcy:∀ q∈y,CSt L E q:=fun q hq=>ih q (by rw [St.sz] at hm;have:=St.szs_mem hq;omega);have hlim:okR (C8 L E s (d:Int) 8 50)=true:=by rw [A2l (by omega)];exact hok
 have hcast:((d+1:Nat):Int)=(d:Int)+1:=by omega
 by_cases hk1:k=1
 ·
  subst hk1;have hn:D7 n=true:=hn;have ht:t=[]:=by have h':(t == [])=true:=ht;simpa using h'
  have hx:x=[]:=hx.resolve_left (by decide);have hy:y=[]:=hy.resolve_left (by decide);subst ht hx hy;obtain ⟨e,rfl,he⟩:=A3t ha hav;have hT:stT (.mk 1 n [] [e] [] [] p)=D1 n++[A5 [61]]++exT e++[A5 [59]]:=by unfold stT;rw [if_pos rfl,ag0]
  rw [hT] at h ⊢;have h0:L.drop s.i=D1 n++(A5 [61] :: (exT e++(A5 [59] :: post))):=by rw [h];simp
  have h1:=V5 h0 (A3 n);have hpk:B8 L E s=⟨1,n,0,0⟩:=C6 (ts:=A5 [61] :: (exT e++(A5 [59] :: post))) (by rw [h0];unfold D1;rw [if_neg (by rw [hn];decide)];rfl);have htk:=A2f (E:=E) h0 hok hn;have h2:=E8 (s:=B1 s) h1;have he1:=P4 (E:=E) (s:=B1 s) h1 hok w61;obtain ⟨e',s1,p1,p2,p3,p4⟩:=J8 (L:=L) (E:=E) he (s:=B1 (B1 s)) h2 hok (by show O0 (A5 [59])=0;exact w59.2);have h3:L.drop s1.i=A5 [59] :: post:=by rw [p3];exact G1 h2
  have hst:=Q0.set (L:=L) (E:=E) (d:=d) (s:=s) (s1:=s1) (e:=e') hlim (by rw [S8 hok,hpk];exact (by decide:(-1:Int)<0)) (by rw [htk,he1];exact p2);rw [htk,P4 h3 p4 w59.1] at hst;refine ⟨_,_,?_,hst,?_,p4⟩
  ·rw [St.plain,St.plain,Ex.plains,Ex.plains,Ex.plains,Ex.plains,p1]
  ·show s1.i+1=_;rw [p3];simp only [A0A,A0H,A3];show s.i+1+1+_+1=_;omega
 obtain ⟨j,hj⟩:∃ j:Nat,k=2+(j:Int):=⟨(k-2).toNat,by omega⟩;have hj18:j<18:=by omega
 have hjn:(k-2).toNat=j:=by omega
 obtain ⟨a1,a2, -, -⟩:=B3l j hj18;by_cases h23:k=2\/k=3
 ·
  have hsh:(L5 k).args=1/\(L5 k).name=false/\(L5 k).text=false/\(k=3->(L5 k).els=false):=by
   rcases h23 with rfl|rfl
   ·exact ⟨rfl,rfl,rfl,fun h=>absurd h (by decide)⟩
   ·exact ⟨rfl,rfl,rfl,fun _=>rfl⟩
  rw [hsh.1] at ha;rw [hsh.2.1] at hn;rw [hsh.2.2.1] at ht;have hn:n=[]:=by have h':(n == [])=true:=hn;simpa using h'
  have ht:t=[]:=by have h':(t == [])=true:=ht;simpa using h'
  subst hn ht;have hy3:k=3->y=[]:=fun h=>hy.resolve_left (by rw [hsh.2.2.2 h];decide);obtain ⟨e,rfl,he⟩:=A3t ha hav;obtain ⟨rest,hrest,hT⟩:∃ rest,rest=B5o y/\stT (.mk k [] [] [e] x y p)=[A5 (C3.getD j [])]++exT e++blT x++rest:=by
   refine ⟨_,rfl,?_⟩;clear hy hy3 hv hm h hby hcy;rw [stT,if_neg hk1,if_neg (by omega)];dsimp only;rw [if_pos h23,hjn,ag0]
   match y with
   | []=>simp [blT,B5o]
   | [q] =>
    unfold B5o;dsimp only;split
    ·simp [blT]
    ·simp [blT,N4]
   | q :: q2 :: r=>simp [blT,B5o]
  rw [hT] at h ⊢;generalize A5 (C3.getD j [])=w at a1 a2 h hT ⊢;have h0:L.drop s.i=w :: (exT e++(blT x++(rest++post))):=by rw [h];simp
  have hpk:=C6 (E:=E) h0;have ham:C4 L E s C3=(j:Int):=by rw [S8 hok,hpk];exact a1
  have h1:=E8 h0;obtain ⟨e',s2,p1,p2,p3,p4⟩:=J8 (L:=L) (E:=E) he (s:=B1 s) h1 hok (by unfold blT;show O0 (A5 [123])=0;exact w123.2.1);have h2:L.drop s2.i=blT x++(rest++post):=by rw [p3];exact G1 h1
  obtain ⟨t',s3,b1,b2,b3,b4⟩:=P7 hcx hbx h2 p4;rw [hcast] at b2;have h3:L.drop s3.i=rest++post:=by rw [b3];exact G1 h2
  have hi3:s3.i=s.i+1+(exT e).length+(blT x).length:=by rw [b3,p3];rfl
  have blkCase:¬ (C4 L E s C3=0/\isR L E s3 [101,108,115,101]=true)->y=[]->rest=[]->∃ x' s',x'.plain=(St.mk k [] [] [e] x y p).plain/\Q0 L E d s (x',s')/\s'.i=s.i+([w]++exT e++blT x++rest).length/\okR s'=true:=by
   intro hc hy0 hr0;subst hy0 hr0;have hst:=Q0.blk (L:=L) (E:=E) (d:=d) (s:=s) hlim (by rw [ham];omega) p2 b2 hc;refine ⟨_,_,?_,hst,?_,b4⟩
   ·rw [ham, <- hj,St.plain,St.plain,Ex.plains,Ex.plains,Ex.plains,Ex.plains,p1,b1]
   ·rw [hi3];simp only [A0A,A0H,A0F];omega
  by_cases hk3:k=3
  ·have hy0:=hy3 hk3;subst hy0;exact blkCase (by rw [ham];omega) rfl hrest
  ·have hk2:k=2:=by omega
   have hj0:j=0:=by omega
   have hd1:y≠[]->d+1<=8:=fun hne=>by
    unfold M5 at hby;simp only [A0G,A0L,A1A,A3S] at hby;exact hby.1.2.resolve_left hne
   have elsCase:∀ (o':List St) (s4:Rd),St.plains o'=St.plains y->A5l L E d (B1 s3) (o',s4)->isR L E s3 [101,108,115,101]=true->s4.i=s3.i+rest.length->okR s4=true->∃ x' s',x'.plain=(St.mk k [] [] [e] x y p).plain/\Q0 L E d s (x',s')/\s'.i=s.i+([w]++exT e++blT x++rest).length/\okR s'=true:=by
    intro o' s4 c1 c2 c3 c4 c5;have hst:=Q0.els (L:=L) (E:=E) (d:=d) (s:=s) hlim (by rw [ham,hj0];rfl) p2 b2 c3 c2;refine ⟨_,_,?_,hst,?_,c5⟩
    ·rw [hk2,St.plain,St.plain,Ex.plains,Ex.plains,Ex.plains,Ex.plains,p1,b1,c1]
    ·rw [c4,hi3];simp only [A0A,A0H];omega
   clear hy hy3 hv hm hT h h0
   match y,hcy,hby,hd1,hrest,blkCase,elsCase with
   | [],_,_,_,hrest,blkCase,_ =>
    refine blkCase ?_ rfl hrest;rintro ⟨-,g⟩;rw [hrest] at h3;rw [A1w b4,A5y,h3] at g;have g:C5v E post=true:=g;rw [hels] at g;cases g
   | [q],hcy,hby,hd1,hrest,_,elsCase =>
    have hrest:rest=if q.kind=2 then [A5 [101,108,115,101]]++stT q else [A5 [101,108,115,101]]++blT [q]:=hrest
    have hd1:=hd1 (by simp);by_cases hq2:q.kind=2
    ·rw [if_pos hq2] at hrest;subst hrest;have h4:L.drop s3.i=A5 [101,108,115,101] :: (stT q++post):=by rw [h3];simp
     have hi:isR L E s3 [101,108,115,101]=true:=by rw [A1w b4,C6 h4,C7q];rfl
     have hvq:Q2 (d+1) q=true:=by
      unfold M5 at hby;simp only [A0G] at hby;have:=hby.2;rw [G4,A0G] at this;exact this.1
     obtain ⟨q',s4,c1,c2,c3,c4⟩:=hcy q A0O (d+1) (B1 s3) post hvq hd1 (E8 h4) b4 hels;rw [hcast] at c2;have hif:isR L E (B1 s3) [105,102]=true:=by
      have h5:=E8 h4;have:∃ ts,stT q=A5 (C3.getD 0 []) :: ts:=by
       cases q with|mk kq nq tq aq xq yq pq =>
       have hq2:kq=2:=hq2;subst hq2;unfold stT;rw [if_neg (by decide),if_neg (by decide)];dsimp only;rw [if_pos (.inl rfl)]
       match yq with
       | []=>exact ⟨_,rfl⟩
       | [q3] =>
        dsimp only;split
        ·exact ⟨_,rfl⟩
        ·exact ⟨_,rfl⟩
       | _ :: _ :: _=>exact ⟨_,rfl⟩
      obtain ⟨ts,hts⟩:=this;rw [A1w (show okR (B1 s3)=true from b4),C6 (s:=B1 s3) (t:=A5 (C3.getD 0 [])) (ts:=ts++post) (by show L.drop (s3.i+1)=_;rw [h5,hts];rfl),(B3l 0 (by decide)).2.1];rfl
     refine elsCase [q'] s4 (by rw [St.plains,St.plains,St.plains,St.plains,c1]) (A5l.iff hif c2) hi ?_ c4;rw [c3];simp only [A0A,A0H];show s3.i+1+_=_;omega
    ·rw [if_neg hq2] at hrest;subst hrest;have h4:L.drop s3.i=A5 [101,108,115,101] :: (blT [q]++post):=by rw [h3];simp
     have hi:isR L E s3 [101,108,115,101]=true:=by rw [A1w b4,C6 h4,C7q];rfl
     obtain ⟨o',s4,c1,c2,c3,c4⟩:=P7 hcy hby (s:=B1 s3) (E8 h4) b4;rw [hcast] at c2;have hif:isR L E (B1 s3) [105,102]=false:=by
      rw [A1w (show okR (B1 s3)=true from b4),C6 (s:=B1 s3) (t:=A5 [123]) (ts:=N4 [q]++[A5 [125]]++post) (by show L.drop (s3.i+1)=_;rw [E8 h4];unfold blT;simp),w123.1,A1P];simpa using w123.2.2
     refine elsCase o' s4 c1 (A5l.blk hif c2) hi ?_ c4;rw [c3];simp only [A0A,A0H];show s3.i+1+_=_;omega
   | q :: q2 :: r,hcy,hby,hd1,hrest,_,elsCase =>
    have hrest:rest=[A5 [101,108,115,101]]++blT (q :: q2 :: r):=hrest;subst hrest;have h4:L.drop s3.i=A5 [101,108,115,101] :: (blT (q :: q2 :: r)++post):=by rw [h3];simp
    have hi:isR L E s3 [101,108,115,101]=true:=by rw [A1w b4,C6 h4,C7q];rfl
    obtain ⟨o',s4,c1,c2,c3,c4⟩:=P7 hcy hby (s:=B1 s3) (E8 h4) b4;rw [hcast] at c2;have hif:isR L E (B1 s3) [105,102]=false:=by
     rw [A1w (show okR (B1 s3)=true from b4),C6 (s:=B1 s3) (t:=A5 [123]) (ts:=N4 (q :: q2 :: r)++[A5 [125]]++post) (by show L.drop (s3.i+1)=_;rw [E8 h4];unfold blT;simp),w123.1,A1P];simpa using w123.2.2
    refine elsCase o' s4 c1 (A5l.blk hif c2) hi ?_ c4;rw [c3];simp only [A0A,A0H];show s3.i+1+_=_;omega
 have hshx:(L5 k).thn=false/\(L5 k).els=false:=by
  unfold L5;repeat' split
  all_goals first|exact ⟨rfl,rfl⟩|omega
 have hx:x=[]:=hx.resolve_left (by rw [hshx.1];decide);have hy:y=[]:=hy.resolve_left (by rw [hshx.2];decide);subst hx hy;have tailGo:∀ (toks:List Tok) (n' t':List UInt8) (a':List Ex) (s':Rd),stT (.mk k n t a [] [] p)=[A5 (C3.getD j [])]++toks->n'=n->t'=t->Ex.plains a'=Ex.plains a->s'.i=s.i+1+toks.length->okR s'=true ->
   (L.drop (s.i+1)=toks++post->Evt (fun f=>L4 L E f k (B8 L E s).pos (B1 s)) (.mk k n' t' a' [] [] (B8 L E s).pos,s'))->∃ x' s',x'.plain=(St.mk k n t a [] [] p).plain/\Q0 L E d s (x',s')/\s'.i=s.i+(stT (.mk k n t a [] [] p)).length/\okR s'=true:=by
  intro toks n' t' a' s' c1 c2 c3 c4 c5 c6 c7;subst c2 c3;rw [c1] at h ⊢;have h0:L.drop s.i=A5 (C3.getD j []) :: (toks++post):=by rw [h];simp
  have hpk:=C6 (E:=E) h0;have ham:C4 L E s C3=(j:Int):=by rw [S8 hok,hpk];exact a1
  have hst:=Q0.tail (L:=L) (E:=E) (d:=d) (s:=s) hlim (by rw [ham];omega) (by rw [ham, <- hj];exact c7 (E8 h0));refine ⟨_,_,?_,hst,?_,c6⟩
  ·rw [St.plain,St.plain,c4]
  ·rw [c5];simp only [A0A,A0H];omega
 have hT:stT (.mk k n t a [] [] p)=[A5 (C3.getD j [])]++(if k=4 then agT a 0++[A5 [59]] else if k=18 then A0b t++[A5 [44]]++agT a 0++[A5 [59]] else if k=8\/k=10 then D1 n++agT a 0++[A5 [59]] else if k=9 then D1 n++agT a 0++[A5 [44]]++agT a 1++[A5 [59]] else if k=19 then [A5 [59]] else D1 n++[A5 [59]]):=by
  unfold stT;rw [if_neg hk1,if_neg (by omega)];dsimp only;rw [if_neg h23,hjn];repeat' split
  all_goals simp
 by_cases h4:k=4
 ·subst h4;have hn:n=[]:=by have h':(n == [])=true:=hn;simpa using h'
  have ht:t=[]:=by have h':(t == [])=true:=ht;simpa using h'
  subst hn ht;obtain ⟨e,rfl,he⟩:=A3t ha hav;rw [if_pos rfl,ag0] at hT;have h0:L.drop (s.i+1)=exT e++(A5 [59] :: post):=by
   rw [hT] at h;have:L.drop s.i=A5 (C3.getD j []) :: (exT e++(A5 [59] :: post)):=by rw [h];simp
   exact E8 this
  obtain ⟨e',s1,p1,p2,p3,p4⟩:=J8 (L:=L) (E:=E) he (s:=B1 s) h0 hok (by show O0 (A5 [59])=0;exact w59.2);have h3:L.drop s1.i=A5 [59] :: post:=by rw [p3];exact G1 h0
  refine tailGo _ [] [] [e'] (B1 s1) hT rfl rfl (by rw [Ex.plains,Ex.plains,Ex.plains,Ex.plains,p1]) (by show s1.i+1=_;rw [p3];simp only [A0A,A0H];show s.i+1+_+1=_;omega) p4 (fun _=>p2.map fun f hf=>?_);unfold L4;rw [if_pos rfl,hf];dsimp only;rw [P4 h3 p4 w59.1]
 rw [if_neg h4] at hT;by_cases h18:k=18
 ·subst h18;have hn:n=[]:=by have h':(n == [])=true:=hn;simpa using h'
  have ht:S4 t=true:=ht;subst hn;obtain ⟨e,rfl,he⟩:=A3t ha hav;rw [if_pos rfl,ag0] at hT;have h0:L.drop (s.i+1)=A0b t++(A5 [44] :: (exT e++(A5 [59] :: post))):=by
   rw [hT] at h;have:L.drop s.i=A5 (C3.getD j []) :: (A0b t++(A5 [44] :: (exT e++(A5 [59] :: post)))):=by rw [h];simp
   exact E8 this
  have htk:=C3o (E:=E) (s:=B1 s) h0 hok ht;have h1:=V5 (s:=B1 s) h0 (A8 t);have he1:=P4 (E:=E) (s:=B1 (B1 s)) h1 hok w44.1;have h2:=E8 (s:=B1 (B1 s)) h1;obtain ⟨e',s1,p1,p2,p3,p4⟩:=J8 (L:=L) (E:=E) he (s:=B1 (B1 (B1 s))) h2 hok (by show O0 (A5 [59])=0;exact w59.2);have h3:L.drop s1.i=A5 [59] :: post:=by rw [p3];exact G1 h2
  refine tailGo _ [] t [e'] (B1 s1) hT rfl rfl (by rw [Ex.plains,Ex.plains,Ex.plains,Ex.plains,p1]) (by show s1.i+1=_;rw [p3];simp only [A0A,A0H,A8];show s.i+1+1+1+_+1=_;omega) p4 (fun _=>p2.map fun f hf=>?_);unfold L4;rw [if_neg (by decide),if_pos rfl,htk,he1,hf];dsimp only;rw [P4 h3 p4 w59.1]
 rw [if_neg h18] at hT;by_cases h8:k=8\/k=10
 ·have hsh:L5 k=⟨true,false,1,false,false⟩:=by rcases h8 with rfl|rfl<;>rfl
  rw [hsh] at ha hn ht;have hn:D7 n=true:=hn;have ht:t=[]:=by have h':(t == [])=true:=ht;simpa using h'
  subst ht;obtain ⟨e,rfl,he⟩:=A3t ha hav;rw [if_pos h8,ag0] at hT;have h0:L.drop (s.i+1)=D1 n++(exT e++(A5 [59] :: post)):=by
   rw [hT] at h;have:L.drop s.i=A5 (C3.getD j []) :: (D1 n++(exT e++(A5 [59] :: post))):=by rw [h];simp
   exact E8 this
  have htk:=A2f (E:=E) (s:=B1 s) h0 hok hn;have h1:=V5 (s:=B1 s) h0 (A3 n);obtain ⟨e',s1,p1,p2,p3,p4⟩:=J8 (L:=L) (E:=E) he (s:=B1 (B1 s)) h1 hok (by show O0 (A5 [59])=0;exact w59.2);have h3:L.drop s1.i=A5 [59] :: post:=by rw [p3];exact G1 h1
  refine tailGo _ n [] [e'] (B1 s1) hT rfl rfl (by rw [Ex.plains,Ex.plains,Ex.plains,Ex.plains,p1]) (by show s1.i+1=_;rw [p3];simp only [A0A,A0H,A3];show s.i+1+1+_+1=_;omega) p4 (fun _=>p2.map fun f hf=>?_);unfold L4;rw [if_neg h4,if_neg h18,if_neg (by omega)];dsimp only;rw [if_pos (by omega),htk];dsimp only;rw [hf];dsimp only;rw [if_neg (by omega),P4 h3 p4 w59.1]
 rw [if_neg h8] at hT;by_cases h9:k=9
 ·subst h9;have hn:D7 n=true:=hn;have ht:t=[]:=by have h':(t == [])=true:=ht;simpa using h'
  subst ht;obtain ⟨e,e2,rfl⟩:=B6i ha;simp only [A2M,List.all_nil,A2E,A0G] at hav;rw [if_pos rfl,ag0,ag1] at hT;have h0:L.drop (s.i+1)=D1 n++(exT e++(A5 [44] :: (exT e2++(A5 [59] :: post)))):=by
   rw [hT] at h;have:L.drop s.i=A5 (C3.getD j []) :: (D1 n++(exT e++(A5 [44] :: (exT e2++(A5 [59] :: post))))):=by rw [h];simp
   exact E8 this
  have htk:=A2f (E:=E) (s:=B1 s) h0 hok hn;have h1:=V5 (s:=B1 s) h0 (A3 n);obtain ⟨e',s1,p1,p2,p3,p4⟩:=J8 (L:=L) (E:=E) hav.1 (s:=B1 (B1 s)) h1 hok (by show O0 (A5 [44])=0;exact w44.2);have h3:L.drop s1.i=A5 [44] :: (exT e2++(A5 [59] :: post)):=by rw [p3];exact G1 h1
  have hx1:=P4 (E:=E) h3 p4 w44.1;obtain ⟨e2',s2,r1,r2,r3,r4⟩:=J8 (L:=L) (E:=E) hav.2 (s:=B1 s1) (E8 h3) p4 (by show O0 (A5 [59])=0;exact w59.2);have h5:L.drop s2.i=A5 [59] :: post:=by rw [r3];exact G1 (E8 h3)
  refine tailGo _ n [] [e',e2'] (B1 s2) hT rfl rfl (by rw [Ex.plains,Ex.plains,Ex.plains,Ex.plains,Ex.plains,Ex.plains,p1,r1]) (by show s2.i+1=_;rw [r3];show s1.i+1+_+1=_;rw [p3];simp only [A0A,A0H,A3];show s.i+1+1+_+1+_+1=_;omega) r4 (fun _=>p2.map2 r2 fun f hf hf2=>?_);unfold L4;rw [if_neg h4,if_neg h18,if_neg (by decide)];dsimp only;rw [if_pos (by decide),htk];dsimp only;rw [hf];dsimp only;rw [if_pos rfl,hx1,hf2];dsimp only;rw [P4 h5 r4 w59.1]
 rw [if_neg h9] at hT;by_cases h19:k=19
 ·subst h19;have hn:n=[]:=by have h':(n == [])=true:=hn;simpa using h'
  have ht:t=[]:=by have h':(t == [])=true:=ht;simpa using h'
  have ha:a=[]:=A1R ha;subst hn ht ha;rw [if_pos rfl] at hT;have h0:L.drop (s.i+1)=A5 [59] :: post:=by
   rw [hT] at h;have:L.drop s.i=A5 (C3.getD j []) :: (A5 [59] :: post):=by rw [h];simp
   exact E8 this
  refine tailGo _ [] [] [] (B1 (B1 s)) hT rfl rfl rfl rfl hok (fun _=>Evt.one fun f=>?_);unfold L4;rw [if_neg (by decide),if_neg (by decide),if_pos rfl,P4 (s:=B1 s) h0 hok w59.1]
 rw [if_neg h19] at hT;have hsh:=B7c hk1 (fun h=>h23 (.inl h)) (fun h=>h23 (.inr h)) h4 (fun h=>h8 (.inl h)) h9 (fun h=>h8 (.inr h)) h18 h19;rw [hsh] at ha hn ht;have hn:D7 n=true:=hn;have ht:t=[]:=by have h':(t == [])=true:=ht;simpa using h'
 have ha:a=[]:=A1R ha;subst ht ha;have h0:L.drop (s.i+1)=D1 n++(A5 [59] :: post):=by
  rw [hT] at h;have:L.drop s.i=A5 (C3.getD j []) :: (D1 n++(A5 [59] :: post)):=by rw [h];simp
  exact E8 this
 have htk:=A2f (E:=E) (s:=B1 s) h0 hok hn;have h1:=V5 (s:=B1 s) h0 (A3 n);refine tailGo _ n [] [] (B1 (B1 (B1 s))) hT rfl rfl rfl (by simp only [A0A,A0H,A3];show s.i+1+1+1=_;omega) hok (fun _=>Evt.one fun f=>?_);unfold L4;rw [if_neg h4,if_neg h18,if_neg h19];dsimp only;rw [if_neg (by omega),htk];dsimp only;rw [P4 (s:=B1 (B1 s)) h1 hok w59.1]
theorem B0t {l:List St} {d:Nat} {s:Rd} {post:List Tok} (hv:M5 l d=true) (h:L.drop s.i=blT l++post) (hok:okR s=true) :
  ∃ l' s',St.plains l'=St.plains l/\A5p L E d s (l',s')/\s'.i=s.i+(blT l).length/\okR s'=true :=
 P7 (fun x hx=>B1i (x.sz+1) x (by omega)) hv h hok
end
end Go.Pb
end
