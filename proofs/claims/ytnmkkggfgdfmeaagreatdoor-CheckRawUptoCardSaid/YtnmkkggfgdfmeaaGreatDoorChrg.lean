/-
  HELPERS of the claim: part 7 of its texts.
-/
import Derived.Test.YtnmkkggfgdfmeaaGreatDoorProg
import Derived.KernelRfl
import Derived.Test.YtnmkkggfgdfmeaaGreatDoorChrf
noncomputable section
set_option maxHeartbeats 8000000
set_option maxRecDepth 100000
set_option linter.unusedSimpArgs false
set_option linter.unusedVariables false
namespace Go.Proofs.YtnmkkggfgdfmeaaGreatDoor
open Go.Eng (IC IOper DReg IFn IsFn)
open Go.Sym Go.Pb
theorem lw (x:List UInt8):(wT x).length=1:=rfl
theorem jn4 {a b c d:List Tok} {id cc:Nat} {H:Hp} (hH:H id=some ⟨1,true,[toksV a,toksV b,toksV c,toksV d]⟩) (ha:1<=a.length/\a.length<=1000000000) (hb:1<=b.length/\b.length<=1000000000) (hc:1<=c.length/\c.length<=1000000000) (hd:1<=d.length/\d.length<=1000000000) :
  AC Tryz.prog 131 [.slc id 0 4] H cc (fun v H' c'=>v=toksV (a++b++c++d)/\H'=delO H (some id)/\c'=cc):=by
 have:=own_call (id:=id) (cc:=cc) (H:=H) (u:=1) (n:=4) (c_join1 [a,b,c,d] (by simp) (by simp [ha,hb,hc,hd])) hH rfl rfl (tks_unit [a,b,c,d])
 rwa [List.flatten_cons,List.flatten_cons,List.flatten_cons,List.flatten_cons,List.flatten_nil,List.append_nil, <- List.append_assoc, <- List.append_assoc] at this
theorem jn5 {a b c d e:List Tok} {id cc:Nat} {H:Hp} (hH:H id=some ⟨1,true,[toksV a,toksV b,toksV c,toksV d,toksV e]⟩) (ha:1<=a.length/\a.length<=1000000000) (hb:1<=b.length/\b.length<=1000000000) (hc:1<=c.length/\c.length<=1000000000) (hd:1<=d.length/\d.length<=1000000000) (he:1<=e.length/\e.length<=1000000000) :
  AC Tryz.prog 131 [.slc id 0 5] H cc (fun v H' c'=>v=toksV (a++b++c++d++e)/\H'=delO H (some id)/\c'=cc):=by
 have:=own_call (id:=id) (cc:=cc) (H:=H) (u:=1) (n:=5) (c_join1 [a,b,c,d,e] (by simp) (by simp [ha,hb,hc,hd,he])) hH rfl rfl (tks_unit [a,b,c,d,e])
 rwa [List.flatten_cons,List.flatten_cons,List.flatten_cons,List.flatten_cons,List.flatten_cons,List.flatten_nil,List.append_nil, <- List.append_assoc, <- List.append_assoc, <- List.append_assoc] at this
theorem agT_len (l:List Ex) (i:Nat) (hl:Ex.szs l<=10000000):1<=(agT l i).length/\(agT l i).length<=100000000:=by
 unfold agT
 cases h:l[i]? with
 | none=>exact ⟨Nat.le_refl _,by decide⟩
 | some e =>
  have h1:=exT_len e
  have h2:=Ex.szs_mem (List.mem_of_getElem? h)
  dsimp only
  omega
theorem c_arg (l:List Ex) (i:Nat) (hi:i<=5) (hl:Ex.szs l<=10000000):PC Tryz.prog 163 [exsV l,I64 i] (toksV (agT l i)):=by
 refine PC.of mixedU isU163 (Nat.le_of_ble_eq_true rfl) (by simp [DV.nlL,DV.nl,nlL_exs]) (nlL_toks _) ?_
 unfold agT
 show IW Tryz.prog 16 u163_1 ⟨argT _,_,_⟩ (rt [.tmp 4] _)
 cases h:l[i]? with
 | none =>
  have hlt:l.length<=i:=List.getElem?_eq_none_iff.1 h
  have hd:decide ((i:Int)≥(l.length:Int))=true:=by simp;omega
  repeat' ((with_reducible first|refine wr ?_|fail)<;>try simp only [go_sem,seval,hd,List.length_map])
  exact pc_tok1
 | some e =>
  have hlt:=(List.getElem?_eq_some_iff.1 h).1
  have hd:decide ((i:Int)≥(l.length:Int))=false:=by simp;omega
  have he:=c_exprT (e.sz+1) e (by omega) (by have:=Ex.szs_mem (List.mem_of_getElem? h);omega)
  rw [Ex.v_w] at he
  repeat' ((with_reducible first|refine wr ?_|refine cpc he ?_|fail)<;>try simp only [go_sem,seval,hd,h,Ex.v_w,List.length_map])
  exact ⟨_,GL.refl _ _⟩
theorem pc_tok {c:Nat} {k v p:Int} {x:List UInt8}:∃ H2,GL (nil.upd c ⟨4,true,[I64 k,.str x,I64 v,I64 p]⟩) [.slc c 0 1] H2 [toksV [⟨k,x,v,p⟩]] :=
 pc_slc h_same rfl rfl (tok_unit _) ⟨[],rfl⟩
theorem c_text31 (s:List UInt8) (hs:s.length<=1000000000):PC Tryz.prog 164 [.str s] (toksV (textT s)):=by
 refine PC.of mixedU isU164 (Nat.le_of_ble_eq_true rfl) rfl (nlL_toks _) ?_
 unfold textT
 show IW Tryz.prog 30 u164_1 ⟨argT _,_,_⟩ (rt [.tmp 2] _)
 repeat' ((with_reducible first|refine wr ?_|fail)<;>try simp only [go_sem,seval])
 refine i_loop (fun k:Nat=>[(0,.str s),(3,I64 k)]) (fun _=>Sym.nil) (fun k c=>k<=s.length/\(s.take k).all txB=true) (fun k=>s.length-k) 0 (by simp [tmLe,tm,Tm.upd]) (Sub.nil _) ⟨Nat.zero_le _,rfl⟩ ?_
 rintro k c ⟨hk,ha⟩
 by_cases hlt:k<s.length
 ·have hd:decide ((k:Int)<(s.length:Int))=true:=by simpa using hlt
  have hg:=List.getElem?_eq_getElem hlt
  have hw:=w64 (n:=(k:Int)+1) (by omega) (by omega)
  have e0:(s.take (k+1)).all txB=((s.take k).all txB && txB s[k]):=by rw [List.take_add_one,hg,List.all_append];simp
  have e1:txB s[k]=false->s.all txB=false:=fun h=>by
   cases hz:s.all txB with
   | false=>rfl
   | true=>rw [List.all_eq_true] at hz;rw [hz _ (List.getElem_mem hlt)] at h;cases h
  generalize s[k]=x at hg e0 e1
  by_cases h1:x.toNat<32
  ·have hd1:decide ((x.toNat:Int)<32)=true:=by simp;omega
   rw [if_pos (.inl (e1 (by simp [txB];omega)))]
   repeat' ((with_reducible first|refine wr ?_|fail)<;>try simp only [go_sem,seval,hd,hg,hw,hd1])
   exact pc_tok
  ·have hd1:decide ((x.toNat:Int)<32)=false:=by simp;omega
   by_cases h2:126<x.toNat
   ·have hd2:decide ((x.toNat:Int)>126)=true:=by simp;omega
    rw [if_pos (.inl (e1 (by simp [txB];omega)))]
    repeat' ((with_reducible first|refine wr ?_|fail)<;>try simp only [go_sem,seval,hd,hg,hw,hd1,hd2])
    exact pc_tok
   ·have hd2:decide ((x.toNat:Int)>126)=false:=by simp;omega
    have e2:txB x=true:=by simp [txB];omega
    repeat' ((with_reducible first|refine wr ?_|fail)<;>try simp only [go_sem,seval,hd,hg,hw,hd1,hd2])
    exact ⟨k+1,by simp [tmLe,tm,Tm.upd],Sub.nil _,inv ⟨by omega,by rw [e0,ha,e2];rfl⟩,by omega⟩
 ·have hd:decide ((k:Int)<(s.length:Int))=false:=by simpa using hlt
  rw [List.take_of_length_le (by omega)] at ha
  by_cases h3:32<s.length
  ·have hd3:decide ((s.length:Int)>32)=true:=by simp;omega
   rw [if_pos (.inr h3)]
   repeat' ((with_reducible first|refine wr ?_|fail)<;>try simp only [go_sem,seval,hd,hd3])
   exact pc_tok
  ·have hd3:decide ((s.length:Int)>32)=false:=by simp;omega
   rw [if_neg (by rw [ha];simp;omega)]
   repeat' ((with_reducible first|refine wr ?_|fail)<;>try simp only [go_sem,seval,hd,hd3])
   exact pc_tok
theorem szs_one (x:Pb.St):Pb.St.szs [x]=x.sz:=by rw [Pb.St.szs,Pb.St.szs];omega
theorem c_stmtT (m:Nat) (ihs:∀ x:Pb.St,x.sz<m->PC Tryz.prog 153 [x.v] (toksV (stT x))) (ihb:∀ l:List Pb.St,Pb.St.szs l<m->PC Tryz.prog 135 [stsV l] (toksV (blT l)))
  (hlb:∀ l:List Pb.St,Pb.St.szs l<m->1<=(blT l).length/\(blT l).length<=100000000) (hls:∀ x:Pb.St,x.sz<m->1<=(stT x).length/\(stT x).length<=100000000)
  (s:Pb.St) (hm:s.sz<=m) (hB:s.sz<=10000000):PC Tryz.prog 153 [s.v] (toksV (stT s)):=by
 obtain ⟨R,hR⟩:∃ R,R=toksV (stT s):=⟨_,rfl⟩
 have hnm:=s.sz_name
 have htx:=s.sz_text
 have hax:Ex.szs s.args<=10000000:=by cases s with|mk k n t a x y p=>rw [Pb.St.sz] at hB;show Ex.szs a<=_;omega
 have hxx:=s.sz_thn
 have hyy:=s.sz_els
 refine PC.of mixedU isU153 (Nat.le_of_ble_eq_true rfl) (by simp [DV.nlL,DV.nl,Pb.St.nl]) (nlL_toks _) ?_
 rw [Pb.St.v_w, <- hR]
 cases s with|mk k n t a x y p =>
 unfold stT at hR
 dsimp only [Pb.St.w,Pb.St.kind,Pb.St.name,Pb.St.text,Pb.St.args,Pb.St.thn,Pb.St.els,Pb.St.pos] at hnm htx hax hxx hyy ⊢
 have hna:=c_named n (by omega)
 have hte:=c_text31 t (by omega)
 have ha0:=c_arg a 0 (by decide) hax
 have ha1:=c_arg a 1 (by decide) hax
 have la0:=agT_len a 0 hax
 have la1:=agT_len a 1 hax
 rw [show ((0:Nat):Int)=0 from rfl] at ha0
 rw [show ((1:Nat):Int)=1 from rfl] at ha1
 have hbx:=ihb x (by omega)
 have hby:=ihb y (by omega)
 have lbx:=hlb x (by omega)
 have lby:=hlb y (by omega)
 show IW Tryz.prog 148 u153_1 ⟨argT _,_,_⟩ (rt [.tmp 2] _)
 by_cases h1:k=1
 ·subst h1
  rw [if_pos rfl] at hR
  repeat' ((first|(with_reducible first|refine wr ?_|refine cpc hna ?_|refine cpc ha0 ?_)|(refine AC.call (wd1 rfl (by first|assumption|decide)) ?_<;>rintro _ _ _ ⟨rfl,rfl,rfl⟩ -)|(refine AC.call (jn2 rfl (by constructor<;>(try simp only [List.length_append,lw,namedT_len,numT_len,textT_len])<;>omega) (by constructor<;>(try simp only [List.length_append,lw,namedT_len,numT_len,textT_len])<;>omega)) ?_<;>rintro _ _ _ ⟨rfl,rfl,rfl⟩ -)|(refine AC.call (jn3 rfl (by constructor<;>(try simp only [List.length_append,lw,namedT_len,numT_len,textT_len])<;>omega) (by constructor<;>(try simp only [List.length_append,lw,namedT_len,numT_len,textT_len])<;>omega) (by constructor<;>(try simp only [List.length_append,lw,namedT_len,numT_len,textT_len])<;>omega)) ?_<;>rintro _ _ _ ⟨rfl,rfl,rfl⟩ -)|(refine AC.call (jn4 rfl (by constructor<;>(try simp only [List.length_append,lw,namedT_len,numT_len,textT_len])<;>omega) (by constructor<;>(try simp only [List.length_append,lw,namedT_len,numT_len,textT_len])<;>omega) (by constructor<;>(try simp only [List.length_append,lw,namedT_len,numT_len,textT_len])<;>omega) (by constructor<;>(try simp only [List.length_append,lw,namedT_len,numT_len,textT_len])<;>omega)) ?_<;>rintro _ _ _ ⟨rfl,rfl,rfl⟩ -)|(refine AC.call (jn5 rfl (by constructor<;>(try simp only [List.length_append,lw,namedT_len,numT_len,textT_len])<;>omega) (by constructor<;>(try simp only [List.length_append,lw,namedT_len,numT_len,textT_len])<;>omega) (by constructor<;>(try simp only [List.length_append,lw,namedT_len,numT_len,textT_len])<;>omega) (by constructor<;>(try simp only [List.length_append,lw,namedT_len,numT_len,textT_len])<;>omega) (by constructor<;>(try simp only [List.length_append,lw,namedT_len,numT_len,textT_len])<;>omega)) ?_<;>rintro _ _ _ ⟨rfl,rfl,rfl⟩ -)|fail)<;>try simp only [go_sem,seval])
  exact ⟨_,by rw [hR];exact GL.refl _ _⟩
 rw [if_neg h1] at hR
 have d1:(k == 1)=false:=by simpa using h1
 by_cases hbk:k<2\/19<k
 ·rw [if_pos hbk] at hR
  by_cases h2:k<2
  ·have d2:decide (k<2)=true:=by simpa using h2
   repeat' ((with_reducible first|refine wr ?_|fail)<;>try simp only [go_sem,seval,d1,d2])
   rw [hR];exact pc_slc (id:=1) h_same rfl rfl (tok_unit [tok0]) ⟨[],rfl⟩
  ·have d2:decide (k<2)=false:=by simpa using h2
   have d3:decide (k>19)=true:=by simp;omega
   repeat' ((with_reducible first|refine wr ?_|fail)<;>try simp only [go_sem,seval,d1,d2,d3])
   rw [hR];exact pc_slc (id:=1) h_same rfl rfl (tok_unit [tok0]) ⟨[],rfl⟩
 rw [if_neg hbk] at hR
 have e2:decide (k<2)=false:=by simp;omega
 have e3:decide (k>19)=false:=by simp;omega
 dsimp only at hR
 obtain ⟨j,hj⟩:∃ j:Nat,k=2+(j:Int):=⟨(k-2).toNat,by omega⟩
 have hjw:IntKind.i64.wrap (k-2)=(j:Int):=by rw [w64 (by omega) (by omega)];omega
 have hjn:(k-2).toNat=j:=by omega
 rw [hjn] at hR
 have hj18:j<18:=by omega
 have hgj:stmtsL[j]? = some (stmtsL.getD j []):=by
  rw [List.getD_eq_getElem?_getD,List.getElem?_eq_getElem (show j<stmtsL.length from hj18)];rfl
 have hsl:(stmtsL.getD j []).length<=1000000000:=by
  have:∀ i:Nat,i<18->(stmtsL.getD i []).length<=1000000000:=by decide
  exact this j hj18
 generalize stmtsL.getD j []=S at hR hgj hsl
 have dk:∀ q:Int,¬ k=q->(k == q)=false:=fun q h=>by simpa using h
 repeat' ((first|(with_reducible first|refine hold (p:=IW _ _ u153_11 _ _) ?_|refine wr ?_|refine cpc c_stmts31 ?_)|(refine AC.call (wd1 rfl (by first|assumption|decide)) ?_<;>rintro _ _ _ ⟨rfl,rfl,rfl⟩ -)|fail)<;>try simp only [go_sem,seval,d1,e2,e3,hjw,hgj])
 unfold Hold
 by_cases h2:k=2\/k=3
 ·rw [if_pos h2] at hR
  have dd:(k == 2)=true\/(k == 2)=false/\(k == 3)=true:=by
   rcases h2 with rfl|rfl
   ·exact .inl rfl
   ·exact .inr ⟨rfl,rfl⟩
  clear h2 hj hjn h1 hbk
  match y with
  | [] =>
   dsimp only at hR
   rcases dd with d2|⟨d2,d3⟩
   ·repeat' ((first|(with_reducible first|refine wr ?_|refine cpc ha0 ?_|refine cpc hbx ?_)|(refine AC.call (wd1 rfl (by first|assumption|decide)) ?_<;>rintro _ _ _ ⟨rfl,rfl,rfl⟩ -)|(refine AC.call (jn2 rfl (by constructor<;>(try simp only [List.length_append,lw,namedT_len,numT_len,textT_len])<;>omega) (by constructor<;>(try simp only [List.length_append,lw,namedT_len,numT_len,textT_len])<;>omega)) ?_<;>rintro _ _ _ ⟨rfl,rfl,rfl⟩ -)|(refine AC.call (jn3 rfl (by constructor<;>(try simp only [List.length_append,lw,namedT_len,numT_len,textT_len])<;>omega) (by constructor<;>(try simp only [List.length_append,lw,namedT_len,numT_len,textT_len])<;>omega) (by constructor<;>(try simp only [List.length_append,lw,namedT_len,numT_len,textT_len])<;>omega)) ?_<;>rintro _ _ _ ⟨rfl,rfl,rfl⟩ -)|(refine AC.call (jn4 rfl (by constructor<;>(try simp only [List.length_append,lw,namedT_len,numT_len,textT_len])<;>omega) (by constructor<;>(try simp only [List.length_append,lw,namedT_len,numT_len,textT_len])<;>omega) (by constructor<;>(try simp only [List.length_append,lw,namedT_len,numT_len,textT_len])<;>omega) (by constructor<;>(try simp only [List.length_append,lw,namedT_len,numT_len,textT_len])<;>omega)) ?_<;>rintro _ _ _ ⟨rfl,rfl,rfl⟩ -)|(refine AC.call (jn5 rfl (by constructor<;>(try simp only [List.length_append,lw,namedT_len,numT_len,textT_len])<;>omega) (by constructor<;>(try simp only [List.length_append,lw,namedT_len,numT_len,textT_len])<;>omega) (by constructor<;>(try simp only [List.length_append,lw,namedT_len,numT_len,textT_len])<;>omega) (by constructor<;>(try simp only [List.length_append,lw,namedT_len,numT_len,textT_len])<;>omega) (by constructor<;>(try simp only [List.length_append,lw,namedT_len,numT_len,textT_len])<;>omega)) ?_<;>rintro _ _ _ ⟨rfl,rfl,rfl⟩ -)|fail)<;>try simp only [go_sem,seval,d2,List.map_nil,List.length_nil])
    exact ⟨_,by rw [hR];exact GL.refl _ _⟩
   ·repeat' ((first|(with_reducible first|refine wr ?_|refine cpc ha0 ?_|refine cpc hbx ?_)|(refine AC.call (wd1 rfl (by first|assumption|decide)) ?_<;>rintro _ _ _ ⟨rfl,rfl,rfl⟩ -)|(refine AC.call (jn2 rfl (by constructor<;>(try simp only [List.length_append,lw,namedT_len,numT_len,textT_len])<;>omega) (by constructor<;>(try simp only [List.length_append,lw,namedT_len,numT_len,textT_len])<;>omega)) ?_<;>rintro _ _ _ ⟨rfl,rfl,rfl⟩ -)|(refine AC.call (jn3 rfl (by constructor<;>(try simp only [List.length_append,lw,namedT_len,numT_len,textT_len])<;>omega) (by constructor<;>(try simp only [List.length_append,lw,namedT_len,numT_len,textT_len])<;>omega) (by constructor<;>(try simp only [List.length_append,lw,namedT_len,numT_len,textT_len])<;>omega)) ?_<;>rintro _ _ _ ⟨rfl,rfl,rfl⟩ -)|(refine AC.call (jn4 rfl (by constructor<;>(try simp only [List.length_append,lw,namedT_len,numT_len,textT_len])<;>omega) (by constructor<;>(try simp only [List.length_append,lw,namedT_len,numT_len,textT_len])<;>omega) (by constructor<;>(try simp only [List.length_append,lw,namedT_len,numT_len,textT_len])<;>omega) (by constructor<;>(try simp only [List.length_append,lw,namedT_len,numT_len,textT_len])<;>omega)) ?_<;>rintro _ _ _ ⟨rfl,rfl,rfl⟩ -)|(refine AC.call (jn5 rfl (by constructor<;>(try simp only [List.length_append,lw,namedT_len,numT_len,textT_len])<;>omega) (by constructor<;>(try simp only [List.length_append,lw,namedT_len,numT_len,textT_len])<;>omega) (by constructor<;>(try simp only [List.length_append,lw,namedT_len,numT_len,textT_len])<;>omega) (by constructor<;>(try simp only [List.length_append,lw,namedT_len,numT_len,textT_len])<;>omega) (by constructor<;>(try simp only [List.length_append,lw,namedT_len,numT_len,textT_len])<;>omega)) ?_<;>rintro _ _ _ ⟨rfl,rfl,rfl⟩ -)|fail)<;>try simp only [go_sem,seval,d2,d3,List.map_nil,List.length_nil])
    exact ⟨_,by rw [hR];exact GL.refl _ _⟩
  | [q] =>
   rw [szs_one] at hyy
   have hq:=ihs q (by omega)
   have lq:=hls q (by omega)
   rw [Pb.St.v_w] at hq
   dsimp only at hR
   have hone:blT [q]=wT [123]++stT q++wT [125]:=by unfold blT;rw [stTs,stTs,List.append_nil];rfl
   have hby':=hby
   rw [hone] at hby lby
   by_cases hk2:q.kind=2
   ·rw [if_pos hk2] at hR
    have m2:(q.kind == 2)=true:=by simpa using hk2
    rcases dd with d2|⟨d2,d3⟩
    ·repeat' ((first|(with_reducible first|refine wr ?_|refine cpc ha0 ?_|refine cpc hbx ?_|refine cpc hq ?_)|(refine AC.call (wd1 rfl (by first|assumption|decide)) ?_<;>rintro _ _ _ ⟨rfl,rfl,rfl⟩ -)|(refine AC.call (jn2 rfl (by constructor<;>(try simp only [List.length_append,lw,namedT_len,numT_len,textT_len])<;>omega) (by constructor<;>(try simp only [List.length_append,lw,namedT_len,numT_len,textT_len])<;>omega)) ?_<;>rintro _ _ _ ⟨rfl,rfl,rfl⟩ -)|(refine AC.call (jn3 rfl (by constructor<;>(try simp only [List.length_append,lw,namedT_len,numT_len,textT_len])<;>omega) (by constructor<;>(try simp only [List.length_append,lw,namedT_len,numT_len,textT_len])<;>omega) (by constructor<;>(try simp only [List.length_append,lw,namedT_len,numT_len,textT_len])<;>omega)) ?_<;>rintro _ _ _ ⟨rfl,rfl,rfl⟩ -)|(refine AC.call (jn4 rfl (by constructor<;>(try simp only [List.length_append,lw,namedT_len,numT_len,textT_len])<;>omega) (by constructor<;>(try simp only [List.length_append,lw,namedT_len,numT_len,textT_len])<;>omega) (by constructor<;>(try simp only [List.length_append,lw,namedT_len,numT_len,textT_len])<;>omega) (by constructor<;>(try simp only [List.length_append,lw,namedT_len,numT_len,textT_len])<;>omega)) ?_<;>rintro _ _ _ ⟨rfl,rfl,rfl⟩ -)|(refine AC.call (jn5 rfl (by constructor<;>(try simp only [List.length_append,lw,namedT_len,numT_len,textT_len])<;>omega) (by constructor<;>(try simp only [List.length_append,lw,namedT_len,numT_len,textT_len])<;>omega) (by constructor<;>(try simp only [List.length_append,lw,namedT_len,numT_len,textT_len])<;>omega) (by constructor<;>(try simp only [List.length_append,lw,namedT_len,numT_len,textT_len])<;>omega) (by constructor<;>(try simp only [List.length_append,lw,namedT_len,numT_len,textT_len])<;>omega)) ?_<;>rintro _ _ _ ⟨rfl,rfl,rfl⟩ -)|fail)<;>try simp only [go_sem,seval,d2,m2,Pb.St.v_w])
     exact ⟨_,by rw [hR];exact GL.refl _ _⟩
    ·repeat' ((first|(with_reducible first|refine wr ?_|refine cpc ha0 ?_|refine cpc hbx ?_|refine cpc hq ?_)|(refine AC.call (wd1 rfl (by first|assumption|decide)) ?_<;>rintro _ _ _ ⟨rfl,rfl,rfl⟩ -)|(refine AC.call (jn2 rfl (by constructor<;>(try simp only [List.length_append,lw,namedT_len,numT_len,textT_len])<;>omega) (by constructor<;>(try simp only [List.length_append,lw,namedT_len,numT_len,textT_len])<;>omega)) ?_<;>rintro _ _ _ ⟨rfl,rfl,rfl⟩ -)|(refine AC.call (jn3 rfl (by constructor<;>(try simp only [List.length_append,lw,namedT_len,numT_len,textT_len])<;>omega) (by constructor<;>(try simp only [List.length_append,lw,namedT_len,numT_len,textT_len])<;>omega) (by constructor<;>(try simp only [List.length_append,lw,namedT_len,numT_len,textT_len])<;>omega)) ?_<;>rintro _ _ _ ⟨rfl,rfl,rfl⟩ -)|(refine AC.call (jn4 rfl (by constructor<;>(try simp only [List.length_append,lw,namedT_len,numT_len,textT_len])<;>omega) (by constructor<;>(try simp only [List.length_append,lw,namedT_len,numT_len,textT_len])<;>omega) (by constructor<;>(try simp only [List.length_append,lw,namedT_len,numT_len,textT_len])<;>omega) (by constructor<;>(try simp only [List.length_append,lw,namedT_len,numT_len,textT_len])<;>omega)) ?_<;>rintro _ _ _ ⟨rfl,rfl,rfl⟩ -)|(refine AC.call (jn5 rfl (by constructor<;>(try simp only [List.length_append,lw,namedT_len,numT_len,textT_len])<;>omega) (by constructor<;>(try simp only [List.length_append,lw,namedT_len,numT_len,textT_len])<;>omega) (by constructor<;>(try simp only [List.length_append,lw,namedT_len,numT_len,textT_len])<;>omega) (by constructor<;>(try simp only [List.length_append,lw,namedT_len,numT_len,textT_len])<;>omega) (by constructor<;>(try simp only [List.length_append,lw,namedT_len,numT_len,textT_len])<;>omega)) ?_<;>rintro _ _ _ ⟨rfl,rfl,rfl⟩ -)|fail)<;>try simp only [go_sem,seval,d2,d3,m2,Pb.St.v_w])
     exact ⟨_,by rw [hR];exact GL.refl _ _⟩
   ·rw [if_neg hk2] at hR
    have m2:(q.kind == 2)=false:=by simpa using hk2
    rcases dd with d2|⟨d2,d3⟩
    ·repeat' ((first|(with_reducible first|refine wr ?_|refine cpc ha0 ?_|refine cpc hbx ?_|refine cpc hby ?_)|(refine AC.call (wd1 rfl (by first|assumption|decide)) ?_<;>rintro _ _ _ ⟨rfl,rfl,rfl⟩ -)|(refine AC.call (jn2 rfl (by constructor<;>(try simp only [List.length_append,lw,namedT_len,numT_len,textT_len])<;>omega) (by constructor<;>(try simp only [List.length_append,lw,namedT_len,numT_len,textT_len])<;>omega)) ?_<;>rintro _ _ _ ⟨rfl,rfl,rfl⟩ -)|(refine AC.call (jn3 rfl (by constructor<;>(try simp only [List.length_append,lw,namedT_len,numT_len,textT_len])<;>omega) (by constructor<;>(try simp only [List.length_append,lw,namedT_len,numT_len,textT_len])<;>omega) (by constructor<;>(try simp only [List.length_append,lw,namedT_len,numT_len,textT_len])<;>omega)) ?_<;>rintro _ _ _ ⟨rfl,rfl,rfl⟩ -)|(refine AC.call (jn4 rfl (by constructor<;>(try simp only [List.length_append,lw,namedT_len,numT_len,textT_len])<;>omega) (by constructor<;>(try simp only [List.length_append,lw,namedT_len,numT_len,textT_len])<;>omega) (by constructor<;>(try simp only [List.length_append,lw,namedT_len,numT_len,textT_len])<;>omega) (by constructor<;>(try simp only [List.length_append,lw,namedT_len,numT_len,textT_len])<;>omega)) ?_<;>rintro _ _ _ ⟨rfl,rfl,rfl⟩ -)|(refine AC.call (jn5 rfl (by constructor<;>(try simp only [List.length_append,lw,namedT_len,numT_len,textT_len])<;>omega) (by constructor<;>(try simp only [List.length_append,lw,namedT_len,numT_len,textT_len])<;>omega) (by constructor<;>(try simp only [List.length_append,lw,namedT_len,numT_len,textT_len])<;>omega) (by constructor<;>(try simp only [List.length_append,lw,namedT_len,numT_len,textT_len])<;>omega) (by constructor<;>(try simp only [List.length_append,lw,namedT_len,numT_len,textT_len])<;>omega)) ?_<;>rintro _ _ _ ⟨rfl,rfl,rfl⟩ -)|fail)<;>try simp only [go_sem,seval,d2,m2,Pb.St.v_w])
     exact ⟨_,by rw [hR];exact GL.refl _ _⟩
    ·repeat' ((first|(with_reducible first|refine wr ?_|refine cpc ha0 ?_|refine cpc hbx ?_|refine cpc hby ?_)|(refine AC.call (wd1 rfl (by first|assumption|decide)) ?_<;>rintro _ _ _ ⟨rfl,rfl,rfl⟩ -)|(refine AC.call (jn2 rfl (by constructor<;>(try simp only [List.length_append,lw,namedT_len,numT_len,textT_len])<;>omega) (by constructor<;>(try simp only [List.length_append,lw,namedT_len,numT_len,textT_len])<;>omega)) ?_<;>rintro _ _ _ ⟨rfl,rfl,rfl⟩ -)|(refine AC.call (jn3 rfl (by constructor<;>(try simp only [List.length_append,lw,namedT_len,numT_len,textT_len])<;>omega) (by constructor<;>(try simp only [List.length_append,lw,namedT_len,numT_len,textT_len])<;>omega) (by constructor<;>(try simp only [List.length_append,lw,namedT_len,numT_len,textT_len])<;>omega)) ?_<;>rintro _ _ _ ⟨rfl,rfl,rfl⟩ -)|(refine AC.call (jn4 rfl (by constructor<;>(try simp only [List.length_append,lw,namedT_len,numT_len,textT_len])<;>omega) (by constructor<;>(try simp only [List.length_append,lw,namedT_len,numT_len,textT_len])<;>omega) (by constructor<;>(try simp only [List.length_append,lw,namedT_len,numT_len,textT_len])<;>omega) (by constructor<;>(try simp only [List.length_append,lw,namedT_len,numT_len,textT_len])<;>omega)) ?_<;>rintro _ _ _ ⟨rfl,rfl,rfl⟩ -)|(refine AC.call (jn5 rfl (by constructor<;>(try simp only [List.length_append,lw,namedT_len,numT_len,textT_len])<;>omega) (by constructor<;>(try simp only [List.length_append,lw,namedT_len,numT_len,textT_len])<;>omega) (by constructor<;>(try simp only [List.length_append,lw,namedT_len,numT_len,textT_len])<;>omega) (by constructor<;>(try simp only [List.length_append,lw,namedT_len,numT_len,textT_len])<;>omega) (by constructor<;>(try simp only [List.length_append,lw,namedT_len,numT_len,textT_len])<;>omega)) ?_<;>rintro _ _ _ ⟨rfl,rfl,rfl⟩ -)|fail)<;>try simp only [go_sem,seval,d2,d3,m2,Pb.St.v_w])
     exact ⟨_,by rw [hR];exact GL.refl _ _⟩
  | q :: q2 :: l =>
   dsimp only at hR
   obtain ⟨A,hA⟩:∃ A,A=(q :: q2 :: l).map Pb.St.v:=⟨_,rfl⟩
   have n1:((A.length:Int) == 1)=false:=by rw [hA];simp;omega
   have n2:decide ((A.length:Int)>0)=true:=by rw [hA];simp;omega
   have hex:stsV (q :: q2 :: l)=.lst A:=by rw [hA]
   rw [hex] at hby ⊢
   rcases dd with d2|⟨d2,d3⟩
   ·repeat' ((first|(with_reducible first|refine wr ?_|refine cpc ha0 ?_|refine cpc hbx ?_|refine cpc hby ?_)|(refine AC.call (wd1 rfl (by first|assumption|decide)) ?_<;>rintro _ _ _ ⟨rfl,rfl,rfl⟩ -)|(refine AC.call (jn2 rfl (by constructor<;>(try simp only [List.length_append,lw,namedT_len,numT_len,textT_len])<;>omega) (by constructor<;>(try simp only [List.length_append,lw,namedT_len,numT_len,textT_len])<;>omega)) ?_<;>rintro _ _ _ ⟨rfl,rfl,rfl⟩ -)|(refine AC.call (jn3 rfl (by constructor<;>(try simp only [List.length_append,lw,namedT_len,numT_len,textT_len])<;>omega) (by constructor<;>(try simp only [List.length_append,lw,namedT_len,numT_len,textT_len])<;>omega) (by constructor<;>(try simp only [List.length_append,lw,namedT_len,numT_len,textT_len])<;>omega)) ?_<;>rintro _ _ _ ⟨rfl,rfl,rfl⟩ -)|(refine AC.call (jn4 rfl (by constructor<;>(try simp only [List.length_append,lw,namedT_len,numT_len,textT_len])<;>omega) (by constructor<;>(try simp only [List.length_append,lw,namedT_len,numT_len,textT_len])<;>omega) (by constructor<;>(try simp only [List.length_append,lw,namedT_len,numT_len,textT_len])<;>omega) (by constructor<;>(try simp only [List.length_append,lw,namedT_len,numT_len,textT_len])<;>omega)) ?_<;>rintro _ _ _ ⟨rfl,rfl,rfl⟩ -)|(refine AC.call (jn5 rfl (by constructor<;>(try simp only [List.length_append,lw,namedT_len,numT_len,textT_len])<;>omega) (by constructor<;>(try simp only [List.length_append,lw,namedT_len,numT_len,textT_len])<;>omega) (by constructor<;>(try simp only [List.length_append,lw,namedT_len,numT_len,textT_len])<;>omega) (by constructor<;>(try simp only [List.length_append,lw,namedT_len,numT_len,textT_len])<;>omega) (by constructor<;>(try simp only [List.length_append,lw,namedT_len,numT_len,textT_len])<;>omega)) ?_<;>rintro _ _ _ ⟨rfl,rfl,rfl⟩ -)|fail)<;>try simp only [go_sem,seval,d2,n1,n2])
    exact ⟨_,by rw [hR];exact GL.refl _ _⟩
   ·repeat' ((first|(with_reducible first|refine wr ?_|refine cpc ha0 ?_|refine cpc hbx ?_|refine cpc hby ?_)|(refine AC.call (wd1 rfl (by first|assumption|decide)) ?_<;>rintro _ _ _ ⟨rfl,rfl,rfl⟩ -)|(refine AC.call (jn2 rfl (by constructor<;>(try simp only [List.length_append,lw,namedT_len,numT_len,textT_len])<;>omega) (by constructor<;>(try simp only [List.length_append,lw,namedT_len,numT_len,textT_len])<;>omega)) ?_<;>rintro _ _ _ ⟨rfl,rfl,rfl⟩ -)|(refine AC.call (jn3 rfl (by constructor<;>(try simp only [List.length_append,lw,namedT_len,numT_len,textT_len])<;>omega) (by constructor<;>(try simp only [List.length_append,lw,namedT_len,numT_len,textT_len])<;>omega) (by constructor<;>(try simp only [List.length_append,lw,namedT_len,numT_len,textT_len])<;>omega)) ?_<;>rintro _ _ _ ⟨rfl,rfl,rfl⟩ -)|(refine AC.call (jn4 rfl (by constructor<;>(try simp only [List.length_append,lw,namedT_len,numT_len,textT_len])<;>omega) (by constructor<;>(try simp only [List.length_append,lw,namedT_len,numT_len,textT_len])<;>omega) (by constructor<;>(try simp only [List.length_append,lw,namedT_len,numT_len,textT_len])<;>omega) (by constructor<;>(try simp only [List.length_append,lw,namedT_len,numT_len,textT_len])<;>omega)) ?_<;>rintro _ _ _ ⟨rfl,rfl,rfl⟩ -)|(refine AC.call (jn5 rfl (by constructor<;>(try simp only [List.length_append,lw,namedT_len,numT_len,textT_len])<;>omega) (by constructor<;>(try simp only [List.length_append,lw,namedT_len,numT_len,textT_len])<;>omega) (by constructor<;>(try simp only [List.length_append,lw,namedT_len,numT_len,textT_len])<;>omega) (by constructor<;>(try simp only [List.length_append,lw,namedT_len,numT_len,textT_len])<;>omega) (by constructor<;>(try simp only [List.length_append,lw,namedT_len,numT_len,textT_len])<;>omega)) ?_<;>rintro _ _ _ ⟨rfl,rfl,rfl⟩ -)|fail)<;>try simp only [go_sem,seval,d2,d3,n1,n2])
    exact ⟨_,by rw [hR];exact GL.refl _ _⟩
 rw [if_neg h2] at hR
 have d2:=dk 2 (fun h=>h2 (.inl h))
 have d3:=dk 3 (fun h=>h2 (.inr h))
 by_cases h4:k=4
 ·subst h4
  rw [if_pos rfl] at hR
  repeat' ((first|(with_reducible first|refine wr ?_|refine cpc ha0 ?_)|(refine AC.call (wd1 rfl (by first|assumption|decide)) ?_<;>rintro _ _ _ ⟨rfl,rfl,rfl⟩ -)|(refine AC.call (jn2 rfl (by constructor<;>(try simp only [List.length_append,lw,namedT_len,numT_len,textT_len])<;>omega) (by constructor<;>(try simp only [List.length_append,lw,namedT_len,numT_len,textT_len])<;>omega)) ?_<;>rintro _ _ _ ⟨rfl,rfl,rfl⟩ -)|(refine AC.call (jn3 rfl (by constructor<;>(try simp only [List.length_append,lw,namedT_len,numT_len,textT_len])<;>omega) (by constructor<;>(try simp only [List.length_append,lw,namedT_len,numT_len,textT_len])<;>omega) (by constructor<;>(try simp only [List.length_append,lw,namedT_len,numT_len,textT_len])<;>omega)) ?_<;>rintro _ _ _ ⟨rfl,rfl,rfl⟩ -)|(refine AC.call (jn4 rfl (by constructor<;>(try simp only [List.length_append,lw,namedT_len,numT_len,textT_len])<;>omega) (by constructor<;>(try simp only [List.length_append,lw,namedT_len,numT_len,textT_len])<;>omega) (by constructor<;>(try simp only [List.length_append,lw,namedT_len,numT_len,textT_len])<;>omega) (by constructor<;>(try simp only [List.length_append,lw,namedT_len,numT_len,textT_len])<;>omega)) ?_<;>rintro _ _ _ ⟨rfl,rfl,rfl⟩ -)|(refine AC.call (jn5 rfl (by constructor<;>(try simp only [List.length_append,lw,namedT_len,numT_len,textT_len])<;>omega) (by constructor<;>(try simp only [List.length_append,lw,namedT_len,numT_len,textT_len])<;>omega) (by constructor<;>(try simp only [List.length_append,lw,namedT_len,numT_len,textT_len])<;>omega) (by constructor<;>(try simp only [List.length_append,lw,namedT_len,numT_len,textT_len])<;>omega) (by constructor<;>(try simp only [List.length_append,lw,namedT_len,numT_len,textT_len])<;>omega)) ?_<;>rintro _ _ _ ⟨rfl,rfl,rfl⟩ -)|fail)<;>try simp only [go_sem,seval,d2,d3])
  exact ⟨_,by rw [hR];exact GL.refl _ _⟩
 rw [if_neg h4] at hR
 have d4:=dk 4 h4
 by_cases h18:k=18
 ·subst h18
  rw [if_pos rfl] at hR
  repeat' ((first|(with_reducible first|refine wr ?_|refine cpc ha0 ?_|refine cpc hte ?_)|(refine AC.call (wd1 rfl (by first|assumption|decide)) ?_<;>rintro _ _ _ ⟨rfl,rfl,rfl⟩ -)|(refine AC.call (jn2 rfl (by constructor<;>(try simp only [List.length_append,lw,namedT_len,numT_len,textT_len])<;>omega) (by constructor<;>(try simp only [List.length_append,lw,namedT_len,numT_len,textT_len])<;>omega)) ?_<;>rintro _ _ _ ⟨rfl,rfl,rfl⟩ -)|(refine AC.call (jn3 rfl (by constructor<;>(try simp only [List.length_append,lw,namedT_len,numT_len,textT_len])<;>omega) (by constructor<;>(try simp only [List.length_append,lw,namedT_len,numT_len,textT_len])<;>omega) (by constructor<;>(try simp only [List.length_append,lw,namedT_len,numT_len,textT_len])<;>omega)) ?_<;>rintro _ _ _ ⟨rfl,rfl,rfl⟩ -)|(refine AC.call (jn4 rfl (by constructor<;>(try simp only [List.length_append,lw,namedT_len,numT_len,textT_len])<;>omega) (by constructor<;>(try simp only [List.length_append,lw,namedT_len,numT_len,textT_len])<;>omega) (by constructor<;>(try simp only [List.length_append,lw,namedT_len,numT_len,textT_len])<;>omega) (by constructor<;>(try simp only [List.length_append,lw,namedT_len,numT_len,textT_len])<;>omega)) ?_<;>rintro _ _ _ ⟨rfl,rfl,rfl⟩ -)|(refine AC.call (jn5 rfl (by constructor<;>(try simp only [List.length_append,lw,namedT_len,numT_len,textT_len])<;>omega) (by constructor<;>(try simp only [List.length_append,lw,namedT_len,numT_len,textT_len])<;>omega) (by constructor<;>(try simp only [List.length_append,lw,namedT_len,numT_len,textT_len])<;>omega) (by constructor<;>(try simp only [List.length_append,lw,namedT_len,numT_len,textT_len])<;>omega) (by constructor<;>(try simp only [List.length_append,lw,namedT_len,numT_len,textT_len])<;>omega)) ?_<;>rintro _ _ _ ⟨rfl,rfl,rfl⟩ -)|fail)<;>try simp only [go_sem,seval,d2,d3,d4])
  exact ⟨_,by rw [hR];exact GL.refl _ _⟩
 rw [if_neg h18] at hR
 have d18:=dk 18 h18
 by_cases h8:k=8\/k=10
 ·rw [if_pos h8] at hR
  rcases h8 with rfl|rfl
  ·repeat' ((first|(with_reducible first|refine wr ?_|refine cpc ha0 ?_|refine cpc hna ?_)|(refine AC.call (wd1 rfl (by first|assumption|decide)) ?_<;>rintro _ _ _ ⟨rfl,rfl,rfl⟩ -)|(refine AC.call (jn2 rfl (by constructor<;>(try simp only [List.length_append,lw,namedT_len,numT_len,textT_len])<;>omega) (by constructor<;>(try simp only [List.length_append,lw,namedT_len,numT_len,textT_len])<;>omega)) ?_<;>rintro _ _ _ ⟨rfl,rfl,rfl⟩ -)|(refine AC.call (jn3 rfl (by constructor<;>(try simp only [List.length_append,lw,namedT_len,numT_len,textT_len])<;>omega) (by constructor<;>(try simp only [List.length_append,lw,namedT_len,numT_len,textT_len])<;>omega) (by constructor<;>(try simp only [List.length_append,lw,namedT_len,numT_len,textT_len])<;>omega)) ?_<;>rintro _ _ _ ⟨rfl,rfl,rfl⟩ -)|(refine AC.call (jn4 rfl (by constructor<;>(try simp only [List.length_append,lw,namedT_len,numT_len,textT_len])<;>omega) (by constructor<;>(try simp only [List.length_append,lw,namedT_len,numT_len,textT_len])<;>omega) (by constructor<;>(try simp only [List.length_append,lw,namedT_len,numT_len,textT_len])<;>omega) (by constructor<;>(try simp only [List.length_append,lw,namedT_len,numT_len,textT_len])<;>omega)) ?_<;>rintro _ _ _ ⟨rfl,rfl,rfl⟩ -)|(refine AC.call (jn5 rfl (by constructor<;>(try simp only [List.length_append,lw,namedT_len,numT_len,textT_len])<;>omega) (by constructor<;>(try simp only [List.length_append,lw,namedT_len,numT_len,textT_len])<;>omega) (by constructor<;>(try simp only [List.length_append,lw,namedT_len,numT_len,textT_len])<;>omega) (by constructor<;>(try simp only [List.length_append,lw,namedT_len,numT_len,textT_len])<;>omega) (by constructor<;>(try simp only [List.length_append,lw,namedT_len,numT_len,textT_len])<;>omega)) ?_<;>rintro _ _ _ ⟨rfl,rfl,rfl⟩ -)|fail)<;>try simp only [go_sem,seval,d2,d3,d4,d18])
   exact ⟨_,by rw [hR];exact GL.refl _ _⟩
  ·repeat' ((first|(with_reducible first|refine wr ?_|refine cpc ha0 ?_|refine cpc hna ?_)|(refine AC.call (wd1 rfl (by first|assumption|decide)) ?_<;>rintro _ _ _ ⟨rfl,rfl,rfl⟩ -)|(refine AC.call (jn2 rfl (by constructor<;>(try simp only [List.length_append,lw,namedT_len,numT_len,textT_len])<;>omega) (by constructor<;>(try simp only [List.length_append,lw,namedT_len,numT_len,textT_len])<;>omega)) ?_<;>rintro _ _ _ ⟨rfl,rfl,rfl⟩ -)|(refine AC.call (jn3 rfl (by constructor<;>(try simp only [List.length_append,lw,namedT_len,numT_len,textT_len])<;>omega) (by constructor<;>(try simp only [List.length_append,lw,namedT_len,numT_len,textT_len])<;>omega) (by constructor<;>(try simp only [List.length_append,lw,namedT_len,numT_len,textT_len])<;>omega)) ?_<;>rintro _ _ _ ⟨rfl,rfl,rfl⟩ -)|(refine AC.call (jn4 rfl (by constructor<;>(try simp only [List.length_append,lw,namedT_len,numT_len,textT_len])<;>omega) (by constructor<;>(try simp only [List.length_append,lw,namedT_len,numT_len,textT_len])<;>omega) (by constructor<;>(try simp only [List.length_append,lw,namedT_len,numT_len,textT_len])<;>omega) (by constructor<;>(try simp only [List.length_append,lw,namedT_len,numT_len,textT_len])<;>omega)) ?_<;>rintro _ _ _ ⟨rfl,rfl,rfl⟩ -)|(refine AC.call (jn5 rfl (by constructor<;>(try simp only [List.length_append,lw,namedT_len,numT_len,textT_len])<;>omega) (by constructor<;>(try simp only [List.length_append,lw,namedT_len,numT_len,textT_len])<;>omega) (by constructor<;>(try simp only [List.length_append,lw,namedT_len,numT_len,textT_len])<;>omega) (by constructor<;>(try simp only [List.length_append,lw,namedT_len,numT_len,textT_len])<;>omega) (by constructor<;>(try simp only [List.length_append,lw,namedT_len,numT_len,textT_len])<;>omega)) ?_<;>rintro _ _ _ ⟨rfl,rfl,rfl⟩ -)|fail)<;>try simp only [go_sem,seval,d2,d3,d4,d18])
   exact ⟨_,by rw [hR];exact GL.refl _ _⟩
 rw [if_neg h8] at hR
 have d8:=dk 8 (fun h=>h8 (.inl h))
 have d10:=dk 10 (fun h=>h8 (.inr h))
 by_cases h9:k=9
 ·subst h9
  rw [if_pos rfl] at hR
  repeat' ((first|(with_reducible first|refine wr ?_|refine cpc ha0 ?_|refine cpc ha1 ?_|refine cpc hna ?_)|(refine AC.call (wd1 rfl (by first|assumption|decide)) ?_<;>rintro _ _ _ ⟨rfl,rfl,rfl⟩ -)|(refine AC.call (jn2 rfl (by constructor<;>(try simp only [List.length_append,lw,namedT_len,numT_len,textT_len])<;>omega) (by constructor<;>(try simp only [List.length_append,lw,namedT_len,numT_len,textT_len])<;>omega)) ?_<;>rintro _ _ _ ⟨rfl,rfl,rfl⟩ -)|(refine AC.call (jn3 rfl (by constructor<;>(try simp only [List.length_append,lw,namedT_len,numT_len,textT_len])<;>omega) (by constructor<;>(try simp only [List.length_append,lw,namedT_len,numT_len,textT_len])<;>omega) (by constructor<;>(try simp only [List.length_append,lw,namedT_len,numT_len,textT_len])<;>omega)) ?_<;>rintro _ _ _ ⟨rfl,rfl,rfl⟩ -)|(refine AC.call (jn4 rfl (by constructor<;>(try simp only [List.length_append,lw,namedT_len,numT_len,textT_len])<;>omega) (by constructor<;>(try simp only [List.length_append,lw,namedT_len,numT_len,textT_len])<;>omega) (by constructor<;>(try simp only [List.length_append,lw,namedT_len,numT_len,textT_len])<;>omega) (by constructor<;>(try simp only [List.length_append,lw,namedT_len,numT_len,textT_len])<;>omega)) ?_<;>rintro _ _ _ ⟨rfl,rfl,rfl⟩ -)|(refine AC.call (jn5 rfl (by constructor<;>(try simp only [List.length_append,lw,namedT_len,numT_len,textT_len])<;>omega) (by constructor<;>(try simp only [List.length_append,lw,namedT_len,numT_len,textT_len])<;>omega) (by constructor<;>(try simp only [List.length_append,lw,namedT_len,numT_len,textT_len])<;>omega) (by constructor<;>(try simp only [List.length_append,lw,namedT_len,numT_len,textT_len])<;>omega) (by constructor<;>(try simp only [List.length_append,lw,namedT_len,numT_len,textT_len])<;>omega)) ?_<;>rintro _ _ _ ⟨rfl,rfl,rfl⟩ -)|fail)<;>try simp only [go_sem,seval,d2,d3,d4,d18,d8,d10])
  exact ⟨_,by rw [hR];exact GL.refl _ _⟩
 rw [if_neg h9] at hR
 have d9:=dk 9 h9
 by_cases h19:k=19
 ·subst h19
  rw [if_pos rfl] at hR
  repeat' ((first|(with_reducible first|refine wr ?_)|(refine AC.call (wd1 rfl (by first|assumption|decide)) ?_<;>rintro _ _ _ ⟨rfl,rfl,rfl⟩ -)|(refine AC.call (jn2 rfl (by constructor<;>(try simp only [List.length_append,lw,namedT_len,numT_len,textT_len])<;>omega) (by constructor<;>(try simp only [List.length_append,lw,namedT_len,numT_len,textT_len])<;>omega)) ?_<;>rintro _ _ _ ⟨rfl,rfl,rfl⟩ -)|(refine AC.call (jn3 rfl (by constructor<;>(try simp only [List.length_append,lw,namedT_len,numT_len,textT_len])<;>omega) (by constructor<;>(try simp only [List.length_append,lw,namedT_len,numT_len,textT_len])<;>omega) (by constructor<;>(try simp only [List.length_append,lw,namedT_len,numT_len,textT_len])<;>omega)) ?_<;>rintro _ _ _ ⟨rfl,rfl,rfl⟩ -)|(refine AC.call (jn4 rfl (by constructor<;>(try simp only [List.length_append,lw,namedT_len,numT_len,textT_len])<;>omega) (by constructor<;>(try simp only [List.length_append,lw,namedT_len,numT_len,textT_len])<;>omega) (by constructor<;>(try simp only [List.length_append,lw,namedT_len,numT_len,textT_len])<;>omega) (by constructor<;>(try simp only [List.length_append,lw,namedT_len,numT_len,textT_len])<;>omega)) ?_<;>rintro _ _ _ ⟨rfl,rfl,rfl⟩ -)|(refine AC.call (jn5 rfl (by constructor<;>(try simp only [List.length_append,lw,namedT_len,numT_len,textT_len])<;>omega) (by constructor<;>(try simp only [List.length_append,lw,namedT_len,numT_len,textT_len])<;>omega) (by constructor<;>(try simp only [List.length_append,lw,namedT_len,numT_len,textT_len])<;>omega) (by constructor<;>(try simp only [List.length_append,lw,namedT_len,numT_len,textT_len])<;>omega) (by constructor<;>(try simp only [List.length_append,lw,namedT_len,numT_len,textT_len])<;>omega)) ?_<;>rintro _ _ _ ⟨rfl,rfl,rfl⟩ -)|fail)<;>try simp only [go_sem,seval,d2,d3,d4,d18,d8,d10,d9])
  exact ⟨_,by rw [hR];exact GL.refl _ _⟩
 rw [if_neg h19] at hR
 have d19:=dk 19 h19
 repeat' ((first|(with_reducible first|refine wr ?_|refine cpc hna ?_)|(refine AC.call (wd1 rfl (by first|assumption|decide)) ?_<;>rintro _ _ _ ⟨rfl,rfl,rfl⟩ -)|(refine AC.call (jn2 rfl (by constructor<;>(try simp only [List.length_append,lw,namedT_len,numT_len,textT_len])<;>omega) (by constructor<;>(try simp only [List.length_append,lw,namedT_len,numT_len,textT_len])<;>omega)) ?_<;>rintro _ _ _ ⟨rfl,rfl,rfl⟩ -)|(refine AC.call (jn3 rfl (by constructor<;>(try simp only [List.length_append,lw,namedT_len,numT_len,textT_len])<;>omega) (by constructor<;>(try simp only [List.length_append,lw,namedT_len,numT_len,textT_len])<;>omega) (by constructor<;>(try simp only [List.length_append,lw,namedT_len,numT_len,textT_len])<;>omega)) ?_<;>rintro _ _ _ ⟨rfl,rfl,rfl⟩ -)|(refine AC.call (jn4 rfl (by constructor<;>(try simp only [List.length_append,lw,namedT_len,numT_len,textT_len])<;>omega) (by constructor<;>(try simp only [List.length_append,lw,namedT_len,numT_len,textT_len])<;>omega) (by constructor<;>(try simp only [List.length_append,lw,namedT_len,numT_len,textT_len])<;>omega) (by constructor<;>(try simp only [List.length_append,lw,namedT_len,numT_len,textT_len])<;>omega)) ?_<;>rintro _ _ _ ⟨rfl,rfl,rfl⟩ -)|(refine AC.call (jn5 rfl (by constructor<;>(try simp only [List.length_append,lw,namedT_len,numT_len,textT_len])<;>omega) (by constructor<;>(try simp only [List.length_append,lw,namedT_len,numT_len,textT_len])<;>omega) (by constructor<;>(try simp only [List.length_append,lw,namedT_len,numT_len,textT_len])<;>omega) (by constructor<;>(try simp only [List.length_append,lw,namedT_len,numT_len,textT_len])<;>omega) (by constructor<;>(try simp only [List.length_append,lw,namedT_len,numT_len,textT_len])<;>omega)) ?_<;>rintro _ _ _ ⟨rfl,rfl,rfl⟩ -)|fail)<;>try simp only [go_sem,seval,d2,d3,d4,d18,d8,d10,d9,d19])
 exact ⟨_,by rw [hR];exact GL.refl _ _⟩
theorem c_wordsO (x:List UInt8) (hx:x.length<=1000000000) (H:Hp) (cc:Nat):AC Tryz.prog 132 [strsV [x]] H cc (fun v H' c' => ∃ id,cc<=id/\id<c'/\v=.slc id 0 1/\H'=H.upd id ⟨4,true,(wordT x).v.cells⟩):=by
 refine AC.body mixedU isU132 (Nat.le_of_ble_eq_true rfl) fun hfr=>?_
 show IW Tryz.prog 34 u132_1 ⟨argT _,_,_⟩ (rt [.tmp 2] _)
 have h1:=c_IsWordR x
 have h2:=c_IsNameR x (by omega)
 repeat' ((with_reducible first|refine wr ?_|fail)<;>try simp only [go_sem,seval])
 refine i_loop (fun q:Option Nat=>[(0,strsV [x]),(3,todoV q 1),(4,I64 (if q=none then 0 else 1))]) (fun q=>optH H q ⟨4,true,(wordT x).v.cells⟩)
  (fun q c=>cc<=c/\(∀ i,q=some i->cc<=i/\i<c)) (fun q=>if q=none then 1 else 0) none
  (by simp [tmLe,tm,Tm.upd,todoV]) (Sub.refl _) ⟨Nat.le_refl _,(fun i hi=>by cases hi)⟩ ?_
 rintro o c ⟨hc,ho⟩
 cases o with
 | none =>
  have hd:decide ((0:Int)<1)=true:=by decide
  have hw:IntKind.i64.wrap (0+1)=1:=by decide
  have hw':IntKind.i64.wrap 1=1:=by decide
  have hr0:∀ i:Nat,H (c+i)=none:=fun i=>hfr _ (by omega)
  have ne0:=nes2 c (c+1) (by omega)
  cases hw1:isWordM x with
  | true =>
   repeat' ((with_reducible first|refine wr ?_|refine cpc h1 ?_|refine cpc h2 ?_|fail)<;>try simp only [go_sem,seval,hw1,ne0,h_same,h_upd2,hw,hw'])
   refine k_eval (r_appn' (by decide) (by decide) (by decide)) ?_
   simp only [go_sem,seval,ne0]
   repeat' ((with_reducible first|refine wr ?_|fail)<;>try simp only [go_sem,seval,hw,hw',ne0])
   refine ⟨some (c+1+1),by simp [tmLe,tm,Tm.upd,todoV,hw,hw'],?_,inv ⟨by omega,(fun i hi=>by cases hi;omega)⟩,by simp⟩
   intro j b hj
   simp only [optH] at hj
   by_cases e1:j=c+1+1
   ·subst e1
    rw [h_same] at hj ⊢
    rw [<- hj]
    unfold wordT
    simp only [hw1,if_true,if_false,Bool.false_eq_true]
   ·rw [h_ne e1] at hj ⊢
    have:j<cc:=Classical.byContradiction fun h=>by rw [hfr j (by omega)] at hj;cases hj
    rw [h_ne (by omega),h_ne (by omega)]
    exact hj
  | false =>
   cases hn1:isNameM x with
   | true =>
    repeat' ((with_reducible first|refine wr ?_|refine cpc h1 ?_|refine cpc h2 ?_|fail)<;>try simp only [go_sem,seval,hw1,hn1,ne0,h_same,h_upd2,hw,hw'])
    refine k_eval (r_appn' (by decide) (by decide) (by decide)) ?_
    simp only [go_sem,seval,ne0]
    repeat' ((with_reducible first|refine wr ?_|fail)<;>try simp only [go_sem,seval,hw,hw',ne0])
    refine ⟨some (c+1+1),by simp [tmLe,tm,Tm.upd,todoV,hw,hw'],?_,inv ⟨by omega,(fun i hi=>by cases hi;omega)⟩,by simp⟩
    intro j b hj
    simp only [optH] at hj
    by_cases e1:j=c+1+1
    ·subst e1
     rw [h_same] at hj ⊢
     rw [<- hj]
     unfold wordT
     simp only [hw1,hn1,if_true,if_false,Bool.false_eq_true]
    ·rw [h_ne e1] at hj ⊢
     have:j<cc:=Classical.byContradiction fun h=>by rw [hfr j (by omega)] at hj;cases hj
     rw [h_ne (by omega),h_ne (by omega)]
     exact hj
   | false =>
    repeat' ((with_reducible first|refine wr ?_|refine cpc h1 ?_|refine cpc h2 ?_|fail)<;>try simp only [go_sem,seval,hw1,hn1,ne0,h_same,h_upd2,hw,hw'])
    refine k_eval (r_appn' (by decide) (by decide) (by decide)) ?_
    simp only [go_sem,seval,ne0]
    repeat' ((with_reducible first|refine wr ?_|fail)<;>try simp only [go_sem,seval,hw,hw',ne0])
    refine ⟨some (c+1+1),by simp [tmLe,tm,Tm.upd,todoV,hw,hw'],?_,inv ⟨by omega,(fun i hi=>by cases hi;omega)⟩,by simp⟩
    intro j b hj
    simp only [optH] at hj
    by_cases e1:j=c+1+1
    ·subst e1
     rw [h_same] at hj ⊢
     rw [<- hj]
     unfold wordT
     simp only [hw1,hn1,if_true,if_false,Bool.false_eq_true]
    ·rw [h_ne e1] at hj ⊢
     have:j<cc:=Classical.byContradiction fun h=>by rw [hfr j (by omega)] at hj;cases hj
     rw [h_ne (by omega),h_ne (by omega)]
     exact hj
 | some i =>
  have hd:decide ((1:Int)<1)=false:=by decide
  repeat' ((with_reducible first|refine wr ?_|fail)<;>try simp only [go_sem,seval,hd])
  exact ⟨_,_,GL.refl _ _,i,(ho i rfl).1,(ho i rfl).2,rfl,rfl⟩
theorem wd1O {x:List UInt8} {id cc:Nat} {H:Hp} (hb:H id=some ⟨1,true,[.str x]⟩) (hx:x.length<=1000000000) :
  AC Tryz.prog 132 [.slc id 0 1] H cc (fun v H' c' => ∃ i,cc<=i/\i<c'/\v=.slc i 0 1/\H'=(delO H (some id)).upd i ⟨4,true,(wordT x).v.cells⟩) :=
 AC.ghost (GL.frzS (id:=id) hb rfl (fun j=>by
  by_cases e:j=id
  ·subst e;exact .inl (by rw [del_at,if_pos rfl])
  ·exact .inr ⟨e,by rw [del_at,if_neg e]⟩) (.cons _ _ _ _ (fz_slc (xs:=[.str x]) rfl (str_unit [x]) ⟨[],rfl⟩) .nil)) (c_wordsO x hx _ cc)
theorem stTs_map:∀ l:List Pb.St,stTs l=(l.map stT).flatten
 | []=>rfl
 | e :: l=>by rw [stTs,stTs_map l];rfl
theorem c_blockT (l:List Pb.St) (hl:l.length<=10000000) (hs:∀ x∈l,PC Tryz.prog 153 [x.v] (toksV (stT x))) (hx:∀ x∈l,1<=(stT x).length/\(stT x).length<=100000000) (hT:(blT l).length<=100000000):PC Tryz.prog 135 [stsV l] (toksV (blT l)):=by
 refine PC.of mixedU isU135 (Nat.le_of_ble_eq_true rfl) (by simp [DV.nlL,DV.nl,nlL_sts]) (nlL_toks _) ?_
 obtain ⟨R,hR⟩:∃ R,R=toksV (blT l):=⟨_,rfl⟩
 rw [<- hR]
 unfold blT at hR
 rw [stTs_map] at hR
 have hT':(l.map stT).flatten.length<=100000000:=by
  unfold blT at hT
  rw [stTs_map] at hT
  simp only [List.length_append,List.length_singleton] at hT
  omega
 show IW Tryz.prog 24 u135_1 ⟨argT _,_,_⟩ (rt [.tmp 2] _)
 repeat' ((with_reducible first|refine wr ?_|fail)<;>try simp only [go_sem,seval])
 refine AC.call (wd1O rfl (by decide)) ?_
 rintro v H' c1 ⟨i,hi1,hi2,rfl,rfl⟩ -
 simp only [go_sem,seval]
 repeat' ((with_reducible first|refine wr ?_|fail)<;>try simp only [go_sem,seval])
 obtain ⟨F,hF⟩:∃ F:Nat->List Tok, ∀ k,F k=wT [123]++((l.take k).map stT).flatten:=⟨_,fun _=>rfl⟩
 have hF0:F 0=wT [123]:=by rw [hF];simp
 refine i_loop (fun q:Nat × Nat=>[(0,stsV l),(3,.slc q.2 0 (F q.1).length),(4,I64 q.1)]) (fun q=>Sym.nil.upd q.2 ⟨4,true,cellsL ((F q.1).map Tok.v)⟩)
  (fun q c=>q.1<=l.length/\q.2<c) (fun q=>l.length-q.1) (0,i)
  (by simp [tmLe,tm,Tm.upd,hF0,lw]) (by dsimp only;rw [hF0];exact Sub.refl _) ⟨Nat.zero_le _,hi2⟩ ?_
 clear hi1 hi2
 rintro ⟨k,i⟩ c ⟨hk,hi⟩
 dsimp only at hk hi ⊢
 by_cases hlt:k<l.length
 ·have hd:decide ((k:Int)<(l.length:Int))=true:=by simpa using hlt
  have hg:=List.getElem?_eq_getElem hlt
  have hsx:=hs _ (List.getElem_mem hlt)
  obtain ⟨hx1,hx2⟩:=hx _ (List.getElem_mem hlt)
  have hw:=w64 (n:=(k:Int)+1) (by omega) (by omega)
  have e0:F (k+1)=F k++stT l[k]:=by rw [hF,hF,List.take_add_one,hg,List.map_append,List.flatten_append];simp
  have hle:((l.take k).map stT).flatten.length<=100000000:=by
   have h1:(l.map stT).flatten=((l.take k).map stT).flatten++((l.drop k).map stT).flatten:=by rw [<- List.flatten_append, <- List.map_append,List.take_append_drop]
   rw [h1,List.length_append] at hT'
   omega
  have hle2:(F k).length<=200000000:=by rw [hF,List.length_append,lw];omega
  rw [Pb.St.v_w] at hsx
  generalize l[k]=x at hg hx1 hx2 e0 hsx
  generalize F k=y at hle2 e0 ⊢
  have hln:(cellsL (y.map Tok.v)).length=y.length * 4:=(cellsL_length (u:=4) (tok_unit _)).trans (by simp)
  have hun:unit 4 ((stT x).map Tok.v)=true:=by unfold unit;rw [List.all_eq_true];intro d hd;simp [tok_unit (stT x) d hd]
  repeat' ((with_reducible first|refine wr ?_|refine cpc hsx ?_|fail)<;>try simp only [go_sem,seval,hd,hg,hw,Pb.St.v_w,r_srcl hun])
  refine k_eval (b_appx hln (by omega) (by omega)) ?_
  simp only [go_sem,seval,hw]
  repeat' ((with_reducible first|refine wr ?_|fail)<;>try simp only [go_sem,seval,hw])
  refine ⟨(k+1,c),by simp [tmLe,tm,Tm.upd,e0],?_,inv ⟨by omega,by simp only;omega⟩,by simp only;omega⟩
  dsimp only
  rw [e0,List.map_append,cellsL_append]
  intro j b hj
  by_cases e1:j=c
  ·subst e1;rw [h_same] at hj ⊢;exact hj
  ·rw [h_ne e1] at hj;cases hj
 ·have hd:decide ((k:Int)<(l.length:Int))=false:=by simpa using hlt
  rw [hF,List.take_of_length_le (by omega)]
  have hun:unit 4 ((wT [125]).map Tok.v)=true:=by unfold unit;rw [List.all_eq_true];intro d hd;simp [tok_unit (wT [125]) d hd]
  have hle2:(wT [123]++(l.map stT).flatten).length<=200000000:=by rw [List.length_append,lw];omega
  have hR':R=toksV ((wT [123]++(l.map stT).flatten)++wT [125]):=hR
  generalize wT [123]++(l.map stT).flatten=y at hle2 hR' ⊢
  have hln:(cellsL (y.map Tok.v)).length=y.length * 4:=(cellsL_length (u:=4) (tok_unit _)).trans (by simp)
  have hnic:¬ i=c:=by omega
  have hlw:=lw [125]
  repeat' ((with_reducible first|refine wr ?_|fail)<;>try simp only [go_sem,seval,hd])
  refine AC.call (wd1 h_same (by decide)) ?_
  rintro v H' c2 ⟨rfl,rfl,rfl⟩ -
  simp only [go_sem,seval,hnic,r_srcl hun]
  repeat' ((with_reducible first|refine wr ?_|fail)<;>try simp only [go_sem,seval,hnic,r_srcl hun])
  refine k_eval (b_appx hln (by omega) (by omega)) ?_
  simp only [go_sem,seval]
  repeat' ((with_reducible first|refine wr ?_|fail)<;>try simp only [go_sem,seval])
  rw [hR']
  exact pc_slc (id:=c+1) h_same rfl (by simp) (tok_unit _) ⟨[],by rw [List.map_append,cellsL_append,List.append_nil]⟩
theorem c_stT:∀ m:Nat,m<=5000000->(∀ x:Pb.St,x.sz<m->PC Tryz.prog 153 [x.v] (toksV (stT x)))/\(∀ l:List Pb.St,Pb.St.szs l<m->PC Tryz.prog 135 [stsV l] (toksV (blT l))):=by
 intro m
 induction m with
 | zero=>exact fun _=>⟨fun x h=>by omega,fun l h=>by omega⟩
 | succ m ih =>
  intro hm
  obtain ⟨i1,i2⟩:=ih (by omega)
  have A:∀ x:Pb.St,x.sz<m+1->PC Tryz.prog 153 [x.v] (toksV (stT x)):=fun x hx =>
   c_stmtT m i1 i2 (fun l hl=>by have:=blT_len l;omega) (fun y hy=>by have:=stT_len y;omega) x (by omega) (by omega)
  refine ⟨A,fun l hl=>?_⟩
  have h1:=Pb.St.szs_len l
  have h2:=blT_len l
  exact c_blockT l (by omega) (fun x hx=>A x (by have:=Pb.St.szs_mem hx;omega)) (fun x hx=>by have:=stT_len x;have:=Pb.St.szs_mem hx;omega) (by omega)
theorem c_blkT (l:List Pb.St) (h:Pb.St.szs l<5000000):PC Tryz.prog 135 [stsV l] (toksV (blT l)):=(c_stT 5000000 (Nat.le_refl _)).2 l h
theorem sub_any {X H1:Hp} {o:Option Nat} {c n0:Nat} {b b3 b3':Blk} (hX:∀ j q,X j=some q->j<c) (ho:∀ i,o=some i->X i=none) (hH:∀ j,j<c->H1 j=optH X o b j) (hn:c<=n0) (hb:b3=b3') :
  Sym.Sub (optH X (some n0) b3) ((delO H1 o).upd n0 b3'):=by
 subst hb
 intro j q hj
 simp only [optH] at hj
 by_cases e:j=n0
 ·subst e;rw [h_same] at hj ⊢;exact hj
 ·rw [h_ne e] at hj ⊢
  have h1:=hX j q hj
  have h2:∀ i,o=some i->¬ j=i:=fun i hi e2=>by rw [e2,ho i hi] at hj;cases hj
  rw [delO_ne h2,hH j h1,optH_ne h2]
  exact hj
theorem del_none {H:Hp} {i:Nat} (h:H i=none):delO H (some i)=H:=by
 funext j;rw [del_at];split
 ·rename_i e;rw [e,h]
 ·rfl
theorem pc_todoX {X:Hp} {o:Option Nat} {xs:List DV} {u n:Nat} (hno:o=none->xs=[]) (hl:xs.length=n) (hu:∀ x∈xs,x.cells.length=u) :
  ∃ H2,GL (optH X o ⟨u,true,cellsL xs⟩) [todoV o n] H2 [.lst xs]:=by
 cases o with
 | none=>rw [hno rfl];exact pc_snil
 | some i=>exact pc_slc (id:=i) h_same rfl hl hu ⟨[],by simp⟩
def wT2 (x y:List UInt8):List Tok:=[wordT x,wordT y]
theorem wd2' {x y:List UInt8} {id cc:Nat} {H:Hp} (hb:H id=some ⟨1,true,[.str x,.str y]⟩) (hx:x.length<=1000000000) (hy:y.length<=1000000000) :
  AC Tryz.prog 132 [.slc id 0 2] H cc (fun v H' c'=>v=toksV (wT2 x y)/\H'=delO H (some id)/\c'=cc):=wd2 hb hx hy
theorem del_ne {X:Hp} {i j:Nat} (h:¬ j=i):(X.del i) j=X j:=by rw [show X.del i=delO X (some i) from rfl,del_at,if_neg h]
theorem tk_unit4 (l:List Tok):unit 4 (l.map Tok.v)=true:=by unfold unit;rw [List.all_eq_true];intro d hd;simp [tok_unit l d hd]
theorem tk_cells (l:List Tok):(cellsL (l.map Tok.v)).length=l.length * 4:=(cellsL_length (u:=4) (tok_unit _)).trans (by simp)
theorem c_declT (d:Dc) (hn:d.name.length<=1000000000):PC Tryz.prog 130 [d.v] (toksV (dcT d)):=by
 refine PC.of mixedU isU130 (Nat.le_of_ble_eq_true rfl) rfl (nlL_toks _) ?_
 obtain ⟨R,hR⟩:∃ R,R=toksV (dcT d):=⟨_,rfl⟩
 rw [<- hR]
 obtain ⟨k,n,v,p⟩:=d
 unfold dcT at hR
 dsimp only at hR hn ⊢
 have hna:=c_named n hn
 have hnu:=c_number31 v
 have hnn:=c_number31 (-v)
 show IW Tryz.prog 65 u130_1 ⟨argT _,_,_⟩ (rt [.tmp 2] _)
 by_cases hbk:k<1\/8<k
 ·rw [if_pos hbk] at hR
  by_cases h2:k<1
  ·have d2:decide (k<1)=true:=by simpa using h2
   repeat' ((with_reducible first|refine wr ?_|fail)<;>try simp only [go_sem,seval,d2])
   rw [hR];exact pc_slc (id:=1) h_same rfl rfl (tok_unit [tok0]) ⟨[],rfl⟩
  ·have d2:decide (k<1)=false:=by simp;omega
   have d3:decide (k>8)=true:=by simp;omega
   repeat' ((with_reducible first|refine wr ?_|fail)<;>try simp only [go_sem,seval,d2,d3])
   rw [hR];exact pc_slc (id:=1) h_same rfl rfl (tok_unit [tok0]) ⟨[],rfl⟩
 rw [if_neg hbk] at hR
 have e2:decide (k<1)=false:=by simp;omega
 have e3:decide (k>8)=false:=by simp;omega
 try dsimp only at hR
 obtain ⟨j,hj⟩:∃ j:Nat,k=1+(j:Int):=⟨(k-1).toNat,by omega⟩
 have hjw:IntKind.i64.wrap (k-1)=(j:Int):=by rw [w64 (by omega) (by omega)];omega
 have hjn:(k-1).toNat=j:=by omega
 rw [hjn] at hR
 have hj8:j<8:=by omega
 have hgj:declsL[j]? = some (declsL.getD j []):=by
  rw [List.getD_eq_getElem?_getD,List.getElem?_eq_getElem (show j<declsL.length from hj8)];rfl
 have hsl:(declsL.getD j []).length<=1000000000:=by
  have:∀ i:Nat,i<8->(declsL.getD i []).length<=1000000000:=by decide
  exact this j hj8
 generalize declsL.getD j []=S at hR hgj hsl
 by_cases h6:6<k
 ·have d6:decide (k>6)=true:=by simpa using h6
  rw [if_pos h6] at hR
  repeat' ((first|(with_reducible first|refine wr ?_|refine cpc c_decls31 ?_|refine cpc hna ?_)|(refine AC.call (wd1 rfl (by first|assumption|decide)) ?_<;>rintro _ _ _ ⟨rfl,rfl,rfl⟩ -)|(refine AC.call (jn2 rfl (by constructor<;>(try simp only [List.length_append,lw,namedT_len,numT_len,textT_len])<;>omega) (by constructor<;>(try simp only [List.length_append,lw,namedT_len,numT_len,textT_len])<;>omega)) ?_<;>rintro _ _ _ ⟨rfl,rfl,rfl⟩ -)|(refine AC.call (jn3 rfl (by constructor<;>(try simp only [List.length_append,lw,namedT_len,numT_len,textT_len])<;>omega) (by constructor<;>(try simp only [List.length_append,lw,namedT_len,numT_len,textT_len])<;>omega) (by constructor<;>(try simp only [List.length_append,lw,namedT_len,numT_len,textT_len])<;>omega)) ?_<;>rintro _ _ _ ⟨rfl,rfl,rfl⟩ -)|fail)<;>try simp only [go_sem,seval,e2,e3,hjw,hgj,d6])
  exact ⟨_,by rw [hR];exact GL.refl _ _⟩
 rw [if_neg h6] at hR
 have d6:decide (k>6)=false:=by simp;omega
 by_cases hm:v<0 /\ -2147483647<=v/\k=6
 ·obtain ⟨m1,m2,hk6⟩:=hm
  have x3:(k == 6)=true:=by simpa using hk6
  have x1:decide (v<0)=true:=by simpa using m1
  have x2:decide (v ≥ -2147483647)=true:=by simpa using m2
  have hng:IntKind.i64.wrap (0-v) = -v:=by rw [w64 (by omega) (by omega)];omega
  rw [if_pos ⟨m1,m2,hk6⟩] at hR
  repeat' ((first|(with_reducible first|refine wr ?_|refine cpc c_decls31 ?_|refine cpc hna ?_|refine cpc hnn ?_)|(refine AC.call (wd1 rfl (by first|assumption|decide)) ?_<;>rintro _ _ _ ⟨rfl,rfl,rfl⟩ -)|(refine AC.call (jn2 rfl (by constructor<;>(try simp only [List.length_append,lw,namedT_len,numT_len,textT_len])<;>omega) (by constructor<;>(try simp only [List.length_append,lw,namedT_len,numT_len,textT_len])<;>omega)) ?_<;>rintro _ _ _ ⟨rfl,rfl,rfl⟩ -)|(refine AC.call (jn3 rfl (by constructor<;>(try simp only [List.length_append,lw,namedT_len,numT_len,textT_len])<;>omega) (by constructor<;>(try simp only [List.length_append,lw,namedT_len,numT_len,textT_len])<;>omega) (by constructor<;>(try simp only [List.length_append,lw,namedT_len,numT_len,textT_len])<;>omega)) ?_<;>rintro _ _ _ ⟨rfl,rfl,rfl⟩ -)|fail)<;>try simp only [go_sem,seval,e2,e3,hjw,hgj,d6,x1,x2,x3,hng])
  exact ⟨_,by rw [hR];exact GL.refl _ _⟩
 rw [if_neg hm] at hR
 by_cases m1:v<0
 ·have x1:decide (v<0)=true:=by simpa using m1
  by_cases m2 : -2147483647<=v
  ·have x2:decide (v ≥ -2147483647)=true:=by simpa using m2
   have x3:(k == 6)=false:=by simp;omega
   repeat' ((first|(with_reducible first|refine wr ?_|refine cpc c_decls31 ?_|refine cpc hna ?_|refine cpc hnu ?_)|(refine AC.call (wd1 rfl (by first|assumption|decide)) ?_<;>rintro _ _ _ ⟨rfl,rfl,rfl⟩ -)|(refine AC.call (jn2 rfl (by constructor<;>(try simp only [List.length_append,lw,namedT_len,numT_len,textT_len])<;>omega) (by constructor<;>(try simp only [List.length_append,lw,namedT_len,numT_len,textT_len])<;>omega)) ?_<;>rintro _ _ _ ⟨rfl,rfl,rfl⟩ -)|(refine AC.call (jn3 rfl (by constructor<;>(try simp only [List.length_append,lw,namedT_len,numT_len,textT_len])<;>omega) (by constructor<;>(try simp only [List.length_append,lw,namedT_len,numT_len,textT_len])<;>omega) (by constructor<;>(try simp only [List.length_append,lw,namedT_len,numT_len,textT_len])<;>omega)) ?_<;>rintro _ _ _ ⟨rfl,rfl,rfl⟩ -)|fail)<;>try simp only [go_sem,seval,e2,e3,hjw,hgj,d6,x1,x2,x3])
   exact ⟨_,by rw [hR];exact GL.refl _ _⟩
  ·have x2:decide (v ≥ -2147483647)=false:=by simp;omega
   repeat' ((first|(with_reducible first|refine wr ?_|refine cpc c_decls31 ?_|refine cpc hna ?_|refine cpc hnu ?_)|(refine AC.call (wd1 rfl (by first|assumption|decide)) ?_<;>rintro _ _ _ ⟨rfl,rfl,rfl⟩ -)|(refine AC.call (jn2 rfl (by constructor<;>(try simp only [List.length_append,lw,namedT_len,numT_len,textT_len])<;>omega) (by constructor<;>(try simp only [List.length_append,lw,namedT_len,numT_len,textT_len])<;>omega)) ?_<;>rintro _ _ _ ⟨rfl,rfl,rfl⟩ -)|(refine AC.call (jn3 rfl (by constructor<;>(try simp only [List.length_append,lw,namedT_len,numT_len,textT_len])<;>omega) (by constructor<;>(try simp only [List.length_append,lw,namedT_len,numT_len,textT_len])<;>omega) (by constructor<;>(try simp only [List.length_append,lw,namedT_len,numT_len,textT_len])<;>omega)) ?_<;>rintro _ _ _ ⟨rfl,rfl,rfl⟩ -)|fail)<;>try simp only [go_sem,seval,e2,e3,hjw,hgj,d6,x1,x2])
   exact ⟨_,by rw [hR];exact GL.refl _ _⟩
 ·have x1:decide (v<0)=false:=by simp;omega
  repeat' ((first|(with_reducible first|refine wr ?_|refine cpc c_decls31 ?_|refine cpc hna ?_|refine cpc hnu ?_)|(refine AC.call (wd1 rfl (by first|assumption|decide)) ?_<;>rintro _ _ _ ⟨rfl,rfl,rfl⟩ -)|(refine AC.call (jn2 rfl (by constructor<;>(try simp only [List.length_append,lw,namedT_len,numT_len,textT_len])<;>omega) (by constructor<;>(try simp only [List.length_append,lw,namedT_len,numT_len,textT_len])<;>omega)) ?_<;>rintro _ _ _ ⟨rfl,rfl,rfl⟩ -)|(refine AC.call (jn3 rfl (by constructor<;>(try simp only [List.length_append,lw,namedT_len,numT_len,textT_len])<;>omega) (by constructor<;>(try simp only [List.length_append,lw,namedT_len,numT_len,textT_len])<;>omega) (by constructor<;>(try simp only [List.length_append,lw,namedT_len,numT_len,textT_len])<;>omega)) ?_<;>rintro _ _ _ ⟨rfl,rfl,rfl⟩ -)|fail)<;>try simp only [go_sem,seval,e2,e3,hjw,hgj,d6,x1])
  exact ⟨_,by rw [hR];exact GL.refl _ _⟩
theorem c_rulesT (r:Ru) (hB:r.sz<4000000) (hT:(r.decls.flatMap dcT++r.modes.flatMap mdT).length<=100000000):PC Tryz.prog 98 [r.v] (toksV (ruT r)):=by
 refine PC.of mixedU isU98 (Nat.le_of_ble_eq_true rfl) (by simp [DV.nlL,DV.nl,nlL_dcs,nlL_mds]) (nlL_toks _) ?_
 obtain ⟨R,hR⟩:∃ R,R=toksV (ruT r):=⟨_,rfl⟩
 rw [<- hR]
 obtain ⟨D,M⟩:=r
 dsimp only at hT
 unfold ruT at hR
 dsimp only [Ru.v] at hR ⊢
 have hDs:(D.map Dc.sz).sum+(M.map Md.sz).sum<4000000:=hB
 have hDl:D.length<=(D.map Dc.sz).sum:=sum_len fun x _=>by show 1<=1+_;omega
 have hMl:M.length<=(M.map Md.sz).sum:=sum_len fun x _=>by show 1<=1+_+_;omega
 show IW Tryz.prog 100 u98_1 ⟨argT _,_,_⟩ (rt [.tmp 2] _)
 repeat' ((with_reducible first|refine wr ?_|fail)<;>try simp only [go_sem,seval])
 obtain ⟨F,hF⟩:∃ F:Nat->List Tok, ∀ k,F k=(D.take k).flatMap dcT:=⟨_,fun _=>rfl⟩
 have hF0:F 0=[]:=by rw [hF];rfl
 have hFl:∀ k,(F k).length<=100000000:=fun k=>by
  have h1:D.flatMap dcT=F k++(D.drop k).flatMap dcT:=by rw [hF, <- List.flatMap_append,List.take_append_drop]
  rw [h1] at hT
  simp only [List.length_append] at hT
  omega
 refine i_loop (fun q:Nat × Option Nat=>[(1,.ptr 0 0),(3,todoV q.2 (F q.1).length),(4,I64 q.1)]) (fun q=>optH (Sym.nil.upd 0 ⟨0,true,[dcsV D,mdsV M]⟩) q.2 ⟨4,true,cellsL ((F q.1).map Tok.v)⟩)
  (fun q c=>1<=c/\q.1<=D.length/\(q.2=none->F q.1=[])/\(∀ i,q.2=some i->1<=i/\i<c)) (fun q=>D.length-q.1) (0,none)
  (by simp [tmLe,tm,Tm.upd,todoV]) (Sub.refl _) ⟨by omega,Nat.zero_le _,fun _=>hF0,(fun i hi=>by cases hi)⟩ ?_
 rintro ⟨k,o⟩ c ⟨hc,hk,hno,ho⟩
 dsimp only at hc hk hno ho ⊢
 have hbx:optH (Sym.nil.upd 0 ⟨0,true,[dcsV D,mdsV M]⟩) o ⟨4,true,cellsL ((F k).map Tok.v)⟩ 0=some ⟨0,true,[dcsV D,mdsV M]⟩:=by rw [optH_ne (fun i hi=>by have:=ho i hi;omega),h_same]
 by_cases hlt:k<D.length
 ·have hd:decide ((k:Int)<(D.length:Int))=true:=by simpa using hlt
  have hg:=List.getElem?_eq_getElem hlt
  have hsz:=sum_mem (f:=Dc.sz) (List.getElem_mem hlt)
  have hdt:=c_declT D[k] (by have h5:D[k].name.length<Dc.sz D[k]:=(by unfold Dc.sz;omega);omega)
  have hdl:=dcT_len D[k]
  have hw:=w64 (n:=(k:Int)+1) (by omega) (by omega)
  have e0:F (k+1)=F k++dcT D[k]:=by rw [hF,hF,List.take_add_one,hg,List.flatMap_append];simp
  have hFk:=hFl k
  generalize D[k]=x at hg hdt hdl e0
  have hun:unit 4 ((dcT x).map Tok.v)=true:=by unfold unit;rw [List.all_eq_true];intro d hd;simp [tok_unit (dcT x) d hd]
  have hln:(cellsL ((F k).map Tok.v)).length=(F k).length * 4:=(cellsL_length (u:=4) (tok_unit _)).trans (by simp)
  repeat' ((with_reducible first|refine wr ?_|refine cpc hdt ?_|fail)<;>try simp only [go_sem,seval,hd,hg,hw,hbx,r_srcl hun])
  refine k_eval (r_apptodo (cs:=cellsL ((F k).map Tok.v)) (fun e=>by rw [hno e];exact ⟨rfl,rfl⟩) (fun i hi=>opt_at hi) hln (by omega) (by omega) (by omega)) ?_
  simp only [go_sem,seval,hw]
  repeat' ((with_reducible first|refine wr ?_|fail)<;>try simp only [go_sem,seval,hw])
  refine ⟨(k+1,some c),by simp [tmLe,tm,Tm.upd,todoV,e0],?_,inv ⟨by omega,by omega,(fun h=>by cases h),(fun i hi=>by cases hi;omega)⟩,by simp only;omega⟩
  dsimp only
  refine sub_any (n0:=c) (c:=c) (fun j q hq=>?_) (fun i hi=>?_) (fun j hj=>rfl) (Nat.le_refl _) (by rw [e0,List.map_append,cellsL_append])
  ·by_cases e:j=0
   ·omega
   ·rw [h_ne e] at hq;cases hq
  ·have:=ho i hi;rw [h_ne (by omega)];rfl
 ·have hd:decide ((k:Int)<(D.length:Int))=false:=by simpa using hlt
  repeat' ((with_reducible first|refine wr ?_|fail)<;>try simp only [go_sem,seval,hd,hbx])
  have hFD:F k=D.flatMap dcT:=by rw [hF,List.take_of_length_le (by omega)]
  have hc0:=hc
  obtain ⟨G,hG⟩:∃ G:Nat->List Tok, ∀ k,G k=D.flatMap dcT++(M.take k).flatMap mdT:=⟨_,fun _=>rfl⟩
  have hG0:G 0=F k:=by rw [hG,hFD];simp
  have hGl:∀ k,(G k).length<=100000000:=fun k=>by
   have h1:M.flatMap mdT=(M.take k).flatMap mdT++(M.drop k).flatMap mdT:=by rw [<- List.flatMap_append,List.take_append_drop]
   rw [h1] at hT
   rw [hG]
   simp only [List.length_append] at hT ⊢
   omega
  refine i_loop (fun q:Nat × Option Nat=>[(1,.ptr 0 0),(3,todoV q.2 (G q.1).length),(5,I64 q.1)]) (fun q=>optH (Sym.nil.upd 0 ⟨0,true,[dcsV D,mdsV M]⟩) q.2 ⟨4,true,cellsL ((G q.1).map Tok.v)⟩)
   (fun q c=>1<=c/\q.1<=M.length/\(q.2=none->G q.1=[])/\(∀ i,q.2=some i->1<=i/\i<c)/\((M.take q.1).any fun m=>m.hds.any hdBad)=false) (fun q=>M.length-q.1) (0,o)
   (by simp [tmLe,tm,Tm.upd,hG0]) (by dsimp only;rw [hG0];exact Sub.refl _) ⟨hc,Nat.zero_le _,(by dsimp only;rw [hG0];exact hno),ho,rfl⟩ ?_
  clear hbx hno ho hG0 hFD hFl hF0 hF hc hc0 hlt hd hk
  rintro ⟨k,o⟩ c ⟨hc,hk,hno,ho,hbad⟩
  dsimp only at hc hk hno ho hbad ⊢
  have hbx:optH (Sym.nil.upd 0 ⟨0,true,[dcsV D,mdsV M]⟩) o ⟨4,true,cellsL ((G k).map Tok.v)⟩ 0=some ⟨0,true,[dcsV D,mdsV M]⟩:=by rw [optH_ne (fun i hi=>by have:=ho i hi;omega),h_same]
  by_cases hlt:k<M.length
  ·have hd:decide ((k:Int)<(M.length:Int))=true:=by simpa using hlt
   have hg:=List.getElem?_eq_getElem hlt
   have hsz:=sum_mem (f:=Md.sz) (List.getElem_mem hlt)
   have hw:=w64 (n:=(k:Int)+1) (by omega) (by omega)
   have e0:G (k+1)=G k++mdT M[k]:=by rw [hG,hG,List.take_add_one,hg,List.flatMap_append];simp
   have b0:((M.take (k+1)).any fun m=>m.hds.any hdBad)=(M[k].hds.any hdBad):=by rw [List.take_add_one,hg,List.any_append,hbad];simp
   have b1:(M[k].hds.any hdBad)=true->R=toksV [tok0]:=fun h=>by rw [hR,if_pos (List.any_eq_true.2 ⟨_,List.getElem_mem hlt,h⟩)]
   have hGk:=hGl k
   have hGk1:=hGl (k+1)
   generalize M[k]=m at hg hsz e0 b0 b1
   have hln:(cellsL ((G k).map Tok.v)).length=(G k).length * 4:=(cellsL_length (u:=4) (tok_unit _)).trans (by simp)
   have hnl:m.name.length<=1000000000:=by
    have h5:m.name.length<Md.sz m:=by unfold Md.sz;omega
    omega
   have hna:=c_named m.name hnl
   have hnu:=c_number31 m.prio
   have hbo:∀ i:Nat,o=some i->optH (Sym.nil.upd 0 ⟨0,true,[dcsV D,mdsV M]⟩) o ⟨4,true,cellsL ((G k).map Tok.v)⟩ i=some ⟨4,true,cellsL ((G k).map Tok.v)⟩:=fun i hi=>by subst hi;exact h_same
   have hbn:∀ j:Nat,c<=j->optH (Sym.nil.upd 0 ⟨0,true,[dcsV D,mdsV M]⟩) o ⟨4,true,cellsL ((G k).map Tok.v)⟩ j=none:=fun j hj=>by rw [optH_ne (fun i hi=>by have:=ho i hi;omega),h_ne (by omega)];rfl
   generalize hHH:optH (Sym.nil.upd 0 ⟨0,true,[dcsV D,mdsV M]⟩) o ⟨4,true,cellsL ((G k).map Tok.v)⟩=HH at hbx hbo hbn ⊢
   have ne0:=nes5 0 c (c+1+1) (c+1+9) (c+1+11) (by omega)
   have hd1:delO HH (some (c+1+1))=HH:=del_none (hbn _ (by omega))
   have hd2:delO HH (some (c+1+9))=HH:=del_none (hbn _ (by omega))
   have hd3:delO HH (some (c+1+11))=HH:=del_none (hbn _ (by omega))
   repeat' ((with_reducible first|refine wr ?_|refine cpc hna ?_|refine cpc hnu ?_|fail)<;>try simp only [go_sem,seval,hd,hg,hw,hbx,ne0,h_same,h_upd2])
   refine AC.call (wd1 (x:=[109,111,100,101]) (by simp [hide,Hp.upd]) (by decide)) ?_
   rintro v H' c2 ⟨rfl,rfl,rfl⟩ -
   simp only [go_sem,seval,ne0,h_same,h_upd2,hd1,hd2,hd3]
   repeat' ((with_reducible first|refine wr ?_|refine cpc hna ?_|refine cpc hnu ?_|fail)<;>try simp only [go_sem,seval,ne0,h_same,h_upd2,hd1,hd2,hd3])
   refine ⟨by and_intros<;>(repeat rw [h_ne (by omega)])<;>exact hbn _ (by omega),?_⟩
   repeat' ((with_reducible first|refine wr ?_|refine cpc hna ?_|refine cpc hnu ?_|fail)<;>try simp only [go_sem,seval,ne0,h_same,h_upd2,hd1,hd2,hd3])
   refine ⟨by and_intros<;>(repeat rw [h_ne (by omega)])<;>exact hbn _ (by omega),?_⟩
   repeat' ((with_reducible first|refine wr ?_|refine cpc hna ?_|refine cpc hnu ?_|fail)<;>try simp only [go_sem,seval,ne0,h_same,h_upd2,hd1,hd2,hd3])
   refine ⟨by and_intros<;>(repeat rw [h_ne (by omega)])<;>exact hbn _ (by omega),?_⟩
   repeat' ((with_reducible first|refine wr ?_|refine cpc hna ?_|refine cpc hnu ?_|fail)<;>try simp only [go_sem,seval,ne0,h_same,h_upd2,hd1,hd2,hd3])
   refine AC.call (wd1 (x:=[123]) (by simp [hide,Hp.upd]) (by decide)) ?_
   rintro v H' c2 ⟨rfl,rfl,rfl⟩ -
   simp only [go_sem,seval,ne0,h_same,h_upd2,hd1,hd2,hd3]
   refine ⟨by and_intros<;>(repeat rw [h_ne (by omega)])<;>exact hbn _ (by omega),?_⟩
   repeat' ((with_reducible first|refine wr ?_|refine cpc hna ?_|refine cpc hnu ?_|fail)<;>try simp only [go_sem,seval,ne0,h_same,h_upd2,hd1,hd2,hd3])
   refine AC.call (jn4 h_same (by constructor<;>(try simp only [List.length_append,lw,namedT_len,numT_len,textT_len])<;>omega) (by constructor<;>(try simp only [List.length_append,lw,namedT_len,numT_len,textT_len])<;>omega) (by constructor<;>(try simp only [List.length_append,lw,namedT_len,numT_len,textT_len])<;>omega) (by constructor<;>(try simp only [List.length_append,lw,namedT_len,numT_len,textT_len])<;>omega)) ?_
   rintro v H' c2 ⟨rfl,rfl,rfl⟩ -
   have hun4:unit 4 ((wT [109,111,100,101]++namedT m.name++numT m.prio++wT [123]).map Tok.v)=true:=by unfold unit;rw [List.all_eq_true];intro d hd;simp [tok_unit _ d hd]
   have hl4:(wT [109,111,100,101]++namedT m.name++numT m.prio++wT [123]).length=4:=by simp only [List.length_append,lw,namedT_len,numT_len]
   have hsrc:srcOf (HH.upd c ⟨0,true,[.str m.name,I64 m.prio,hdsV m.hds,I64 m.pos]⟩) 4 (toksV (wT [109,111,100,101]++namedT m.name++numT m.prio++wT [123]))=some (4,cellsL ((wT [109,111,100,101]++namedT m.name++numT m.prio++wT [123]).map Tok.v)):=by
    rw [r_srcl hun4,List.length_map,hl4]
   obtain ⟨Q,hQ⟩:∃ Q,Q=wT [109,111,100,101]++namedT m.name++numT m.prio++wT [123]:=⟨_,rfl⟩
   rw [<- hQ] at hsrc ⊢
   simp only [go_sem,seval,ne0,h_same,h_upd2,hd1,hd2,hd3,hsrc]
   repeat' ((with_reducible first|refine wr ?_|refine cpc hna ?_|refine cpc hnu ?_|fail)<;>try simp only [go_sem,seval,ne0,h_same,h_upd2,hd1,hd2,hd3,hsrc])
   refine ⟨by rw [h_ne (by omega)];exact hbn _ (by omega),?_⟩
   rw [r_apptodo (cs:=cellsL ((G k).map Tok.v)) (fun e=>by rw [hno e];exact ⟨rfl,rfl⟩) (fun i hi=>by have:=ho i hi;rw [h_ne (by omega)];exact hbo i hi) hln (by omega) (by omega) (by omega)]
   simp only [go_sem,seval,ne0]
   repeat' ((with_reducible first|refine wr ?_|fail)<;>try simp only [go_sem,seval,ne0])
   have hQl:Q.length=4:=by rw [hQ];exact hl4
   obtain ⟨K,hK⟩:∃ K:Nat->List Tok, ∀ j,K j=G k++Q++(m.hds.take j).flatMap hdT:=⟨_,fun _=>rfl⟩
   have hK0:K 0=G k++Q:=by rw [hK];simp
   have hKl:∀ j,(K j).length<=100000000:=fun j=>by
    have h1:m.hds.flatMap hdT=(m.hds.take j).flatMap hdT++(m.hds.drop j).flatMap hdT:=by rw [<- List.flatMap_append,List.take_append_drop]
    have h2:mdT m=Q++m.hds.flatMap hdT++wT [125]:=by rw [hQ];rfl
    rw [e0,h2,h1] at hGk1
    rw [hK]
    simp only [List.length_append] at hGk1 ⊢
    omega
   have hKe:K m.hds.length++wT [125]=G (k+1):=by
    have h2:mdT m=Q++m.hds.flatMap hdT++wT [125]:=by rw [hQ];rfl
    rw [hK,e0,h2,List.take_length]
    simp only [List.append_assoc]
   have hhl:m.hds.length<=4000000:=by
    have h5:m.hds.length<=(m.hds.map Hd.sz).sum:=sum_len fun x _=>by show 1<=1+_+_;omega
    have h6:(m.hds.map Hd.sz).sum<Md.sz m:=by unfold Md.sz;omega
    omega
   refine i_loop (fun q:Nat × Nat=>[(1,.ptr 0 0),(3,.slc q.2 0 (K q.1).length),(5,I64 k),(6,.ptr c 0),(7,I64 q.1)]) (fun q=>((Sym.nil.upd 0 ⟨0,true,[dcsV D,mdsV M]⟩).upd c ⟨0,true,[.str m.name,I64 m.prio,hdsV m.hds,I64 m.pos]⟩).upd q.2 ⟨4,true,cellsL ((K q.1).map Tok.v)⟩)
    (fun q n=>c<q.2/\q.2<n/\q.1<=m.hds.length/\((m.hds.take q.1).any hdBad)=false) (fun q=>m.hds.length-q.1) (0,c+1+15)
    (by simp [tmLe,tm,Tm.upd,hK0,hQl]) ?_ ⟨by simp only;omega,by simp only;omega,Nat.zero_le _,rfl⟩ ?_
   ·dsimp only
    rw [hK0,List.map_append,cellsL_append]
    intro j b hj
    by_cases e1:j=c+1+15
    ·subst e1;rw [h_same] at hj ⊢;exact hj
    rw [h_ne e1] at hj ⊢
    rw [delO_ne (fun i hi=>by
     have h1:=ho i hi
     intro e
     subst e
     rw [h_ne (by omega),h_ne (by omega)] at hj
     cases hj)]
    by_cases e2:j=c
    ·subst e2;rw [h_same] at hj ⊢;exact hj
    rw [h_ne e2] at hj ⊢
    by_cases e3:j=0
    ·subst e3;rw [h_same] at hj;rw [hbx];exact hj
    ·rw [h_ne e3] at hj;cases hj
   clear hbo hbn hd1 hd2 hd3 hsrc hl4 hun4 hHH hbx hno ho
   rintro ⟨j,i⟩ n ⟨hi1,hi2,hj,hbj⟩
   dsimp only at hi1 hi2 hj hbj ⊢
   by_cases hjl:j<m.hds.length
   ·have hdj:decide ((j:Int)<(m.hds.length:Int))=true:=by simpa using hjl
    have hgj:=List.getElem?_eq_getElem hjl
    have hwj:=w64 (n:=(j:Int)+1) (by omega) (by omega)
    have k0:K (j+1)=K j++hdT m.hds[j]:=by rw [hK,hK,List.take_add_one,hgj,List.flatMap_append];simp
    have c0:((m.hds.take (j+1)).any hdBad)=hdBad m.hds[j]:=by rw [List.take_add_one,hgj,List.any_append,hbj];simp
    have c1:hdBad m.hds[j]=true->R=toksV [tok0]:=fun h=>b1 (List.any_eq_true.2 ⟨_,List.getElem_mem hjl,h⟩)
    have hszj:=sum_mem (f:=Hd.sz) (List.getElem_mem hjl)
    have h6:(m.hds.map Hd.sz).sum<Md.sz m:=by unfold Md.sz;omega
    have hKj:=hKl j
    have hKj1:=hKl (j+1)
    generalize m.hds[j]=h at hgj k0 c0 c1 hszj
    have ne0:=nes4 0 c i n (by omega)
    have hb9:hdBad h=true->∃ H2,GL (((((Sym.nil.upd 0 ⟨0,true,[dcsV D,mdsV M]⟩).upd c ⟨0,true,[.str m.name,I64 m.prio,hdsV m.hds,I64 m.pos]⟩).upd i ⟨4,true,cellsL ((K j).map Tok.v)⟩).upd n ⟨0,true,[I64 h.trig,.str h.name,stsV h.body,I64 h.pos]⟩).upd (n+1) ⟨4,true,[I64 0,.str [],I64 0,I64 0]⟩) [.slc (n+1) 0 1] H2 [R]:=fun hb=>by
     rw [c1 hb]
     exact pc_slc h_same rfl rfl (tok_unit [tok0]) ⟨[],rfl⟩
    by_cases t1:h.trig<1
    ·have x1:decide (h.trig<1)=true:=by simpa using t1
     repeat' ((with_reducible first|refine wr ?_|fail)<;>try simp only [go_sem,seval,hdj,hgj,hwj,x1,ne0,h_same,h_upd2])
     exact hb9 (by unfold hdBad;rw [x1];rfl)
    have x1:decide (h.trig<1)=false:=by simpa using t1
    by_cases t2:6<h.trig
    ·have x2:decide (h.trig>6)=true:=by simpa using t2
     have x2':decide (6<h.trig)=true:=by simpa using t2
     repeat' ((with_reducible first|refine wr ?_|fail)<;>try simp only [go_sem,seval,hdj,hgj,hwj,x1,x2,ne0,h_same,h_upd2])
     exact hb9 (by unfold hdBad;rw [x2',Bool.or_true])
    have x2:decide (h.trig>6)=false:=by simpa using t2
    have x2':decide (6<h.trig)=false:=by simpa using t2
    have c2:hdBad h=false:=by unfold hdBad;rw [x1,x2'];rfl
    clear hb9 c1
    obtain ⟨y,hy⟩:∃ y:Nat,h.trig=1+(y:Int):=⟨(h.trig-1).toNat,by omega⟩
    have hyw:IntKind.i64.wrap (h.trig-1)=(y:Int):=by rw [w64 (by omega) (by omega)];omega
    have hyn:(h.trig-1).toNat=y:=by omega
    have hy6:y<6:=by omega
    have hgy:trigsL[y]? = some (trigsL.getD y []):=by
     rw [List.getD_eq_getElem?_getD,List.getElem?_eq_getElem (show y<trigsL.length from hy6)];rfl
    have hsl:(trigsL.getD y []).length<=1000000000:=by
     have:∀ i:Nat,i<6->(trigsL.getD i []).length<=1000000000:=by decide
     exact this y hy6
    have hTT:hdT h=wT2 [111,110] (trigsL.getD y [])++(if 2<h.trig then namedT h.name else [])++blT h.body:=by unfold hdT;rw [hyn];rfl
    generalize trigsL.getD y []=S at hgy hsl hTT
    have hnh:=c_named h.name (by have h5:h.name.length<Hd.sz h:=(by unfold Hd.sz;omega);omega)
    have hbb:=c_blkT h.body (by have h5:Pb.St.szs h.body<Hd.sz h:=(by unfold Hd.sz;omega);omega)
    obtain ⟨bl1, -⟩:=blT_len h.body
    rw [k0,hTT] at hKj1
    simp only [List.length_append] at hKj1
    have hbn:∀ j':Nat,n<=j'->(((Sym.nil.upd 0 ⟨0,true,[dcsV D,mdsV M]⟩).upd c ⟨0,true,[.str m.name,I64 m.prio,hdsV m.hds,I64 m.pos]⟩).upd i ⟨4,true,cellsL ((K j).map Tok.v)⟩) j'=none:=fun j' h'=>by rw [h_ne (by omega),h_ne (by omega),h_ne (by omega)];rfl
    have ne0:=nes5 0 c i n (n+1+7) (by omega)
    repeat' ((with_reducible first|refine wr ?_|refine cpc c_trigs31 ?_|fail)<;>try simp only [go_sem,seval,hdj,hgj,hwj,x1,x2,hyw,hgy,ne0,h_same,h_upd2])
    refine ⟨by and_intros<;>(repeat rw [h_ne (by omega)])<;>rfl,?_⟩
    refine AC.call (wd2' h_same (by decide) hsl) ?_
    rintro v H' c3 ⟨rfl,rfl,rfl⟩ -
    have hw2:(wT2 [111,110] S).length=2:=rfl
    have hun:=tk_unit4 (wT2 [111,110] S)
    have hunB:=tk_unit4 (blT h.body)
    have hunN:=tk_unit4 (namedT h.name)
    have hnl1:=namedT_len h.name
    have hlnK:=tk_cells (K j)
    simp only [go_sem,seval,ne0,h_same,h_upd2,r_srcl hun]
    repeat' ((with_reducible first|refine wr ?_|fail)<;>try simp only [go_sem,seval,ne0,h_same,h_upd2,r_srcl hun])
    refine ⟨by and_intros<;>(repeat rw [h_ne (by omega)])<;>rfl,?_⟩
    rw [b_appx hlnK (by omega) (by omega)]
    have ne0:=nes5 0 c i n (n+1+11) (by omega)
    simp only [go_sem,seval,ne0,h_same,h_upd2]
    by_cases t3:2<h.trig
    ·have x3:decide (h.trig>2)=true:=by simpa using t3
     rw [if_pos t3] at hTT hKj1
     try simp only [List.length_append] at hKj1
     repeat' ((with_reducible first|refine wr ?_|refine cpc hnh ?_|fail)<;>try simp only [go_sem,seval,ne0,h_same,h_upd2,x3,r_srcl hunN])
     refine k_eval (b_appx (by rw [List.length_append,tk_cells,tk_cells];omega) (by omega) (by omega)) ?_
     have ne0:=nes6 0 c i n (n+1+11) (n+1+11+1) (by omega)
     simp only [go_sem,seval,ne0,h_same,h_upd2]
     repeat' ((with_reducible first|refine wr ?_|refine cpc hbb ?_|fail)<;>try simp only [go_sem,seval,ne0,h_same,h_upd2,r_srcl hunB])
     refine k_eval (b_appx (by rw [List.length_append,List.length_append,tk_cells,tk_cells,tk_cells];omega) (by omega) (by omega)) ?_
     simp only [go_sem,seval,ne0,h_same,h_upd2,hwj]
     repeat' ((with_reducible first|refine wr ?_|fail)<;>try simp only [go_sem,seval,ne0,h_same,h_upd2,hwj])
     refine ⟨(j+1,n+1+11+1+1),by simp [tmLe,tm,Tm.upd,k0,hTT,hwj,Nat.add_assoc],?_,inv ⟨by simp only;omega,by simp only;omega,by simp only;omega,by rw [c0];exact c2⟩,by simp only;omega⟩
     dsimp only
     intro j' b' hj'
     by_cases e1:j'=n+1+11+1+1
     ·subst e1
      rw [h_same] at hj' ⊢
      rw [<- hj',k0,hTT]
      simp only [List.map_append,cellsL_append,List.append_assoc,List.map_nil,List.nil_append]
      try rfl
     rw [h_ne e1] at hj' ⊢
     by_cases e2:j'=c
     ·subst e2
      rw [h_same] at hj'
      repeat (first|rw [h_same]|rw [h_ne (by omega)]|rw [del_ne (by omega)])
      exact hj'
     rw [h_ne e2] at hj'
     by_cases e3:j'=0
     ·subst e3
      rw [h_same] at hj'
      repeat (first|rw [h_same]|rw [h_ne (by omega)]|rw [del_ne (by omega)])
      exact hj'
     ·rw [h_ne e3] at hj';cases hj'
    ·have x3:decide (h.trig>2)=false:=by simpa using t3
     rw [if_neg t3] at hTT hKj1
     try simp only [List.length_nil] at hKj1
     repeat' ((with_reducible first|refine wr ?_|refine cpc hbb ?_|fail)<;>try simp only [go_sem,seval,ne0,h_same,h_upd2,x3,r_srcl hunB])
     refine k_eval (b_appx (by rw [List.length_append,tk_cells,tk_cells];omega) (by omega) (by omega)) ?_
     have ne0:=nes6 0 c i n (n+1+11) (n+1+11+1) (by omega)
     simp only [go_sem,seval,ne0,h_same,h_upd2,hwj]
     repeat' ((with_reducible first|refine wr ?_|fail)<;>try simp only [go_sem,seval,ne0,h_same,h_upd2,hwj])
     refine ⟨(j+1,n+1+11+1),by simp [tmLe,tm,Tm.upd,k0,hTT,hwj,Nat.add_assoc],?_,inv ⟨by simp only;omega,by simp only;omega,by simp only;omega,by rw [c0];exact c2⟩,by simp only;omega⟩
     dsimp only
     intro j' b' hj'
     by_cases e1:j'=n+1+11+1
     ·subst e1
      rw [h_same] at hj' ⊢
      rw [<- hj',k0,hTT]
      simp only [List.map_append,cellsL_append,List.append_assoc,List.map_nil,List.nil_append]
      try rfl
     rw [h_ne e1] at hj' ⊢
     by_cases e2:j'=c
     ·subst e2
      rw [h_same] at hj'
      repeat (first|rw [h_same]|rw [h_ne (by omega)]|rw [del_ne (by omega)])
      exact hj'
     rw [h_ne e2] at hj'
     by_cases e3:j'=0
     ·subst e3
      rw [h_same] at hj'
      repeat (first|rw [h_same]|rw [h_ne (by omega)]|rw [del_ne (by omega)])
      exact hj'
     ·rw [h_ne e3] at hj';cases hj'
   ·have hdj:decide ((j:Int)<(m.hds.length:Int))=false:=by simpa using hjl
    have ne0:=nes4 0 c i n (by omega)
    have hjE:j=m.hds.length:=by omega
    subst hjE
    rw [List.take_length] at hbj
    have hlw:=lw [125]
    have hun:=tk_unit4 (wT [125])
    have hln2:=tk_cells (K m.hds.length)
    have hKm:=hKl m.hds.length
    repeat' ((with_reducible first|refine wr ?_|fail)<;>try simp only [go_sem,seval,hdj,ne0,h_same,h_upd2])
    refine AC.call (wd1 h_same (by decide)) ?_
    rintro v H' c3 ⟨rfl,rfl,rfl⟩ -
    simp only [go_sem,seval,ne0,h_same,h_upd2,r_srcl hun]
    repeat' ((with_reducible first|refine wr ?_|fail)<;>try simp only [go_sem,seval,ne0,h_same,h_upd2,r_srcl hun])
    refine k_eval (b_appx hln2 (by omega) (by omega)) ?_
    simp only [go_sem,seval,hw,ne0]
    repeat' ((with_reducible first|refine wr ?_|fail)<;>try simp only [go_sem,seval,hw,ne0])
    refine ⟨(k+1,some (n+1)),by simp [tmLe,tm,Tm.upd,todoV, <- hKe,hlw],?_,inv ⟨by omega,by simp only;omega,(fun h=>by cases h),(fun i hi=>by cases hi;omega),by rw [b0];exact hbj⟩,by simp only;omega⟩
    dsimp only [optH]
    rw [<- hKe,List.map_append,cellsL_append]
    intro j b hj
    by_cases e1:j=n+1
    ·subst e1;rw [h_same] at hj ⊢;exact hj
    rw [h_ne e1] at hj ⊢
    by_cases e2:j=0
    ·subst e2
     rw [h_same] at hj
     rw [show ∀ X:Hp,X.del i=delO X (some i) from fun _=>rfl,del_at,if_neg (by omega),h_ne (by omega),h_ne (by omega),h_same]
     exact hj
    ·rw [h_ne e2] at hj;cases hj
  ·have hd:decide ((k:Int)<(M.length:Int))=false:=by simpa using hlt
   rw [List.take_of_length_le (by omega)] at hbad
   rw [if_neg (by rw [hbad];decide)] at hR
   repeat' ((with_reducible first|refine wr ?_|fail)<;>try simp only [go_sem,seval,hd,hbx])
   rw [hR,hG,List.take_of_length_le (by omega)]
   rw [hG,List.take_of_length_le (by omega)] at hno
   exact pc_todoX (fun e=>by rw [hno e];rfl) (by simp) (tok_unit _)
theorem exsEq_at (p:Bool):∀ (l l':List Ex) (k:Nat),l.length=l'.length->(exsEq p (l.take k) (l'.take k)=true)->∀ x x',l[k]? = some x->l'[k]? = some x'->exsEq p (l.take (k+1)) (l'.take (k+1))=exEq p x x'/\(exEq p x x'=false->exsEq p l l'=false)
 | [],_,k,_,_,x,x',h,_=>by simp at h
 | _ :: _,[],k,h,_,_,_,_,_=>by simp at h
 | a :: l,a' :: l',0,_,_,x,x',h,h'=>by
  cases h;cases h'
  refine ⟨?_,fun e=>?_⟩
  ·simp [exsEq]
  ·rw [exsEq,e];rfl
 | a :: l,a' :: l',k+1,hl,he,x,x',h,h'=>by
  rw [List.take_succ_cons,List.take_succ_cons,exsEq,Bool.and_eq_true] at he
  have ih:=exsEq_at p l l' k (by simpa using hl) he.2 x x' (by simpa using h) (by simpa using h')
  refine ⟨?_,fun e=>?_⟩
  ·rw [List.take_succ_cons,List.take_succ_cons,exsEq,he.1,Bool.true_and];exact ih.1
  ·rw [exsEq,ih.2 e,Bool.and_false]
theorem exsEq_len (p:Bool):∀ (l l':List Ex),¬ l.length=l'.length->exsEq p l l'=false
 | [],[],h=>absurd rfl h
 | [],_ :: _,_=>rfl
 | _ :: _,[],_=>rfl
 | a :: l,a' :: l',h=>by rw [exsEq,exsEq_len p l l' (by simpa using h),Bool.and_false]
theorem c_sameEs (p:Bool) (l l':List Ex) (hl:l.length<=100000000000) (h:∀ x∈l, ∀ y,PC Tryz.prog 101 [x.v,y.v,.bool p] (.bool (exEq p x y))):PC Tryz.prog 138 [exsV l,exsV l',.bool p] (.bool (exsEq p l l')):=by
 refine PC.of mixedU isU138 (Nat.le_of_ble_eq_true rfl) (by simp [DV.nlL,DV.nl,nlL_exs]) rfl ?_
 show IW Tryz.prog 30 u138_1 ⟨argT _,_,_⟩ (rt [.tmp 6] _)
 by_cases hlen:l.length=l'.length
 ·have hd0:((l.length:Int) != (l'.length:Int))=false:=by simp [hlen]
  repeat' ((with_reducible first|refine wr ?_|fail)<;>try simp only [go_sem,seval,hd0,List.length_map])
  refine i_loop (fun k:Nat=>[(0,exsV l),(1,exsV l'),(2,.bool p),(7,I64 k)]) (fun _=>Sym.nil) (fun k c=>k<=l.length/\exsEq p (l.take k) (l'.take k)=true) (fun k=>l.length-k) 0 (by simp [tmLe,tm,Tm.upd]) (Sub.nil _) ⟨Nat.zero_le _,rfl⟩ ?_
  rintro k c ⟨hk,he⟩
  by_cases hlt:k<l.length
  ·have hd:decide ((k:Int)<(l.length:Int))=true:=by simpa using hlt
   have hg:=List.getElem?_eq_getElem hlt
   have hg':=List.getElem?_eq_getElem (l:=l') (i:=k) (by omega)
   have hw:=w64 (n:=(k:Int)+1) (by omega) (by omega)
   have hc:=h _ (List.getElem_mem hlt) (l'[k]'(by omega))
   obtain ⟨s1,s2⟩:=exsEq_at p l l' k hlen he _ _ hg hg'
   generalize l[k]=x at hg hc s1 s2
   generalize l'[k]'(by omega)=x' at hg' hc s1 s2
   rw [Ex.v_w,Ex.v_w] at hc
   cases hx:exEq p x x' with
   | true =>
    repeat' ((with_reducible first|refine wr ?_|refine cpc hc ?_|fail)<;>try simp only [go_sem,seval,hd,hg,hg',hw,hx,Ex.v_w,List.length_map])
    exact ⟨k+1,by simp [tmLe,tm,Tm.upd],Sub.nil _,inv ⟨by omega,by rw [s1];exact hx⟩,by omega⟩
   | false =>
    repeat' ((with_reducible first|refine wr ?_|refine cpc hc ?_|fail)<;>try simp only [go_sem,seval,hd,hg,hg',hw,hx,Ex.v_w,List.length_map])
    exact ⟨_,by rw [s2 hx];exact GL.refl _ _⟩
  ·have hd:decide ((k:Int)<(l.length:Int))=false:=by simpa using hlt
   rw [List.take_of_length_le (by omega),List.take_of_length_le (by omega)] at he
   repeat' ((with_reducible first|refine wr ?_|fail)<;>try simp only [go_sem,seval,hd,List.length_map])
   exact ⟨_,by rw [he];exact GL.refl _ _⟩
 ·have hd0:((l.length:Int) != (l'.length:Int))=true:=by simp;omega
  repeat' ((with_reducible first|refine wr ?_|fail)<;>try simp only [go_sem,seval,hd0,List.length_map])
  exact ⟨_,by rw [exsEq_len p l l' hlen];exact GL.refl _ _⟩
theorem c_sameE (p:Bool):∀ (m:Nat) (a b:Ex),a.sz<m->a.sz<=100000000000->PC Tryz.prog 101 [a.v,b.v,.bool p] (.bool (exEq p a b)):=by
 intro m
 induction m with
 | zero=>intro a b h;omega
 | succ m ih =>
 intro a b hm hB
 have hs:=c_sameEs p a.args b.args (by have:=a.sz_args;omega) (fun x hx y=>ih x y (by have:=Ex.sz_arg hx;omega) (by have:=Ex.sz_arg hx;omega))
 have e0:exEq p a b=(a.kind == b.kind && (a.value == b.value && (a.name == b.name && ((p || a.pos == b.pos) && exsEq p a.args b.args)))):=by
  cases a with|mk k v n l q=>cases b with|mk k' v' n' l' q'=>rw [exEq];rfl
 refine PC.of mixedU isU101 (Nat.le_of_ble_eq_true rfl) (by simp [DV.nlL,DV.nl,Ex.nl]) rfl ?_
 rw [Ex.v_w,Ex.v_w,e0]
 show IW Tryz.prog 44 u101_1 ⟨argT _,_,_⟩ (rt [.tmp 6] _)
 cases h1:a.kind == b.kind with
 | false =>
  repeat' ((with_reducible first|refine wr ?_|fail)<;>try simp only [go_sem,seval,h1])
  exact ⟨_,GL.refl _ _⟩
 | true =>
  cases h2:a.value == b.value with
  | false =>
   repeat' ((with_reducible first|refine wr ?_|fail)<;>try simp only [go_sem,seval,h1,h2])
   exact ⟨_,GL.refl _ _⟩
  | true =>
   cases h3:a.name == b.name with
   | false =>
    repeat' ((with_reducible first|refine wr ?_|fail)<;>try simp only [go_sem,seval,h1,h2,h3])
    exact ⟨_,GL.refl _ _⟩
   | true =>
    cases hp:p with
    | true =>
     subst hp
     repeat' ((with_reducible first|refine wr ?_|refine cpc hs ?_|fail)<;>try simp only [go_sem,seval,h1,h2,h3])
     exact ⟨_,GL.refl _ _⟩
    | false =>
     subst hp
     cases h4:a.pos == b.pos with
     | false =>
      repeat' ((with_reducible first|refine wr ?_|refine cpc hs ?_|fail)<;>try simp only [go_sem,seval,h1,h2,h3,h4])
      exact ⟨_,GL.refl _ _⟩
     | true =>
      repeat' ((with_reducible first|refine wr ?_|refine cpc hs ?_|fail)<;>try simp only [go_sem,seval,h1,h2,h3,h4])
      exact ⟨_,GL.refl _ _⟩
theorem stsEq_at:∀ (l l':List Pb.St) (k:Nat),l.length=l'.length->(stsEq (l.take k) (l'.take k)=true)->∀ x x',l[k]? = some x->l'[k]? = some x'->stsEq (l.take (k+1)) (l'.take (k+1))=stEq x x'/\(stEq x x'=false->stsEq l l'=false)
 | [],_,k,_,_,x,x',h,_=>by simp at h
 | _ :: _,[],k,h,_,_,_,_,_=>by simp at h
 | a :: l,a' :: l',0,_,_,x,x',h,h'=>by
  cases h;cases h'
  refine ⟨?_,fun e=>?_⟩
  ·simp [stsEq]
  ·rw [stsEq,e];rfl
 | a :: l,a' :: l',k+1,hl,he,x,x',h,h'=>by
  rw [List.take_succ_cons,List.take_succ_cons,stsEq,Bool.and_eq_true] at he
  have ih:=stsEq_at l l' k (by simpa using hl) he.2 x x' (by simpa using h) (by simpa using h')
  refine ⟨?_,fun e=>?_⟩
  ·rw [List.take_succ_cons,List.take_succ_cons,stsEq,he.1,Bool.true_and];exact ih.1
  ·rw [stsEq,ih.2 e,Bool.and_false]
theorem stsEq_len:∀ (l l':List Pb.St),¬ l.length=l'.length->stsEq l l'=false
 | [],[],h=>absurd rfl h
 | [],_ :: _,_=>rfl
 | _ :: _,[],_=>rfl
 | a :: l,a' :: l',h=>by rw [stsEq,stsEq_len l l' (by simpa using h),Bool.and_false]
theorem stEq_e (a b:Pb.St):stEq a b=(a.kind == b.kind && (a.name == b.name && (a.text == b.text && (a.pos == b.pos && (exsEq false a.args b.args && (stsEq a.thn b.thn && stsEq a.els b.els)))))):=by
 cases a with|mk k n t a x y q=>cases b with|mk k' n' t' a' x' y' q'=>rw [stEq];rfl
theorem c_sameS:∀ (m:Nat) (l l':List Pb.St),Pb.St.szs l<m->Pb.St.szs l<=100000000000->PC Tryz.prog 136 [stsV l,stsV l'] (.bool (stsEq l l')):=by
 intro m
 induction m with
 | zero=>intro a b h;omega
 | succ m ih =>
 intro l l' hm hB
 have hl:=Pb.St.szs_len l
 refine PC.of mixedU isU136 (Nat.le_of_ble_eq_true rfl) (by simp [DV.nlL,DV.nl,nlL_sts]) rfl ?_
 show IW Tryz.prog 77 u136_1 ⟨argT _,_,_⟩ (rt [.tmp 4] _)
 by_cases hlen:l.length=l'.length
 ·have hd0:((l.length:Int) != (l'.length:Int))=false:=by simp [hlen]
  repeat' ((with_reducible first|refine wr ?_|fail)<;>try simp only [go_sem,seval,hd0,List.length_map])
  refine i_loop (fun k:Nat=>[(0,stsV l),(1,stsV l'),(5,I64 k)]) (fun _=>Sym.nil) (fun k c=>k<=l.length/\stsEq (l.take k) (l'.take k)=true) (fun k=>l.length-k) 0 (by simp [tmLe,tm,Tm.upd]) (Sub.nil _) ⟨Nat.zero_le _,rfl⟩ ?_
  rintro k c ⟨hk,he⟩
  by_cases hlt:k<l.length
  ·have hd:decide ((k:Int)<(l.length:Int))=true:=by simpa using hlt
   have hg:=List.getElem?_eq_getElem hlt
   have hg':=List.getElem?_eq_getElem (l:=l') (i:=k) (by omega)
   have hw:=w64 (n:=(k:Int)+1) (by omega) (by omega)
   obtain ⟨s1,s2⟩:=stsEq_at l l' k hlen he _ _ hg hg'
   have hsx:=Pb.St.szs_mem (List.getElem_mem hlt)
   generalize l[k]=x at hg hsx s1 s2
   generalize l'[k]'(by omega)=x' at hg' s1 s2
   have ht:=x.sz_thn
   have hy:=x.sz_els
   have hargs:∀ y∈x.args,y.sz<x.sz:=fun y hy=>Pb.St.sz_arg hy
   have hal:=x.sz_args
   have ca:=c_sameEs false x.args x'.args (by omega) (fun y hy z=>c_sameE false (y.sz+1) y z (by omega) (by have:=hargs y hy;omega))
   have ct:=ih x.thn x'.thn (by omega) (by omega)
   have cy:=ih x.els x'.els (by omega) (by omega)
   rw [stEq_e] at s1 s2
   have ne0:=nes2 (c+8) (c+9) (by omega)
   have hn8:∀ i:Nat,Sym.nil (c+i)=none:=fun _=>rfl
   repeat' ((with_reducible first|refine wr ?_|fail)<;>try simp only [go_sem,seval,hd,hg,hg',Pb.St.v_w,List.length_map,ne0,h_same,h_upd2])
   refine ⟨by and_intros<;>(repeat rw [h_ne (by omega)])<;>rfl,?_⟩
   repeat' ((with_reducible first|refine hold (p:=IW _ _ u136_14 _ _) ?_|refine wr ?_|fail)<;>try simp only [go_sem,seval,ne0,h_same,h_upd2])
   unfold Hold
   clear hd hg hg'
   cases h1:x.kind == x'.kind with
   | false =>
    have n1:(x.kind != x'.kind)=true:=by rw [bne,h1];rfl
    repeat' ((with_reducible first|refine wr ?_|refine cpc ca ?_|refine cpc ct ?_|refine cpc cy ?_|fail)<;>try simp only [go_sem,seval,hw,ne0,h_same,h_upd2,n1])
    exact ⟨_,by rw [s2 (by rw [h1];rfl)];exact GL.refl _ _⟩
   | true =>
    have n1:(x.kind != x'.kind)=false:=by rw [bne,h1];rfl
    cases h2:x.name == x'.name with
    | false =>
     repeat' ((with_reducible first|refine wr ?_|refine cpc ca ?_|refine cpc ct ?_|refine cpc cy ?_|fail)<;>try simp only [go_sem,seval,hw,ne0,h_same,h_upd2,n1,h2])
     exact ⟨_,by rw [s2 (by rw [h1,h2];rfl)];exact GL.refl _ _⟩
    | true =>
     cases h3:x.text == x'.text with
     | false =>
      repeat' ((with_reducible first|refine wr ?_|refine cpc ca ?_|refine cpc ct ?_|refine cpc cy ?_|fail)<;>try simp only [go_sem,seval,hw,ne0,h_same,h_upd2,n1,h2,h3])
      exact ⟨_,by rw [s2 (by rw [h1,h2,h3];rfl)];exact GL.refl _ _⟩
     | true =>
      cases h4:x.pos == x'.pos with
      | false =>
       have n4:(x.pos != x'.pos)=true:=by rw [bne,h4];rfl
       repeat' ((with_reducible first|refine wr ?_|refine cpc ca ?_|refine cpc ct ?_|refine cpc cy ?_|fail)<;>try simp only [go_sem,seval,hw,ne0,h_same,h_upd2,n1,h2,h3,n4])
       exact ⟨_,by rw [s2 (by rw [h1,h2,h3,h4];rfl)];exact GL.refl _ _⟩
      | true =>
       have n4:(x.pos != x'.pos)=false:=by rw [bne,h4];rfl
       cases h5:exsEq false x.args x'.args with
       | false =>
        repeat' ((with_reducible first|refine wr ?_|refine cpc ca ?_|refine cpc ct ?_|refine cpc cy ?_|fail)<;>try simp only [go_sem,seval,hw,ne0,h_same,h_upd2,n1,h2,h3,n4,h5])
        exact ⟨_,by rw [s2 (by rw [h1,h2,h3,h4,h5];rfl)];exact GL.refl _ _⟩
       | true =>
        cases h6:stsEq x.thn x'.thn with
        | false =>
         repeat' ((with_reducible first|refine wr ?_|refine cpc ca ?_|refine cpc ct ?_|refine cpc cy ?_|fail)<;>try simp only [go_sem,seval,hw,ne0,h_same,h_upd2,n1,h2,h3,n4,h5,h6])
         exact ⟨_,by rw [s2 (by rw [h1,h2,h3,h4,h5,h6];rfl)];exact GL.refl _ _⟩
        | true =>
         cases h7:stsEq x.els x'.els with
         | false =>
          repeat' ((with_reducible first|refine wr ?_|refine cpc ca ?_|refine cpc ct ?_|refine cpc cy ?_|fail)<;>try simp only [go_sem,seval,hw,ne0,h_same,h_upd2,n1,h2,h3,n4,h5,h6,h7])
          exact ⟨_,by rw [s2 (by rw [h1,h2,h3,h4,h5,h6,h7];rfl)];exact GL.refl _ _⟩
         | true =>
          repeat' ((with_reducible first|refine wr ?_|refine cpc ca ?_|refine cpc ct ?_|refine cpc cy ?_|fail)<;>try simp only [go_sem,seval,hw,ne0,h_same,h_upd2,n1,h2,h3,n4,h5,h6,h7])
          exact ⟨k+1,by simp [tmLe,tm,Tm.upd],Sub.nil _,inv ⟨by omega,by rw [s1,h1,h2,h3,h4,h5,h6,h7];rfl⟩,by omega⟩
  ·have hd:decide ((k:Int)<(l.length:Int))=false:=by simpa using hlt
   rw [List.take_of_length_le (by omega),List.take_of_length_le (by omega)] at he
   repeat' ((with_reducible first|refine wr ?_|fail)<;>try simp only [go_sem,seval,hd,List.length_map])
   exact ⟨_,by rw [he];exact GL.refl _ _⟩
 ·have hd0:((l.length:Int) != (l'.length:Int))=true:=by simp;omega
  repeat' ((with_reducible first|refine wr ?_|fail)<;>try simp only [go_sem,seval,hd0,List.length_map])
  exact ⟨_,by rw [stsEq_len l l' hlen];exact GL.refl _ _⟩
def ruEq (a b:Ru):Bool:=@decide (a=b) (Classical.propDecidable _)
theorem ruEq_t {a b:Ru} (h:a=b):ruEq a b=true:=by unfold ruEq;exact @decide_eq_true _ (_) h
theorem ruEq_f {a b:Ru} (h:¬ a=b):ruEq a b=false:=by unfold ruEq;exact @decide_eq_false _ (_) h
theorem take_eq {α : Type} {l l':List α} {k:Nat} {x x' : α} (h:l.take k=l'.take k) (hx:l[k]? = some x) (hx':l'[k]? = some x') (e:x=x'):l.take (k+1)=l'.take (k+1):=by
 rw [List.take_add_one,List.take_add_one,h,hx,hx',e]
theorem take_ne {α : Type} {l l':List α} {k:Nat} {x x' : α} (hx:l[k]? = some x) (hx':l'[k]? = some x') (e:¬ x=x'):¬ l=l':=by
 rintro rfl;rw [hx] at hx';exact e (Option.some.inj hx')
theorem sub_low {H H':Hp} {c:Nat} (h1:∀ j b,H j=some b->j<c) (h2:∀ j,j<c->H' j=H j):Sym.Sub H H':=fun j b hj=>by rw [h2 j (h1 j b hj)];exact hj
theorem c_Same31 (a b:Ru) (hB:a.sz<=100000000000):PC Tryz.prog 99 [a.v,b.v] (.bool (ruEq a b)):=by
 refine PC.of mixedU isU99 (Nat.le_of_ble_eq_true rfl) (by simp [DV.nlL,DV.nl,nlL_dcs,nlL_mds]) rfl ?_
 obtain ⟨R,hR⟩:∃ R,R=ruEq a b:=⟨_,rfl⟩
 rw [<- hR]
 obtain ⟨D,M⟩:=a
 obtain ⟨D',M'⟩:=b
 have hF:(¬ D=D'\/¬ M=M')->R=false:=fun h=>by
  rw [hR];exact ruEq_f fun e=>by cases e;exact h.elim (· rfl) (· rfl)
 have hT:D=D'->M=M'->R=true:=fun h1 h2=>by rw [hR];exact ruEq_t (by rw [h1,h2])
 clear hR
 have hDs:(D.map Dc.sz).sum+(M.map Md.sz).sum<=100000000000:=hB
 have hDl:D.length<=(D.map Dc.sz).sum:=sum_len fun x _=>by show 1<=1+_;omega
 have hMl:M.length<=(M.map Md.sz).sum:=sum_len fun x _=>by show 1<=1+_+_;omega
 dsimp only [Ru.v]
 show IW Tryz.prog 135 u99_1 ⟨argT _,_,_⟩ (rt [.tmp 4] _)
 by_cases l1:D.length=D'.length
 case neg =>
  have f1:((D.length:Int) != (D'.length:Int))=true:=by simp;omega
  repeat' ((with_reducible first|refine wr ?_|fail)<;>try simp only [go_sem,seval,f1,List.length_map])
  exact ⟨_,by rw [hF (.inl fun e=>l1 (by rw [e]))];exact GL.refl _ _⟩
 have f1:((D.length:Int) != (D'.length:Int))=false:=by simp [l1]
 by_cases l2:M.length=M'.length
 case neg =>
  have f2:((M.length:Int) != (M'.length:Int))=true:=by simp;omega
  repeat' ((with_reducible first|refine wr ?_|fail)<;>try simp only [go_sem,seval,f1,f2,List.length_map])
  exact ⟨_,by rw [hF (.inr fun e=>l2 (by rw [e]))];exact GL.refl _ _⟩
 have f2:((M.length:Int) != (M'.length:Int))=false:=by simp [l2]
 repeat' ((with_reducible first|refine wr ?_|fail)<;>try simp only [go_sem,seval,f1,f2,List.length_map])
 refine i_loop (fun k:Nat=>[(2,.ptr 0 0),(3,.ptr 1 0),(5,I64 k)]) (fun _=>(Sym.nil.upd 0 ⟨0,true,[dcsV D,mdsV M]⟩).upd 1 ⟨0,true,[dcsV D',mdsV M']⟩) (fun k c=>2<=c/\k<=D.length/\D.take k=D'.take k) (fun k=>D.length-k) 0 (by simp [tmLe,tm,Tm.upd]) (Sub.refl _) ⟨by omega,Nat.zero_le _,rfl⟩ ?_
 rintro k c ⟨hc,hk,he⟩
 by_cases hlt:k<D.length
 ·have hd:decide ((k:Int)<(D.length:Int))=true:=by simpa using hlt
  have hg:=List.getElem?_eq_getElem hlt
  have hg':=List.getElem?_eq_getElem (l:=D') (i:=k) (by omega)
  have hw:=w64 (n:=(k:Int)+1) (by omega) (by omega)
  generalize D[k]=x at hg
  generalize D'[k]'(by omega)=x' at hg'
  have hq:(x.kind == x'.kind && (x.name == x'.name && (x.value == x'.value && x.pos == x'.pos)))=true↔x=x':=by
   cases x;cases x'
   simp only [Bool.and_eq_true,beq_iff_eq,Dc.mk.injEq]
  by_cases hx:x=x'
  ·have hqt:(true != (x.kind == x'.kind && (x.name == x'.name && (x.value == x'.value && x.pos == x'.pos))))=false:=by rw [hq.2 hx];rfl
   repeat' ((with_reducible first|refine wr ?_|fail)<;>try simp only [go_sem,seval,hd,hg,hg',hw,eqa4s,hqt,List.length_map])
   exact ⟨k+1,by simp [tmLe,tm,Tm.upd],Sub.refl _,inv ⟨by omega,by omega,take_eq he hg hg' hx⟩,by omega⟩
  ·have hqf:(true != (x.kind == x'.kind && (x.name == x'.name && (x.value == x'.value && x.pos == x'.pos))))=true:=by
    rw [show (x.kind == x'.kind && (x.name == x'.name && (x.value == x'.value && x.pos == x'.pos)))=false from by
     cases hz:(x.kind == x'.kind && (x.name == x'.name && (x.value == x'.value && x.pos == x'.pos))) with
     | false=>rfl
     | true=>exact absurd (hq.1 hz) hx]
    rfl
   repeat' ((with_reducible first|refine wr ?_|fail)<;>try simp only [go_sem,seval,hd,hg,hg',hw,eqa4s,hqf,List.length_map])
   exact ⟨_,by rw [hF (.inl (take_ne hg hg' hx))];exact GL.refl _ _⟩
 ·have hd:decide ((k:Int)<(D.length:Int))=false:=by simpa using hlt
  rw [List.take_of_length_le (by omega),List.take_of_length_le (by omega)] at he
  repeat' ((with_reducible first|refine wr ?_|fail)<;>try simp only [go_sem,seval,hd,List.length_map])
  have hDD:=he
  clear hd hlt he hk
  refine i_loop (fun k:Nat=>[(2,.ptr 0 0),(3,.ptr 1 0),(6,I64 k)]) (fun _=>(Sym.nil.upd 0 ⟨0,true,[dcsV D,mdsV M]⟩).upd 1 ⟨0,true,[dcsV D',mdsV M']⟩) (fun k c=>2<=c/\k<=M.length/\M.take k=M'.take k) (fun k=>M.length-k) 0 (by simp [tmLe,tm,Tm.upd]) (Sub.refl _) ⟨hc,Nat.zero_le _,rfl⟩ ?_
  clear hc k c
  rintro k c ⟨hc,hk,he⟩
  by_cases hlt:k<M.length
  ·have hd:decide ((k:Int)<(M.length:Int))=true:=by simpa using hlt
   have hg:=List.getElem?_eq_getElem hlt
   have hg':=List.getElem?_eq_getElem (l:=M') (i:=k) (by omega)
   have hw:=w64 (n:=(k:Int)+1) (by omega) (by omega)
   have hsx:=sum_mem (f:=Md.sz) (List.getElem_mem hlt)
   generalize M[k]=x at hg hsx
   generalize M'[k]'(by omega)=x' at hg'
   have hxs:(x.hds.map Hd.sz).sum<Md.sz x:=by unfold Md.sz;omega
   have hxl:x.hds.length<=(x.hds.map Hd.sz).sum:=sum_len fun x _=>by show 1<=1+_+_;omega
   have ne0:=nes4 0 1 (c+10) (c+11) (by omega)
   repeat' ((with_reducible first|refine wr ?_|fail)<;>try simp only [go_sem,seval,hd,hg,hg',ne0,h_same,h_upd2,List.length_map])
   refine ⟨by and_intros<;>(repeat rw [h_ne (by omega)])<;>rfl,?_⟩
   repeat' ((with_reducible first|refine hold (p:=IW _ _ u99_25 _ _) ?_|refine wr ?_|fail)<;>try simp only [go_sem,seval,ne0,h_same,h_upd2])
   unfold Hold
   clear hd
   by_cases h1:x.name=x'.name
   case neg =>
    have nh1:(x.name == x'.name)=false:=by simpa using h1
    repeat' ((with_reducible first|refine wr ?_|fail)<;>try simp only [go_sem,seval,ne0,h_same,h_upd2,List.length_map,nh1])
    exact ⟨_,by rw [hF (.inr (take_ne hg hg' fun e=>h1 (by rw [e])))];exact GL.refl _ _⟩
   case pos =>
    have nh1:(x.name == x'.name)=true:=by simpa using h1
    by_cases h2:x.prio=x'.prio
    case neg =>
     have nh2:(x.prio != x'.prio)=true:=by simpa using h2
     repeat' ((with_reducible first|refine wr ?_|fail)<;>try simp only [go_sem,seval,ne0,h_same,h_upd2,List.length_map,nh1,nh2])
     exact ⟨_,by rw [hF (.inr (take_ne hg hg' fun e=>h2 (by rw [e])))];exact GL.refl _ _⟩
    case pos =>
     have nh2:(x.prio != x'.prio)=false:=by simpa using h2
     by_cases h3:x.pos=x'.pos
     case neg =>
      have nh3:(x.pos != x'.pos)=true:=by simpa using h3
      repeat' ((with_reducible first|refine wr ?_|fail)<;>try simp only [go_sem,seval,ne0,h_same,h_upd2,List.length_map,nh1,nh2,nh3])
      exact ⟨_,by rw [hF (.inr (take_ne hg hg' fun e=>h3 (by rw [e])))];exact GL.refl _ _⟩
     case pos =>
      have nh3:(x.pos != x'.pos)=false:=by simpa using h3
      by_cases h4:x.hds.length=x'.hds.length
      case neg =>
       have nh4:((x.hds.length:Int) != (x'.hds.length:Int))=true:=by simp;omega
       repeat' ((with_reducible first|refine wr ?_|fail)<;>try simp only [go_sem,seval,ne0,h_same,h_upd2,List.length_map,nh1,nh2,nh3,nh4])
       exact ⟨_,by rw [hF (.inr (take_ne hg hg' fun e=>h4 (by rw [e])))];exact GL.refl _ _⟩
      case pos =>
       have nh4:((x.hds.length:Int) != (x'.hds.length:Int))=false:=by simp [h4]
       repeat' ((with_reducible first|refine wr ?_|fail)<;>try simp only [go_sem,seval,ne0,h_same,h_upd2,List.length_map,nh1,nh2,nh3,nh4])
       refine i_loop (fun j:Nat=>[(2,.ptr 0 0),(3,.ptr 1 0),(6,I64 k),(7,.ptr (c+10) 0),(8,.ptr (c+11) 0),(9,I64 j)]) (fun _=>(((Sym.nil.upd 0 ⟨0,true,[dcsV D,mdsV M]⟩).upd 1 ⟨0,true,[dcsV D',mdsV M']⟩).upd (c+10) ⟨0,true,[.str x.name,I64 x.prio,hdsV x.hds,I64 x.pos]⟩).upd (c+11) ⟨0,true,[.str x'.name,I64 x'.prio,hdsV x'.hds,I64 x'.pos]⟩) (fun j n=>c+12<=n/\j<=x.hds.length/\x.hds.take j=x'.hds.take j) (fun j=>x.hds.length-j) 0 (by simp [tmLe,tm,Tm.upd]) ?_ ⟨by omega,Nat.zero_le _,rfl⟩ ?_
       ·intro j b hj
        by_cases e1:j=c+11
        ·subst e1;rw [h_same] at hj ⊢;exact hj
        rw [h_ne e1] at hj ⊢
        by_cases e2:j=c+10
        ·subst e2;rw [h_same] at hj ⊢;exact hj
        rw [h_ne e2] at hj ⊢
        repeat rw [h_ne (by omega)]
        exact hj
       rintro j n ⟨hn,hj,hej⟩
       by_cases hjl:j<x.hds.length
       ·have hdj:decide ((j:Int)<(x.hds.length:Int))=true:=by simpa using hjl
        have gj:=List.getElem?_eq_getElem hjl
        have gj':=List.getElem?_eq_getElem (l:=x'.hds) (i:=j) (by omega)
        have hwj:=w64 (n:=(j:Int)+1) (by omega) (by omega)
        have hsj:=sum_mem (f:=Hd.sz) (List.getElem_mem hjl)
        generalize x.hds[j]=y at gj hsj
        generalize x'.hds[j]'(by omega)=y' at gj'
        have hbs:Pb.St.szs y.body<Hd.sz y:=by unfold Hd.sz;omega
        have cs:=c_sameS (Pb.St.szs y.body+1) y.body y'.body (by omega) (by omega)
        have ne0:=nes6 0 1 (c+10) (c+11) (n+10) (n+11) (by omega)
        repeat' ((with_reducible first|refine wr ?_|fail)<;>try simp only [go_sem,seval,hdj,gj,gj',ne0,h_same,h_upd2,List.length_map])
        refine ⟨by and_intros<;>(repeat rw [h_ne (by omega)])<;>rfl,?_⟩
        repeat' ((with_reducible first|refine hold (p:=IW _ _ u99_36 _ _) ?_|refine wr ?_|fail)<;>try simp only [go_sem,seval,ne0,h_same,h_upd2])
        unfold Hold
        clear hdj
        by_cases q1:y.trig=y'.trig
        case neg =>
         have nq1:(y.trig != y'.trig)=true:=by simpa using q1
         repeat' ((with_reducible first|refine wr ?_|refine cpc cs ?_|fail)<;>try simp only [go_sem,seval,hwj,ne0,h_same,h_upd2,nq1])
         exact ⟨_,by rw [hF (.inr (take_ne hg hg' fun e=>take_ne gj gj' (fun e2=>by exact q1 (by rw [e2])) (by rw [e])))];exact GL.refl _ _⟩
        case pos =>
         have nq1:(y.trig != y'.trig)=false:=by simpa using q1
         by_cases q2:y.name=y'.name
         case neg =>
          have nq2:(y.name == y'.name)=false:=by simpa using q2
          repeat' ((with_reducible first|refine wr ?_|refine cpc cs ?_|fail)<;>try simp only [go_sem,seval,hwj,ne0,h_same,h_upd2,nq1,nq2])
          exact ⟨_,by rw [hF (.inr (take_ne hg hg' fun e=>take_ne gj gj' (fun e2=>by exact q2 (by rw [e2])) (by rw [e])))];exact GL.refl _ _⟩
         case pos =>
          have nq2:(y.name == y'.name)=true:=by simpa using q2
          by_cases q3:y.pos=y'.pos
          case neg =>
           have nq3:(y.pos != y'.pos)=true:=by simpa using q3
           repeat' ((with_reducible first|refine wr ?_|refine cpc cs ?_|fail)<;>try simp only [go_sem,seval,hwj,ne0,h_same,h_upd2,nq1,nq2,nq3])
           exact ⟨_,by rw [hF (.inr (take_ne hg hg' fun e=>take_ne gj gj' (fun e2=>by exact q3 (by rw [e2])) (by rw [e])))];exact GL.refl _ _⟩
          case pos =>
           have nq3:(y.pos != y'.pos)=false:=by simpa using q3
           cases q4:stsEq y.body y'.body with
           | false =>
            repeat' ((with_reducible first|refine wr ?_|refine cpc cs ?_|fail)<;>try simp only [go_sem,seval,hwj,ne0,h_same,h_upd2,nq1,nq2,nq3,q4])
            exact ⟨_,by rw [hF (.inr (take_ne hg hg' fun e=>take_ne gj gj' (fun e2=>by rw [e2,(stsEq_iff _ _).2 rfl] at q4;cases q4) (by rw [e])))];exact GL.refl _ _⟩
           | true =>
            repeat' ((with_reducible first|refine wr ?_|refine cpc cs ?_|fail)<;>try simp only [go_sem,seval,hwj,ne0,h_same,h_upd2,nq1,nq2,nq3,q4])
            exact ⟨j+1,by simp [tmLe,tm,Tm.upd],(sub_low (c:=n) (fun j0 b0 h0=>by by_cases a1:j0=c+11;omega;rw [h_ne a1] at h0;by_cases a2:j0=c+10;omega;rw [h_ne a2] at h0;by_cases a3:j0=1;omega;rw [h_ne a3] at h0;by_cases a4:j0=0;omega;rw [h_ne a4] at h0;cases h0) (fun j0 h0=>by repeat rw [h_ne (by omega)])),inv ⟨by omega,by omega,take_eq hej gj gj' (by cases y;cases y';simp only [Hd.mk.injEq] at *;exact ⟨q1,q2,(stsEq_iff _ _).1 q4,q3⟩)⟩,by omega⟩
       ·have hdj:decide ((j:Int)<(x.hds.length:Int))=false:=by simpa using hjl
        rw [List.take_of_length_le (by omega),List.take_of_length_le (by omega)] at hej
        have ne0:=nes4 0 1 (c+10) (c+11) (by omega)
        repeat' ((with_reducible first|refine wr ?_|fail)<;>try simp only [go_sem,seval,hdj,hw,ne0,h_same,h_upd2,List.length_map])
        exact ⟨k+1,by simp [tmLe,tm,Tm.upd],(sub_low (c:=c) (fun j0 b0 h0=>by by_cases a3:j0=1;omega;rw [h_ne a3] at h0;by_cases a4:j0=0;omega;rw [h_ne a4] at h0;cases h0) (fun j0 h0=>by repeat rw [h_ne (by omega)])),inv ⟨by omega,by omega,take_eq he hg hg' (by cases x;cases x';simp only [Md.mk.injEq] at *;exact ⟨h1,h2,hej,h3⟩)⟩,by omega⟩
  ·have hd:decide ((k:Int)<(M.length:Int))=false:=by simpa using hlt
   rw [List.take_of_length_le (by omega),List.take_of_length_le (by omega)] at he
   repeat' ((with_reducible first|refine wr ?_|fail)<;>try simp only [go_sem,seval,hd,List.length_map])
   exact ⟨_,by rw [hT hDD he];exact GL.refl _ _⟩
theorem c_plainE:∀ (m:Nat) (l:List Ex),Ex.szs l<m->Ex.szs l<=100000000000->PC Tryz.prog 90 [exsV l] (exsV (l.map Ex.plain)):=by
 intro m
 induction m with
 | zero=>intro l h;omega
 | succ m ih =>
 intro l hm hB
 have hl:=Ex.szs_len l
 refine PC.of mixedU isU90 (Nat.le_of_ble_eq_true rfl) (by simp [DV.nlL,DV.nl,nlL_exs]) (nlL_exs _) ?_
 show IW Tryz.prog 26 u90_1 ⟨argT _,_,_⟩ (rt [.tmp 2] _)
 repeat' ((with_reducible first|refine wr ?_|fail)<;>try simp only [go_sem,seval])
 obtain ⟨F,hF⟩:∃ F:Nat->List Ex, ∀ k,F k=(l.take k).map Ex.plain:=⟨_,fun _=>rfl⟩
 have hF0:F 0=[]:=by rw [hF];rfl
 have hFl:∀ k,(F k).length<=l.length:=fun k=>by rw [hF,List.length_map,List.length_take];omega
 refine i_loop (fun q:Nat × Option Nat=>[(0,exsV l),(3,todoV q.2 (F q.1).length),(4,I64 q.1)]) (fun q=>optH Sym.nil q.2 ⟨5,true,cellsL ((F q.1).map Ex.v)⟩)
  (fun q c=>q.1<=l.length/\(q.2=none->F q.1=[])/\(∀ i,q.2=some i->i<c)) (fun q=>l.length-q.1) (0,none)
  (by simp [tmLe,tm,Tm.upd,todoV]) (Sub.nil _) ⟨Nat.zero_le _,fun _=>hF0,(fun i hi=>by cases hi)⟩ ?_
 rintro ⟨k,o⟩ c ⟨hk,hno,ho⟩
 dsimp only at hk hno ho ⊢
 by_cases hlt:k<l.length
 ·have hd:decide ((k:Int)<(l.length:Int))=true:=by simpa using hlt
  have hg:=List.getElem?_eq_getElem hlt
  have hsx:=Ex.szs_mem (List.getElem_mem hlt)
  have hw:=w64 (n:=(k:Int)+1) (by omega) (by omega)
  have e0:F (k+1)=F k++[l[k].plain]:=by rw [hF,hF,List.take_add_one,hg,List.map_append];rfl
  have hFk:=hFl k
  generalize l[k]=x at hg hsx e0
  have hax:Ex.szs x.args<x.sz:=by cases x with|mk k v n a p=>rw [Ex.sz];show Ex.szs a<_;omega
  have hc:=ih x.args (by omega) (by omega)
  have hln:(cellsL ((F k).map Ex.v)).length=(F k).length * 5:=(cellsL_length (u:=5) (ex_unit _)).trans (by simp)
  have ne0:=nes3 c (c+1) (c+2) (by omega)
  repeat' ((with_reducible first|refine wr ?_|refine cpc hc ?_|fail)<;>try simp only [go_sem,seval,hd,hg,hw,Ex.v_w,ne0,h_same,h_upd2])
  refine k_eval (r_apptodo (cs:=cellsL ((F k).map Ex.v)) (fun e=>by rw [hno e];exact ⟨rfl,rfl⟩) (fun i hi=>by have:=ho i hi;rw [h_ne (by omega),h_ne (by omega)];exact opt_at hi) hln (by omega) (by omega) (by omega)) ?_
  simp only [go_sem,seval,hw]
  repeat' ((with_reducible first|refine wr ?_|fail)<;>try simp only [go_sem,seval,hw])
  refine ⟨(k+1,some (c+1+1)),by simp [tmLe,tm,Tm.upd,todoV,e0],?_,inv ⟨by omega,(fun h=>by cases h),(fun i hi=>by cases hi;omega)⟩,by simp only;omega⟩
  dsimp only [optH]
  rw [e0,List.map_append,cellsL_append]
  refine sub_one ?_
  cases x with|mk kk v n a p=>simp only [Ex.plain,Ex.plains_map,Ex.kind,Ex.value,Ex.name,Ex.args,Ex.pos,ex_c1]
 ·have hd:decide ((k:Int)<(l.length:Int))=false:=by simpa using hlt
  repeat' ((with_reducible first|refine wr ?_|fail)<;>try simp only [go_sem,seval,hd])
  rw [hF,List.take_of_length_le (by omega)]
  exact pc_todo1 (fun e=>by have:=hno e;rw [hF,List.take_of_length_le (by omega)] at this;rw [this];rfl) (by simp) (ex_unit _)
theorem c_plainS:∀ (m:Nat) (l:List Pb.St),Pb.St.szs l<m->Pb.St.szs l<=100000000000->PC Tryz.prog 49 [stsV l] (stsV (l.map Pb.St.plain)):=by
 intro m
 induction m with
 | zero=>intro l h;omega
 | succ m ih =>
 intro l hm hB
 have hl:=Pb.St.szs_len l
 refine PC.of mixedU isU49 (Nat.le_of_ble_eq_true rfl) (by simp [DV.nlL,DV.nl,nlL_sts]) (nlL_sts _) ?_
 show IW Tryz.prog 34 u49_1 ⟨argT _,_,_⟩ (rt [.tmp 2] _)
 repeat' ((with_reducible first|refine wr ?_|fail)<;>try simp only [go_sem,seval])
 obtain ⟨F,hF⟩:∃ F:Nat->List Pb.St, ∀ k,F k=(l.take k).map Pb.St.plain:=⟨_,fun _=>rfl⟩
 have hF0:F 0=[]:=by rw [hF];rfl
 have hFl:∀ k,(F k).length<=l.length:=fun k=>by rw [hF,List.length_map,List.length_take];omega
 refine i_loop (fun q:Nat × Option Nat=>[(0,stsV l),(3,todoV q.2 (F q.1).length),(4,I64 q.1)]) (fun q=>optH Sym.nil q.2 ⟨7,true,cellsL ((F q.1).map Pb.St.v)⟩)
  (fun q c=>q.1<=l.length/\(q.2=none->F q.1=[])/\(∀ i,q.2=some i->i<c)) (fun q=>l.length-q.1) (0,none)
  (by simp [tmLe,tm,Tm.upd,todoV]) (Sub.nil _) ⟨Nat.zero_le _,fun _=>hF0,(fun i hi=>by cases hi)⟩ ?_
 rintro ⟨k,o⟩ c ⟨hk,hno,ho⟩
 dsimp only at hk hno ho ⊢
 by_cases hlt:k<l.length
 ·have hd:decide ((k:Int)<(l.length:Int))=true:=by simpa using hlt
  have hg:=List.getElem?_eq_getElem hlt
  have hsx:=Pb.St.szs_mem (List.getElem_mem hlt)
  have hw:=w64 (n:=(k:Int)+1) (by omega) (by omega)
  have e0:F (k+1)=F k++[l[k].plain]:=by rw [hF,hF,List.take_add_one,hg,List.map_append];rfl
  have hFk:=hFl k
  generalize l[k]=x at hg hsx e0
  have hax:Ex.szs x.args<x.sz:=by cases x with|mk k n t a x y p=>rw [Pb.St.sz];show Ex.szs a<_;omega
  have htx:=x.sz_thn
  have hyx:=x.sz_els
  have hc:=c_plainE (Ex.szs x.args+1) x.args (by omega) (by omega)
  have hct:=ih x.thn (by omega) (by omega)
  have hcy:=ih x.els (by omega) (by omega)
  have hln:(cellsL ((F k).map Pb.St.v)).length=(F k).length * 7:=(cellsL_length (u:=7) (st_unit _)).trans (by simp)
  have hbn:∀ j:Nat,c<=j->optH Sym.nil o ⟨7,true,cellsL ((F k).map Pb.St.v)⟩ j=none:=fun j hj=>by rw [optH_ne (fun i hi=>by have:=ho i hi;omega)];rfl
  have ne0:=nes3 c (c+1) (c+2) (by omega)
  repeat' ((with_reducible first|refine wr ?_|refine cpc hc ?_|refine cpc hct ?_|refine cpc hcy ?_|fail)<;>try simp only [go_sem,seval,hd,hg,hw,Pb.St.v_w,ne0,h_same,h_upd2])
  refine ⟨by and_intros<;>(repeat rw [h_ne (by omega)])<;>exact hbn _ (by omega),?_⟩
  repeat' ((with_reducible first|refine wr ?_|refine cpc hc ?_|refine cpc hct ?_|refine cpc hcy ?_|fail)<;>try simp only [go_sem,seval,Pb.St.v_w,ne0,h_same,h_upd2])
  refine ⟨by and_intros<;>(repeat rw [h_ne (by omega)])<;>exact hbn _ (by omega),?_⟩
  repeat' ((with_reducible first|refine wr ?_|refine cpc hc ?_|refine cpc hct ?_|refine cpc hcy ?_|fail)<;>try simp only [go_sem,seval,Pb.St.v_w,ne0,h_same,h_upd2])
  refine ⟨by and_intros<;>(repeat rw [h_ne (by omega)])<;>exact hbn _ (by omega),?_⟩
  repeat' ((with_reducible first|refine wr ?_|refine cpc hc ?_|refine cpc hct ?_|refine cpc hcy ?_|fail)<;>try simp only [go_sem,seval,Pb.St.v_w,ne0,h_same,h_upd2])
  refine k_eval (r_apptodo (cs:=cellsL ((F k).map Pb.St.v)) (fun e=>by rw [hno e];exact ⟨rfl,rfl⟩) (fun i hi=>by have:=ho i hi;rw [h_ne (by omega),h_ne (by omega)];exact opt_at hi) hln (by omega) (by omega) (by omega)) ?_
  simp only [go_sem,seval,hw]
  repeat' ((with_reducible first|refine wr ?_|fail)<;>try simp only [go_sem,seval,hw])
  refine ⟨(k+1,some (c+1+17+1)),by simp [tmLe,tm,Tm.upd,todoV,e0],?_,inv ⟨by omega,(fun h=>by cases h),(fun i hi=>by cases hi;omega)⟩,by simp only;omega⟩
  dsimp only [optH]
  rw [e0,List.map_append,cellsL_append]
  refine sub_one ?_
  cases x with|mk kk n t a x y p=>simp only [Pb.St.plain,Ex.plains_map,Pb.St.plains_map,Pb.St.kind,Pb.St.name,Pb.St.text,Pb.St.args,Pb.St.thn,Pb.St.els,Pb.St.pos,st_c1]
 ·have hd:decide ((k:Int)<(l.length:Int))=false:=by simpa using hlt
  repeat' ((with_reducible first|refine wr ?_|fail)<;>try simp only [go_sem,seval,hd])
  rw [hF,List.take_of_length_le (by omega)]
  exact pc_todo1 (fun e=>by have:=hno e;rw [hF,List.take_of_length_le (by omega)] at this;rw [this];rfl) (by simp) (st_unit _)
theorem c_Plain31 (r:Ru) (hB:r.sz<=100000000000):PC Tryz.prog 19 [r.v] r.plain.v:=by
 refine PC.of mixedU isU19 (Nat.le_of_ble_eq_true rfl) (by simp [DV.nlL,DV.nl,nlL_dcs,nlL_mds]) (Ru.nl _) ?_
 obtain ⟨D,M⟩:=r
 have hDs:(D.map Dc.sz).sum+(M.map Md.sz).sum<=100000000000:=hB
 have hDl:D.length<=(D.map Dc.sz).sum:=sum_len fun x _=>by show 1<=1+_;omega
 have hMl:M.length<=(M.map Md.sz).sum:=sum_len fun x _=>by show 1<=1+_+_;omega
 dsimp only [Ru.v,Ru.plain]
 show IW Tryz.prog 89 u19_1 ⟨argT _,_,_⟩ (rt [.cell 2 2 true] _)
 repeat' ((with_reducible first|refine wr ?_|fail)<;>try simp only [go_sem,seval])
 obtain ⟨F,hF⟩:∃ F:Nat->List Dc, ∀ k,F k=(D.take k).map Dc.plain:=⟨_,fun _=>rfl⟩
 have hF0:F 0=[]:=by rw [hF];rfl
 have hFl:∀ k,(F k).length<=D.length:=fun k=>by rw [hF,List.length_map,List.length_take];omega
 refine i_loop (fun q:Nat × Option Nat=>[(1,.ptr 0 0),(2,.ptr 1 0),(3,.ptr 2 0),(4,I64 q.1)]) (fun q=>optH (((Sym.nil.upd 0 ⟨0,true,[dcsV D,mdsV M]⟩).upd 1 ⟨0,true,[.snil,.snil]⟩).upd 2 ⟨0,true,[todoV q.2 (F q.1).length,.snil]⟩) q.2 ⟨4,true,cellsL ((F q.1).map Dc.v)⟩)
  (fun q c=>3<=c/\q.1<=D.length/\(q.2=none->F q.1=[])/\(∀ i,q.2=some i->3<=i/\i<c)) (fun q=>D.length-q.1) (0,none)
  (by simp [tmLe,tm,Tm.upd]) (Sub.refl _) ⟨by omega,Nat.zero_le _,fun _=>hF0,(fun i hi=>by cases hi)⟩ ?_
 rintro ⟨k,o⟩ c ⟨hc,hk,hno,ho⟩
 dsimp only at hc hk hno ho ⊢
 have hbr:optH (((Sym.nil.upd 0 ⟨0,true,[dcsV D,mdsV M]⟩).upd 1 ⟨0,true,[.snil,.snil]⟩).upd 2 ⟨0,true,[todoV o (F k).length,.snil]⟩) o ⟨4,true,cellsL ((F k).map Dc.v)⟩ 0=some ⟨0,true,[dcsV D,mdsV M]⟩:=by rw [optH_ne (fun i hi=>by have:=ho i hi;omega),h_ne (by omega),h_ne (by omega),h_same]
 by_cases hlt:k<D.length
 ·have hd:decide ((k:Int)<(D.length:Int))=true:=by simpa using hlt
  have hg:=List.getElem?_eq_getElem hlt
  have hw:=w64 (n:=(k:Int)+1) (by omega) (by omega)
  have e0:F (k+1)=F k++[D[k].plain]:=by rw [hF,hF,List.take_add_one,hg,List.map_append];rfl
  have hFk:=hFl k
  generalize D[k]=x at hg e0
  have hln:(cellsL ((F k).map Dc.v)).length=(F k).length * 4:=(cellsL_length (u:=4) (dc_unit _)).trans (by simp)
  have hbx:optH (((Sym.nil.upd 0 ⟨0,true,[dcsV D,mdsV M]⟩).upd 1 ⟨0,true,[.snil,.snil]⟩).upd 2 ⟨0,true,[todoV o (F k).length,.snil]⟩) o ⟨4,true,cellsL ((F k).map Dc.v)⟩ 2=some ⟨0,true,[todoV o (F k).length,.snil]⟩:=by rw [optH_ne (fun i hi=>by have:=ho i hi;omega),h_same]
  have hb1:optH (((Sym.nil.upd 0 ⟨0,true,[dcsV D,mdsV M]⟩).upd 1 ⟨0,true,[.snil,.snil]⟩).upd 2 ⟨0,true,[todoV o (F k).length,.snil]⟩) o ⟨4,true,cellsL ((F k).map Dc.v)⟩ 1=some ⟨0,true,[.snil,.snil]⟩:=by rw [optH_ne (fun i hi=>by have:=ho i hi;omega),h_ne (by omega),h_same]
  have hbo:∀ i:Nat,o=some i->optH (((Sym.nil.upd 0 ⟨0,true,[dcsV D,mdsV M]⟩).upd 1 ⟨0,true,[.snil,.snil]⟩).upd 2 ⟨0,true,[todoV o (F k).length,.snil]⟩) o ⟨4,true,cellsL ((F k).map Dc.v)⟩ i=some ⟨4,true,cellsL ((F k).map Dc.v)⟩:=fun i hi=>by subst hi;exact h_same
  have hdx:∀ X:Hp,delO X o 2=X 2:=fun X=>delO_ne (fun i hi=>by have:=ho i hi;omega)
  generalize hHH:optH (((Sym.nil.upd 0 ⟨0,true,[dcsV D,mdsV M]⟩).upd 1 ⟨0,true,[.snil,.snil]⟩).upd 2 ⟨0,true,[todoV o (F k).length,.snil]⟩) o ⟨4,true,cellsL ((F k).map Dc.v)⟩=HH at hbr hbx hbo hb1 ⊢
  have ne0:=nes6 0 1 2 c (c+1) (c+1+1) (by omega)
  repeat' ((with_reducible first|refine wr ?_|fail)<;>try simp only [go_sem,seval,hd,hg,hw,hbr,hbx,ne0,h_same,h_upd2])
  refine k_eval (r_apptodo (cs:=cellsL ((F k).map Dc.v)) (fun e=>by rw [hno e];exact ⟨rfl,rfl⟩) (fun i hi=>by have:=ho i hi;rw [h_ne (by omega),h_ne (by omega)];exact hbo i hi) hln (by omega) (by omega) (by omega)) ?_
  simp only [go_sem,seval,hw,ne0,h_same,h_upd2,hdx,hbx]
  repeat' ((with_reducible first|refine wr ?_|fail)<;>try simp only [go_sem,seval,hw,ne0,h_same,h_upd2,hdx,hbx])
  refine ⟨(k+1,some (c+1+1)),by simp [tmLe,tm,Tm.upd],?_,inv ⟨by omega,by omega,(fun h=>by cases h),(fun i hi=>by cases hi;omega)⟩,by simp only;omega⟩
  dsimp only [optH,todoV]
  rw [e0,List.map_append,cellsL_append,List.length_append,List.length_singleton]
  intro j b hj
  by_cases e1:j=c+1+1
  ·subst e1
   rw [h_same] at hj
   rw [h_ne (by omega),h_same, <- hj]
   rfl
  rw [h_ne e1] at hj
  by_cases e2:j=2
  ·subst e2;rw [h_same] at hj ⊢;exact hj
  rw [h_ne e2] at hj ⊢
  rw [h_ne e1]
  by_cases e3:j=1
  ·subst e3
   rw [h_same] at hj
   rw [delO_ne (fun i hi=>by have:=ho i hi;omega),h_ne (by omega),h_ne (by omega),hb1]
   exact hj
  rw [h_ne e3] at hj
  by_cases e4:j=0
  ·subst e4
   rw [h_same] at hj
   rw [delO_ne (fun i hi=>by have:=ho i hi;omega),h_ne (by omega),h_ne (by omega),hbr]
   exact hj
  ·rw [h_ne e4] at hj;cases hj
 ·have hd:decide ((k:Int)<(D.length:Int))=false:=by simpa using hlt
  repeat' ((with_reducible first|refine wr ?_|fail)<;>try simp only [go_sem,seval,hd,hbr])
  refine IW.keep [1,2,3,6] [.ptr 0 0,.ptr 1 0,.ptr 2 0,I64 0] (g_fin (Hb:=((Sym.nil.upd 0 ⟨0,true,[dcsV D,mdsV M]⟩).upd 1 ⟨0,true,[.snil,.snil]⟩)) (ci:=2) (u:=4) (pre:=[]) (suf:=[.snil]) (xs:=(F k).map Dc.v) (by simp [DV.one]) (fun h=>by rw [hno h];rfl) (fun i hi=>by have:=ho i hi;exact ⟨by omega,by rw [h_ne (by omega),h_ne (by omega)];rfl⟩) (by simp) (dc_unit _)) ?_
  have hFD:F k=D.map Dc.plain:=by rw [hF,List.take_of_length_le (by omega)]
  rw [hFD]
  clear hno ho hbr hFD hlt hd hFl hF0 hF hk
  obtain ⟨G,hG⟩:∃ G:Nat->List Md, ∀ k,G k=(M.take k).map Md.plain:=⟨_,fun _=>rfl⟩
  have hG0:G 0=[]:=by rw [hG];rfl
  have hGl:∀ k,(G k).length<=M.length:=fun k=>by rw [hG,List.length_map,List.length_take];omega
  refine i_loop (fun q:Nat × Option Nat=>[(1,.ptr 0 0),(2,.ptr 1 0),(3,.ptr 2 0),(6,I64 q.1)]) (fun q=>optH (((Sym.nil.upd 0 ⟨0,true,[dcsV D,mdsV M]⟩).upd 1 ⟨0,true,[.snil,.snil]⟩).upd 2 ⟨0,true,[dcsV (D.map Dc.plain),todoV q.2 (G q.1).length]⟩) q.2 ⟨4,true,cellsL ((G q.1).map Md.v)⟩)
   (fun q c=>3<=c/\q.1<=M.length/\(q.2=none->G q.1=[])/\(∀ i,q.2=some i->3<=i/\i<c)) (fun q=>M.length-q.1) (0,none)
   (by simp [tmLe,tm,Tm.upd]) (by rw [hG0];exact Sub.refl _) ⟨hc,Nat.zero_le _,fun _=>hG0,(fun i hi=>by cases hi)⟩ ?_
  clear hc k c o
  rintro ⟨k,o⟩ c ⟨hc,hk,hno,ho⟩
  dsimp only at hc hk hno ho ⊢
  have hGk:=hGl k
  have hbr:optH (((Sym.nil.upd 0 ⟨0,true,[dcsV D,mdsV M]⟩).upd 1 ⟨0,true,[.snil,.snil]⟩).upd 2 ⟨0,true,[dcsV (D.map Dc.plain),todoV o (G k).length]⟩) o ⟨4,true,cellsL ((G k).map Md.v)⟩ 0=some ⟨0,true,[dcsV D,mdsV M]⟩:=by rw [optH_ne (fun i hi=>by have:=ho i hi;omega),h_ne (by omega),h_ne (by omega),h_same]
  have hbx:optH (((Sym.nil.upd 0 ⟨0,true,[dcsV D,mdsV M]⟩).upd 1 ⟨0,true,[.snil,.snil]⟩).upd 2 ⟨0,true,[dcsV (D.map Dc.plain),todoV o (G k).length]⟩) o ⟨4,true,cellsL ((G k).map Md.v)⟩ 2=some ⟨0,true,[dcsV (D.map Dc.plain),todoV o (G k).length]⟩:=by rw [optH_ne (fun i hi=>by have:=ho i hi;omega),h_same]
  have hb1:optH (((Sym.nil.upd 0 ⟨0,true,[dcsV D,mdsV M]⟩).upd 1 ⟨0,true,[.snil,.snil]⟩).upd 2 ⟨0,true,[dcsV (D.map Dc.plain),todoV o (G k).length]⟩) o ⟨4,true,cellsL ((G k).map Md.v)⟩ 1=some ⟨0,true,[.snil,.snil]⟩:=by rw [optH_ne (fun i hi=>by have:=ho i hi;omega),h_ne (by omega),h_same]
  have hbo:∀ i:Nat,o=some i->optH (((Sym.nil.upd 0 ⟨0,true,[dcsV D,mdsV M]⟩).upd 1 ⟨0,true,[.snil,.snil]⟩).upd 2 ⟨0,true,[dcsV (D.map Dc.plain),todoV o (G k).length]⟩) o ⟨4,true,cellsL ((G k).map Md.v)⟩ i=some ⟨4,true,cellsL ((G k).map Md.v)⟩:=fun i hi=>by subst hi;exact h_same
  have hbn:∀ j:Nat,c<=j->optH (((Sym.nil.upd 0 ⟨0,true,[dcsV D,mdsV M]⟩).upd 1 ⟨0,true,[.snil,.snil]⟩).upd 2 ⟨0,true,[dcsV (D.map Dc.plain),todoV o (G k).length]⟩) o ⟨4,true,cellsL ((G k).map Md.v)⟩ j=none:=fun j hj=>by rw [optH_ne (fun i hi=>by have:=ho i hi;omega),h_ne (by omega),h_ne (by omega),h_ne (by omega)];rfl
  have hT:(todoV o (G k).length).one=true:=by cases o<;>rfl
  have hdx:∀ X:Hp,delO X o 2=X 2:=fun X=>delO_ne (fun i hi=>by have:=ho i hi;omega)
  by_cases hlt:k<M.length
  ·have hd:decide ((k:Int)<(M.length:Int))=true:=by simpa using hlt
   have hg:=List.getElem?_eq_getElem hlt
   have hw:=w64 (n:=(k:Int)+1) (by omega) (by omega)
   have e0:G (k+1)=G k++[M[k].plain]:=by rw [hG,hG,List.take_add_one,hg,List.map_append];rfl
   have hsx:=sum_mem (f:=Md.sz) (List.getElem_mem hlt)
   generalize M[k]=x at hg hsx e0
   have hxs:(x.hds.map Hd.sz).sum<Md.sz x:=by unfold Md.sz;omega
   have hxl:x.hds.length<=(x.hds.map Hd.sz).sum:=sum_len fun x _=>by show 1<=1+_+_;omega
   have hln:(cellsL ((G k).map Md.v)).length=(G k).length * 4:=(cellsL_length (u:=4) (md_unit _)).trans (by simp)
   generalize hHH:optH (((Sym.nil.upd 0 ⟨0,true,[dcsV D,mdsV M]⟩).upd 1 ⟨0,true,[.snil,.snil]⟩).upd 2 ⟨0,true,[dcsV (D.map Dc.plain),todoV o (G k).length]⟩) o ⟨4,true,cellsL ((G k).map Md.v)⟩=HH at hbr hbx hbo hb1 hbn ⊢
   have ne0:=nes4 0 1 2 (c+13) (by omega)
   repeat' ((with_reducible first|refine wr ?_|fail)<;>try simp only [go_sem,seval,hd,hg,hw,hbr,hbx,ne0,h_same,h_upd2])
   obtain ⟨K,hK⟩:∃ K:Nat->List Hd, ∀ j,K j=(x.hds.take j).map Hd.plain:=⟨_,fun _=>rfl⟩
   have hK0:K 0=[]:=by rw [hK];rfl
   have hKl:∀ j,(K j).length<=x.hds.length:=fun j=>by rw [hK,List.length_map,List.length_take];omega
   refine i_loop (fun q:Nat × Option Nat=>[(1,.ptr 0 0),(2,.ptr 1 0),(3,.ptr 2 0),(6,I64 k),(7,.ptr (c+13) 0),(8,I64 q.1)]) (fun q=>optH (HH.upd (c+13) ⟨0,true,[.str x.name,I64 x.prio,todoV q.2 (K q.1).length,I64 0]⟩) q.2 ⟨4,true,cellsL ((K q.1).map Hd.v)⟩)
    (fun q n=>c+15<=n/\q.1<=x.hds.length/\(q.2=none->K q.1=[])/\(∀ i,q.2=some i->c+15<=i/\i<n)) (fun q=>x.hds.length-q.1) (0,none)
    (by simp [tmLe,tm,Tm.upd]) (by rw [hK0];exact Sub.refl _) ⟨Nat.le_refl _,Nat.zero_le _,fun _=>hK0,(fun i hi=>by cases hi)⟩ ?_
   rintro ⟨j,o2⟩ n ⟨hn,hj,hno2,ho2⟩
   dsimp only at hn hj hno2 ho2 ⊢
   have hKj:=hKl j
   have h2r:optH (HH.upd (c+13) ⟨0,true,[.str x.name,I64 x.prio,todoV o2 (K j).length,I64 0]⟩) o2 ⟨4,true,cellsL ((K j).map Hd.v)⟩ 0=some ⟨0,true,[dcsV D,mdsV M]⟩:=by rw [optH_ne (fun i hi=>by have:=ho2 i hi;omega),h_ne (by omega),hbr]
   have h2b:optH (HH.upd (c+13) ⟨0,true,[.str x.name,I64 x.prio,todoV o2 (K j).length,I64 0]⟩) o2 ⟨4,true,cellsL ((K j).map Hd.v)⟩ (c+13)=some ⟨0,true,[.str x.name,I64 x.prio,todoV o2 (K j).length,I64 0]⟩:=by rw [optH_ne (fun i hi=>by have:=ho2 i hi;omega),h_same]
   have h2o:∀ i:Nat,o2=some i->optH (HH.upd (c+13) ⟨0,true,[.str x.name,I64 x.prio,todoV o2 (K j).length,I64 0]⟩) o2 ⟨4,true,cellsL ((K j).map Hd.v)⟩ i=some ⟨4,true,cellsL ((K j).map Hd.v)⟩:=fun i hi=>by subst hi;exact h_same
   have h2n:∀ i:Nat,n<=i->optH (HH.upd (c+13) ⟨0,true,[.str x.name,I64 x.prio,todoV o2 (K j).length,I64 0]⟩) o2 ⟨4,true,cellsL ((K j).map Hd.v)⟩ i=none:=fun i hi=>by rw [optH_ne (fun i hi=>by have:=ho2 i hi;omega),h_ne (by omega)];exact hbn _ (by omega)
   have h2j:∀ i:Nat,i<c+13->optH (HH.upd (c+13) ⟨0,true,[.str x.name,I64 x.prio,todoV o2 (K j).length,I64 0]⟩) o2 ⟨4,true,cellsL ((K j).map Hd.v)⟩ i=HH i:=fun i hi=>by rw [optH_ne (fun i hi=>by have:=ho2 i hi;omega),h_ne (by omega)]
   have hT2:(todoV o2 (K j).length).one=true:=by cases o2<;>rfl
   have hdx2:∀ X:Hp,delO X o2 (c+13)=X (c+13):=fun X=>delO_ne (fun i hi=>by have:=ho2 i hi;omega)
   by_cases hjl:j<x.hds.length
   ·have hdj:decide ((j:Int)<(x.hds.length:Int))=true:=by simpa using hjl
    have hgj:=List.getElem?_eq_getElem hjl
    have hwj:=w64 (n:=(j:Int)+1) (by omega) (by omega)
    have k0:K (j+1)=K j++[x.hds[j].plain]:=by rw [hK,hK,List.take_add_one,hgj,List.map_append];rfl
    have hsj:=sum_mem (f:=Hd.sz) (List.getElem_mem hjl)
    generalize x.hds[j]=y at hgj hsj k0
    have hbs:Pb.St.szs y.body<Hd.sz y:=by unfold Hd.sz;omega
    have cb:=c_plainS (Pb.St.szs y.body+1) y.body (by omega) (by omega)
    have hlj:(cellsL ((K j).map Hd.v)).length=(K j).length * 4:=(cellsL_length (u:=4) (hd_unit _)).trans (by simp)
    generalize hH2:optH (HH.upd (c+13) ⟨0,true,[.str x.name,I64 x.prio,todoV o2 (K j).length,I64 0]⟩) o2 ⟨4,true,cellsL ((K j).map Hd.v)⟩=H2 at h2r h2b h2o h2n h2j ⊢
    have ne0:=nes5 0 1 2 (c+13) n (by omega)
    repeat' ((with_reducible first|refine wr ?_|refine cpc cb ?_|fail)<;>try simp only [go_sem,seval,hdj,hg,hgj,hwj,h2r,h2b,ne0,h_same,h_upd2])
    refine ⟨by and_intros<;>(repeat rw [h_ne (by omega)])<;>exact h2n _ (by omega),?_⟩
    rw [r_apptodo (cs:=cellsL ((K j).map Hd.v)) (fun e=>by rw [hno2 e];exact ⟨rfl,rfl⟩) (fun i hi=>by have:=ho2 i hi;rw [h_ne (by omega),h_ne (by omega)];exact h2o i hi) hlj (by omega) (by omega) (by omega)]
    have ne0:=nes7 0 1 2 (c+13) n (n+1+10) (n+1+14) (by omega)
    simp only [go_sem,seval,ne0,h_same,h_upd2,hdx2,h2b,hwj]
    repeat' ((with_reducible first|refine wr ?_|fail)<;>try simp only [go_sem,seval,ne0,h_same,h_upd2,hdx2,h2b,hwj])
    refine ⟨(j+1,some (n+1+14)),by simp,?_,inv ⟨by omega,by omega,(fun h=>by cases h),(fun i hi=>by cases hi;omega)⟩,by simp only;omega⟩
    dsimp only [optH,todoV]
    rw [k0,List.map_append,cellsL_append,List.length_append,List.length_singleton]
    intro i b hi
    by_cases e1:i=n+1+14
    ·subst e1
     rw [h_same] at hi
     rw [h_ne (by omega),h_same, <- hi]
     simp only [Hd.plain,Pb.St.plains_map]
     rfl
    rw [h_ne e1] at hi
    by_cases e2:i=c+13
    ·subst e2;rw [h_same] at hi ⊢;exact hi
    rw [h_ne e2] at hi ⊢
    rw [h_ne e1]
    have hic:i<c:=Classical.byContradiction fun h=>by rw [hbn i (by omega)] at hi;cases hi
    rw [delO_ne (fun i' hi'=>by have:=ho2 i' hi';omega),h_ne (by omega),h_ne (by omega),h2j i (by omega)]
    exact hi
   ·have hdj:decide ((j:Int)<(x.hds.length:Int))=false:=by simpa using hjl
    have ne0:=nes5 0 1 2 (c+13) n (by omega)
    repeat' ((with_reducible first|refine hold (p:=IW _ _ u19_32 _ _) ?_|refine wr ?_|fail)<;>try simp only [go_sem,seval,hdj,hg,h2r,h2b,ne0,h_same,h_upd2])
    unfold Hold
    have hKM:K j=x.hds.map Hd.plain:=by rw [hK,List.take_of_length_le (by omega)]
    refine IW.keep [1,2,3,6,7] [.ptr 0 0,.ptr 1 0,.ptr 2 0,I64 k,.ptr (c+13) 0] (g_fin (Hb:=HH) (ci:=c+13) (u:=4) (pre:=[.str x.name,I64 x.prio]) (suf:=[I64 0]) (xs:=(K j).map Hd.v) (by simp [DV.one]) (fun h=>by rw [hno2 h];rfl) (fun i hi=>by have:=ho2 i hi;exact ⟨by omega,hbn _ (by omega)⟩) (by simp) (hd_unit _)) ?_
    rw [hKM]
    dsimp only [List.cons_append,List.nil_append]
    show IW Tryz.prog _ _ ⟨tm [(1,.ptr 0 0),(2,.ptr 1 0),(3,.ptr 2 0),(6,I64 k),(7,.ptr (c+13) 0)],_,_⟩ _
    have ne0:=nes6 0 1 2 (c+13) n (n+1) (by omega)
    repeat' ((with_reducible first|refine wr ?_|fail)<;>try simp only [go_sem,seval,hbx,hbr,ne0,h_same,h_upd2])
    refine k_eval (r_apptodo (cs:=cellsL ((G k).map Md.v)) (fun e=>by rw [hno e];exact ⟨rfl,rfl⟩) (fun i hi=>by have:=ho i hi;rw [h_ne (by omega),h_ne (by omega)];exact hbo i hi) hln (by omega) (by omega) (by omega)) ?_
    simp only [go_sem,seval,hw,ne0,h_same,h_upd2,hdx,hbx]
    repeat' ((with_reducible first|refine wr ?_|fail)<;>try simp only [go_sem,seval,hw,ne0,h_same,h_upd2,hdx,hbx])
    refine ⟨(k+1,some (n+1)),by simp [tmLe,tm,Tm.upd],?_,inv ⟨by omega,by omega,(fun h=>by cases h),(fun i hi=>by cases hi;omega)⟩,by simp only;omega⟩
    dsimp only [optH,todoV]
    rw [e0,List.map_append,cellsL_append,List.length_append,List.length_singleton]
    intro i b hi
    by_cases e1:i=n+1
    ·subst e1
     rw [h_same] at hi
     rw [h_ne (by omega),h_same, <- hi]
     rfl
    rw [h_ne e1] at hi
    by_cases e2:i=2
    ·subst e2;rw [h_same] at hi ⊢;exact hi
    rw [h_ne e2] at hi ⊢
    rw [h_ne e1]
    by_cases e3:i=1
    ·subst e3
     rw [h_same] at hi
     rw [delO_ne (fun i hi=>by have:=ho i hi;omega),h_ne (by omega),h_ne (by omega),hb1]
     exact hi
    rw [h_ne e3] at hi
    by_cases e4:i=0
    ·subst e4
     rw [h_same] at hi
     rw [delO_ne (fun i hi=>by have:=ho i hi;omega),h_ne (by omega),h_ne (by omega),hbr]
     exact hi
    ·rw [h_ne e4] at hi;cases hi
  ·have hd:decide ((k:Int)<(M.length:Int))=false:=by simpa using hlt
   generalize hHH:optH (((Sym.nil.upd 0 ⟨0,true,[dcsV D,mdsV M]⟩).upd 1 ⟨0,true,[.snil,.snil]⟩).upd 2 ⟨0,true,[dcsV (D.map Dc.plain),todoV o (G k).length]⟩) o ⟨4,true,cellsL ((G k).map Md.v)⟩=HH at hbr hbx hbo hb1 hbn ⊢
   have ne0:=nes3 0 1 2 (by omega)
   repeat' ((with_reducible first|refine wr ?_|fail)<;>try simp only [go_sem,seval,hd,hbr,hbx,hb1,ne0,h_same,h_upd2,hT])
   refine k_eval (b_st (by rfl) (by decide) (by cases o<;>rfl)) ?_
   simp only [go_sem,seval,ne0,h_same]
   repeat' ((with_reducible first|refine wr ?_|fail)<;>try simp only [go_sem,seval,ne0,h_same])
   rw [k_rv (rv2 rfl rfl)]
   have hGM:M.map Md.plain=G k:=by rw [hG,List.take_of_length_le (by omega)]
   rw [hGM]
   exact ⟨Sym.nil,gl_ru (cc:=0) (G k) (fun _ _=>rfl) (fun _ _=>Nat.zero_le _) hno (fun i hi=>by have:=ho i hi;show (HH.upd 1 _) i=_;rw [h_ne (by omega)];exact hbo i hi) (fun j hj=>by omega)⟩
end Go.Proofs.YtnmkkggfgdfmeaaGreatDoor
set_option linter.unusedSectionVars false
namespace Go.Pb
variable [Go.Sym.Tab]
open Go.Sym
def GoodV (t:Tok):Prop:=GoodT t/\0<=t.value/\t.value<=2147483647
abbrev GoodL (l:List Tok):Prop:=∀ t∈l,GoodV t
theorem good0:GoodV tok0:=⟨⟨fun h=>by simp [tok0] at h,fun h=>by simp [tok0] at h,fun h=>by simp [tok0] at h⟩,by simp [tok0],by simp [tok0]⟩
theorem goodW (s:List UInt8):GoodV (wordT s):=by
 refine ⟨⟨fun h=>?_,fun h=>?_,fun h=>?_⟩,by simp [wordT],by simp [wordT]⟩
 all_goals simp only [wordT] at h ⊢
 all_goals (by_cases h1:isWordM s=true)
 all_goals (by_cases h2:isNameM s=true)
 all_goals (simp_all)
theorem goodN (s:List UInt8):GoodL (namedT s):=by
 intro t ht
 unfold namedT at ht
 split at ht
 ·rw [List.mem_singleton] at ht;subst ht;exact good0
 ·rename_i h
  rw [List.mem_singleton] at ht;subst ht
  exact ⟨⟨fun _=>by simpa using h,fun h=>by simp at h,fun h=>by simp at h⟩,by simp,by simp⟩
theorem goodI (n:Int):GoodL (numT n):=by
 intro t ht
 unfold numT at ht
 split at ht
 ·rw [List.mem_singleton] at ht;subst ht;exact good0
 ·rename_i h
  rw [List.mem_singleton] at ht;subst ht
  refine ⟨⟨fun h=>by simp at h,fun _=>?_,fun h=>by simp at h⟩,?_,?_⟩<;>simp only<;>omega
theorem goodS (s:List UInt8):GoodL (textT s):=by
 intro t ht
 unfold textT at ht
 split at ht
 ·rw [List.mem_singleton] at ht;subst ht;exact good0
 ·rename_i h
  rw [List.mem_singleton] at ht;subst ht
  refine ⟨⟨fun h=>by simp at h,fun h=>by simp at h,fun _=>?_⟩,by simp,by simp⟩
  simp only [isTxt,Bool.and_eq_true,decide_eq_true_eq]
  refine ⟨?_,by omega⟩
  cases hz:s.all txB with
  | true=>rfl
  | false=>exact absurd (.inl hz) h
theorem GoodL.app {a b:List Tok} (ha:GoodL a) (hb:GoodL b):GoodL (a++b):=fun t ht=>(List.mem_append.1 ht).elim (ha t) (hb t)
theorem GoodL.one {t:Tok} (h:GoodV t):GoodL [t]:=fun x hx=>by rw [List.mem_singleton] at hx;subst hx;exact h
theorem GoodL.nil:GoodL []:=fun x hx=>by cases hx
theorem GoodL.flat {α : Type} {f : α -> List Tok} {l:List α} (h:∀ x∈l,GoodL (f x)):GoodL (l.flatMap f):=fun t ht=>by
 obtain ⟨x,hx,h2⟩:=List.mem_flatMap.1 ht
 exact h x hx t h2
theorem goodO {q:Int × List Tok} (n:Int) (h:GoodL q.2):GoodL (operT q n):=by
 unfold operT;split
 ·exact ((GoodL.one (goodW _)).app h).app (GoodL.one (goodW _))
 ·exact h
theorem goodB {k v:Int} {n:List UInt8} {as1:List (Int × List Tok)} (h:∀ q∈as1,GoodL q.2):GoodL (buildT k v n as1):=by
 unfold buildT
 dsimp only
 by_cases h1:k=1
 ·rw [if_pos h1];exact goodI _
 rw [if_neg h1]
 by_cases h2:k=2
 ·rw [if_pos h2];exact goodN _
 rw [if_neg h2]
 by_cases h3:k=3
 ·rw [if_pos h3];exact GoodL.one (goodW _)
 rw [if_neg h3]
 by_cases h4:k=4
 ·rw [if_pos h4];exact GoodL.one (goodW _)
 rw [if_neg h4]
 by_cases h8:k=8
 ·rw [if_pos h8];exact GoodL.one (goodW _)
 rw [if_neg h8]
 by_cases h9:k=9
 ·rw [if_pos h9];exact GoodL.one (goodW _)
 rw [if_neg h9]
 by_cases h5:k=5
 ·rw [if_pos h5];exact (GoodL.one (goodW _)).app (goodN _)
 rw [if_neg h5]
 by_cases h6:k=6
 ·rw [if_pos h6];exact (GoodL.one (goodW _)).app (goodN _)
 rw [if_neg h6]
 by_cases h7:k=7
 ·rw [if_pos h7];exact (GoodL.one (goodW _)).app (goodN _)
 rw [if_neg h7]
 match as1,h with
 | [],_=>exact GoodL.one good0
 | [q],h =>
  dsimp only
  split
  ·exact (GoodL.one (goodW _)).app (goodO _ (h q List.mem_cons_self))
  ·exact GoodL.one good0
 | [q,r],h =>
  dsimp only
  split
  ·exact ((goodO _ (h q List.mem_cons_self)).app (GoodL.one (goodW _))).app (goodO _ (h r (List.mem_cons_of_mem _ List.mem_cons_self)))
  ·exact GoodL.one good0
 | _ :: _ :: _ :: _,_=>exact GoodL.one good0
theorem goodE:∀ e:Ex,GoodL (exT e)
 | .mk k v n a p=>by
  have ih:∀ x∈a,GoodL (exT x):=fun x hx=>goodE x
  rw [exT,exTs_map]
  exact goodB fun q hq=>by
   obtain ⟨x,hx,rfl⟩:=List.mem_map.1 hq
   exact ih x hx
theorem goodA (l:List Ex) (i:Nat):GoodL (agT l i):=by
 unfold agT
 cases h:l[i]? with
 | none=>exact GoodL.one good0
 | some e=>exact goodE e
mutual
theorem goodSt:∀ s:St,GoodL (stT s)
 | .mk k n t a x y p=>by
  have hx:=goodSts x
  have hy:∀ l,l=y->GoodL (stTs l):=fun l h=>by subst h;exact goodSts l
  have hq:∀ q,y=[q]->GoodL (stT q):=fun q h=>by subst h;exact goodSt q
  have w:∀ s,GoodL [wordT s]:=fun s=>GoodL.one (goodW s)
  unfold stT
  split
  ·exact (((goodN _).app (w _)).app (goodA _ _)).app (w _)
  split
  ·exact GoodL.one good0
  dsimp only
  split
  ·have ho:GoodL ([wordT (stmtsL.getD (k-2).toNat [])]++agT a 0++([wordT [123]]++stTs x++[wordT [125]])):=((w _).app (goodA _ _)).app (((w _).app hx).app (w _))
   match y,hy,hq with
   | [],_,_=>exact ho
   | [q],_,hq =>
    dsimp only
    split
    ·exact (ho.app (w _)).app (hq q rfl)
    ·exact (ho.app (w _)).app (((w _).app (hq q rfl)).app (w _))
   | q :: q2 :: r,hy,_=>exact (ho.app (w _)).app (((w _).app (hy _ rfl)).app (w _))
  split
  ·exact ((w _).app (goodA _ _)).app (w _)
  split
  ·exact ((((w _).app (goodS _)).app (w _)).app (goodA _ _)).app (w _)
  split
  ·exact (((w _).app (goodN _)).app (goodA _ _)).app (w _)
  split
  ·exact (((((w _).app (goodN _)).app (goodA _ _)).app (w _)).app (goodA _ _)).app (w _)
  split
  ·exact (w _).app (w _)
  ·exact ((w _).app (goodN _)).app (w _)
theorem goodSts:∀ l:List St,GoodL (stTs l)
 | []=>by rw [stTs];exact GoodL.nil
 | s :: l=>by rw [stTs];exact (goodSt s).app (goodSts l)
end
theorem goodBl (l:List St):GoodL (blT l):=((GoodL.one (goodW _)).app (goodSts l)).app (GoodL.one (goodW _))
theorem goodDc (d:Dc):GoodL (dcT d):=by
 have w:∀ s,GoodL [wordT s]:=fun s=>GoodL.one (goodW s)
 unfold dcT
 split
 ·exact GoodL.one good0
 ·dsimp only
  refine GoodL.app ?_ (w _)
  split
  ·exact (w _).app (goodN _)
  split
  ·exact (((w _).app (goodN _)).app (w _)).app (goodI _)
  ·exact ((w _).app (goodN _)).app (goodI _)
theorem goodHd (h:Hd):GoodL (hdT h):=by
 unfold hdT
 refine GoodL.app (GoodL.app ?_ ?_) (goodBl _)
 ·exact (GoodL.one (goodW _)).app (GoodL.one (goodW _))
 ·split
  ·exact goodN _
  ·exact GoodL.nil
theorem goodMd (m:Md):GoodL (mdT m):=by
 have w:∀ s,GoodL [wordT s]:=fun s=>GoodL.one (goodW s)
 unfold mdT
 exact (((((w _).app (goodN _)).app (goodI _)).app (w _)).app (GoodL.flat fun x _=>goodHd x)).app (w _)
theorem goodRu (r:Ru):GoodL (ruT r):=by
 unfold ruT
 split
 ·exact GoodL.one good0
 ·exact (GoodL.flat fun x _=>goodDc x).app (GoodL.flat fun x _=>goodMd x)
section
variable {L:List Tok} {E:Int}
theorem name_le {s:List UInt8} (h:isNameM s=true):s.length<=12:=by
 unfold isNameM at h
 simp only [Bool.and_eq_true,decide_eq_true_eq] at h
 exact h.1.1.1.2
theorem take_nm (hG:∀ t∈L,GoodT t) {s:Rd}:(takeR L E s 1).1.text.length<=12:=by
 cases h:isKR L E s 1 with
 | false=>unfold takeR;rw [if_pos h];exact Nat.zero_le _
 | true =>
  unfold takeR;rw [if_neg (by rw [h];decide)]
  exact name_le ((hG _ (peek_mem (by decide) (isK_ok h).2).1).1 (isK_ok h).2)
theorem take_tx (hG:∀ t∈L,GoodT t) {s:Rd}:(takeR L E s 4).1.text.length<=32:=by
 cases h:isKR L E s 4 with
 | false=>unfold takeR;rw [if_pos h];exact Nat.zero_le _
 | true =>
  unfold takeR;rw [if_neg (by rw [h];decide)]
  have:=(hG _ (peek_mem (by decide) (isK_ok h).2).1).2.2 (isK_ok h).2
  unfold isTxt at this
  simp only [Bool.and_eq_true,decide_eq_true_eq] at this
  exact this.2
theorem prim_sz (hG:∀ t∈L,GoodT t) {s:Rd}:(primR L E s).1.sz+13 * s.i<=13 * (primR L E s).2.i+1:=by
 have hge:=prim_ge (L:=L) (E:=E) (s:=s)
 have h2:(limR L E { s with ops:=s.ops+1 } (s.ops+1) 32 9).i=s.i:=lim_i'
 unfold primR at hge ⊢
 dsimp only at hge ⊢
 split
 ·rename_i hc
  rw [if_pos hc] at hge
  show 1+0+0+_<=_
  have:s.i<=(synR L E s).i:=hge
  show 1+0+0+13 * s.i<=13 * (synR L E s).i+1
  omega
 ·rename_i hc
  rw [if_neg hc] at hge
  split
  ·show 1+0+0+13 * s.i<=13 * (limR L E { s with ops:=s.ops+1 } (s.ops+1) 32 9).i+1
   omega
  ·have h3:(nxtR (limR L E { s with ops:=s.ops+1 } (s.ops+1) 32 9)).i=s.i+1:=by show (limR L E { s with ops:=s.ops+1 } (s.ops+1) 32 9).i+1=_;rw [h2]
   generalize nxtR (limR L E { s with ops:=s.ops+1 } (s.ops+1) 32 9)=s3 at h3
   have h4:=take_ge (L:=L) (E:=E) (s:=s3) (x:=1)
   have h5:=take_nm (L:=L) (E:=E) hG (s:=s3)
   split
   ·split
    ·show 1+(takeR L E s3 1).1.text.length+0+13 * s.i<=13 * (takeR L E s3 1).2.i+1
     omega
    ·show 1+0+0+13 * s.i<=13 * s3.i+1
     omega
   ·rename_i hk
    split
    ·show 1+0+0+13 * s.i<=13 * s3.i+1
     omega
    ·rename_i hk3
     have h1k:isKR L E s 1=true:=by
      cases hz:isKR L E s 1 with
      | true=>rfl
      | false =>
       refine absurd ⟨by omega,?_,hz⟩ hc
       cases hy:isKR L E s 3 with
       | false=>rfl
       | true=>exact absurd (isK_ok hy).2 hk3
     have:=name_le ((hG _ (peek_mem (by decide) (isK_ok h1k).2).1).1 (isK_ok h1k).2)
     show 1+(peekR L E s).text.length+0+13 * s.i<=13 * s3.i+1
     omega
theorem EZ.all (hG:∀ t∈L,GoodT t):∀ f:Nat,(∀ n s r,binR' L E f n s=some r->r.1.sz+13 * s.i<=13 * r.2.i+1)/\(∀ n e s r,lopR' L E f n e s=some r->r.1.sz+13 * s.i<=13 * r.2.i+e.sz)/\(∀ s r,unR' L E f s=some r->r.1.sz+13 * s.i<=13 * r.2.i+1)
 | 0=>⟨fun n s r h=>by simp [binR'] at h,fun n e s r h=>by simp [lopR'] at h,fun s r h=>by simp [unR'] at h⟩
 | f+1=>by
  obtain ⟨i1,i2,i3⟩:=EZ.all hG f
  refine ⟨fun n s r h=>?_,fun n e s r h=>?_,fun s r h=>?_⟩
  ·unfold binR' at h
   split at h
   ·exact i3 _ _ h
   ·split at h
    ·cases h
    ·rename_i hb
     have h1:=i1 _ _ _ hb
     have h2:=i2 _ _ _ _ h
     dsimp only at h1
     omega
  ·unfold lopR' at h
   dsimp only at h
   split at h
   ·cases h;dsimp only;omega
   ·split at h
    ·cases h
    ·rename_i x s1 hb
     have h1:=i1 _ _ _ hb
     have h1:x.sz+13 * (s.i+1)<=13 * s1.i+1:=h1
     have h3:(Ex.mk (12+amgR L E s signsL) 0 [] [e,x] (peekR L E s).pos).sz=1+e.sz+x.sz:=by rw [Ex.sz,Ex.szs,Ex.szs,Ex.szs];simp;omega
     split at h
     ·cases h
      rw [h3]
      show 1+e.sz+x.sz+13 * s.i<=13 * s1.i+e.sz
      omega
     ·have h2:=i2 _ _ _ _ h
      rw [h3] at h2
      omega
  ·unfold unR' at h
   dsimp only at h
   split at h
   ·cases h;exact prim_sz hG
   ·split at h
    ·cases h
     show 1+0+0+13 * s.i<=13 * (limR L E s (s.par+1) 16 50).i+1
     rw [lim_i'];omega
    ·rename_i hl
     have hl:okR (limR L E s (s.par+1) 16 50)=true:=by simpa using hl
     obtain ⟨-, -,h3⟩:=lim_ok (by decide) hl
     rw [h3] at h
     split at h
     ·split at h
      ·cases h
      ·rename_i e s3 hb
       cases h
       have h1:=i1 _ _ _ hb
       have h1:e.sz+13 * (s.i+1)<=13 * s3.i+1:=h1
       have h2:=exp_ge (L:=L) (E:=E) (s:=s3) (x:=[41])
       show e.sz+13 * s.i<=13 * (expR L E s3 [41]).i+1
       omega
     ·split at h
      ·cases h
      ·rename_i e s3 hb
       cases h
       have h1:=i3 _ _ hb
       have h1:e.sz+13 * (s.i+1)<=13 * s3.i+1:=h1
       have h4:(Ex.mk (10+amgR L E s preL) 0 [] [e] (peekR L E s).pos).sz=1+e.sz:=by rw [Ex.sz,Ex.szs,Ex.szs];simp
       rw [h4]
       show 1+e.sz+13 * s.i<=13 * s3.i+1
       omega
theorem expn_sz (hG:∀ t∈L,GoodT t) {f:Nat} {s:Rd} {r:Ex × Rd} (h:expnR L E f s=some r):r.1.sz+13 * s.i<=13 * r.2.i+1:=(EZ.all hG f).1 1 { s with ops:=0,par:=0 } r h
theorem sz_st (k p:Int) (n t:List UInt8) (a:List Ex) (x y:List St):(St.mk k n t a x y p).sz=1+n.length+t.length+Ex.szs a+St.szs x+St.szs y:=by rw [St.sz]
theorem tail_sz (hG:∀ t∈L,GoodT t) {f:Nat} {k p:Int} {s:Rd} {r:St × Rd} (h:tailR L E f k p s=some r):r.1.sz+100 * s.i<=100 * r.2.i+40:=by
 have t1:=take_nm (L:=L) (E:=E) hG (s:=s)
 have t4:=take_tx (L:=L) (E:=E) hG (s:=s)
 have g1:=take_ge (L:=L) (E:=E) (s:=s) (x:=1)
 have g4:=take_ge (L:=L) (E:=E) (s:=s) (x:=4)
 unfold tailR at h
 dsimp only at h
 split at h
 ·split at h
  ·cases h
  ·rename_i e s1 he
   cases h
   have h1:=expn_sz hG he
   have h2:=exp_ge (L:=L) (E:=E) (s:=s1) (x:=[59])
   rw [sz_st,Ex.szs,Ex.szs,St.szs]
   simp only [List.length_nil] at h1 ⊢
   omega
 split at h
 ·split at h
  ·cases h
  ·rename_i e s1 he
   cases h
   have h1:=expn_sz hG he
   have h2:=exp_ge (L:=L) (E:=E) (s:=s1) (x:=[59])
   have h3:=exp_ge (L:=L) (E:=E) (s:=(takeR L E s 4).2) (x:=[44])
   rw [sz_st,Ex.szs,Ex.szs,St.szs]
   simp only [List.length_nil] at h1 ⊢
   omega
 split at h
 ·cases h
  have h2:=exp_ge (L:=L) (E:=E) (s:=s) (x:=[59])
  rw [sz_st,Ex.szs,St.szs]
  simp only [List.length_nil]
  omega
 split at h
 ·split at h
  ·cases h
  ·rename_i e s1 he
   have h1:=expn_sz hG he
   split at h
   ·split at h
    ·cases h
    ·rename_i e2 s2 he2
     cases h
     have h4:=expn_sz hG he2
     have h2:=exp_ge (L:=L) (E:=E) (s:=s2) (x:=[59])
     have h3:=exp_ge (L:=L) (E:=E) (s:=s1) (x:=[44])
     rw [sz_st,Ex.szs,Ex.szs,Ex.szs,St.szs]
     simp only [List.length_nil] at h1 h4 ⊢
     omega
   ·cases h
    have h2:=exp_ge (L:=L) (E:=E) (s:=s1) (x:=[59])
    rw [sz_st,Ex.szs,Ex.szs,St.szs]
    simp only [List.length_nil] at h1 ⊢
    omega
 ·cases h
  have h2:=exp_ge (L:=L) (E:=E) (s:=(takeR L E s 1).2) (x:=[59])
  rw [sz_st,Ex.szs,St.szs]
  simp only [List.length_nil]
  omega
theorem szs_app:∀ (l:List St) (x:St),St.szs (l++[x])=St.szs l+x.sz
 | [],x=>by simp [St.szs]
 | a :: l,x=>by rw [List.cons_append,St.szs,St.szs,szs_app l x];omega
theorem SZ.all (hG:∀ t∈L,GoodT t):∀ f:Nat,(∀ d s r,blkR' L E f d s=some r->St.szs r.1+100 * s.i<=100 * r.2.i+40) /\
  (∀ d l s r,blpR' L E f d l s=some r->St.szs r.1+100 * s.i<=100 * r.2.i+St.szs l+40/\(okR s=false->St.szs r.1<=St.szs l)) /\
  (∀ d s r,stR' L E f d s=some r->r.1.sz+100 * s.i<=100 * r.2.i+40/\(r.1.sz+100 * s.i<=100 * r.2.i\/okR r.2=false/\r.1.sz<=40)/\s.i<=r.2.i) /\
  (∀ d s r,othR' L E f d s=some r->St.szs r.1+100 * s.i<=100 * r.2.i+40)
 | 0=>⟨fun d s r h=>by simp [blkR'] at h,fun d l s r h=>by simp [blpR'] at h,fun d s r h=>by simp [stR'] at h,fun d s r h=>by simp [othR'] at h⟩
 | f+1=>by
  obtain ⟨i1,i2,i3,i4⟩:=SZ.all hG f
  refine ⟨fun d s r h=>?_,fun d l s r h=>?_,fun d s r h=>?_,fun d s r h=>?_⟩
  ·unfold blkR' at h
   have h1:=(i2 _ _ _ _ h).1
   have h2:=exp_ge (L:=L) (E:=E) (s:=s) (x:=[123])
   rw [St.szs] at h1
   omega
  ·unfold blpR' at h
   split at h
   ·rename_i hc
    refine ⟨?_,fun h0=>by rw [h0] at hc;cases hc.1⟩
    split at h
    ·cases h
     show St.szs []+100 * s.i<=100 * (synR L E s).i+St.szs l+40
     rw [syn_i,St.szs];omega
    ·split at h
     ·cases h
     ·rename_i x s1 he
      obtain ⟨h1,h2⟩:=i2 _ _ _ _ h
      obtain ⟨h3,h4,h5⟩:=i3 _ _ _ he
      rw [lim_i'] at h3 h4 h5
      rw [szs_app] at h1 h2
      dsimp only at h3 h4 h5
      rcases h4 with h4|⟨h4,h6⟩
      ·omega
      ·have h7:=h2 h4
       have h8:s1.i<=r.2.i:=by
        obtain ⟨N,hN⟩:=(ST.all (L:=L) (E:=E) _).2 d (l++[x]) s1 (Nat.le_refl _)
        obtain ⟨⟨M,hM⟩,hg⟩:=hN
        have h9:okR s1=false:=h4
        have hfr:Blp' L E d (l++[x]) s1 (l++[x],expR L E s1 [125]):=Blp'.stop (by rw [h9];simp)
        cases f with
        | zero=>simp [blpR'] at h
        | succ f =>
         rw [blpR',if_neg (by rw [h9];simp)] at h
         cases h
         exact exp_ge
       omega
   ·rename_i hc
    cases h
    have h2:=exp_ge (L:=L) (E:=E) (s:=s) (x:=[125])
    exact ⟨by dsimp only;omega,fun _=>Nat.le_refl _⟩
  ·have hst:=(ST.all (L:=L) (E:=E) (L.length-s.i)).1 d s (Nat.le_refl _)
   unfold stR' at h
   dsimp only at h
   split at h
   ·rename_i hl
    cases h
    have e1:St0.sz=1:=by unfold St0;rw [sz_st,Ex.szs,St.szs];rfl
    refine ⟨?_,.inr ⟨hl,by show St0.sz<=40;omega⟩,?_⟩
    ·show St0.sz+100 * s.i<=100 * (limR L E s d 8 50).i+40
     rw [lim_i'];omega
    ·show s.i<=(limR L E s d 8 50).i
     rw [lim_i'];exact Nat.le_refl _
   rename_i hl
   have hl:okR (limR L E s d 8 50)=true:=by simpa using hl
   obtain ⟨hs,hd,hle⟩:=lim_ok (by decide) hl
   rw [hle] at h
   split at h
   ·split at h
    ·cases h
    ·rename_i e s1 he
     cases h
     have h1:=expn_sz hG he
     have h2:=exp_ge (L:=L) (E:=E) (s:=s1) (x:=[59])
     have h3:=exp_ge (L:=L) (E:=E) (s:=(takeR L E s 1).2) (x:=[61])
     have h4:=take_ge (L:=L) (E:=E) (s:=s) (x:=1)
     have h5:=take_nm (L:=L) (E:=E) hG (s:=s)
     have hsz:(St.mk 1 (takeR L E s 1).1.text [] [e] [] [] (peekR L E s).pos).sz=1+(takeR L E s 1).1.text.length+e.sz:=by
      rw [sz_st,Ex.szs,Ex.szs,St.szs];simp
     rw [hsz]
     dsimp only at h1 ⊢
     refine ⟨by omega,?_,by omega⟩
     by_cases ht:isKR L E s 1=true
     ·have h6:(takeR L E s 1).2.i=s.i+1:=by unfold takeR;rw [if_neg (by rw [ht];decide)];rfl
      exact .inl (by omega)
     ·have ht:isKR L E s 1=false:=by simpa using ht
      have h6:(takeR L E s 1).2=synR L E s:=by unfold takeR;rw [if_pos ht]
      by_cases hp:1<=(expR L E s1 [59]).i-s.i
      ·exact .inl (by omega)
      ·refine .inr ⟨?_,by omega⟩
       cases hz:okR (expR L E s1 [59]) with
       | false=>rfl
       | true =>
        have h7:=(exp_ok hz).2
        have h8:(expR L E s1 [59]).i=s1.i+1:=by rw [h7];rfl
        omega
   ·rename_i hk
    obtain ⟨-,hi, -,hk18⟩:=amg_nn (show 0<=amgR L E s stmtsL by omega)
    have hn:(nxtR s).i=s.i+1:=rfl
    split at h
    ·split at h
     ·cases h
     ·rename_i e s2 he
      split at h
      ·cases h
      ·rename_i t s3 ht
       have h1:=expn_sz hG he
       have h2:=i1 _ _ _ ht
       rw [hn] at h1
       dsimp only at h1 h2
       split at h
       ·split at h
        ·cases h
        ·rename_i o s4 ho
         cases h
         have h3:=i4 _ _ _ ho
         have h3:St.szs o+100 * (s3.i+1)<=100 * s4.i+40:=h3
         have hsz:(St.mk 2 [] [] [e] t o (peekR L E s).pos).sz=1+e.sz+St.szs t+St.szs o:=by
          rw [sz_st,Ex.szs,Ex.szs];simp
         rw [hsz]
         dsimp only
         exact ⟨by omega,.inl (by omega),by omega⟩
       ·cases h
        have hsz:(St.mk (2+amgR L E s stmtsL) [] [] [e] t [] (peekR L E s).pos).sz=1+e.sz+St.szs t:=by
         rw [sz_st,Ex.szs,Ex.szs,St.szs];simp
        rw [hsz]
        dsimp only
        exact ⟨by omega,.inl (by omega),by omega⟩
    ·have h1:=tail_sz hG h
     rw [hn] at h1
     exact ⟨by omega,.inl (by omega),by omega⟩
  ·unfold othR' at h
   split at h
   ·split at h
    ·cases h
    ·rename_i x s1 he
     cases h
     have h1:=(i3 _ _ _ he).1
     rw [St.szs,St.szs]
     dsimp only at h1 ⊢
     omega
   ·exact i1 _ _ _ h
end
end Go.Pb
namespace Go.Pb
variable [Go.Sym.Tab]
open Go.Sym
section
variable {L:List Tok} {E:Int}
theorem dcl_sz (hG:∀ t∈L,GoodT t) {k:Int} {s:Rd}:(dclR L E k s).1.sz<=13:=by
 have h:=take_nm (L:=L) (E:=E) hG (s:=nxtR s)
 unfold dclR Dc.sz
 dsimp only
 split
 ·dsimp only;omega
 ·dsimp only;omega
theorem sum_app {α : Type} (f : α -> Nat) (l:List α) (x : α):((l++[x]).map f).sum=(l.map f).sum+f x:=by simp
theorem mlp_sz (hG:∀ t∈L,GoodT t):∀ (f:Nat) (l:List Hd) (s:Rd) (r:List Hd × Rd),mlpR L E f l s=some r->(r.1.map Hd.sz).sum+100 * s.i<=100 * r.2.i+(l.map Hd.sz).sum
 | 0,l,s,r,h=>by simp [mlpR] at h
 | f+1,l,s,r,h=>by
  unfold mlpR at h
  dsimp only at h
  split at h
  ·split at h
   ·cases h
    show (l.map Hd.sz).sum+100 * s.i<=100 * (synR L E s).i+_
    rw [syn_i];omega
   ·have h1:(limR L E s ((l.length:Int)+1) 32 9).i=s.i:=lim_i'
    generalize limR L E s ((l.length:Int)+1) 32 9=s1 at h h1
    split at h
    ·cases h
     have h2:=exp_ge (L:=L) (E:=E) (s:=s1) (x:=[111,110])
     show (l.map Hd.sz).sum+100 * s.i<=100 * (synR L E (expR L E s1 [111,110])).i+_
     rw [syn_i];omega
    ·rename_i hk
     obtain ⟨hok,hi, -⟩:=amg_nn (show 0<=amgR L E (expR L E s1 [111,110]) trigsL by omega)
     have h3:(expR L E s1 [111,110]).i=s1.i+1:=by rw [(exp_ok hok).2];rfl
     generalize expR L E s1 [111,110]=s2 at h hk h3
     have h4:=take_ge (L:=L) (E:=E) (s:=nxtR s2) (x:=1)
     have h5:=take_nm (L:=L) (E:=E) hG (s:=nxtR s2)
     have h6:(nxtR s2).i=s2.i+1:=rfl
     split at h
     ·cases h
     ·rename_i b s5 hb
      have h7:=(SZ.all hG f).1 _ _ _ hb
      have h8:=mlp_sz hG f _ _ _ h
      rw [sum_app] at h8
      have h9:s2.i+1<=(if 2<=amgR L E s2 trigsL then (takeR L E (nxtR s2) 1).2 else nxtR s2).i:=by
       split
       ·omega
       ·omega
      have h10:(if 2<=amgR L E s2 trigsL then (takeR L E (nxtR s2) 1).1.text else []).length<=12:=by
       split
       ·exact h5
       ·exact Nat.zero_le _
      have h11:Hd.sz ⟨1+amgR L E s2 trigsL,if 2<=amgR L E s2 trigsL then (takeR L E (nxtR s2) 1).1.text else [],b,(peekR L E s1).pos⟩<=13+St.szs b:=by
       unfold Hd.sz;dsimp only;omega
      dsimp only at h7 h8
      omega
  ·cases h
   have h2:=exp_ge (L:=L) (E:=E) (s:=s) (x:=[125])
   dsimp only;omega
theorem mod_sz (hG:∀ t∈L,GoodT t) {f:Nat} {s:Rd} {r:Md × Rd} (h:modR L E f s=some r) (hm:isR L E s [109,111,100,101]=true):r.1.sz+100 * s.i<=100 * r.2.i:=by
 unfold modR at h
 dsimp only at h
 split at h
 ·cases h
 ·rename_i l s3 hml
  cases h
  have h1:=mlp_sz hG _ _ _ _ hml
  have h2:(expR L E s [109,111,100,101]).i=s.i+1:=by unfold expR;rw [if_neg (by rw [hm];decide)];rfl
  generalize expR L E s [109,111,100,101]=s1 at h1 h2 ⊢
  have h3:=take_nm (L:=L) (E:=E) hG (s:=s1)
  have h4:=take_ge (L:=L) (E:=E) (s:=s1) (x:=1)
  have h5:=take_ge (L:=L) (E:=E) (s:=(takeR L E s1 1).2) (x:=3)
  have h6:=exp_ge (L:=L) (E:=E) (s:=(takeR L E (takeR L E s1 1).2 3).2) (x:=[123])
  unfold Md.sz
  dsimp only at h1 ⊢
  simp only [List.map_nil,List.sum_nil] at h1
  omega
theorem rld_sz (hG:∀ t∈L,GoodT t):∀ (f:Nat) (l:List Dc) (s:Rd) (r:List Dc × Rd),rlpD L E f l s=some r->(r.1.map Dc.sz).sum+100 * s.i<=100 * r.2.i+(l.map Dc.sz).sum
 | 0,l,s,r,h=>by simp [rlpD] at h
 | f+1,l,s,r,h=>by
  unfold rlpD at h
  dsimp only at h
  split at h
  ·cases h;dsimp only;omega
  ·have h1:(limR L E s ((l.length:Int)+1) 128 9).i=s.i:=lim_i'
   split at h
   ·have h2:=rld_sz hG f _ _ _ h
    rw [sum_app] at h2
    have h3:=dcl_sz (L:=L) (E:=E) hG (k:=amgR L E s declsL) (s:=limR L E s ((l.length:Int)+1) 128 9)
    have h4:=dcl_ge (L:=L) (E:=E) (k:=amgR L E s declsL) (s:=limR L E s ((l.length:Int)+1) 128 9)
    omega
   ·have h2:=rld_sz hG f _ _ _ h
    omega
theorem rlm_sz (hG:∀ t∈L,GoodT t):∀ (f:Nat) (l:List Md) (s:Rd) (r:List Md × Rd),rlpM L E f l s=some r->(r.1.map Md.sz).sum+100 * s.i<=100 * r.2.i+(l.map Md.sz).sum
 | 0,l,s,r,h=>by simp [rlpM] at h
 | f+1,l,s,r,h=>by
  unfold rlpM at h
  dsimp only at h
  split at h
  ·split at h
   ·cases h
    show (l.map Md.sz).sum+100 * s.i<=100 * (synR L E s).i+_
    rw [syn_i];omega
   ·rename_i hm
    have hm:isR L E s [109,111,100,101]=true:=by simpa using hm
    split at h
    ·rename_i hl
     have e0:=(lim_ok (by decide) hl).2.2
     rw [e0] at h
     split at h
     ·cases h
     ·rename_i m s2 hmd
      have h1:=mod_sz hG hmd hm
      have h2:=rlm_sz hG f _ _ _ h
      rw [sum_app] at h2
      dsimp only at h1
      omega
    ·have h1:(limR L E s ((l.length:Int)+1) 16 9).i=s.i:=lim_i'
     have h2:=rlm_sz hG f _ _ _ h
     omega
  ·cases h;dsimp only;omega
theorem rul_sz (hG:∀ t∈L,GoodT t) {f:Nat} {s:Rd} {r:Ru × Rd} (h:rulR L E f s=some r) (hi:s.i<=L.length):r.1.sz<=100 * L.length:=by
 unfold rulR at h
 split at h
 ·cases h
 ·rename_i d s1 hd
  split at h
  ·cases h
  ·rename_i m s2 hm
   cases h
   have h1:=rld_sz hG _ _ _ _ hd
   have h2:=rlm_sz hG _ _ _ _ hm
   have h3:=rlm_i _ _ _ _ hm (rld_i _ _ _ _ hd hi)
   unfold Ru.sz
   simp only [List.map_nil,List.sum_nil] at h1 h2 h3 ⊢
   omega
end
theorem rulF_sz {L:List Tok} {E:Int} (hG:∀ t∈L,GoodT t):(rulF L E).1.sz<=100 * L.length:=by
 obtain ⟨f,hf⟩:=(rulF_e L E).get
 exact rul_sz hG hf (Nat.zero_le _)
mutual
theorem Ex.plain_sz:∀ e:Ex,e.plain.sz=e.sz
 | .mk k v n a p=>by rw [Ex.plain,Ex.sz,Ex.sz,Ex.plains_sz a]
theorem Ex.plains_sz:∀ l:List Ex,Ex.szs (Ex.plains l)=Ex.szs l
 | []=>rfl
 | e :: l=>by rw [Ex.plains,Ex.szs,Ex.szs,Ex.plain_sz e,Ex.plains_sz l]
end
mutual
theorem St.plain_sz:∀ e:St,e.plain.sz=e.sz
 | .mk k n t a x y p=>by rw [St.plain,St.sz,St.sz,Ex.plains_sz a,St.plains_sz x,St.plains_sz y]
theorem St.plains_sz:∀ l:List St,St.szs (St.plains l)=St.szs l
 | []=>rfl
 | e :: l=>by rw [St.plains,St.szs,St.szs,St.plain_sz e,St.plains_sz l]
end
theorem Md.plain_sz (m:Md):m.plain.sz=m.sz:=by
 unfold Md.sz Md.plain
 dsimp only
 rw [List.map_map]
 congr 2
 refine List.map_congr_left fun h _=>?_
 show Hd.sz h.plain=Hd.sz h
 unfold Hd.sz Hd.plain
 dsimp only
 rw [St.plains_sz]
theorem Ru.plain_sz (r:Ru):r.plain.sz=r.sz:=by
 unfold Ru.sz Ru.plain
 dsimp only
 rw [List.map_map,List.map_map]
 congr 2
 exact List.map_congr_left fun m _=>Md.plain_sz m
def vd31 (r:Ru):Bool:=okR (rulF (ruT r) 0).2 && @decide ((rulF (ruT r) 0).1.plain=r.plain) (Classical.propDecidable _)
end Go.Pb
namespace Go.Proofs.YtnmkkggfgdfmeaaGreatDoor
open Go.Eng (IC IOper DReg IFn IsFn)
open Go.Sym Go.Pb
theorem c_ValidR31 (r:Ru) (hB:r.sz<4000000):PC Tryz.prog 59 [r.v] (.bool (vd31 r)):=by
 refine PC.of mixedU isU59 (Nat.le_of_ble_eq_true rfl) (by simp [DV.nlL,DV.nl,nlL_dcs,nlL_mds]) rfl ?_
 have hg:=goodRu r
 have hGT:∀ t∈ruT r,GoodT t:=fun t ht=>(hg t ht).1
 have hval:∀ t∈ruT r,0<=t.value/\t.value<=9223372036854775807:=fun t ht=>by have:=(hg t ht).2;omega
 obtain ⟨l1,l2⟩:=ruT_len r
 have hsz:=rulF_sz (E:=0) hGT
 have ht:=c_rulesT r hB (by omega)
 have hp:=c_Plain31 r (by omega)
 obtain ⟨f,hf⟩:=(rulF_e (ruT r) 0).get
 have hr:=c_rules (ruT r) 0 (by omega) hval f rd0 _ hf (Nat.zero_le _)
 have hv:vd31 r=(okR (rulF (ruT r) 0).2 && ruEq (rulF (ruT r) 0).1.plain r.plain):=rfl
 rw [hv]
 have hpo:=c_Plain31 (rulF (ruT r) 0).1 (by omega)
 have hps:(rulF (ruT r) 0).1.plain.sz<=100000000000:=by rw [Ru.plain_sz];omega
 have hsm:=c_Same31 (rulF (ruT r) 0).1.plain r.plain hps
 generalize rulF (ruT r) 0=w at hr hpo hsm hsz ⊢
 generalize hL:ruT r=L at ht hr
 show IW Tryz.prog 20 u59_1 ⟨argT _,_,_⟩ (rt [.tmp 2] _)
 repeat' ((with_reducible first|refine wr ?_|refine cpc ht ?_|fail)<;>try simp only [go_sem,seval])
 refine AC.call (hr _ _ 1 rfl (by decide)) ?_
 rintro v H' c2 ⟨rfl,rfl⟩ hc2
 dsimp only at hc2 ⊢
 have ne0:=nes3 0 1 c2 (by omega)
 simp only [go_sem,seval,ne0,h_same,h_upd2]
 repeat' ((with_reducible first|refine wr ?_|fail)<;>try simp only [go_sem,seval,ne0,h_same,h_upd2])
 refine AC.call (c_rdok L 0 w.2 _ _ 1 (by rw [h_ne (by omega)];exact h_same) (by omega)) ?_
 rintro v H' c3 ⟨rfl,rfl⟩ hc3
 cases hok:okR w.2 with
 | false =>
  simp only [go_sem,seval,hok,ne0,h_same,h_upd2]
  repeat' ((with_reducible first|refine wr ?_|fail)<;>try simp only [go_sem,seval,hok,ne0,h_same,h_upd2])
  refine ⟨by repeat rw [h_ne (by omega)]<;>rfl,?_⟩
  repeat' ((with_reducible first|refine wr ?_|fail)<;>try simp only [go_sem,seval,hok,ne0,h_same,h_upd2])
  exact ⟨_,GL.refl _ _⟩
 | true =>
  simp only [go_sem,seval,hok,ne0,h_same,h_upd2]
  repeat' ((with_reducible first|refine wr ?_|refine cpc hpo ?_|refine cpc hp ?_|refine cpc hsm ?_|fail)<;>try simp only [go_sem,seval,hok,ne0,h_same,h_upd2])
  refine ⟨by and_intros<;>(repeat rw [h_ne (by omega)])<;>rfl,?_⟩
  repeat' ((with_reducible first|refine wr ?_|refine cpc hpo ?_|refine cpc hp ?_|refine cpc hsm ?_|fail)<;>try simp only [go_sem,seval,hok,ne0,h_same,h_upd2])
  exact ⟨_,GL.refl _ _⟩
end Go.Proofs.YtnmkkggfgdfmeaaGreatDoor
set_option maxHeartbeats 4000000
namespace Go.Proofs.YtnmkkggfgdfmeaaGreatDoor
open Go.Eng (IC IOper DReg IFn IsFn)
open Go.Sym
section
abbrev u95_8:IC:=qE [oI 5 1] [1,2,3]
abbrev u95_11:IC:=qE [oI 5 2] [1,2,3]
abbrev u95_14:IC:=qS [oI 2 0,oI 3 0,oV 4 (.bool false)] .ret []
abbrev u95_13:IC:=qK u95_14 .skip (.t 23) [1,2,3,5,23]
abbrev u95_12:IC:=qS [oF 24 1 0,oL 25 24,oK 26 25 .lss 1,oM 27 26,hF 28 1 0 27,hL 29 28 27,hK 30 29 27 .gtr 24,oO 31 27 30,oM 23 31] u95_13 [1,2,3,5]
abbrev u95_10:IC:=qK u95_11 u95_12 (.t 20) [1,2,3,5,20]
abbrev u95_9:IC:=qS [oM 21 6,oK 22 21 .lss 6,oM 20 22] u95_10 [1,2,3,5,6]
abbrev u95_7:IC:=qK u95_8 u95_9 (.t 17) [1,2,3,5,6,17]
abbrev u95_6:IC:=qS [oM 18 6,oK 19 18 .eql 6,oM 17 19] u95_7 [1,2,3,5,6]
abbrev u95_5:IC:=qJ u95_6 0 [1,2,3,5,6]
abbrev u95_4:IC:=qS [oF 14 1 0,oL 15 14,oC 16 127 [.t 15],oM 6 16] u95_5 [1,2,3,5]
abbrev u95_19:IC:=qE [oF 43 1 2,oL 44 43,oC 45 121 [.t 44],oM 7 45] [1,2,3,5]
abbrev u95_18:IC:=qK u95_19 .skip (.t 42) [1,2,3,5,7,42]
abbrev u95_17:IC:=qS [oF 35 1 0,oL 36 35,oK 37 36 .eql 2,oM 38 37,hF 39 1 0 38,hL 40 39 38,⟨some 41,.call 128 [.t 40],some (38,false)⟩,oO 42 38 41] u95_18 [1,2,3,5,7]
abbrev u95_24:IC:=qS [oI 2 0,oI 3 0,oV 4 (.bool false)] .ret []
abbrev u95_23:IC:=qK u95_24 .skip (.t 76) [1,2,3,5,76]
abbrev u95_22:IC:=qS [oF 64 1 3,oL 65 64,oH 66 65,oM 67 5,oB 68 66 67 .neq,oM 69 68,hM 70 7 69,oR 71 (.un .not (.t 70)) 69,oO 72 69 71,oM 73 72,hM 74 8 73,oR 75 (.un .not (.t 74)) 73,oO 76 73 75] u95_23 [1,2,3,5,7,8]
abbrev u95_28:IC:=qS [oI 2 1,oI 3 0,oV 4 (.bool true)] .ret []
abbrev u95_27:IC:=qK u95_28 .skip (.t 78) [1,2,3,5,78]
abbrev u95_26:IC:=qS [oM 77 5,oK 78 77 .eql 0] u95_27 [1,2,3,5]
abbrev u95_40:IC:=qS [oI 2 0,oI 3 0,oV 4 (.bool false)] .ret []
abbrev u95_39:IC:=qK u95_40 .skip (.t 94) [1,2,3,5,9,11,12,80,81,82,94]
abbrev u95_38:IC:=qS [oM 93 13,oY 94 93] u95_39 [1,2,3,5,9,11,12,13,80,81,82]
abbrev u95_44:IC:=qE [oM 98 12,oK 99 98 .add 1,oM 12 99] [1,2,3,5,11,12,80,81,82]
abbrev u95_43:IC:=qK u95_44 .skip (.t 97) [1,2,3,5,11,12,80,81,82,97]
abbrev u95_42:IC:=qS [oD 95 1 5,oM 96 9,oC 97 129 [.t 95,.t 96]] u95_43 [1,2,3,5,9,11,12,80,81,82]
abbrev u95_45:IC:=qE [oM 100 2,oM 101 11,oB 102 100 101 .add,oM 103 3,oM 104 12,oP 105 (.mx (.t 103) (.t 104)),oM 2 102,oM 3 105] [1,2,3,5,11,12,80,81,82]
abbrev u95_41:IC:=qQ u95_42 u95_45 [1,2,3,5,9,11,12,80,81,82]
abbrev u95_37:IC:=qQ u95_38 u95_41 [1,2,3,5,9,11,12,13,80,81,82]
abbrev u95_36:IC:=qS [oD 88 10 5,oC 89 95 [.t 88],oM 87 89,oE 90 87 0,oE 91 87 1,oE 92 87 2,oM 11 90,oM 12 91,oM 13 92] u95_37 [1,2,3,5,9,10,80,81,82]
abbrev u95_35:IC:=qS [oM 84 82,oA 85 80 82 5,oD 86 85 5,oW 10 (.agg #[.int .i64 0,.int .i64 0,.string ⟨#[]⟩,.slice none 0 0,.int .i64 0]),oM 9 84,oS 10 86 5] u95_36 [1,2,3,5,80,81,82]
abbrev u95_46:IC:=qE [oK 106 82 .add 1,oM 82 106] [1,2,3,5,80,81,82]
abbrev u95_34:IC:=qB u95_35 u95_46 2 [1,2,3,5,80,81,82]
abbrev u95_33:IC:=qC .skip u95_34 (.exit 1) (.t 83) [1,2,3,5,80,81,82,83]
abbrev u95_32:IC:=qS [oB 83 82 81 .lss] u95_33 [1,2,3,5,80,81,82]
abbrev u95_31:IC:=qJ (.loop u95_32) 1 [1,2,3,5,80,81,82]
abbrev u95_30:IC:=qS [oF 79 1 3,oL 80 79,oH 81 80,oI 82 0] u95_31 [1,2,3,5]
abbrev u95_50:IC:=qE [oM 109 3,oK 110 109 .add 1,oM 3 110] [2,3]
abbrev u95_49:IC:=qK u95_50 .skip (.t 108) [2,3,108]
abbrev u95_48:IC:=qS [oM 107 5,oK 108 107 .eql 1] u95_49 [2,3,5]
abbrev u95_51:IC:=qS [oM 111 2,oM 112 3,oM 2 111,oM 3 112,oV 4 (.bool true)] .ret [2,3]
abbrev u95_47:IC:=qQ u95_48 u95_51 [2,3,5]
abbrev u95_29:IC:=qQ u95_30 u95_47 [1,2,3,5]
abbrev u95_25:IC:=qQ u95_26 u95_29 [1,2,3,5]
abbrev u95_21:IC:=qQ u95_22 u95_25 [1,2,3,5,7,8]
abbrev u95_20:IC:=qS [oF 46 1 1,oL 47 46,oK 48 47 .eql 0,oM 49 48,hF 50 1 0 49,hL 51 50 49,hK 52 51 49 .eql 1,hM 53 52 49,gF 54 1 1 53,gL 55 54 53,gK 56 55 53 .gtr 0,oR 57 (.pick (.t 53) (.t 56) (.k (.bool false))) 49,hM 58 57 49,gF 59 1 1 58,gL 60 59 58,gK 61 60 58 .leq 2147483647,oR 62 (.pick (.t 58) (.t 61) (.k (.bool false))) 49,oO 63 49 62,oM 8 63] u95_21 [1,2,3,5,7]
abbrev u95_16:IC:=qQ u95_17 u95_20 [1,2,3,5,7]
abbrev u95_15:IC:=qS [oF 32 1 2,oL 33 32,oP 34 (.bin .eql (.t 33) (.k (.string ⟨#[]⟩))),oM 7 34] u95_16 [1,2,3,5]
abbrev u95_3:IC:=qQ u95_4 u95_15 [1,2,3,5]
abbrev u95_2:IC:=qS [oI 5 0] u95_3 [1,2,3]
abbrev u95_1:IC:=qS [oX 1 0,oI 2 0,oI 3 0,oV 4 (.bool false)] u95_2 [0]
def u95:IFn:=⟨113,u95_1,[.tmp 2,.tmp 3,.tmp 4]⟩
end
theorem isU95:IsFn Tryz.prog 95 u95:=by unfold IsFn;kernel_rfl
section
abbrev u56_3:IC:=qS [oM 12 5,oM 13 12,gM 14 3 13,gK 15 14 13 .leq 32,oJ 16 13 15,oM 17 16,gM 18 4 17,gK 19 18 17 .leq 16,oJ 20 17 19,oM 2 20] .ret [3,4,5]
abbrev u56_2:IC:=qS [oD 7 1 5,oC 8 95 [.t 7],oM 6 8,oE 9 6 0,oE 10 6 1,oE 11 6 2,oM 3 9,oM 4 10,oM 5 11] u56_3 [1]
abbrev u56_1:IC:=qS [oX 1 0,oV 2 (.bool false)] u56_2 [0]
def u56:IFn:=⟨21,u56_1,[.tmp 2]⟩
end
theorem isU56:IsFn Tryz.prog 56 u56:=by unfold IsFn;kernel_rfl
section
abbrev u128_2:IC:=qS [oM 3 0,oK 4 3 .eql 5,oM 5 4,hM 6 0 5,hK 7 6 5 .eql 6,oO 8 5 7,oM 9 8,hM 10 0 9,hK 11 10 9 .eql 7,oO 12 9 11,oM 2 12] .ret [0]
abbrev u128_1:IC:=qS [oV 2 (.bool false)] u128_2 [0]
def u128:IFn:=⟨13,u128_1,[.tmp 2]⟩
end
theorem isU128:IsFn Tryz.prog 128 u128:=by unfold IsFn;kernel_rfl
section
abbrev u127_5:IC:=qS [oI 2 1] .ret []
abbrev u127_8:IC:=qS [oI 2 2] .ret []
abbrev u127_11:IC:=qS [oI 2 3] .ret []
abbrev u127_14:IC:=qS [oI 2 4] .ret []
abbrev u127_17:IC:=qS [oI 2 5] .ret []
abbrev u127_20:IC:=qS [oI 2 6] .ret []
abbrev u127_19:IC:=qK u127_20 .skip (.t 30) [30]
abbrev u127_18:IC:=qS [oM 31 0,oK 32 31 .eql 10,oM 33 32,hM 34 0 33,hK 35 34 33 .eql 11,oO 36 33 35,oM 30 36] u127_19 [0]
abbrev u127_16:IC:=qK u127_17 u127_18 (.t 23) [0,23]
abbrev u127_15:IC:=qS [oM 24 0,oK 25 24 .geq 12,oM 26 25,gM 27 0 26,gK 28 27 26 .leq 14,oJ 29 26 28,oM 23 29] u127_16 [0]
abbrev u127_13:IC:=qK u127_14 u127_15 (.t 16) [0,16]
abbrev u127_12:IC:=qS [oM 17 0,oK 18 17 .eql 15,oM 19 18,hM 20 0 19,hK 21 20 19 .eql 16,oO 22 19 21,oM 16 22] u127_13 [0]
abbrev u127_10:IC:=qK u127_11 u127_12 (.t 9) [0,9]
abbrev u127_9:IC:=qS [oM 10 0,oK 11 10 .geq 17,oM 12 11,gM 13 0 12,gK 14 13 12 .leq 22,oJ 15 12 14,oM 9 15] u127_10 [0]
abbrev u127_7:IC:=qK u127_8 u127_9 (.t 6) [0,6]
abbrev u127_6:IC:=qS [oM 7 0,oK 8 7 .eql 23,oM 6 8] u127_7 [0]
abbrev u127_4:IC:=qK u127_5 u127_6 (.t 3) [0,3]
abbrev u127_3:IC:=qS [oM 4 0,oK 5 4 .eql 24,oM 3 5] u127_4 [0]
abbrev u127_21:IC:=qS [oI 2 7] .ret []
abbrev u127_2:IC:=qB u127_3 u127_21 0 [0]
abbrev u127_1:IC:=qS [oI 2 0] u127_2 [0]
def u127:IFn:=⟨37,u127_1,[.tmp 2]⟩
end
theorem isU127:IsFn Tryz.prog 127 u127:=by unfold IsFn;kernel_rfl
section
abbrev u129_3:IC:=qS [oM 17 6,oM 18 5,oB 19 17 18 .lss,oM 20 19,hM 21 6 20,hM 22 5 20,oR 23 (.bin .eql (.t 21) (.t 22)) 20,hM 24 23 20,gM 25 1 24,gK 26 25 24 .eql 1,gM 27 26 24,hM 28 5 27,hK 29 28 27 .eql 3,oG 30 (.pick (.t 27) (.k (.bool true)) (.t 29)) 24,oR 31 (.pick (.t 24) (.t 30) (.k (.bool false))) 20,oO 32 20 31,oM 4 32] .ret [1,5,6]
abbrev u129_2:IC:=qD [oF 7 2 0,oL 8 7,oC 9 127 [.t 8],oF 10 2 3,oL 11 10,oM 12 1,oA 13 11 12 5,oF 14 13 0,oL 15 14,oC 16 127 [.t 15],oM 5 9,oM 6 16] u129_3 [(0,none),(1,none),(3,none),(4,none),(5,none),(6,none),(7,none),(8,none),(2,some [3,4,5,6,7,8]),(9,some []),(10,some []),(11,some [])] 12 [1,2]
abbrev u129_1:IC:=qS [oX 2 0,oV 4 (.bool false)] u129_2 [0,1]
def u129:IFn:=⟨33,u129_1,[.tmp 4]⟩
end
theorem isU129:IsFn Tryz.prog 129 u129:=by unfold IsFn;kernel_rfl
section
abbrev u159_10:IC:=qE [oK 8 4 .eql 10,oM 5 8] [0,2,4]
abbrev u159_9:IC:=qK .skip u159_10 (.t 5) [0,2,4,5]
abbrev u159_8:IC:=qS [oK 7 4 .eql 8,oM 5 7] u159_9 [0,2,4]
abbrev u159_7:IC:=qK .skip u159_8 (.t 5) [0,2,4,5]
abbrev u159_6:IC:=qS [oK 6 4 .eql 1,oM 5 6] u159_7 [0,2,4]
abbrev u159_12:IC:=qS [oP 9 (.bld #[.bool false,.bool false,.int .i64 0,.bool false,.bool false] [(0,1),(1,1),(2,1),(3,1),(4,1)] [(0,.k (.bool true)),(2,.k (.int .i64 1))]),oS 2 9 5,oV 3 (.bool true)] .ret [2]
abbrev u159_15:IC:=qS [oP 12 (.bld #[.bool false,.bool false,.int .i64 0,.bool false,.bool false] [(0,1),(1,1),(2,1),(3,1),(4,1)] [(0,.k (.bool true)),(2,.k (.int .i64 2))]),oS 2 12 5,oV 3 (.bool true)] .ret [2]
abbrev u159_18:IC:=qS [oP 15 (.bld #[.bool false,.bool false,.int .i64 0,.bool false,.bool false] [(0,1),(1,1),(2,1),(3,1),(4,1)] [(2,.k (.int .i64 1)),(3,.k (.bool true)),(4,.k (.bool true))]),oS 2 15 5,oV 3 (.bool true)] .ret [2]
abbrev u159_21:IC:=qS [oP 18 (.bld #[.bool false,.bool false,.int .i64 0,.bool false,.bool false] [(0,1),(1,1),(2,1),(3,1),(4,1)] [(2,.k (.int .i64 1)),(3,.k (.bool true))]),oS 2 18 5,oV 3 (.bool true)] .ret [2]
abbrev u159_24:IC:=qS [oP 21 (.bld #[.bool false,.bool false,.int .i64 0,.bool false,.bool false] [(0,1),(1,1),(2,1),(3,1),(4,1)] [(2,.k (.int .i64 1))]),oS 2 21 5,oV 3 (.bool true)] .ret [2]
abbrev u159_27:IC:=qS [oP 24 (.bld #[.bool false,.bool false,.int .i64 0,.bool false,.bool false] [(0,1),(1,1),(2,1),(3,1),(4,1)] [(1,.k (.bool true)),(2,.k (.int .i64 1))]),oS 2 24 5,oV 3 (.bool true)] .ret [2]
abbrev u159_30:IC:=qS [oP 27 (.bld #[.bool false,.bool false,.int .i64 0,.bool false,.bool false] [(0,1),(1,1),(2,1),(3,1),(4,1)] []),oS 2 27 5,oV 3 (.bool true)] .ret [2]
abbrev u159_29:IC:=qK u159_30 .skip (.t 25) [0,2,25]
abbrev u159_28:IC:=qS [oK 26 4 .eql 19,oM 25 26] u159_29 [0,2,4]
abbrev u159_26:IC:=qK u159_27 u159_28 (.t 22) [0,2,4,22]
abbrev u159_25:IC:=qS [oK 23 4 .eql 18,oM 22 23] u159_26 [0,2,4]
abbrev u159_23:IC:=qK u159_24 u159_25 (.t 19) [0,2,4,19]
abbrev u159_22:IC:=qS [oK 20 4 .eql 4,oM 19 20] u159_23 [0,2,4]
abbrev u159_20:IC:=qK u159_21 u159_22 (.t 16) [0,2,4,16]
abbrev u159_19:IC:=qS [oK 17 4 .eql 3,oM 16 17] u159_20 [0,2,4]
abbrev u159_17:IC:=qK u159_18 u159_19 (.t 13) [0,2,4,13]
abbrev u159_16:IC:=qS [oK 14 4 .eql 2,oM 13 14] u159_17 [0,2,4]
abbrev u159_14:IC:=qK u159_15 u159_16 (.t 10) [0,2,4,10]
abbrev u159_13:IC:=qS [oK 11 4 .eql 9,oM 10 11] u159_14 [0,2,4]
abbrev u159_11:IC:=qK u159_12 u159_13 (.t 5) [0,2,4,5]
abbrev u159_5:IC:=qQ u159_6 u159_11 [0,2,4]
abbrev u159_4:IC:=qJ u159_5 0 [0,2,4]
abbrev u159_3:IC:=qS [oM 4 0] u159_4 [0,2]
abbrev u159_31:IC:=qS [oP 28 (.bld #[.bool false,.bool false,.int .i64 0,.bool false,.bool false] [(0,1),(1,1),(2,1),(3,1),(4,1)] [(0,.k (.bool true))]),oM 29 0,oK 30 29 .geq 1,oM 31 30,gM 32 0 31,gK 33 32 31 .leq 19,oJ 34 31 33,oS 2 28 5,oM 3 34] .ret [0,2]
abbrev u159_2:IC:=qQ u159_3 u159_31 [0,2]
abbrev u159_1:IC:=qS [oW 2 (.agg #[.bool false,.bool false,.int .i64 0,.bool false,.bool false]),oV 3 (.bool false)] u159_2 [0]
def u159:IFn:=⟨35,u159_1,[.cell 2 5 true,.tmp 3]⟩
end
theorem isU159:IsFn Tryz.prog 159 u159:=by unfold IsFn;kernel_rfl
section
abbrev u162_7:IC:=qK .skip (.exit 0) (.t 7) [0,3,7]
abbrev u162_6:IC:=qS [oM 4 3,oM 5 0,oP 6 (.lens (.t 5)),oB 7 4 6 .lss] u162_7 [0,3]
abbrev u162_11:IC:=qS [oV 2 (.bool false)] .ret []
abbrev u162_10:IC:=qK u162_11 .skip (.t 19) [0,3,19]
abbrev u162_9:IC:=qS [oM 10 0,oM 11 3,oP 12 (.idx (.t 10) (.t 11)),oP 13 (.bin .lss (.t 12) (.k (.int .u8 32))),oM 14 13,hM 15 0 14,hM 16 3 14,oR 17 (.idx (.t 15) (.t 16)) 14,oR 18 (.bin .gtr (.t 17) (.k (.int .u8 126))) 14,oO 19 14 18] u162_10 [0,3]
abbrev u162_12:IC:=qE [oM 8 3,oK 9 8 .add 1,oM 3 9] [0,3]
abbrev u162_8:IC:=qB u162_9 u162_12 1 [0,3]
abbrev u162_5:IC:=qQ u162_6 u162_8 [0,3]
abbrev u162_4:IC:=qJ (.loop u162_5) 0 [0,3]
abbrev u162_3:IC:=qS [oI 3 0] u162_4 [0]
abbrev u162_13:IC:=qS [oM 20 0,oP 21 (.lens (.t 20)),oK 22 21 .leq 32,oM 2 22] .ret [0]
abbrev u162_2:IC:=qQ u162_3 u162_13 [0]
abbrev u162_1:IC:=qS [oV 2 (.bool false)] u162_2 [0]
def u162:IFn:=⟨23,u162_1,[.tmp 2]⟩
end
theorem isU162:IsFn Tryz.prog 162 u162:=by unfold IsFn;kernel_rfl
section
abbrev u123_5:IC:=qS [oV 4 (.bool false)] .ret []
abbrev u123_4:IC:=qK u123_5 .skip (.t 16) [0,3,16]
abbrev u123_3:IC:=qS [oM 5 0,oH 6 5,oK 7 6 .gtr 64,oM 8 7,hM 9 0 8,oR 10 (.len (.t 9)) 8,hK 11 10 8 .gtr 0,hM 12 11 8,gL 13 3 12,gK 14 13 12 .gtr 8,oR 15 (.pick (.t 12) (.t 14) (.k (.bool false))) 8,oO 16 8 15] u123_4 [0,3]
abbrev u123_6:IC:=qS [oM 17 0,oP 18 (.mkf 149 [] [.t 3]),oC 19 148 [.t 17,.t 18],oY 20 19,oM 4 20] .ret [0,3]
abbrev u123_2:IC:=qQ u123_3 u123_6 [0,3]
abbrev u123_1:IC:=qS [oX 3 1,oV 4 (.bool false)] u123_2 [0,1]
def u123:IFn:=⟨21,u123_1,[.tmp 4]⟩
end
theorem isU123:IsFn Tryz.prog 123 u123:=by unfold IsFn;kernel_rfl
section
abbrev u149_2:IC:=qS [oD 4 2 7,oL 5 1,oC 6 150 [.t 4,.t 5],oY 7 6,oM 3 7] .ret [1,2]
abbrev u149_1:IC:=qS [oX 2 0,oV 3 (.bool false)] u149_2 [0,1]
def u149:IFn:=⟨8,u149_1,[.tmp 3]⟩
end
theorem isU149:IsFn Tryz.prog 149 u149:=by unfold IsFn;kernel_rfl
section
abbrev u150_6:IC:=qS [oV 4 (.bool false)] .ret []
abbrev u150_5:IC:=qK u150_6 .skip (.t 29) [1,2,5,29]
abbrev u150_4:IC:=qS [oM 15 6,oY 16 15,oM 17 16,hF 18 2 3 17,hL 19 18 17,oR 20 (.len (.t 19)) 17,hF 21 5 2 17,hL 22 21 17,oR 23 (.bin .neq (.t 20) (.t 22)) 17,oO 24 17 23,oM 25 24,hF 26 2 3 25,hL 27 26 25,⟨some 28,.call 160 [.t 27,.f 161],some (25,false)⟩,oO 29 25 28] u150_5 [1,2,5,6]
abbrev u150_11:IC:=qE [oF 38 2 1,oL 39 38,oC 40 121 [.t 39],oM 7 40] [1,2,5,8]
abbrev u150_10:IC:=qK u150_11 .skip (.t 37) [1,2,5,7,8,37]
abbrev u150_9:IC:=qS [oF 36 5 0,oL 37 36] u150_10 [1,2,5,7,8]
abbrev u150_15:IC:=qE [oF 43 2 2,oL 44 43,oC 45 162 [.t 44],oM 8 45] [1,2,5,7]
abbrev u150_14:IC:=qK u150_15 .skip (.t 42) [1,2,5,7,8,42]
abbrev u150_13:IC:=qS [oF 41 5 1,oL 42 41] u150_14 [1,2,5,7,8]
abbrev u150_19:IC:=qS [oV 4 (.bool false)] .ret []
abbrev u150_18:IC:=qK u150_19 .skip (.t 73) [1,2,73]
abbrev u150_17:IC:=qS [oM 46 7,oY 47 46,oM 48 47,hM 49 8 48,oR 50 (.un .not (.t 49)) 48,oO 51 48 50,oM 52 51,hF 53 5 3 52,hL 54 53 52,oR 55 (.un .not (.t 54)) 52,hM 56 55 52,gF 57 2 4 56,gL 58 57 56,oG 59 (.len (.t 58)) 56,gK 60 59 56 .gtr 0,oR 61 (.pick (.t 56) (.t 60) (.k (.bool false))) 52,oO 62 52 61,oM 63 62,hF 64 5 4 63,hL 65 64 63,oR 66 (.un .not (.t 65)) 63,hM 67 66 63,gF 68 2 5 67,gL 69 68 67,oG 70 (.len (.t 69)) 67,gK 71 70 67 .gtr 0,oR 72 (.pick (.t 67) (.t 71) (.k (.bool false))) 63,oO 73 63 72] u150_18 [1,2,5,7,8]
abbrev u150_20:IC:=qS [oF 74 2 4,oL 75 74,oM 76 1,oK 77 76 .add 1,oC 78 123 [.t 75,.t 77],oM 79 78,gF 80 2 5 79,gL 81 80 79,gM 82 1 79,gK 83 82 79 .add 1,⟨some 84,.call 123 [.t 81,.t 83],some (79,true)⟩,oJ 85 79 84,oM 4 85] .ret [1,2]
abbrev u150_16:IC:=qQ u150_17 u150_20 [1,2,5,7,8]
abbrev u150_12:IC:=qQ u150_13 u150_16 [1,2,5,7,8]
abbrev u150_8:IC:=qQ u150_9 u150_12 [1,2,5,7,8]
abbrev u150_7:IC:=qD [oF 30 2 1,oL 31 30,oP 32 (.bin .eql (.t 31) (.k (.string ⟨#[]⟩))),oF 33 2 2,oL 34 33,oP 35 (.bin .eql (.t 34) (.k (.string ⟨#[]⟩))),oM 7 32,oM 8 35] u150_8 [(0,none),(1,none),(2,none),(3,none),(4,none),(5,none),(6,some [3,4,5]),(7,some [])] 8 [1,2,5]
abbrev u150_3:IC:=qQ u150_4 u150_7 [1,2,5,6]
abbrev u150_2:IC:=qS [oF 10 2 0,oL 11 10,oC 12 159 [.t 11],oM 9 12,oE 13 9 0,oE 14 9 1,oW 5 (.agg #[.bool false,.bool false,.int .i64 0,.bool false,.bool false]),oS 5 13 5,oM 6 14] u150_3 [1,2]
abbrev u150_1:IC:=qS [oX 2 0,oV 4 (.bool false)] u150_2 [0,1]
def u150:IFn:=⟨86,u150_1,[.tmp 4]⟩
end
theorem isU150:IsFn Tryz.prog 150 u150:=by unfold IsFn;kernel_rfl
section
abbrev u161_2:IC:=qS [oD 3 1 5,oC 4 56 [.t 3],oY 5 4,oM 2 5] .ret [1]
abbrev u161_1:IC:=qS [oX 1 0,oV 2 (.bool false)] u161_2 [0]
def u161:IFn:=⟨6,u161_1,[.tmp 2]⟩
end
theorem isU161:IsFn Tryz.prog 161 u161:=by unfold IsFn;kernel_rfl
section
abbrev u81_8:IC:=qE [oI 3 (-2147483647)] [1,4]
abbrev u81_12:IC:=qE [oK 11 6 .eql 8,oM 9 11] [1,3,4,6]
abbrev u81_11:IC:=qK .skip u81_12 (.t 9) [1,3,4,6,9]
abbrev u81_10:IC:=qS [oK 10 6 .eql 7,oM 9 10] u81_11 [1,3,4,6]
abbrev u81_14:IC:=qE [oI 4 0] [1,3]
abbrev u81_13:IC:=qK u81_14 .skip (.t 9) [1,3,4,9]
abbrev u81_9:IC:=qQ u81_10 u81_13 [1,3,4,6]
abbrev u81_7:IC:=qK u81_8 u81_9 (.t 7) [1,3,4,6,7]
abbrev u81_6:IC:=qS [oK 8 6 .eql 6,oM 7 8] u81_7 [1,3,4,6]
abbrev u81_5:IC:=qJ u81_6 0 [1,3,4,6]
abbrev u81_4:IC:=qS [oF 5 1 0,oL 6 5] u81_5 [1,3,4]
abbrev u81_15:IC:=qS [oF 12 1 0,oL 13 12,oK 14 13 .geq 1,oM 15 14,gF 16 1 0 15,gL 17 16 15,gK 18 17 15 .leq 8,oJ 19 15 18,oM 20 19,gF 21 1 1 20,gL 22 21 20,⟨some 23,.call 121 [.t 22],some (20,true)⟩,oJ 24 20 23,oM 25 24,gF 26 1 2 25,gL 27 26 25,gM 28 3 25,oG 29 (.bin .geq (.t 27) (.t 28)) 25,oJ 30 25 29,oM 31 30,gF 32 1 2 31,gL 33 32 31,gM 34 4 31,oG 35 (.bin .leq (.t 33) (.t 34)) 31,oJ 36 31 35,oM 2 36] .ret [1,3,4]
abbrev u81_3:IC:=qQ u81_4 u81_15 [1,3,4]
abbrev u81_2:IC:=qS [oI 3 0,oI 4 2147483647] u81_3 [1]
abbrev u81_1:IC:=qS [oX 1 0,oV 2 (.bool false)] u81_2 [0]
def u81:IFn:=⟨37,u81_1,[.tmp 2]⟩
end
theorem isU81:IsFn Tryz.prog 81 u81:=by unfold IsFn;kernel_rfl
section
abbrev u84_5:IC:=qS [oV 2 (.bool false)] .ret []
abbrev u84_4:IC:=qK u84_5 .skip (.t 25) [1,25]
abbrev u84_3:IC:=qS [oF 6 1 0,oL 7 6,oC 8 121 [.t 7],oY 9 8,oM 10 9,hF 11 1 1 10,hL 12 11 10,hK 13 12 10 .lss 0,oO 14 10 13,oM 15 14,hF 16 1 1 15,hL 17 16 15,hK 18 17 15 .gtr 2147483647,oO 19 15 18,oM 20 19,hF 21 1 2 20,hL 22 21 20,oR 23 (.len (.t 22)) 20,hK 24 23 20 .gtr 32,oO 25 20 24] u84_4 [1]
abbrev u84_17:IC:=qE [oF 39 4 1,oL 40 39,oC 41 121 [.t 40],oM 5 41] [4,27,28,29]
abbrev u84_16:IC:=qK u84_17 .skip (.t 38) [4,5,27,28,29,38]
abbrev u84_15:IC:=qS [oF 36 4 0,oL 37 36,oK 38 37 .geq 3] u84_16 [4,5,27,28,29]
abbrev u84_20:IC:=qS [oV 2 (.bool false)] .ret []
abbrev u84_19:IC:=qK u84_20 .skip (.t 59) [27,28,29,59]
abbrev u84_18:IC:=qS [oF 42 4 0,oL 43 42,oK 44 43 .lss 1,oM 45 44,hF 46 4 0 45,hL 47 46 45,hK 48 47 45 .gtr 6,oO 49 45 48,oM 50 49,hM 51 5 50,oR 52 (.un .not (.t 51)) 50,oO 53 50 52,oM 54 53,hF 55 4 2 54,hL 56 55 54,⟨some 57,.call 123 [.t 56,.k (.int .i64 1)],some (54,false)⟩,oR 58 (.un .not (.t 57)) 54,oO 59 54 58] u84_19 [4,5,27,28,29]
abbrev u84_14:IC:=qQ u84_15 u84_18 [4,5,27,28,29]
abbrev u84_13:IC:=qS [oF 33 4 1,oL 34 33,oP 35 (.bin .eql (.t 34) (.k (.string ⟨#[]⟩))),oM 5 35] u84_14 [4,27,28,29]
abbrev u84_12:IC:=qS [oA 31 27 29 4,oD 32 31 4,oW 4 (.agg #[.int .i64 0,.string ⟨#[]⟩,.slice none 0 0,.int .i64 0]),oS 4 32 4] u84_13 [27,28,29]
abbrev u84_21:IC:=qE [oK 60 29 .add 1,oM 29 60] [27,28,29]
abbrev u84_11:IC:=qB u84_12 u84_21 1 [27,28,29]
abbrev u84_10:IC:=qC .skip u84_11 (.exit 0) (.t 30) [27,28,29,30]
abbrev u84_9:IC:=qS [oB 30 29 28 .lss] u84_10 [27,28,29]
abbrev u84_8:IC:=qJ (.loop u84_9) 0 [27,28,29]
abbrev u84_7:IC:=qS [oF 26 1 2,oL 27 26,oH 28 27,oI 29 0] u84_8 [1]
abbrev u84_22:IC:=qS [oV 2 (.bool true)] .ret []
abbrev u84_6:IC:=qQ u84_7 u84_22 [1]
abbrev u84_2:IC:=qQ u84_3 u84_6 [1]
abbrev u84_1:IC:=qS [oX 1 0,oV 2 (.bool false)] u84_2 [0]
def u84:IFn:=⟨61,u84_1,[.tmp 2]⟩
end
theorem isU84:IsFn Tryz.prog 84 u84:=by unfold IsFn;kernel_rfl
section
abbrev u40_5:IC:=qS [oV 2 (.bool false)] .ret []
abbrev u40_4:IC:=qK u40_5 .skip (.t 12) [1,12]
abbrev u40_3:IC:=qS [oF 3 1 0,oL 4 3,oH 5 4,oK 6 5 .gtr 128,oM 7 6,hF 8 1 1 7,hL 9 8 7,oR 10 (.len (.t 9)) 7,hK 11 10 7 .gtr 16,oO 12 7 11] u40_4 [1]
abbrev u40_6:IC:=qS [oF 13 1 0,oL 14 13,oC 15 79 [.t 14,.f 80],oY 16 15,oM 17 16,gF 18 1 1 17,gL 19 18 17,⟨some 20,.call 82 [.t 19,.f 83],some (17,true)⟩,oG 21 (.un .not (.t 20)) 17,oJ 22 17 21,oM 2 22] .ret [1]
abbrev u40_2:IC:=qQ u40_3 u40_6 [1]
abbrev u40_1:IC:=qS [oX 1 0,oV 2 (.bool false)] u40_2 [0]
def u40:IFn:=⟨23,u40_1,[.tmp 2]⟩
end
theorem isU40:IsFn Tryz.prog 40 u40:=by unfold IsFn;kernel_rfl
section
abbrev u80_2:IC:=qS [oD 3 1 4,oC 4 81 [.t 3],oY 5 4,oM 2 5] .ret [1]
abbrev u80_1:IC:=qS [oX 1 0,oV 2 (.bool false)] u80_2 [0]
def u80:IFn:=⟨6,u80_1,[.tmp 2]⟩
end
theorem isU80:IsFn Tryz.prog 80 u80:=by unfold IsFn;kernel_rfl
section
abbrev u83_2:IC:=qS [oD 3 1 4,oC 4 84 [.t 3],oY 5 4,oM 2 5] .ret [1]
abbrev u83_1:IC:=qS [oX 1 0,oV 2 (.bool false)] u83_2 [0]
def u83:IFn:=⟨6,u83_1,[.tmp 2]⟩
end
theorem isU83:IsFn Tryz.prog 83 u83:=by unfold IsFn;kernel_rfl
section
abbrev u45_2:IC:=qS [oM 5 0,oM 6 1,oC 7 88 [.t 5,.t 6],oK 8 7 .geq 0,oM 4 8] .ret [0,1]
abbrev u45_1:IC:=qS [oV 4 (.bool false)] u45_2 [0,1]
def u45:IFn:=⟨9,u45_1,[.tmp 4]⟩
end
theorem isU45:IsFn Tryz.prog 45 u45:=by unfold IsFn;kernel_rfl
section
abbrev u88_11:IC:=qS [oM 17 5,oM 4 17] .ret [5]
abbrev u88_10:IC:=qK u88_11 .skip (.t 16) [0,1,5,7,8,16]
abbrev u88_9:IC:=qS [oM 11 1,oM 12 0,oM 13 5,oA 14 12 13 4,oD 15 14 4,⟨some 16,.callv (.t 11) [.t 15],none⟩] u88_10 [0,1,5,7,8]
abbrev u88_8:IC:=qS [oM 10 8,oM 5 10] u88_9 [0,1,7,8]
abbrev u88_12:IC:=qE [oK 18 8 .add 1,oM 8 18] [0,1,7,8]
abbrev u88_7:IC:=qB u88_8 u88_12 1 [0,1,7,8]
abbrev u88_6:IC:=qC .skip u88_7 (.exit 0) (.t 9) [0,1,7,8,9]
abbrev u88_5:IC:=qS [oB 9 8 7 .lss] u88_6 [0,1,7,8]
abbrev u88_4:IC:=qJ (.loop u88_5) 0 [0,1,7,8]
abbrev u88_3:IC:=qS [oM 6 0,oH 7 6,oI 8 0] u88_4 [0,1]
abbrev u88_13:IC:=qS [oI 4 (-1)] .ret []
abbrev u88_2:IC:=qQ u88_3 u88_13 [0,1]
abbrev u88_1:IC:=qS [oI 4 0] u88_2 [0,1]
def u88:IFn:=⟨19,u88_1,[.tmp 4]⟩
end
theorem isU88:IsFn Tryz.prog 88 u88:=by unfold IsFn;kernel_rfl
section
abbrev u79_2:IC:=qS [oM 5 0,oM 6 1,oC 7 120 [.t 5,.t 6],oK 8 7 .geq 0,oM 4 8] .ret [0,1]
abbrev u79_1:IC:=qS [oV 4 (.bool false)] u79_2 [0,1]
def u79:IFn:=⟨9,u79_1,[.tmp 4]⟩
end
theorem isU79:IsFn Tryz.prog 79 u79:=by unfold IsFn;kernel_rfl
section
abbrev u120_11:IC:=qS [oM 17 5,oM 4 17] .ret [5]
abbrev u120_10:IC:=qK u120_11 .skip (.t 16) [0,1,5,7,8,16]
abbrev u120_9:IC:=qS [oM 11 1,oM 12 0,oM 13 5,oA 14 12 13 4,oD 15 14 4,⟨some 16,.callv (.t 11) [.t 15],none⟩] u120_10 [0,1,5,7,8]
abbrev u120_8:IC:=qS [oM 10 8,oM 5 10] u120_9 [0,1,7,8]
abbrev u120_12:IC:=qE [oK 18 8 .add 1,oM 8 18] [0,1,7,8]
abbrev u120_7:IC:=qB u120_8 u120_12 1 [0,1,7,8]
abbrev u120_6:IC:=qC .skip u120_7 (.exit 0) (.t 9) [0,1,7,8,9]
abbrev u120_5:IC:=qS [oB 9 8 7 .lss] u120_6 [0,1,7,8]
abbrev u120_4:IC:=qJ (.loop u120_5) 0 [0,1,7,8]
abbrev u120_3:IC:=qS [oM 6 0,oH 7 6,oI 8 0] u120_4 [0,1]
abbrev u120_13:IC:=qS [oI 4 (-1)] .ret []
abbrev u120_2:IC:=qQ u120_3 u120_13 [0,1]
abbrev u120_1:IC:=qS [oI 4 0] u120_2 [0,1]
def u120:IFn:=⟨19,u120_1,[.tmp 4]⟩
end
theorem isU120:IsFn Tryz.prog 120 u120:=by unfold IsFn;kernel_rfl
section
abbrev u82_2:IC:=qS [oM 5 0,oM 6 1,oC 7 122 [.t 5,.t 6],oK 8 7 .geq 0,oM 4 8] .ret [0,1]
abbrev u82_1:IC:=qS [oV 4 (.bool false)] u82_2 [0,1]
def u82:IFn:=⟨9,u82_1,[.tmp 4]⟩
end
theorem isU82:IsFn Tryz.prog 82 u82:=by unfold IsFn;kernel_rfl
section
abbrev u122_11:IC:=qS [oM 17 5,oM 4 17] .ret [5]
abbrev u122_10:IC:=qK u122_11 .skip (.t 16) [0,1,5,7,8,16]
abbrev u122_9:IC:=qS [oM 11 1,oM 12 0,oM 13 5,oA 14 12 13 4,oD 15 14 4,⟨some 16,.callv (.t 11) [.t 15],none⟩] u122_10 [0,1,5,7,8]
abbrev u122_8:IC:=qS [oM 10 8,oM 5 10] u122_9 [0,1,7,8]
abbrev u122_12:IC:=qE [oK 18 8 .add 1,oM 8 18] [0,1,7,8]
abbrev u122_7:IC:=qB u122_8 u122_12 1 [0,1,7,8]
abbrev u122_6:IC:=qC .skip u122_7 (.exit 0) (.t 9) [0,1,7,8,9]
abbrev u122_5:IC:=qS [oB 9 8 7 .lss] u122_6 [0,1,7,8]
abbrev u122_4:IC:=qJ (.loop u122_5) 0 [0,1,7,8]
abbrev u122_3:IC:=qS [oM 6 0,oH 7 6,oI 8 0] u122_4 [0,1]
abbrev u122_13:IC:=qS [oI 4 (-1)] .ret []
abbrev u122_2:IC:=qQ u122_3 u122_13 [0,1]
abbrev u122_1:IC:=qS [oI 4 0] u122_2 [0,1]
def u122:IFn:=⟨19,u122_1,[.tmp 4]⟩
end
theorem isU122:IsFn Tryz.prog 122 u122:=by unfold IsFn;kernel_rfl
section
abbrev u148_2:IC:=qS [oM 5 0,oM 6 1,oC 7 158 [.t 5,.t 6],oK 8 7 .geq 0,oM 4 8] .ret [0,1]
abbrev u148_1:IC:=qS [oV 4 (.bool false)] u148_2 [0,1]
def u148:IFn:=⟨9,u148_1,[.tmp 4]⟩
end
theorem isU148:IsFn Tryz.prog 148 u148:=by unfold IsFn;kernel_rfl
section
abbrev u158_11:IC:=qS [oM 17 5,oM 4 17] .ret [5]
abbrev u158_10:IC:=qK u158_11 .skip (.t 16) [0,1,5,7,8,16]
abbrev u158_9:IC:=qS [oM 11 1,oM 12 0,oM 13 5,oA 14 12 13 7,oD 15 14 7,⟨some 16,.callv (.t 11) [.t 15],none⟩] u158_10 [0,1,5,7,8]
abbrev u158_8:IC:=qS [oM 10 8,oM 5 10] u158_9 [0,1,7,8]
abbrev u158_12:IC:=qE [oK 18 8 .add 1,oM 8 18] [0,1,7,8]
abbrev u158_7:IC:=qB u158_8 u158_12 1 [0,1,7,8]
abbrev u158_6:IC:=qC .skip u158_7 (.exit 0) (.t 9) [0,1,7,8,9]
abbrev u158_5:IC:=qS [oB 9 8 7 .lss] u158_6 [0,1,7,8]
abbrev u158_4:IC:=qJ (.loop u158_5) 0 [0,1,7,8]
abbrev u158_3:IC:=qS [oM 6 0,oH 7 6,oI 8 0] u158_4 [0,1]
abbrev u158_13:IC:=qS [oI 4 (-1)] .ret []
abbrev u158_2:IC:=qQ u158_3 u158_13 [0,1]
abbrev u158_1:IC:=qS [oI 4 0] u158_2 [0,1]
def u158:IFn:=⟨19,u158_1,[.tmp 4]⟩
end
theorem isU158:IsFn Tryz.prog 158 u158:=by unfold IsFn;kernel_rfl
section
abbrev u160_2:IC:=qS [oM 5 0,oM 6 1,oC 7 166 [.t 5,.t 6],oK 8 7 .geq 0,oM 4 8] .ret [0,1]
abbrev u160_1:IC:=qS [oV 4 (.bool false)] u160_2 [0,1]
def u160:IFn:=⟨9,u160_1,[.tmp 4]⟩
end
theorem isU160:IsFn Tryz.prog 160 u160:=by unfold IsFn;kernel_rfl
section
abbrev u166_11:IC:=qS [oM 17 5,oM 4 17] .ret [5]
abbrev u166_10:IC:=qK u166_11 .skip (.t 16) [0,1,5,7,8,16]
abbrev u166_9:IC:=qS [oM 11 1,oM 12 0,oM 13 5,oA 14 12 13 5,oD 15 14 5,⟨some 16,.callv (.t 11) [.t 15],none⟩] u166_10 [0,1,5,7,8]
abbrev u166_8:IC:=qS [oM 10 8,oM 5 10] u166_9 [0,1,7,8]
abbrev u166_12:IC:=qE [oK 18 8 .add 1,oM 8 18] [0,1,7,8]
abbrev u166_7:IC:=qB u166_8 u166_12 1 [0,1,7,8]
abbrev u166_6:IC:=qC .skip u166_7 (.exit 0) (.t 9) [0,1,7,8,9]
abbrev u166_5:IC:=qS [oB 9 8 7 .lss] u166_6 [0,1,7,8]
abbrev u166_4:IC:=qJ (.loop u166_5) 0 [0,1,7,8]
abbrev u166_3:IC:=qS [oM 6 0,oH 7 6,oI 8 0] u166_4 [0,1]
abbrev u166_13:IC:=qS [oI 4 (-1)] .ret []
abbrev u166_2:IC:=qQ u166_3 u166_13 [0,1]
abbrev u166_1:IC:=qS [oI 4 0] u166_2 [0,1]
def u166:IFn:=⟨19,u166_1,[.tmp 4]⟩
end
theorem isU166:IsFn Tryz.prog 166 u166:=by unfold IsFn;kernel_rfl
end Go.Proofs.YtnmkkggfgdfmeaaGreatDoor
namespace Go.Pb
variable [Go.Sym.Tab]
open Go.Sym
def sgnK (t:Tok):Bool:=t.kind == 5 || t.kind == 2
def ixA:Nat->List (List UInt8)->List UInt8->Int
 | _,[],_ => -1
 | k,t :: l,x=>if x == t then (k:Int) else ixA (k+1) l x
def amT (t:Tok) (l:List (List UInt8)):Int:=if sgnK t=true then ixA 0 l t.text else -1
def hd0 (E:Int) (ts:List Tok):Tok:=ts.headD ⟨0,[],0,E⟩
def opLev (t:Tok):Int:=if amT t signsL<0 then 0 else levM (12+amT t signsL)
abbrev lvo (E:Int) (ts:List Tok):Int:=opLev (hd0 E ts)
section
variable {L:List Tok} {E:Int}
theorem peek_hd (s:Rd):peekR L E s=hd0 E (L.drop s.i):=by
 unfold peekR hd0
 rw [List.getD_eq_getElem?_getD, <- List.head?_drop]
 cases L.drop s.i<;>rfl
theorem peek_cons {s:Rd} {t:Tok} {ts:List Tok} (h:L.drop s.i=t :: ts):peekR L E s=t:=by rw [peek_hd,h];rfl
theorem drop_nx {s:Rd} {t:Tok} {ts:List Tok} (h:L.drop s.i=t :: ts):L.drop (s.i+1)=ts:=by
 rw [<- List.drop_drop,h];rfl
theorem drop_app {i:Nat} {a b:List Tok} (h:L.drop i=a++b):L.drop (i+a.length)=b:=by
 rw [<- List.drop_drop,h,List.drop_left]
theorem amg_A {s:Rd} (hok:okR s=true):∀ (l:List (List UInt8)) (k:Nat),amgA L E s k l=if sgnK (peekR L E s)=true then ixA k l (peekR L E s).text else -1
 | [],k=>by simp [amgA,ixA]
 | t :: l,k=>by
  have ih:=amg_A hok l (k+1)
  have hi:isR L E s t=(sgnK (peekR L E s) && (peekR L E s).text == t):=by unfold isR sgnK;rw [hok,Bool.true_and]
  rw [amgA,ixA,ih,hi]
  by_cases hs:sgnK (peekR L E s)=true
  ·rw [hs,if_pos rfl,Bool.true_and,if_pos rfl]
  ·have hs:sgnK (peekR L E s)=false:=by simpa using hs
   rw [hs,Bool.false_and,if_neg (by decide),if_neg (by decide),if_neg (by decide)]
theorem amg_T {s:Rd} (hok:okR s=true) (l:List (List UInt8)):amgR L E s l=amT (peekR L E s) l:=amg_A hok l 0
theorem is_T {s:Rd} (hok:okR s=true) (t:List UInt8):isR L E s t=(sgnK (peekR L E s) && (peekR L E s).text == t):=by unfold isR sgnK;rw [hok,Bool.true_and]
theorem isK_T {s:Rd} (hok:okR s=true) (k:Int):isKR L E s k=((peekR L E s).kind == k):=by unfold isKR;rw [hok,Bool.true_and]
theorem exp_T {s:Rd} {t:List UInt8} (hok:okR s=true) (h1:sgnK (peekR L E s)=true) (h2:(peekR L E s).text=t):expR L E s t=nxtR s:=by
 unfold expR;rw [is_T hok,h1,h2,if_neg (by simp)]
theorem take_T {s:Rd} {k:Int} (hok:okR s=true) (h1:(peekR L E s).kind=k):takeR L E s k=(peekR L E s,nxtR s):=by
 unfold takeR;rw [isK_T hok,if_neg (by simp [h1])]
def adv (s:Rd) (k:Nat) (o:Nat):Rd:={ s with i:=s.i+k,ops:=s.ops+(o:Int) }
theorem adv_ok {s:Rd} {k o:Nat} (h:okR s=true):okR (adv s k o)=true:=h
theorem lop_stop {n:Int} {e:Ex} {s:Rd} (hok:okR s=true) (hn:1<=n) (h:lvo E (L.drop s.i)≠n):Lop L E n e s (e,s):=by
 refine Lop.stop ?_
 rw [amg_T hok,peek_hd]
 unfold lvo opLev at h
 by_cases hk:amT (hd0 E (L.drop s.i)) signsL<0
 ·exact .inl hk
 ·rw [if_neg hk] at h;exact .inr h
theorem bin_down {s s1:Rd} {e:Ex} (hok:okR s1=true):∀ (j:Nat) {m n:Int} {r:Ex × Rd},m-n<=j->Bin L E m s (e,s1)->1<=n->n<m->m<=6->lvo E (L.drop s1.i)<=n->Lop L E n e s1 r->Bin L E n s r
 | 0,m,n,r,hj,h,h1,h2,h3,h4,hr=>by omega
 | j+1,m,n,r,hj,h,h1,h2,h3,h4,hr=>by
  by_cases he:n+1=m
  ·exact Bin.go (by omega) (by rw [he];exact h) hr
  ·refine Bin.go (by omega) ?_ hr
   exact bin_down hok j (m:=m) (n:=n+1) (by omega) h (by omega) (by omega) h3 (by omega) (lop_stop hok (by omega) (by omega))
theorem un_down {s s1:Rd} {e:Ex} {n:Int} {r:Ex × Rd} (hok:okR s1=true) (h:Un L E s (e,s1)) (h1:1<=n) (h2:n<=5) (h4:lvo E (L.drop s1.i)<=n) (hr:Lop L E n e s1 r):Bin L E n s r :=
 bin_down hok 6 (m:=6) (by omega) (Bin.un (by decide) h) h1 (by omega) (by omega) h4 hr
theorem un_bin {s s1:Rd} {e:Ex} {n:Int} (hok:okR s1=true) (h:Un L E s (e,s1)) (h1:1<=n) (h2:n<=5) (h4:lvo E (L.drop s1.i)<n):Bin L E n s (e,s1) :=
 un_down hok h h1 h2 (by omega) (lop_stop hok h1 (by omega))
theorem am_none {t:Tok} (l:List (List UInt8)) (h:sgnK t=false):amT t l = -1:=by unfold amT;rw [if_neg (by rw [h];decide)]
theorem prim_num {s:Rd} {v:Int} {ts:List Tok} (hok:okR s=true) (h:L.drop s.i=⟨3,[],v,0⟩ :: ts) (ho:s.ops+1<=32):Un L E s (.mk 1 v [] [] 0,adv s 1 1):=by
 have hp:=peek_cons (E:=E) h
 have ha:∀ l,amgR L E s l = -1:=fun l=>by rw [amg_T hok,hp];exact am_none l rfl
 have h1:=Un.prim (L:=L) (E:=E) (s:=s) (by rw [ha];decide)
 have h2:primR L E s=(.mk 1 v [] [] 0,adv s 1 1):=by
  unfold primR
  dsimp only
  rw [ha,hp,isK_T hok,isK_T hok,hp,if_neg (by simp),show limR L E { s with ops:=s.ops+1 } (s.ops+1) 32 9 = { s with ops:=s.ops+1 } from if_neg (by omega),if_neg (by show ¬ okR s=false;rw [hok];decide),if_neg (by decide),if_pos rfl]
  rfl
 rw [h2] at h1
 exact h1
theorem prim_var {s:Rd} {n:List UInt8} {ts:List Tok} (hok:okR s=true) (h:L.drop s.i=⟨1,n,0,0⟩ :: ts) (ho:s.ops+1<=32):Un L E s (.mk 2 0 n [] 0,adv s 1 1):=by
 have hp:=peek_cons (E:=E) h
 have ha:∀ l,amgR L E s l = -1:=fun l=>by rw [amg_T hok,hp];exact am_none l rfl
 have h1:=Un.prim (L:=L) (E:=E) (s:=s) (by rw [ha];decide)
 have h2:primR L E s=(.mk 2 0 n [] 0,adv s 1 1):=by
  unfold primR
  dsimp only
  rw [ha,hp,isK_T hok,isK_T hok,hp,if_neg (by simp),show limR L E { s with ops:=s.ops+1 } (s.ops+1) 32 9 = { s with ops:=s.ops+1 } from if_neg (by omega),if_neg (by show ¬ okR s=false;rw [hok];decide),if_neg (by decide),if_neg (by show ¬ (1:Int)=3;decide)]
  rfl
 rw [h2] at h1
 exact h1
theorem prim_word {s:Rd} {w:List UInt8} {ts:List Tok} {j:Nat} (hok:okR s=true) (h:L.drop s.i=wordT w :: ts) (ho:s.ops+1<=32) (hj:j<4) (hi:amT (wordT w) primsL=(j:Int)) (hpre:amT (wordT w) preL<0) :
  Un L E s (.mk (primKs.getD j 0) 0 [] [] 0,adv s 1 1):=by
 have hp:=peek_cons (E:=E) h
 have h1:=Un.prim (L:=L) (E:=E) (s:=s) (by rw [amg_T hok,hp];exact hpre)
 have ha:amgR L E s primsL=(j:Int):=by rw [amg_T hok,hp];exact hi
 have h2:primR L E s=(.mk (primKs.getD j 0) 0 [] [] 0,adv s 1 1):=by
  unfold primR
  dsimp only
  rw [ha,hp,if_neg (by omega),show limR L E { s with ops:=s.ops+1 } (s.ops+1) 32 9 = { s with ops:=s.ops+1 } from if_neg (by omega),if_neg (by show ¬ okR s=false;rw [hok];decide),if_pos (by omega),if_neg (by omega)]
  rfl
 rw [h2] at h1
 exact h1
theorem prim_name {s:Rd} {w n:List UInt8} {ts:List Tok} {j:Nat} (hok:okR s=true) (h:L.drop s.i=wordT w :: ⟨1,n,0,0⟩ :: ts) (ho:s.ops+1<=32) (hj4:4<=j) (hj:j<7) (hi:amT (wordT w) primsL=(j:Int)) (hpre:amT (wordT w) preL<0) :
  Un L E s (.mk (primKs.getD j 0) 0 n [] 0,adv s 2 1):=by
 have hp:=peek_cons (E:=E) h
 have hd:=drop_nx h
 have h1:=Un.prim (L:=L) (E:=E) (s:=s) (by rw [amg_T hok,hp];exact hpre)
 have ha:amgR L E s primsL=(j:Int):=by rw [amg_T hok,hp];exact hi
 have hp2:peekR L E (nxtR { s with ops:=s.ops+1 })=⟨1,n,0,0⟩:=peek_cons hd
 have ht:takeR L E (nxtR { s with ops:=s.ops+1 }) 1=(⟨1,n,0,0⟩,nxtR (nxtR { s with ops:=s.ops+1 })):=by
  rw [take_T (show okR (nxtR { s with ops:=s.ops+1 })=true from hok) (by rw [hp2]),hp2]
 have h2:primR L E s=(.mk (primKs.getD j 0) 0 n [] 0,adv s 2 1):=by
  unfold primR
  dsimp only
  rw [ha,hp,if_neg (by omega),show limR L E { s with ops:=s.ops+1 } (s.ops+1) 32 9 = { s with ops:=s.ops+1 } from if_neg (by omega),if_neg (by show ¬ okR s=false;rw [hok];decide),if_pos (by omega),if_pos (by omega),ht]
  rfl
 rw [h2] at h1
 exact h1
def CE (L:List Tok) (E:Int) (e:Ex):Prop:=∀ o d,msM e=some (o,d)->∀ (s:Rd) (post:List Tok),L.drop s.i=exT e++post->okR s=true->s.ops+(o:Int)<=32->s.par+(d:Int)<=16 ->
 ∃ e',e'.plain=e.plain/\(6<=levM e.kind->Un L E s (e',adv s (exT e).length o)) /\
  (∀ n,1<=n->n<=5->n<=levM e.kind->lvo E post<=n->(n=3->lvo E post≠3)->∀ r,Lop L E n e' (adv s (exT e).length o) r->Bin L E n s r)
theorem am_par:amT (wordT [40]) preL=2:=by decide +kernel
theorem am_minus:amT (wordT [45]) preL=0:=by decide +kernel
theorem am_bang:amT (wordT [33]) preL=1:=by decide +kernel
theorem lv_rpar:opLev (wordT [41])=0:=by decide +kernel
theorem sg_rpar:sgnK (wordT [41])=true:=by decide +kernel
theorem lim_id {s:Rd} {n m e:Int} (h:n<=m):limR L E s n m e=s:=if_neg (by omega)
theorem paren {x:Ex} (hx:CE L E x) {o d:Nat} (hm:msM x=some (o,d)) {s:Rd} {post:List Tok} (h:L.drop s.i=[wordT [40]]++exT x++[wordT [41]]++post) (hok:okR s=true) (ho:s.ops+(o:Int)<=32) (hp:s.par+((d+1:Nat):Int)<=16) :
  ∃ x',x'.plain=x.plain/\Un L E s (x',adv s ([wordT [40]]++exT x++[wordT [41]]).length o):=by
 have h0:L.drop s.i=wordT [40] :: (exT x++([wordT [41]]++post)):=by rw [h];simp
 have h1:=drop_nx h0
 have hpk:=peek_cons (E:=E) h0
 obtain ⟨x',e1, -,e3⟩:=hx o d hm { s with i:=s.i+1,par:=s.par+1 } ([wordT [41]]++post) h1 hok ho (by show s.par+1+(d:Int)<=16;omega)
 have hd2:L.drop (s.i+1+(exT x).length)=wordT [41] :: post:=drop_app h1
 have hb:=e3 1 (by decide) (by decide) (by have:=lev_range x.kind;omega) (by show opLev (wordT [41])<=1;rw [lv_rpar];decide) (fun h=>absurd h (by decide)) _ (lop_stop (show okR s=true from hok) (by decide) (by show opLev (hd0 E (L.drop (s.i+1+(exT x).length)))≠1;rw [hd2];show opLev (wordT [41])≠1;rw [lv_rpar];decide))
 have hu:=Un.par (by rw [amg_T hok,hpk];exact am_par) (by rw [lim_id (by omega)];exact hok) hb
 refine ⟨x',e1,?_⟩
 have hpk2:peekR L E (adv { s with i:=s.i+1,par:=s.par+1 } (exT x).length o)=wordT [41]:=peek_cons hd2
 rw [exp_T (show okR (adv { s with i:=s.i+1,par:=s.par+1 } (exT x).length o)=true from hok) (by rw [hpk2];exact sg_rpar) (by rw [hpk2];rfl)] at hu
 have e4:({ nxtR (adv { s with i:=s.i+1,par:=s.par+1 } (exT x).length o) with par:=(nxtR (adv { s with i:=s.i+1,par:=s.par+1 } (exT x).length o)).par-1 }:Rd)=adv s ([wordT [40]]++exT x++[wordT [41]]).length o:=by
  have a1:s.i+1+(exT x).length+1=s.i+([wordT [40]]++exT x++[wordT [41]]).length:=by simp;omega
  have a2:s.par+1-1=s.par:=by omega
  show Rd.mk (s.i+1+(exT x).length+1) s.e s.pos (s.ops+(o:Int)) (s.par+1-1)=Rd.mk (s.i+([wordT [40]]++exT x++[wordT [41]]).length) s.e s.pos (s.ops+(o:Int)) s.par
  rw [a1,a2]
 rw [e4] at hu
 exact hu
theorem operand {x:Ex} (hx:CE L E x) {o d:Nat} {least:Int} (hm:msM x=some (o,d)) {s:Rd} {post:List Tok} (h:L.drop s.i=operT (x.kind,exT x) least++post) (hok:okR s=true) (ho:s.ops+(o:Int)<=32) (hp:s.par+((if levM x.kind<least then d+1 else d:Nat):Int)<=16) (h1:1<=least) (h6:least<=6) (hl:lvo E post<least) :
  ∃ x',x'.plain=x.plain/\(least<=5->Bin L E least s (x',adv s (operT (x.kind,exT x) least).length o))/\(least=6->Un L E s (x',adv s (operT (x.kind,exT x) least).length o)):=by
 have hdp:=drop_app h
 unfold operT at h hdp ⊢
 dsimp only at h hdp ⊢
 by_cases hlt:levM x.kind<least
 ·rw [if_pos hlt] at h hp hdp ⊢
  obtain ⟨x',e1,e2⟩:=paren hx hm h hok ho hp
  exact ⟨x',e1,fun h5=>un_bin (adv_ok hok) e2 h1 h5 (by show lvo E (L.drop (s.i+_))<least;rw [hdp];exact hl),fun _=>e2⟩
 ·rw [if_neg hlt] at h hp hdp ⊢
  obtain ⟨x',e1,e2,e3⟩:=hx o d hm s post h hok ho hp
  refine ⟨x',e1,fun h5=>?_,fun h=>e2 (by omega)⟩
  refine e3 least h1 h5 (by omega) (by omega) (by omega) _ (lop_stop (adv_ok hok) h1 ?_)
  show lvo E (L.drop (s.i+_))≠least
  rw [hdp];omega
theorem left_op {x:Ex} (hx:CE L E x) {o d:Nat} {q:Int} (hm:msM x=some (o,d)) {s:Rd} {post:List Tok} (h:L.drop s.i=operT (x.kind,exT x) (if q=3 then 4 else q)++post) (hok:okR s=true) (ho:s.ops+(o:Int)<=32) (hp:s.par+((if levM x.kind<(if q=3 then 4 else q) then d+1 else d:Nat):Int)<=16) (h1:1<=q) (h5:q<=5) (hl:lvo E post=q) :
  ∃ x',x'.plain=x.plain/\∀ r,Lop L E q x' (adv s (operT (x.kind,exT x) (if q=3 then 4 else q)).length o) r->Bin L E q s r:=by
 have hdp:=drop_app h
 by_cases h3:q=3
 ·subst h3
  rw [if_pos rfl] at h hp hdp ⊢
  obtain ⟨x',e1,e2, -⟩:=operand hx hm h hok ho hp (by decide) (by decide) (by omega)
  exact ⟨x',e1,fun r hr=>Bin.go (by decide) (e2 (by decide)) hr⟩
 ·rw [if_neg h3] at h hp hdp ⊢
  unfold operT at h hdp ⊢
  dsimp only at h hdp ⊢
  by_cases hlt:levM x.kind<q
  ·rw [if_pos hlt] at h hp hdp ⊢
   obtain ⟨x',e1,e2⟩:=paren hx hm h hok ho hp
   exact ⟨x',e1,fun r hr=>un_down (adv_ok hok) e2 h1 h5 (by show lvo E (L.drop (s.i+_))<=q;rw [hdp];omega) hr⟩
  ·rw [if_neg hlt] at h hp hdp ⊢
   obtain ⟨x',e1,e2,e3⟩:=hx o d hm s post h hok ho hp
   exact ⟨x',e1,e3 q h1 h5 (by omega) (by omega) (fun h=>absurd h h3)⟩
theorem ms_inv {k v:Int} {n:List UInt8} {a:List Ex} {p:Int} {o d:Nat} (h:msM (.mk k v n a p)=some (o,d)) :
  kOk k=true/\a.length=cntM k/\nmOk k n=true/\vlOk k v=true/\(cntM k=0->o=1/\d=0)/\(cntM k≠0->∃ d',msL k 0 a=some (o,d')/\d=if cntM k=1 then d'+1 else d'):=by
 unfold msM at h
 split at h
 ·cases h
 ·rename_i hc
  have h1:kOk k=true:=by cases hz:kOk k with|true=>rfl|false=>exact absurd (.inl hz) hc
  have h2:a.length=cntM k:=Classical.byContradiction fun hz=>hc (.inr (.inl hz))
  have h3:nmOk k n=true:=by cases hz:nmOk k n with|true=>rfl|false=>exact absurd (.inr (.inr (.inl hz))) hc
  have h4:vlOk k v=true:=by cases hz:vlOk k v with|true=>rfl|false=>exact absurd (.inr (.inr (.inr hz))) hc
  refine ⟨h1,h2,h3,h4,?_,?_⟩
  ·intro h0
   rw [if_pos h0] at h
   cases h;exact ⟨rfl,rfl⟩
  ·intro h0
   rw [if_neg h0] at h
   split at h
   ·cases h
   ·rename_i o' d' hm
    cases h
    exact ⟨d',hm,rfl⟩
theorem sign_all:∀ j:Nat,j<13->amT (wordT (signsL.getD j [])) signsL=(j:Int)/\sgnK (wordT (signsL.getD j []))=true:=by decide +kernel
theorem nm0 {k:Int} {n:List UInt8} (h:nmOk k n=true) (h2:k≠2) (h5:namB k=false):n=[]:=by
 unfold nmOk at h
 rw [if_neg (by rw [h5];simp [h2])] at h
 simpa using h
theorem vl0 {k v:Int} (h:vlOk k v=true) (h1:k≠1):v=0:=by
 unfold vlOk at h
 simp only [Bool.or_eq_true,Bool.and_eq_true,beq_iff_eq,decide_eq_true_eq] at h
 rcases h with h|h
 ·exact h
 ·exact absurd h.1 h1
theorem len_two {α : Type} {l:List α} (h:l.length=2):∃ x y,l=[x,y]:=by
 match l,h with
 | [x,y],_=>exact ⟨x,y,rfl⟩
theorem ex_complete:∀ (m:Nat) (e:Ex),e.sz<m->CE L E e:=by
 intro m
 induction m with
 | zero=>intro e h;omega
 | succ m ih =>
 intro e hm o d hms s post h hok ho hp
 cases e with|mk k v n a p =>
 obtain ⟨h1,h2,h3,h4,h5,h6⟩:=ms_inv hms
 have hlr:=lev_range k
 -- of a form that Un reads
 have viaUn:∀ e':Ex,e'.plain=(Ex.mk k v n a p).plain->Un L E s (e',adv s (exT (.mk k v n a p)).length o) ->
   ∃ e',e'.plain=(Ex.mk k v n a p).plain/\(6<=levM k->Un L E s (e',adv s (exT (.mk k v n a p)).length o)) /\
    (∀ n',1<=n'->n'<=5->n'<=levM k->lvo E post<=n'->(n'=3->lvo E post≠3)->∀ r,Lop L E n' e' (adv s (exT (.mk k v n a p)).length o) r->Bin L E n' s r):=fun e' he hu =>
  ⟨e',he,fun _=>hu,fun n' q1 q2 _ q4 _ r hr=>un_down (adv_ok hok) hu q1 q2 (by show lvo E (L.drop (s.i+_))<=n';rw [drop_app h];exact q4) hr⟩
 by_cases hc0:cntM k=0
 ·obtain ⟨rfl,rfl⟩:=h5 hc0
  have ha:a=[]:=List.eq_nil_of_length_eq_zero (by omega)
  subst ha
  have hl7:levM k=7:=by
   unfold cntM at hc0
   split at hc0
   ·omega
   ·split at hc0<;>omega
  have hk9:1<=k/\k<=9:=by
   unfold kOk at h1
   simp only [Bool.or_eq_true,Bool.and_eq_true,decide_eq_true_eq] at h1
   have hk24:1<=k/\k<=24:=by omega
   refine ⟨hk24.1,?_⟩
   apply Classical.byContradiction
   intro hc
   unfold levM at hl7
   repeat' split at hl7
   all_goals omega
  refine (show ∃ e',_ from ?_)
  have hT:exT (.mk k v n [] p)=buildT k v n []:=by rw [exT,exTs]
  rw [hT] at h viaUn ⊢
  have ho1:s.ops+1<=32:=ho
  have:k=1\/k=2\/k=3\/k=4\/k=5\/k=6\/k=7\/k=8\/k=9:=by omega
  rcases this with rfl|rfl|rfl|rfl|rfl|rfl|rfl|rfl|rfl
  ·have hn:=nm0 h3 (by decide) (by decide)
   subst hn
   have hv:¬ (v<0\/2147483647<v):=by
    unfold vlOk at h4
    simp only [Bool.or_eq_true,Bool.and_eq_true,beq_iff_eq,decide_eq_true_eq] at h4
    omega
   have hb:buildT 1 v [] []=[⟨3,[],v,0⟩]:=by unfold buildT;dsimp only;rw [if_pos rfl];unfold numT;rw [if_neg hv]
   rw [hb] at h viaUn ⊢
   exact viaUn (.mk 1 v [] [] 0) rfl (prim_num hok h ho1)
  ·have hv:=vl0 h4 (by decide)
   subst hv
   have hn:isNameM n=true:=h3
   have hb:buildT 2 0 n []=[⟨1,n,0,0⟩]:=by unfold buildT;dsimp only;rw [if_neg (by decide),if_pos rfl];unfold namedT;rw [if_neg (by rw [hn];decide)]
   rw [hb] at h viaUn ⊢
   exact viaUn (.mk 2 0 n [] 0) rfl (prim_var hok h ho1)
  ·have hv:=vl0 h4 (by decide)
   have hn:=nm0 h3 (by decide) (by decide)
   subst hv hn
   have hb:buildT 3 0 [] []=[wordT [116,114,117,101]]:=rfl
   rw [hb] at h viaUn ⊢
   exact viaUn (.mk 3 0 [] [] 0) rfl (prim_word (j:=0) hok h ho1 (by decide) (by decide +kernel) (by decide +kernel))
  ·have hv:=vl0 h4 (by decide)
   have hn:=nm0 h3 (by decide) (by decide)
   subst hv hn
   have hb:buildT 4 0 [] []=[wordT [102,97,108,115,101]]:=rfl
   rw [hb] at h viaUn ⊢
   exact viaUn (.mk 4 0 [] [] 0) rfl (prim_word (j:=1) hok h ho1 (by decide) (by decide +kernel) (by decide +kernel))
  ·have hv:=vl0 h4 (by decide)
   subst hv
   have hn:isNameM n=true:=h3
   have hb:buildT 5 0 n []=[wordT [99,108,111,115,101,100],⟨1,n,0,0⟩]:=by
    show [wordT [99,108,111,115,101,100]]++namedT n=_
    unfold namedT;rw [if_neg (by rw [hn];decide)];rfl
   rw [hb] at h viaUn ⊢
   exact viaUn (.mk 5 0 n [] 0) rfl (prim_name (j:=4) hok h ho1 (by decide) (by decide) (by decide +kernel) (by decide +kernel))
  ·have hv:=vl0 h4 (by decide)
   subst hv
   have hn:isNameM n=true:=h3
   have hb:buildT 6 0 n []=[wordT [97,99,116,105,118,101],⟨1,n,0,0⟩]:=by
    show [wordT [97,99,116,105,118,101]]++namedT n=_
    unfold namedT;rw [if_neg (by rw [hn];decide)];rfl
   rw [hb] at h viaUn ⊢
   exact viaUn (.mk 6 0 n [] 0) rfl (prim_name (j:=5) hok h ho1 (by decide) (by decide) (by decide +kernel) (by decide +kernel))
  ·have hv:=vl0 h4 (by decide)
   subst hv
   have hn:isNameM n=true:=h3
   have hb:buildT 7 0 n []=[wordT [108,101,102,116],⟨1,n,0,0⟩]:=by
    show [wordT [108,101,102,116]]++namedT n=_
    unfold namedT;rw [if_neg (by rw [hn];decide)];rfl
   rw [hb] at h viaUn ⊢
   exact viaUn (.mk 7 0 n [] 0) rfl (prim_name (j:=6) hok h ho1 (by decide) (by decide) (by decide +kernel) (by decide +kernel))
  ·have hv:=vl0 h4 (by decide)
   have hn:=nm0 h3 (by decide) (by decide)
   subst hv hn
   have hb:buildT 8 0 [] []=[wordT [112,108,97,121,101,114]]:=rfl
   rw [hb] at h viaUn ⊢
   exact viaUn (.mk 8 0 [] [] 0) rfl (prim_word (j:=2) hok h ho1 (by decide) (by decide +kernel) (by decide +kernel))
  ·have hv:=vl0 h4 (by decide)
   have hn:=nm0 h3 (by decide) (by decide)
   subst hv hn
   have hb:buildT 9 0 [] []=[wordT [98,97,108,108]]:=rfl
   rw [hb] at h viaUn ⊢
   exact viaUn (.mk 9 0 [] [] 0) rfl (prim_word (j:=3) hok h ho1 (by decide) (by decide +kernel) (by decide +kernel))
 obtain ⟨d',hl,hd'⟩:=h6 hc0
 clear h5 h6
 have hv:=vl0 h4 (by rintro rfl;exact hc0 rfl)
 have hn:=nm0 h3 (by rintro rfl;exact hc0 rfl) (by
  cases hz:namB k with
  | false=>rfl
  | true =>
   unfold namB at hz
   simp only [Bool.or_eq_true,beq_iff_eq] at hz
   rcases hz with rfl|rfl|rfl<;>exact absurd rfl hc0)
 subst hv hn
 by_cases hl6:levM k=6
 · -- one sign ahead
  have hk:k=10\/k=11:=by
   unfold levM at hl6
   repeat' split at hl6
   all_goals omega
  have hc1:cntM k=1:=by unfold cntM;rw [if_pos hl6]
  rw [hc1] at h2 hd'
  rw [if_pos rfl] at hd'
  obtain ⟨x,rfl⟩:∃ x,a=[x]:=List.length_eq_one_iff.1 h2
  have hxc:=ih x (by rw [Ex.sz,Ex.szs,Ex.szs] at hm;omega)
  unfold msL at hl
  cases hx:msM x with
  | none=>rw [hx] at hl;cases hl
  | some q =>
   obtain ⟨o1,d1⟩:=q
   rw [hx] at hl
   dsimp only at hl
   unfold msL at hl
   dsimp only at hl
   simp only [Option.some.injEq,Prod.mk.injEq,Nat.add_zero,Nat.max_zero] at hl
   obtain ⟨rfl,hd1⟩:=hl
   have hwr:wrpB k x.kind 0=decide (levM x.kind<6):=by
    unfold wrpB
    rw [hl6]
    simp
   rw [hwr] at hd1
   have hT:exT (.mk k 0 [] [x] p)=[wordT (if k=10 then [45] else [33])]++operT (x.kind,exT x) 6:=by
    rw [exT,exTs,exTs]
    rcases hk with rfl|rfl<;>rfl
   rw [hT] at h viaUn ⊢
   have h0:L.drop s.i=wordT (if k=10 then [45] else [33]) :: (operT (x.kind,exT x) 6++post):=by rw [h];simp
   have hdn:=drop_nx h0
   have hpk:=peek_cons (E:=E) h0
   have ham:amgR L E s preL=k-10:=by
    rw [amg_T hok,hpk]
    rcases hk with rfl|rfl
    ·exact am_minus
    ·exact am_bang
   have hlt6:lvo E post<6:=by
    unfold lvo opLev
    split
    ·decide
    ·rename_i hz
     have:=lev_range (12+amT (hd0 E post) signsL)
     have h13:amT (hd0 E post) signsL<13:=by
      have gen:∀ (l:List (List UInt8)) (j:Nat) (w:List UInt8),ixA j l w<((j+l.length:Nat):Int):=by
       intro l
       induction l with
       | nil=>intro j w;simp [ixA];omega
       | cons a l ih =>
        intro j w
        have:=ih (j+1) w
        simp only [ixA,List.length_cons]
        split<;>omega
      unfold amT
      split
      ·exact gen signsL 0 _
      ·decide
     exact lev_ops (by omega) h13
   obtain ⟨x',e1, -,e3⟩:=operand (least:=6) hxc hx (s:={ s with i:=s.i+1,par:=s.par+1 }) hdn hok ho (by
    show s.par+1+_<=16
    have:((if levM x.kind<6 then d1+1 else d1:Nat):Int)=(d':Int):=by
     rw [<- hd1]
     by_cases hz:levM x.kind<6
     ·rw [if_pos hz,if_pos (by simpa using hz)]
     ·rw [if_neg hz,if_neg (by simpa using hz)]
    rw [this]
    omega) (by decide) (by decide) hlt6
   have hu:=Un.pre (L:=L) (E:=E) (s:=s) (by rw [ham];omega) (by rw [ham];omega) (by rw [lim_id (by omega)];exact hok) (e3 rfl)
   rw [ham,hpk] at hu
   have e4:({ adv { s with i:=s.i+1,par:=s.par+1 } (operT (x.kind,exT x) 6).length o1 with par:=(adv { s with i:=s.i+1,par:=s.par+1 } (operT (x.kind,exT x) 6).length o1).par-1 }:Rd)=adv s ([wordT (if k=10 then [45] else [33])]++operT (x.kind,exT x) 6).length o1:=by
    have a1:s.i+1+(operT (x.kind,exT x) 6).length=s.i+([wordT (if k=10 then [45] else [33])]++operT (x.kind,exT x) 6).length:=by simp;omega
    have a2:s.par+1-1=s.par:=by omega
    show Rd.mk (s.i+1+(operT (x.kind,exT x) 6).length) s.e s.pos (s.ops+(o1:Int)) (s.par+1-1)=Rd.mk (s.i+_) s.e s.pos (s.ops+(o1:Int)) s.par
    rw [a1,a2]
   rw [e4] at hu
   refine viaUn _ ?_ hu
   rw [Ex.plain,Ex.plain,Ex.plains,Ex.plains,Ex.plains,Ex.plains,e1]
   congr 1
   omega
 · -- an operator between two operands
  have hl5:levM k<=5:=by
   unfold cntM at hc0
   rw [if_neg hl6] at hc0
   split at hc0
   ·omega
   ·exact absurd rfl hc0
  have hc2:cntM k=2:=by unfold cntM;rw [if_neg hl6,if_pos (by omega)]
  rw [hc2] at h2 hd'
  rw [if_neg (by decide)] at hd'
  subst hd'
  obtain ⟨x,y,rfl⟩:∃ x y,a=[x,y]:=len_two h2
  have hxc:=ih x (by rw [Ex.sz,Ex.szs,Ex.szs] at hm;omega)
  have hyc:=ih y (by rw [Ex.sz,Ex.szs,Ex.szs,Ex.szs] at hm;omega)
  unfold msL at hl
  cases hx:msM x with
  | none=>rw [hx] at hl;cases hl
  | some q =>
   obtain ⟨o1,d1⟩:=q
   rw [hx] at hl
   dsimp only at hl
   unfold msL at hl
   cases hy:msM y with
   | none=>rw [hy] at hl;cases hl
   | some q2 =>
    obtain ⟨o2,d2⟩:=q2
    rw [hy] at hl
    dsimp only at hl
    unfold msL at hl
    dsimp only at hl
    simp only [Option.some.injEq,Prod.mk.injEq,Nat.add_zero,Nat.max_zero] at hl
    obtain ⟨rfl,hdd⟩:=hl
    have hlk:=lev_lt (k:=k) (by omega)
    have hk12:12<=k:=by
     apply Classical.byContradiction
     intro hc
     have:k=10\/k=11:=by omega
     exact hl6 (lev_pre this)
    obtain ⟨j,hj⟩:∃ j:Nat,k=12+(j:Int):=⟨(k-12).toNat,by omega⟩
    have hj13:j<13:=by omega
    have hjn:(k-12).toNat=j:=by omega
    obtain ⟨hs1,hs2⟩:=sign_all j hj13
    have hT:exT (.mk k 0 [] [x,y] p)=operT (x.kind,exT x) (if levM k=3 then 4 else levM k)++[wordT (signsL.getD j [])]++operT (y.kind,exT y) (levM k+1):=by
     rw [exT,exTs,exTs,exTs]
     unfold buildT
     dsimp only
     rw [if_neg (by omega),if_neg (by omega),if_neg (by omega),if_neg (by omega),if_neg (by omega),if_neg (by omega),if_neg (by omega),if_neg (by omega),if_neg (by omega),if_pos (by omega),hjn]
    rw [hT] at h ⊢
    generalize wordT (signsL.getD j [])=sg at hs1 hs2 hT h ⊢
    have hsl:opLev sg=levM k:=by unfold opLev;rw [hs1,if_neg (by omega), <- hj]
    have hdx:((if levM x.kind<(if levM k=3 then 4 else levM k) then d1+1 else d1:Nat):Int)<=(d:Int):=by
     have hwr:(wrpB k x.kind 0=true)↔levM x.kind<(if levM k=3 then 4 else levM k):=by
      unfold wrpB
      simp only [Bool.or_eq_true,Bool.and_eq_true,decide_eq_true_eq,beq_iff_eq]
      by_cases h3:levM k=3
      ·rw [if_pos h3];omega
      ·rw [if_neg h3];omega
     by_cases hz:levM x.kind<(if levM k=3 then 4 else levM k)
     ·rw [if_pos hz];rw [if_pos (hwr.2 hz)] at hdd;omega
     ·rw [if_neg hz];rw [if_neg (fun h=>hz (hwr.1 h))] at hdd;omega
    have hdy:((if levM y.kind<levM k+1 then d2+1 else d2:Nat):Int)<=(d:Int):=by
     have hwr:(wrpB k y.kind (0+1)=true)↔levM y.kind<levM k+1:=by
      unfold wrpB
      rw [show ((0+1:Nat) == 1)=true from rfl,Bool.true_or,Bool.and_true]
      simp only [Bool.or_eq_true,decide_eq_true_eq,beq_iff_eq]
      omega
     by_cases hz:levM y.kind<levM k+1
     ·rw [if_pos hz];rw [if_pos (hwr.2 hz)] at hdd;omega
     ·rw [if_neg hz];rw [if_neg (fun h=>hz (hwr.1 h))] at hdd;omega
    have h0:L.drop s.i=operT (x.kind,exT x) (if levM k=3 then 4 else levM k)++(sg :: (operT (y.kind,exT y) (levM k+1)++post)):=by rw [h];simp
    obtain ⟨x',e1,e2⟩:=left_op hxc hx h0 hok (by omega) (by omega) hlr.1 hl5 (by show opLev sg=levM k;exact hsl)
    have hd1:=drop_app h0
    have hpk:peekR L E (adv s (operT (x.kind,exT x) (if levM k=3 then 4 else levM k)).length o1)=sg:=peek_cons hd1
    have hd2:=drop_nx (s:=adv s (operT (x.kind,exT x) (if levM k=3 then 4 else levM k)).length o1) hd1
    have ham:amgR L E (adv s (operT (x.kind,exT x) (if levM k=3 then 4 else levM k)).length o1) signsL=(j:Int):=by rw [amg_T (adv_ok hok),hpk];exact hs1
    have hfin:s.i+(operT (x.kind,exT x) (if levM k=3 then 4 else levM k)).length+1+(operT (y.kind,exT y) (levM k+1)).length=s.i+(operT (x.kind,exT x) (if levM k=3 then 4 else levM k)++[sg]++operT (y.kind,exT y) (levM k+1)).length:=by simp only [List.length_append,List.length_singleton];omega
    have hadv:adv (nxtR (adv s (operT (x.kind,exT x) (if levM k=3 then 4 else levM k)).length o1)) (operT (y.kind,exT y) (levM k+1)).length o2=adv s (operT (x.kind,exT x) (if levM k=3 then 4 else levM k)++[sg]++operT (y.kind,exT y) (levM k+1)).length (o1+o2):=by
     have a2:s.ops+(o1:Int)+(o2:Int)=s.ops+((o1+o2:Nat):Int):=by omega
     show Rd.mk (s.i+_+1+_) s.e s.pos (s.ops+(o1:Int)+(o2:Int)) s.par=Rd.mk (s.i+_) s.e s.pos (s.ops+((o1+o2:Nat):Int)) s.par
     rw [hfin,a2]
    have hdr:=drop_app h
    have main:lvo E post<=levM k->∃ y',y'.plain=y.plain/\Bin L E (levM k+1) (nxtR (adv s (operT (x.kind,exT x) (if levM k=3 then 4 else levM k)).length o1)) (y',adv s (operT (x.kind,exT x) (if levM k=3 then 4 else levM k)++[sg]++operT (y.kind,exT y) (levM k+1)).length (o1+o2)):=by
     intro hlv
     obtain ⟨y',f1,f2,f3⟩:=operand (least:=levM k+1) hyc hy (s:=nxtR (adv s (operT (x.kind,exT x) (if levM k=3 then 4 else levM k)).length o1)) hd2 hok (by show s.ops+(o1:Int)+(o2:Int)<=32;omega) (by show s.par+_<=16;omega) (by omega) (by omega) (by omega)
     rw [hadv] at f2 f3
     refine ⟨y',f1,?_⟩
     by_cases h5':levM k+1<=5
     ·exact f2 h5'
     ·exact Bin.un (by omega) (f3 (by omega))
    by_cases hlv:lvo E post<=levM k
    ·obtain ⟨y',f1,f2⟩:=main hlv
     refine ⟨.mk k 0 [] [x',y'] sg.pos,?_,fun h=>absurd h (by show ¬ 6<=levM k;omega),?_⟩
     ·rw [Ex.plain,Ex.plain,Ex.plains,Ex.plains,Ex.plains,Ex.plains,Ex.plains,Ex.plains,e1,f1]
     ·intro n' q1 q2 q3 q4 q5 r hr
      have q3:n'<=levM k:=q3
      have key:∀ r',Lop L E (levM k) (.mk k 0 [] [x',y'] sg.pos) (adv s (operT (x.kind,exT x) (if levM k=3 then 4 else levM k)++[sg]++operT (y.kind,exT y) (levM k+1)).length (o1+o2)) r'->(levM k=3->lvo E post≠3)->Bin L E (levM k) s r':=by
       intro r' hr' h33
       refine e2 r' ?_
       by_cases h3:levM k=3
       ·have hst:=lop_stop (L:=L) (E:=E) (n:=levM k) (e:=.mk k 0 [] [x',y'] sg.pos) (s:=adv s (operT (x.kind,exT x) (if levM k=3 then 4 else levM k)++[sg]++operT (y.kind,exT y) (levM k+1)).length (o1+o2)) (adv_ok hok) hlr.1 (by show lvo E (L.drop (s.i+_))≠levM k;rw [hdr,h3];exact h33 h3)
        have:=Evt.uniq hr' hst
        rw [this]
        have ht:=Lop.three (L:=L) (E:=E) (n:=levM k) (e:=x') (x:=y') (s:=adv s (operT (x.kind,exT x) (if levM k=3 then 4 else levM k)).length o1) (by rw [ham];omega) (by rw [ham, <- hj]) h3 f2
        rw [ham, <- hj,hpk] at ht
        exact ht
       ·refine Lop.more (by rw [ham];omega) (by rw [ham, <- hj]) h3 f2 ?_
        rw [ham, <- hj,hpk]
        exact hr'
      by_cases hnq:n'=levM k
      ·subst hnq
       exact key r hr q5
      ·refine bin_down (adv_ok hok) 6 (m:=levM k) (by omega) (key _ (lop_stop (adv_ok hok) hlr.1 ?_) (by omega)) q1 (by omega) (by omega) ?_ hr
       ·show lvo E (L.drop (s.i+_))≠levM k
        rw [hdr];omega
       ·show lvo E (L.drop (s.i+_))<=n'
        rw [hdr];exact q4
    ·refine ⟨.mk k 0 [] [x,y] p,rfl,fun h=>absurd h (by show ¬ 6<=levM k;omega),?_⟩
     intro n' q1 q2 q3 q4 q5 r hr
     have q3:n'<=levM k:=q3
     omega
theorem xpn_complete {e:Ex} (hv:vlEx e=true) {s:Rd} {post:List Tok} (h:L.drop s.i=exT e++post) (hok:okR s=true) (hl:lvo E post=0) :
  ∃ e' s',e'.plain=e.plain/\Xpn L E s (e',s')/\s'.i=s.i+(exT e).length/\okR s'=true:=by
 unfold vlEx at hv
 cases hms:msM e with
 | none=>rw [hms] at hv;cases hv
 | some q =>
  obtain ⟨o,d⟩:=q
  rw [hms] at hv
  simp only [Bool.and_eq_true,decide_eq_true_eq] at hv
  obtain ⟨e',e1, -,e3⟩:=ex_complete (L:=L) (E:=E) (e.sz+1) e (by omega) o d hms { s with ops:=0,par:=0 } post h hok (by show (0:Int)+(o:Int)<=32;omega) (by show (0:Int)+(d:Int)<=16;omega)
  refine ⟨e',adv { s with ops:=0,par:=0 } (exT e).length o,e1,?_,rfl,hok⟩
  refine e3 1 (by decide) (by decide) (lev_range _).1 (by omega) (fun h=>absurd h (by decide)) _ (lop_stop (show okR s=true from hok) (by decide) ?_)
  show lvo E (L.drop (s.i+_))≠1
  rw [drop_app h];omega
end
end Go.Pb
namespace Go.Pb
variable [Go.Sym.Tab]
open Go.Sym
section
variable {L:List Tok} {E:Int}
theorem exp_w {s:Rd} {w:List UInt8} {ts:List Tok} (h:L.drop s.i=wordT w :: ts) (hok:okR s=true) (hs:sgnK (wordT w)=true):expR L E s w=nxtR s :=
 exp_T hok (by rw [peek_cons h];exact hs) (by rw [peek_cons h];rfl)
theorem take_n {s:Rd} {n:List UInt8} {ts:List Tok} (h:L.drop s.i=namedT n++ts) (hok:okR s=true) (hn:isNameM n=true):takeR L E s 1=(⟨1,n,0,0⟩,nxtR s):=by
 have h0:L.drop s.i=⟨1,n,0,0⟩ :: ts:=by rw [h];unfold namedT;rw [if_neg (by rw [hn];decide)];rfl
 rw [take_T hok (by rw [peek_cons h0]),peek_cons h0]
theorem take_i3 {s:Rd} {v:Int} {ts:List Tok} (h:L.drop s.i=numT v++ts) (hok:okR s=true) (h0:0<=v) (h1:v<=2147483647):takeR L E s 3=(⟨3,[],v,0⟩,nxtR s):=by
 have h2:L.drop s.i=⟨3,[],v,0⟩ :: ts:=by rw [h];unfold numT;rw [if_neg (by omega)];rfl
 rw [take_T hok (by rw [peek_cons h2]),peek_cons h2]
theorem take_s4 {s:Rd} {t:List UInt8} {ts:List Tok} (h:L.drop s.i=textT t++ts) (hok:okR s=true) (ht:isTxt t=true):takeR L E s 4=(⟨4,t,0,0⟩,nxtR s):=by
 unfold isTxt at ht
 simp only [Bool.and_eq_true,decide_eq_true_eq] at ht
 have h0:L.drop s.i=⟨4,t,0,0⟩ :: ts:=by rw [h];unfold textT;rw [if_neg (by rw [ht.1];simp;omega)];rfl
 rw [take_T hok (by rw [peek_cons h0]),peek_cons h0]
theorem app_nx {s:Rd} {a ts:List Tok} (h:L.drop s.i=a++ts) (ha:a.length=1):L.drop (s.i+1)=ts:=by
 rw [<- ha];exact drop_app h
def elsB (E:Int) (ts:List Tok):Bool:=sgnK (hd0 E ts) && (hd0 E ts).text == [101,108,115,101]
theorem st_all:∀ j:Nat,j<18->amT (wordT (stmtsL.getD j [])) stmtsL=(j:Int)/\sgnK (wordT (stmtsL.getD j []))=true/\(wordT (stmtsL.getD j [])).text≠[125]/\(wordT (stmtsL.getD j [])).text≠[101,108,115,101]:=by decide +kernel
theorem w61:sgnK (wordT [61])=true:=by decide +kernel
theorem w59:sgnK (wordT [59])=true/\opLev (wordT [59])=0:=by decide +kernel
theorem w44:sgnK (wordT [44])=true/\opLev (wordT [44])=0:=by decide +kernel
theorem w123:sgnK (wordT [123])=true/\opLev (wordT [123])=0/\(wordT [123]).text≠[105,102]:=by decide +kernel
theorem w125:sgnK (wordT [125])=true/\(wordT [125]).text≠[101,108,115,101]:=by decide +kernel
theorem wels:sgnK (wordT [101,108,115,101])=true:=by decide +kernel
def HdS (t:Tok):Prop:=t.kind=1\/∃ j,j<18/\t=wordT (stmtsL.getD j [])
theorem HdS.facts {t:Tok} (h:HdS t):(sgnK t && t.text == [125])=false/\(sgnK t && t.text == [101,108,115,101])=false/\(0<=amT t stmtsL\/t.kind=1):=by
 rcases h with h|⟨j,hj,rfl⟩
 ·have:sgnK t=false:=by unfold sgnK;rw [h];rfl
  exact ⟨by rw [this];rfl,by rw [this];rfl,.inr h⟩
 ·obtain ⟨h1,h2,h3,h4⟩:=st_all j hj
  refine ⟨?_,?_,.inl (by omega)⟩
  ·rw [h2,Bool.true_and];simpa using h3
  ·rw [h2,Bool.true_and];simpa using h4
theorem vs_inv {d:Nat} {k p:Int} {n t:List UInt8} {a:List Ex} {x y:List St} (h:vlSt d (.mk k n t a x y p)=true) :
  (1<=k/\k<=19)/\(a.length=(shpM k).args/\a.all vlEx=true)/\((if (shpM k).name=true then isNameM n else n == [])=true/\(if (shpM k).text=true then isTxt t else t == [])=true) /\
   (((shpM k).thn=true\/x=[])/\((shpM k).els=true\/y=[]))/\vlBl x (d+1)=true/\vlBl y (d+1)=true:=by
 unfold vlSt at h
 simp only [Bool.and_eq_true,decide_eq_true_eq,beq_iff_eq,Bool.or_eq_true,List.isEmpty_iff] at h
 obtain ⟨⟨⟨⟨⟨h1,h2⟩,h3,h4⟩,h5,h6⟩,h7,h8⟩,h9,h10⟩:=h
 refine ⟨⟨h1,h2⟩,⟨h3,h4⟩,⟨h5,h6⟩,⟨h7,h8⟩,?_,?_⟩
 ·unfold vlBl
  simp only [Bool.and_eq_true,decide_eq_true_eq,Bool.or_eq_true,List.isEmpty_iff]
  exact h9
 ·unfold vlBl
  simp only [Bool.and_eq_true,decide_eq_true_eq,Bool.or_eq_true,List.isEmpty_iff]
  exact h10
theorem st_head {d:Nat} {x:St} (h:vlSt d x=true):∃ t ts,stT x=t :: ts/\HdS t:=by
 cases x with|mk k n t a x y p =>
 obtain ⟨⟨k1,k2⟩, -,⟨hn, -⟩, -⟩:=vs_inv h
 unfold stT
 by_cases h1:k=1
 ·subst h1
  rw [if_pos rfl]
  have hn:isNameM n=true:=hn
  refine ⟨⟨1,n,0,0⟩,[wordT [61]]++agT a 0++[wordT [59]],?_,.inl rfl⟩
  unfold namedT;rw [if_neg (by rw [hn];decide)];simp
 rw [if_neg h1,if_neg (by omega)]
 dsimp only
 have hw:HdS (wordT (stmtsL.getD (k-2).toNat [])):=.inr ⟨(k-2).toNat,by omega,rfl⟩
 generalize wordT (stmtsL.getD (k-2).toNat [])=w at hw
 by_cases h23:k=2\/k=3
 ·rw [if_pos h23]
  match y with
  | []=>exact ⟨w,_,rfl,hw⟩
  | [q] =>
   dsimp only
   split
   ·exact ⟨w,_,rfl,hw⟩
   ·exact ⟨w,_,rfl,hw⟩
  | q :: q2 :: l=>exact ⟨w,_,rfl,hw⟩
 rw [if_neg h23]
 repeat' split
 all_goals exact ⟨w,_,rfl,hw⟩
def CSt (L:List Tok) (E:Int) (x:St):Prop:=∀ (d:Nat) (s:Rd) (post:List Tok),vlSt d x=true->d<=8->L.drop s.i=stT x++post->okR s=true->elsB E post=false ->
 ∃ x' s',x'.plain=x.plain/\Stm' L E d s (x',s')/\s'.i=s.i+(stT x).length/\okR s'=true
theorem loop_complete:∀ (l:List St),(∀ x∈l,CSt L E x)->∀ (acc:List St) (d:Nat) (s:Rd) (post:List Tok),vlSts d l=true->acc.length+l.length<=64->(l=[]\/d<=8)->L.drop s.i=stTs l++([wordT [125]]++post)->okR s=true ->
  ∃ l' s',St.plains l'=St.plains l/\Blp' L E d acc s (acc++l',s')/\s'.i=s.i+(stTs l).length+1/\okR s'=true
 | [],_,acc,d,s,post,hv,hl,hd,h,hok=>by
  have h0:L.drop s.i=wordT [125] :: post:=by rw [h];rfl
  have hi:isR L E s [125]=true:=by rw [is_T hok,peek_cons h0,w125.1];rfl
  have hb:=Blp'.stop (L:=L) (E:=E) (d:=d) (l:=acc) (s:=s) (by rw [hi];simp)
  rw [exp_w h0 hok w125.1] at hb
  exact ⟨[],nxtR s,rfl,by rw [List.append_nil];exact hb,rfl,hok⟩
 | x :: l,hx,acc,d,s,post,hv,hl,hd,h,hok=>by
  rw [vlSts,Bool.and_eq_true] at hv
  have hd8:d<=8:=hd.resolve_left (by simp)
  obtain ⟨t,ts,e1,e2⟩:=st_head hv.1
  obtain ⟨f1,f2,f3⟩:=e2.facts
  have h0:L.drop s.i=stT x++(stTs l++([wordT [125]]++post)):=by rw [h,stTs,List.append_assoc]
  have hp:peekR L E s=t:=peek_cons (ts:=ts++(stTs l++([wordT [125]]++post))) (by rw [h0,e1];rfl)
  have hels:elsB E (stTs l++([wordT [125]]++post))=false:=by
   unfold elsB
   cases l with
   | nil =>
    show (sgnK (wordT [125]) && (wordT [125]).text == [101,108,115,101])=false
    rw [w125.1,Bool.true_and];simpa using w125.2
   | cons y l =>
    have hv2:=hv.2
    rw [vlSts,Bool.and_eq_true] at hv2
    obtain ⟨u,us,g1,g2⟩:=st_head hv2.1
    rw [stTs,g1]
    exact g2.facts.2.1
  obtain ⟨x',s1,p1,p2,p3,p4⟩:=hx x List.mem_cons_self d s _ hv.1 hd8 h0 hok hels
  have hdr:L.drop s1.i=stTs l++([wordT [125]]++post):=by rw [p3];exact drop_app h0
  obtain ⟨l',s',q1,q2,q3,q4⟩:=loop_complete l (fun y hy=>hx y (List.mem_cons_of_mem _ hy)) (acc++[x']) d s1 post hv.2 (by simp only [List.length_append,List.length_cons,List.length_nil] at hl ⊢;omega) (.inr hd8) hdr p4
  refine ⟨x' :: l',s',by rw [St.plains,St.plains,p1,q1],?_,by rw [q3,p3,stTs,List.length_append];omega,q4⟩
  refine Blp'.more (s1:=s1) (x:=x') ⟨hok,by rw [is_T hok,hp];exact f1⟩ ?_ ?_ (by rw [List.append_assoc] at q2;exact q2)
  ·rintro ⟨g1,g2⟩
   rw [amg_T hok,hp] at g1
   rw [isK_T hok,hp] at g2
   rcases f3 with f3|f3
   ·omega
   ·rw [f3] at g2;simp at g2
  ·rw [lim_id (by simp only [List.length_cons] at hl;omega)];exact p2
theorem block_complete {l:List St} (hx:∀ x∈l,CSt L E x) {d:Nat} {s:Rd} {post:List Tok} (hv:vlBl l d=true) (h:L.drop s.i=blT l++post) (hok:okR s=true) :
  ∃ l' s',St.plains l'=St.plains l/\Blk' L E d s (l',s')/\s'.i=s.i+(blT l).length/\okR s'=true:=by
 unfold vlBl at hv
 simp only [Bool.and_eq_true,decide_eq_true_eq,Bool.or_eq_true,List.isEmpty_iff] at hv
 have h0:L.drop s.i=wordT [123] :: (stTs l++([wordT [125]]++post)):=by rw [h];unfold blT;simp
 have he:=exp_w (E:=E) h0 hok w123.1
 obtain ⟨l',s',q1,q2,q3,q4⟩:=loop_complete l hx [] d (nxtR s) post hv.2 (by simp only [List.length_nil];omega) hv.1.2 (drop_nx h0) hok
 refine ⟨l',s',q1,Blk'.mk (by rw [he];exact q2),?_,q4⟩
 rw [q3]
 unfold blT
 simp only [List.length_append,List.length_singleton]
 show s.i+1+_+1=_
 omega
theorem all_one {a:List Ex} (h:a.length=1) (hv:a.all vlEx=true):∃ e,a=[e]/\vlEx e=true:=by
 obtain ⟨e,rfl⟩:=List.length_eq_one_iff.1 h
 exact ⟨e,rfl,by simpa using hv⟩
theorem ag0 (e:Ex) (l:List Ex):agT (e :: l) 0=exT e:=rfl
theorem ag1 (e e2:Ex) (l:List Ex):agT (e :: e2 :: l) 1=exT e2:=rfl
theorem shp_other {k:Int} (h1:k≠1) (h2:k≠2) (h3:k≠3) (h4:k≠4) (h8:k≠8) (h9:k≠9) (h10:k≠10) (h18:k≠18) (h19:k≠19):shpM k=⟨true,false,0,false,false⟩:=by
 unfold shpM
 rw [if_neg (by omega),if_neg h9,if_neg h2,if_neg h3,if_neg h4,if_neg h18,if_neg h19]
def restT:List St->List Tok
 | []=>[]
 | [q]=>if q.kind=2 then [wordT [101,108,115,101]]++stT q else [wordT [101,108,115,101]]++blT [q]
 | q :: q2 :: r=>[wordT [101,108,115,101]]++blT (q :: q2 :: r)
theorem st_complete:∀ (m:Nat) (x:St),x.sz<m->CSt L E x:=by
 intro m
 induction m with
 | zero=>intro x h;omega
 | succ m ih =>
 intro x hm d s post hv hd h hok hels
 cases x with|mk k n t a x y p =>
 obtain ⟨⟨k1,k2⟩,⟨ha,hav⟩,⟨hn,ht⟩,⟨hx,hy⟩,hbx,hby⟩:=vs_inv hv
 have hcx:∀ q∈x,CSt L E q:=fun q hq=>ih q (by rw [St.sz] at hm;have:=St.szs_mem hq;omega)
 have hcy:∀ q∈y,CSt L E q:=fun q hq=>ih q (by rw [St.sz] at hm;have:=St.szs_mem hq;omega)
 have hlim:okR (limR L E s (d:Int) 8 50)=true:=by rw [lim_id (by omega)];exact hok
 have hcast:((d+1:Nat):Int)=(d:Int)+1:=by omega
 by_cases hk1:k=1
 · -- an assignment
  subst hk1
  have hn:isNameM n=true:=hn
  have ht:t=[]:=by have h':(t == [])=true:=ht;simpa using h'
  have hx:x=[]:=hx.resolve_left (by decide)
  have hy:y=[]:=hy.resolve_left (by decide)
  subst ht hx hy
  obtain ⟨e,rfl,he⟩:=all_one ha hav
  have hT:stT (.mk 1 n [] [e] [] [] p)=namedT n++[wordT [61]]++exT e++[wordT [59]]:=by unfold stT;rw [if_pos rfl,ag0]
  rw [hT] at h ⊢
  have h0:L.drop s.i=namedT n++(wordT [61] :: (exT e++(wordT [59] :: post))):=by rw [h];simp
  have h1:=app_nx h0 (namedT_len n)
  have hpk:peekR L E s=⟨1,n,0,0⟩:=peek_cons (ts:=wordT [61] :: (exT e++(wordT [59] :: post))) (by rw [h0];unfold namedT;rw [if_neg (by rw [hn];decide)];rfl)
  have htk:=take_n (E:=E) h0 hok hn
  have h2:=drop_nx (s:=nxtR s) h1
  have he1:=exp_w (E:=E) (s:=nxtR s) h1 hok w61
  obtain ⟨e',s1,p1,p2,p3,p4⟩:=xpn_complete (L:=L) (E:=E) he (s:=nxtR (nxtR s)) h2 hok (by show opLev (wordT [59])=0;exact w59.2)
  have h3:L.drop s1.i=wordT [59] :: post:=by rw [p3];exact drop_app h2
  have hst:=Stm'.set (L:=L) (E:=E) (d:=d) (s:=s) (s1:=s1) (e:=e') hlim (by rw [amg_T hok,hpk];exact (by decide:(-1:Int)<0)) (by rw [htk,he1];exact p2)
  rw [htk,exp_w h3 p4 w59.1] at hst
  refine ⟨_,_,?_,hst,?_,p4⟩
  ·rw [St.plain,St.plain,Ex.plains,Ex.plains,Ex.plains,Ex.plains,p1]
  ·show s1.i+1=_
   rw [p3]
   simp only [List.length_append,List.length_singleton,namedT_len]
   show s.i+1+1+_+1=_
   omega
 obtain ⟨j,hj⟩:∃ j:Nat,k=2+(j:Int):=⟨(k-2).toNat,by omega⟩
 have hj18:j<18:=by omega
 have hjn:(k-2).toNat=j:=by omega
 obtain ⟨a1,a2, -, -⟩:=st_all j hj18
 by_cases h23:k=2\/k=3
 · -- with blocks
  have hsh:(shpM k).args=1/\(shpM k).name=false/\(shpM k).text=false/\(k=3->(shpM k).els=false):=by
   rcases h23 with rfl|rfl
   ·exact ⟨rfl,rfl,rfl,fun h=>absurd h (by decide)⟩
   ·exact ⟨rfl,rfl,rfl,fun _=>rfl⟩
  rw [hsh.1] at ha
  rw [hsh.2.1] at hn
  rw [hsh.2.2.1] at ht
  have hn:n=[]:=by have h':(n == [])=true:=hn;simpa using h'
  have ht:t=[]:=by have h':(t == [])=true:=ht;simpa using h'
  subst hn ht
  have hy3:k=3->y=[]:=fun h=>hy.resolve_left (by rw [hsh.2.2.2 h];decide)
  obtain ⟨e,rfl,he⟩:=all_one ha hav
  obtain ⟨rest,hrest,hT⟩:∃ rest,rest=restT y/\stT (.mk k [] [] [e] x y p)=[wordT (stmtsL.getD j [])]++exT e++blT x++rest:=by
   refine ⟨_,rfl,?_⟩
   clear hy hy3 hv hm h hby hcy
   rw [stT,if_neg hk1,if_neg (by omega)]
   dsimp only
   rw [if_pos h23,hjn,ag0]
   match y with
   | []=>simp [blT,restT]
   | [q] =>
    unfold restT
    dsimp only
    split
    ·simp [blT]
    ·simp [blT,stTs]
   | q :: q2 :: r=>simp [blT,restT]
  rw [hT] at h ⊢
  generalize wordT (stmtsL.getD j [])=w at a1 a2 h hT ⊢
  have h0:L.drop s.i=w :: (exT e++(blT x++(rest++post))):=by rw [h];simp
  have hpk:=peek_cons (E:=E) h0
  have ham:amgR L E s stmtsL=(j:Int):=by rw [amg_T hok,hpk];exact a1
  have h1:=drop_nx h0
  obtain ⟨e',s2,p1,p2,p3,p4⟩:=xpn_complete (L:=L) (E:=E) he (s:=nxtR s) h1 hok (by unfold blT;show opLev (wordT [123])=0;exact w123.2.1)
  have h2:L.drop s2.i=blT x++(rest++post):=by rw [p3];exact drop_app h1
  obtain ⟨t',s3,b1,b2,b3,b4⟩:=block_complete hcx hbx h2 p4
  rw [hcast] at b2
  have h3:L.drop s3.i=rest++post:=by rw [b3];exact drop_app h2
  have hi3:s3.i=s.i+1+(exT e).length+(blT x).length:=by rw [b3,p3];rfl
  have blkCase:¬ (amgR L E s stmtsL=0/\isR L E s3 [101,108,115,101]=true)->y=[]->rest=[]->∃ x' s',x'.plain=(St.mk k [] [] [e] x y p).plain/\Stm' L E d s (x',s')/\s'.i=s.i+([w]++exT e++blT x++rest).length/\okR s'=true:=by
   intro hc hy0 hr0
   subst hy0 hr0
   have hst:=Stm'.blk (L:=L) (E:=E) (d:=d) (s:=s) hlim (by rw [ham];omega) p2 b2 hc
   refine ⟨_,_,?_,hst,?_,b4⟩
   ·rw [ham, <- hj,St.plain,St.plain,Ex.plains,Ex.plains,Ex.plains,Ex.plains,p1,b1]
   ·rw [hi3];simp only [List.length_append,List.length_singleton,List.length_nil];omega
  by_cases hk3:k=3
  ·have hy0:=hy3 hk3
   subst hy0
   exact blkCase (by rw [ham];omega) rfl hrest
  ·have hk2:k=2:=by omega
   have hj0:j=0:=by omega
   have hd1:y≠[]->d+1<=8:=fun hne=>by
    unfold vlBl at hby
    simp only [Bool.and_eq_true,decide_eq_true_eq,Bool.or_eq_true,List.isEmpty_iff] at hby
    exact hby.1.2.resolve_left hne
   have elsCase:∀ (o':List St) (s4:Rd),St.plains o'=St.plains y->Oth' L E d (nxtR s3) (o',s4)->isR L E s3 [101,108,115,101]=true->s4.i=s3.i+rest.length->okR s4=true->∃ x' s',x'.plain=(St.mk k [] [] [e] x y p).plain/\Stm' L E d s (x',s')/\s'.i=s.i+([w]++exT e++blT x++rest).length/\okR s'=true:=by
    intro o' s4 c1 c2 c3 c4 c5
    have hst:=Stm'.els (L:=L) (E:=E) (d:=d) (s:=s) hlim (by rw [ham,hj0];rfl) p2 b2 c3 c2
    refine ⟨_,_,?_,hst,?_,c5⟩
    ·rw [hk2,St.plain,St.plain,Ex.plains,Ex.plains,Ex.plains,Ex.plains,p1,b1,c1]
    ·rw [c4,hi3];simp only [List.length_append,List.length_singleton];omega
   clear hy hy3 hv hm hT h h0
   match y,hcy,hby,hd1,hrest,blkCase,elsCase with
   | [],_,_,_,hrest,blkCase,_ =>
    refine blkCase ?_ rfl hrest
    rintro ⟨-,g⟩
    rw [hrest] at h3
    rw [is_T b4,peek_hd,h3] at g
    have g:elsB E post=true:=g
    rw [hels] at g
    cases g
   | [q],hcy,hby,hd1,hrest,_,elsCase =>
    have hrest:rest=if q.kind=2 then [wordT [101,108,115,101]]++stT q else [wordT [101,108,115,101]]++blT [q]:=hrest
    have hd1:=hd1 (by simp)
    by_cases hq2:q.kind=2
    ·rw [if_pos hq2] at hrest
     subst hrest
     have h4:L.drop s3.i=wordT [101,108,115,101] :: (stT q++post):=by rw [h3];simp
     have hi:isR L E s3 [101,108,115,101]=true:=by rw [is_T b4,peek_cons h4,wels];rfl
     have hvq:vlSt (d+1) q=true:=by
      unfold vlBl at hby
      simp only [Bool.and_eq_true] at hby
      have:=hby.2
      rw [vlSts,Bool.and_eq_true] at this
      exact this.1
     obtain ⟨q',s4,c1,c2,c3,c4⟩:=hcy q List.mem_cons_self (d+1) (nxtR s3) post hvq hd1 (drop_nx h4) b4 hels
     rw [hcast] at c2
     have hif:isR L E (nxtR s3) [105,102]=true:=by
      have h5:=drop_nx h4
      have:∃ ts,stT q=wordT (stmtsL.getD 0 []) :: ts:=by
       cases q with|mk kq nq tq aq xq yq pq =>
       have hq2:kq=2:=hq2
       subst hq2
       unfold stT
       rw [if_neg (by decide),if_neg (by decide)]
       dsimp only
       rw [if_pos (.inl rfl)]
       match yq with
       | []=>exact ⟨_,rfl⟩
       | [q3] =>
        dsimp only
        split
        ·exact ⟨_,rfl⟩
        ·exact ⟨_,rfl⟩
       | _ :: _ :: _=>exact ⟨_,rfl⟩
      obtain ⟨ts,hts⟩:=this
      rw [is_T (show okR (nxtR s3)=true from b4),peek_cons (s:=nxtR s3) (t:=wordT (stmtsL.getD 0 [])) (ts:=ts++post) (by show L.drop (s3.i+1)=_;rw [h5,hts];rfl),(st_all 0 (by decide)).2.1]
      rfl
     refine elsCase [q'] s4 (by rw [St.plains,St.plains,St.plains,St.plains,c1]) (Oth'.iff hif c2) hi ?_ c4
     rw [c3]
     simp only [List.length_append,List.length_singleton]
     show s3.i+1+_=_
     omega
    ·rw [if_neg hq2] at hrest
     subst hrest
     have h4:L.drop s3.i=wordT [101,108,115,101] :: (blT [q]++post):=by rw [h3];simp
     have hi:isR L E s3 [101,108,115,101]=true:=by rw [is_T b4,peek_cons h4,wels];rfl
     obtain ⟨o',s4,c1,c2,c3,c4⟩:=block_complete hcy hby (s:=nxtR s3) (drop_nx h4) b4
     rw [hcast] at c2
     have hif:isR L E (nxtR s3) [105,102]=false:=by
      rw [is_T (show okR (nxtR s3)=true from b4),peek_cons (s:=nxtR s3) (t:=wordT [123]) (ts:=stTs [q]++[wordT [125]]++post) (by show L.drop (s3.i+1)=_;rw [drop_nx h4];unfold blT;simp),w123.1,Bool.true_and]
      simpa using w123.2.2
     refine elsCase o' s4 c1 (Oth'.blk hif c2) hi ?_ c4
     rw [c3]
     simp only [List.length_append,List.length_singleton]
     show s3.i+1+_=_
     omega
   | q :: q2 :: r,hcy,hby,hd1,hrest,_,elsCase =>
    have hrest:rest=[wordT [101,108,115,101]]++blT (q :: q2 :: r):=hrest
    subst hrest
    have h4:L.drop s3.i=wordT [101,108,115,101] :: (blT (q :: q2 :: r)++post):=by rw [h3];simp
    have hi:isR L E s3 [101,108,115,101]=true:=by rw [is_T b4,peek_cons h4,wels];rfl
    obtain ⟨o',s4,c1,c2,c3,c4⟩:=block_complete hcy hby (s:=nxtR s3) (drop_nx h4) b4
    rw [hcast] at c2
    have hif:isR L E (nxtR s3) [105,102]=false:=by
     rw [is_T (show okR (nxtR s3)=true from b4),peek_cons (s:=nxtR s3) (t:=wordT [123]) (ts:=stTs (q :: q2 :: r)++[wordT [125]]++post) (by show L.drop (s3.i+1)=_;rw [drop_nx h4];unfold blT;simp),w123.1,Bool.true_and]
     simpa using w123.2.2
    refine elsCase o' s4 c1 (Oth'.blk hif c2) hi ?_ c4
    rw [c3]
    simp only [List.length_append,List.length_singleton]
    show s3.i+1+_=_
    omega
 -- the others
 have hshx:(shpM k).thn=false/\(shpM k).els=false:=by
  unfold shpM
  repeat' split
  all_goals first|exact ⟨rfl,rfl⟩|omega
 have hx:x=[]:=hx.resolve_left (by rw [hshx.1];decide)
 have hy:y=[]:=hy.resolve_left (by rw [hshx.2];decide)
 subst hx hy
 have tailGo:∀ (toks:List Tok) (n' t':List UInt8) (a':List Ex) (s':Rd),stT (.mk k n t a [] [] p)=[wordT (stmtsL.getD j [])]++toks->n'=n->t'=t->Ex.plains a'=Ex.plains a->s'.i=s.i+1+toks.length->okR s'=true ->
   (L.drop (s.i+1)=toks++post->Evt (fun f=>tailR L E f k (peekR L E s).pos (nxtR s)) (.mk k n' t' a' [] [] (peekR L E s).pos,s'))->∃ x' s',x'.plain=(St.mk k n t a [] [] p).plain/\Stm' L E d s (x',s')/\s'.i=s.i+(stT (.mk k n t a [] [] p)).length/\okR s'=true:=by
  intro toks n' t' a' s' c1 c2 c3 c4 c5 c6 c7
  subst c2 c3
  rw [c1] at h ⊢
  have h0:L.drop s.i=wordT (stmtsL.getD j []) :: (toks++post):=by rw [h];simp
  have hpk:=peek_cons (E:=E) h0
  have ham:amgR L E s stmtsL=(j:Int):=by rw [amg_T hok,hpk];exact a1
  have hst:=Stm'.tail (L:=L) (E:=E) (d:=d) (s:=s) hlim (by rw [ham];omega) (by rw [ham, <- hj];exact c7 (drop_nx h0))
  refine ⟨_,_,?_,hst,?_,c6⟩
  ·rw [St.plain,St.plain,c4]
  ·rw [c5];simp only [List.length_append,List.length_singleton];omega
 have hT:stT (.mk k n t a [] [] p)=[wordT (stmtsL.getD j [])]++(if k=4 then agT a 0++[wordT [59]] else if k=18 then textT t++[wordT [44]]++agT a 0++[wordT [59]] else if k=8\/k=10 then namedT n++agT a 0++[wordT [59]] else if k=9 then namedT n++agT a 0++[wordT [44]]++agT a 1++[wordT [59]] else if k=19 then [wordT [59]] else namedT n++[wordT [59]]):=by
  unfold stT
  rw [if_neg hk1,if_neg (by omega)]
  dsimp only
  rw [if_neg h23,hjn]
  repeat' split
  all_goals simp
 by_cases h4:k=4
 ·subst h4
  have hn:n=[]:=by have h':(n == [])=true:=hn;simpa using h'
  have ht:t=[]:=by have h':(t == [])=true:=ht;simpa using h'
  subst hn ht
  obtain ⟨e,rfl,he⟩:=all_one ha hav
  rw [if_pos rfl,ag0] at hT
  have h0:L.drop (s.i+1)=exT e++(wordT [59] :: post):=by
   rw [hT] at h
   have:L.drop s.i=wordT (stmtsL.getD j []) :: (exT e++(wordT [59] :: post)):=by rw [h];simp
   exact drop_nx this
  obtain ⟨e',s1,p1,p2,p3,p4⟩:=xpn_complete (L:=L) (E:=E) he (s:=nxtR s) h0 hok (by show opLev (wordT [59])=0;exact w59.2)
  have h3:L.drop s1.i=wordT [59] :: post:=by rw [p3];exact drop_app h0
  refine tailGo _ [] [] [e'] (nxtR s1) hT rfl rfl (by rw [Ex.plains,Ex.plains,Ex.plains,Ex.plains,p1]) (by show s1.i+1=_;rw [p3];simp only [List.length_append,List.length_singleton];show s.i+1+_+1=_;omega) p4 (fun _=>p2.map fun f hf=>?_)
  unfold tailR
  rw [if_pos rfl,hf]
  dsimp only
  rw [exp_w h3 p4 w59.1]
 rw [if_neg h4] at hT
 by_cases h18:k=18
 ·subst h18
  have hn:n=[]:=by have h':(n == [])=true:=hn;simpa using h'
  have ht:isTxt t=true:=ht
  subst hn
  obtain ⟨e,rfl,he⟩:=all_one ha hav
  rw [if_pos rfl,ag0] at hT
  have h0:L.drop (s.i+1)=textT t++(wordT [44] :: (exT e++(wordT [59] :: post))):=by
   rw [hT] at h
   have:L.drop s.i=wordT (stmtsL.getD j []) :: (textT t++(wordT [44] :: (exT e++(wordT [59] :: post)))):=by rw [h];simp
   exact drop_nx this
  have htk:=take_s4 (E:=E) (s:=nxtR s) h0 hok ht
  have h1:=app_nx (s:=nxtR s) h0 (textT_len t)
  have he1:=exp_w (E:=E) (s:=nxtR (nxtR s)) h1 hok w44.1
  have h2:=drop_nx (s:=nxtR (nxtR s)) h1
  obtain ⟨e',s1,p1,p2,p3,p4⟩:=xpn_complete (L:=L) (E:=E) he (s:=nxtR (nxtR (nxtR s))) h2 hok (by show opLev (wordT [59])=0;exact w59.2)
  have h3:L.drop s1.i=wordT [59] :: post:=by rw [p3];exact drop_app h2
  refine tailGo _ [] t [e'] (nxtR s1) hT rfl rfl (by rw [Ex.plains,Ex.plains,Ex.plains,Ex.plains,p1]) (by show s1.i+1=_;rw [p3];simp only [List.length_append,List.length_singleton,textT_len];show s.i+1+1+1+_+1=_;omega) p4 (fun _=>p2.map fun f hf=>?_)
  unfold tailR
  rw [if_neg (by decide),if_pos rfl,htk,he1,hf]
  dsimp only
  rw [exp_w h3 p4 w59.1]
 rw [if_neg h18] at hT
 by_cases h8:k=8\/k=10
 ·have hsh:shpM k=⟨true,false,1,false,false⟩:=by rcases h8 with rfl|rfl<;>rfl
  rw [hsh] at ha hn ht
  have hn:isNameM n=true:=hn
  have ht:t=[]:=by have h':(t == [])=true:=ht;simpa using h'
  subst ht
  obtain ⟨e,rfl,he⟩:=all_one ha hav
  rw [if_pos h8,ag0] at hT
  have h0:L.drop (s.i+1)=namedT n++(exT e++(wordT [59] :: post)):=by
   rw [hT] at h
   have:L.drop s.i=wordT (stmtsL.getD j []) :: (namedT n++(exT e++(wordT [59] :: post))):=by rw [h];simp
   exact drop_nx this
  have htk:=take_n (E:=E) (s:=nxtR s) h0 hok hn
  have h1:=app_nx (s:=nxtR s) h0 (namedT_len n)
  obtain ⟨e',s1,p1,p2,p3,p4⟩:=xpn_complete (L:=L) (E:=E) he (s:=nxtR (nxtR s)) h1 hok (by show opLev (wordT [59])=0;exact w59.2)
  have h3:L.drop s1.i=wordT [59] :: post:=by rw [p3];exact drop_app h1
  refine tailGo _ n [] [e'] (nxtR s1) hT rfl rfl (by rw [Ex.plains,Ex.plains,Ex.plains,Ex.plains,p1]) (by show s1.i+1=_;rw [p3];simp only [List.length_append,List.length_singleton,namedT_len];show s.i+1+1+_+1=_;omega) p4 (fun _=>p2.map fun f hf=>?_)
  unfold tailR
  rw [if_neg h4,if_neg h18,if_neg (by omega)]
  dsimp only
  rw [if_pos (by omega),htk]
  dsimp only
  rw [hf]
  dsimp only
  rw [if_neg (by omega),exp_w h3 p4 w59.1]
 rw [if_neg h8] at hT
 by_cases h9:k=9
 ·subst h9
  have hn:isNameM n=true:=hn
  have ht:t=[]:=by have h':(t == [])=true:=ht;simpa using h'
  subst ht
  obtain ⟨e,e2,rfl⟩:=len_two ha
  simp only [List.all_cons,List.all_nil,Bool.and_true,Bool.and_eq_true] at hav
  rw [if_pos rfl,ag0,ag1] at hT
  have h0:L.drop (s.i+1)=namedT n++(exT e++(wordT [44] :: (exT e2++(wordT [59] :: post)))):=by
   rw [hT] at h
   have:L.drop s.i=wordT (stmtsL.getD j []) :: (namedT n++(exT e++(wordT [44] :: (exT e2++(wordT [59] :: post))))):=by rw [h];simp
   exact drop_nx this
  have htk:=take_n (E:=E) (s:=nxtR s) h0 hok hn
  have h1:=app_nx (s:=nxtR s) h0 (namedT_len n)
  obtain ⟨e',s1,p1,p2,p3,p4⟩:=xpn_complete (L:=L) (E:=E) hav.1 (s:=nxtR (nxtR s)) h1 hok (by show opLev (wordT [44])=0;exact w44.2)
  have h3:L.drop s1.i=wordT [44] :: (exT e2++(wordT [59] :: post)):=by rw [p3];exact drop_app h1
  have hx1:=exp_w (E:=E) h3 p4 w44.1
  obtain ⟨e2',s2,r1,r2,r3,r4⟩:=xpn_complete (L:=L) (E:=E) hav.2 (s:=nxtR s1) (drop_nx h3) p4 (by show opLev (wordT [59])=0;exact w59.2)
  have h5:L.drop s2.i=wordT [59] :: post:=by rw [r3];exact drop_app (drop_nx h3)
  refine tailGo _ n [] [e',e2'] (nxtR s2) hT rfl rfl (by rw [Ex.plains,Ex.plains,Ex.plains,Ex.plains,Ex.plains,Ex.plains,p1,r1]) (by show s2.i+1=_;rw [r3];show s1.i+1+_+1=_;rw [p3];simp only [List.length_append,List.length_singleton,namedT_len];show s.i+1+1+_+1+_+1=_;omega) r4 (fun _=>p2.map2 r2 fun f hf hf2=>?_)
  unfold tailR
  rw [if_neg h4,if_neg h18,if_neg (by decide)]
  dsimp only
  rw [if_pos (by decide),htk]
  dsimp only
  rw [hf]
  dsimp only
  rw [if_pos rfl,hx1,hf2]
  dsimp only
  rw [exp_w h5 r4 w59.1]
 rw [if_neg h9] at hT
 by_cases h19:k=19
 ·subst h19
  have hn:n=[]:=by have h':(n == [])=true:=hn;simpa using h'
  have ht:t=[]:=by have h':(t == [])=true:=ht;simpa using h'
  have ha:a=[]:=List.eq_nil_of_length_eq_zero ha
  subst hn ht ha
  rw [if_pos rfl] at hT
  have h0:L.drop (s.i+1)=wordT [59] :: post:=by
   rw [hT] at h
   have:L.drop s.i=wordT (stmtsL.getD j []) :: (wordT [59] :: post):=by rw [h];simp
   exact drop_nx this
  refine tailGo _ [] [] [] (nxtR (nxtR s)) hT rfl rfl rfl rfl hok (fun _=>Evt.one fun f=>?_)
  unfold tailR
  rw [if_neg (by decide),if_neg (by decide),if_pos rfl,exp_w (s:=nxtR s) h0 hok w59.1]
 rw [if_neg h19] at hT
 have hsh:=shp_other hk1 (fun h=>h23 (.inl h)) (fun h=>h23 (.inr h)) h4 (fun h=>h8 (.inl h)) h9 (fun h=>h8 (.inr h)) h18 h19
 rw [hsh] at ha hn ht
 have hn:isNameM n=true:=hn
 have ht:t=[]:=by have h':(t == [])=true:=ht;simpa using h'
 have ha:a=[]:=List.eq_nil_of_length_eq_zero ha
 subst ht ha
 have h0:L.drop (s.i+1)=namedT n++(wordT [59] :: post):=by
  rw [hT] at h
  have:L.drop s.i=wordT (stmtsL.getD j []) :: (namedT n++(wordT [59] :: post)):=by rw [h];simp
  exact drop_nx this
 have htk:=take_n (E:=E) (s:=nxtR s) h0 hok hn
 have h1:=app_nx (s:=nxtR s) h0 (namedT_len n)
 refine tailGo _ n [] [] (nxtR (nxtR (nxtR s))) hT rfl rfl rfl (by simp only [List.length_append,List.length_singleton,namedT_len];show s.i+1+1+1=_;omega) hok (fun _=>Evt.one fun f=>?_)
 unfold tailR
 rw [if_neg h4,if_neg h18,if_neg h19]
 dsimp only
 rw [if_neg (by omega),htk]
 dsimp only
 rw [exp_w (s:=nxtR (nxtR s)) h1 hok w59.1]
theorem blk_complete {l:List St} {d:Nat} {s:Rd} {post:List Tok} (hv:vlBl l d=true) (h:L.drop s.i=blT l++post) (hok:okR s=true) :
  ∃ l' s',St.plains l'=St.plains l/\Blk' L E d s (l',s')/\s'.i=s.i+(blT l).length/\okR s'=true :=
 block_complete (fun x hx=>st_complete (x.sz+1) x (by omega)) hv h hok
end
end Go.Pb
end
