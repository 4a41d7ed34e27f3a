/-
  HELPERS of the claim: part 8 of its texts.
-/
import Derived.Test.YtnmkkggfgdfmeaaGreatDoorProg
import Derived.KernelRfl
import Derived.Test.YtnmkkggfgdfmeaaGreatDoorChrg
noncomputable section
set_option linter.unusedVariables false
set_option linter.unusedSectionVars false
set_option linter.unusedSimpArgs false
namespace Go.Pb
variable [Go.Sym.Tab]
open Go.Sym
section
variable {L:List Tok} {E:Int}
theorem dc_all:∀ j:Nat,j<8->amT (wordT (declsL.getD j [])) declsL=(j:Int):=by decide +kernel
theorem tr_all:∀ j:Nat,j<6->amT (wordT (trigsL.getD j [])) trigsL=(j:Int):=by decide +kernel
theorem wmode:sgnK (wordT [109,111,100,101])=true/\amT (wordT [109,111,100,101]) declsL = -1:=by decide +kernel
theorem won:sgnK (wordT [111,110])=true/\(wordT [111,110]).text≠[125]:=by decide +kernel
theorem wneg:sgnK (wordT [45])=true:=by decide +kernel
theorem dc_eta {d:Dc} {k v:Int} {n:List UInt8} (h1:k=d.kind) (h2:n=d.name) (h3:v=d.value) {p:Int}:Dc.plain ⟨k,n,v,p⟩=d.plain:=by
 subst h1 h2 h3;rfl
theorem dcl_complete {d:Dc} (hv:vlDc d=true) {s:Rd} {post:List Tok} (h:L.drop s.i=dcT d++post) (hok:okR s=true) :
  amgR L E s declsL=d.kind-1/\(dclR L E (d.kind-1) s).1.plain=d.plain/\(dclR L E (d.kind-1) s).2.i=s.i+(dcT d).length/\okR (dclR L E (d.kind-1) s).2=true:=by
 unfold vlDc at hv
 simp only [Bool.and_eq_true,decide_eq_true_eq] at hv
 obtain ⟨⟨⟨⟨k1,k8⟩,hn⟩,v0⟩,v1⟩:=hv
 obtain ⟨j,hj⟩:∃ j:Nat,d.kind=1+(j:Int):=⟨(d.kind-1).toNat,by omega⟩
 have hj8:j<8:=by omega
 have hjn:(d.kind-1).toNat=j:=by omega
 have a1:=dc_all j hj8
 have hT:dcT d=[wordT (declsL.getD j [])]++namedT d.name++(if 6<d.kind then [] else if d.value<0 then [wordT [45]]++numT (-d.value) else numT d.value)++[wordT [59]]:=by
  unfold dcT
  rw [if_neg (by omega)]
  dsimp only
  rw [hjn]
  by_cases h6:6<d.kind
  ·rw [if_pos h6,if_pos h6];simp
  ·rw [if_neg h6,if_neg h6]
   by_cases hneg:d.value<0
   ·have hk6:d.kind=6:=by
     by_cases hz:d.kind=6
     ·exact hz
     ·rw [if_neg hz] at v0;omega
    rw [if_pos hk6] at v0
    rw [if_pos ⟨hneg,v0,hk6⟩,if_pos hneg];simp
   ·rw [if_neg (fun h=>hneg h.1),if_neg hneg]
 rw [hT] at h ⊢
 have h0:L.drop s.i=wordT (declsL.getD j []) :: (namedT d.name++((if 6<d.kind then [] else if d.value<0 then [wordT [45]]++numT (-d.value) else numT d.value)++(wordT [59] :: post))):=by rw [h];simp
 have hpk:=peek_cons (E:=E) h0
 have h1:=drop_nx h0
 have htk:=take_n (E:=E) (s:=nxtR s) h1 hok hn
 have h2:=app_nx (s:=nxtR s) h1 (namedT_len d.name)
 refine ⟨by rw [amg_T hok,hpk,a1];omega,?_⟩
 unfold dclR
 dsimp only
 rw [htk]
 dsimp only
 by_cases h6:6<d.kind
 ·rw [if_pos h6] at h2 ⊢
  rw [if_neg (by omega)]
  have h2:L.drop (nxtR (nxtR s)).i=wordT [59] :: post:=h2
  rw [exp_w h2 hok w59.1]
  refine ⟨dc_eta (by omega) rfl ?_,?_,hok⟩
  ·rw [if_neg (by omega)] at v0
   rw [if_pos (by omega)] at v1
   omega
  ·simp only [List.length_append,List.length_singleton,namedT_len,List.length_nil]
   show s.i+1+1+1=_
   omega
 ·rw [if_neg h6] at h2 ⊢
  rw [if_pos (by omega)]
  rw [if_neg (by omega)] at v1
  by_cases hneg:d.value<0
  ·have hk6:d.kind=6:=by
    by_cases hz:d.kind=6
    ·exact hz
    ·rw [if_neg hz] at v0;omega
   rw [if_pos hk6] at v0
   rw [if_pos hneg] at h2 ⊢
   have h3:L.drop (nxtR (nxtR s)).i=wordT [45] :: (numT (-d.value)++(wordT [59] :: post)):=by rw [show L.drop (nxtR (nxtR s)).i=_ from h2];simp
   have hm:(d.kind-1+1 == 6 && isR L E (nxtR (nxtR s)) [45])=true:=by
    rw [is_T (show okR (nxtR (nxtR s))=true from hok),peek_cons h3,wneg,hk6];rfl
   rw [if_pos hm,if_pos hm]
   have h4:=drop_nx h3
   have htk2:=take_i3 (E:=E) (s:=nxtR (nxtR (nxtR s))) h4 hok (by omega) (by omega)
   rw [htk2]
   have h5:=app_nx (s:=nxtR (nxtR (nxtR s))) h4 (numT_len _)
   have h5:L.drop (nxtR (nxtR (nxtR (nxtR s)))).i=wordT [59] :: post:=h5
   dsimp only
   rw [exp_w h5 hok w59.1]
   refine ⟨dc_eta (by omega) rfl (by omega),?_,hok⟩
   simp only [List.length_append,List.length_singleton,namedT_len,numT_len]
   show s.i+1+1+1+1+1=_
   omega
  ·rw [if_neg hneg] at h2 ⊢
   have h3:L.drop (nxtR (nxtR s)).i=numT d.value++(wordT [59] :: post):=h2
   have hp3:peekR L E (nxtR (nxtR s))=⟨3,[],d.value,0⟩:=peek_cons (ts:=wordT [59] :: post) (by rw [h3];unfold numT;rw [if_neg (by omega)];rfl)
   have hm:(d.kind-1+1 == 6 && isR L E (nxtR (nxtR s)) [45])=false:=by
    rw [is_T (show okR (nxtR (nxtR s))=true from hok),hp3]
    simp [sgnK]
   rw [hm]
   simp only [Bool.false_eq_true,if_false]
   have htk2:=take_i3 (E:=E) (s:=nxtR (nxtR s)) h3 hok (by omega) (by omega)
   rw [htk2]
   have h5:=app_nx (s:=nxtR (nxtR s)) h3 (numT_len _)
   have h5:L.drop (nxtR (nxtR (nxtR s))).i=wordT [59] :: post:=h5
   dsimp only
   rw [exp_w h5 hok w59.1]
   refine ⟨dc_eta (by omega) rfl rfl,?_,hok⟩
   simp only [List.length_append,List.length_singleton,namedT_len,numT_len]
   show s.i+1+1+1+1=_
   omega
theorem rld_complete:∀ (l acc:List Dc) (s:Rd) (post:List Tok),l.all vlDc=true->acc.length+l.length<=128->amT (hd0 E post) declsL<0->L.drop s.i=l.flatMap dcT++post->okR s=true ->
  ∃ l' s',l'.map Dc.plain=l.map Dc.plain/\Evt (fun f=>rlpD L E f acc s) (acc++l',s')/\L.drop s'.i=post/\okR s'=true
 | [],acc,s,post,hv,hl,hp,h,hok=>by
  have h:L.drop s.i=post:=h
  refine ⟨[],s,rfl,Evt.one fun f=>?_,h,hok⟩
  rw [rlpD]
  dsimp only
  rw [amg_T hok,peek_hd,h,if_pos hp,List.append_nil]
 | d :: l,acc,s,post,hv,hl,hp,h,hok=>by
  simp only [List.all_cons,Bool.and_eq_true] at hv
  have h0:L.drop s.i=dcT d++(l.flatMap dcT++post):=by rw [h,List.flatMap_cons,List.append_assoc]
  obtain ⟨e1,e2,e3,e4⟩:=dcl_complete (E:=E) hv.1 h0 hok
  have hk1:1<=d.kind:=by
   have:=hv.1
   unfold vlDc at this
   simp only [Bool.and_eq_true,decide_eq_true_eq] at this
   omega
  obtain ⟨l',s',q1,q2,q3,q4⟩:=rld_complete l (acc++[(dclR L E (d.kind-1) s).1]) (dclR L E (d.kind-1) s).2 post hv.2 (by simp only [List.length_append,List.length_cons,List.length_nil] at hl ⊢;omega) hp (by rw [e3];exact drop_app h0) e4
  refine ⟨(dclR L E (d.kind-1) s).1 :: l',s',by rw [List.map_cons,List.map_cons,e2,q1],?_,q3,q4⟩
  rw [List.append_assoc] at q2
  refine q2.ext fun f hf=>?_
  rw [rlpD]
  dsimp only
  rw [e1,if_neg (by omega),lim_id (by simp only [List.length_cons] at hl;omega),if_pos hok]
  exact hf
theorem hdp {h:Hd} {b:List St} (hb:St.plains b=St.plains h.body) {k:Int} {n:List UInt8} {p:Int} (hk:k=h.trig) (hn:n=h.name):Hd.plain ⟨k,n,b,p⟩=h.plain:=by
 unfold Hd.plain;dsimp only;rw [hb,hk,hn]
theorem mlp_complete:∀ (l acc:List Hd) (s:Rd) (post:List Tok),l.all vlHd=true->acc.length+l.length<=32->L.drop s.i=l.flatMap hdT++([wordT [125]]++post)->okR s=true ->
  ∃ l' s',l'.map Hd.plain=l.map Hd.plain/\Evt (fun f=>mlpR L E f acc s) (acc++l',s')/\L.drop s'.i=post/\okR s'=true
 | [],acc,s,post,hv,hl,h,hok=>by
  have h:L.drop s.i=wordT [125] :: post:=h
  have hi:isR L E s [125]=true:=by rw [is_T hok,peek_cons h,w125.1];rfl
  refine ⟨[],nxtR s,rfl,Evt.one fun f=>?_,drop_nx h,hok⟩
  rw [mlpR,if_neg (by rw [hi];simp),exp_w h hok w125.1,List.append_nil]
 | x :: l,acc,s,post,hv,hl,h,hok=>by
  simp only [List.all_cons,Bool.and_eq_true] at hv
  have hx:=hv.1
  unfold vlHd at hx
  simp only [Bool.and_eq_true,decide_eq_true_eq] at hx
  obtain ⟨⟨⟨t1,t6⟩,hn⟩,hb⟩:=hx
  obtain ⟨j,hj⟩:∃ j:Nat,x.trig=1+(j:Int):=⟨(x.trig-1).toNat,by omega⟩
  have hj6:j<6:=by omega
  have hjn:(x.trig-1).toNat=j:=by omega
  have h0:L.drop s.i=wordT [111,110] :: (wordT (trigsL.getD j []) :: ((if 2<x.trig then namedT x.name else [])++(blT x.body++(l.flatMap hdT++([wordT [125]]++post))))):=by
   rw [h,List.flatMap_cons]
   unfold hdT
   rw [hjn]
   simp
  have hpk:=peek_cons (E:=E) h0
  have hi:isR L E s [125]=false:=by rw [is_T hok,hpk,won.1,Bool.true_and];simpa using won.2
  have hon:isR L E s [111,110]=true:=by rw [is_T hok,hpk,won.1];rfl
  have he:=exp_w (E:=E) h0 hok won.1
  have h1:=drop_nx h0
  have h1:L.drop (nxtR s).i=_:=h1
  have ham:amgR L E (nxtR s) trigsL=(j:Int):=by rw [amg_T (show okR (nxtR s)=true from hok),peek_cons h1];exact tr_all j hj6
  have h2:=drop_nx h1
  have h2:L.drop (nxtR (nxtR s)).i=_:=h2
  have key:∃ s4,s4=(if 2<=(j:Int) then (takeR L E (nxtR (nxtR s)) 1).2 else nxtR (nxtR s))/\okR s4=true/\(if 2<=(j:Int) then (takeR L E (nxtR (nxtR s)) 1).1.text else [])=x.name/\L.drop s4.i=blT x.body++(l.flatMap hdT++([wordT [125]]++post)):=by
   refine ⟨_,rfl,?_⟩
   by_cases h2j:2<=(j:Int)
   ·rw [if_pos h2j,if_pos h2j]
    rw [if_pos (by omega)] at hn h2
    rw [take_n (E:=E) h2 hok hn]
    exact ⟨hok,rfl,app_nx (s:=nxtR (nxtR s)) h2 (namedT_len _)⟩
   ·rw [if_neg h2j,if_neg h2j]
    rw [if_neg (by omega)] at hn h2
    exact ⟨hok,by have:x.name=[]:=(by simpa using hn);rw [this],h2⟩
  obtain ⟨s4,k1,k2,k3,k4⟩:=key
  obtain ⟨b',s5,b1,b2,b3,b4⟩:=blk_complete (L:=L) (E:=E) (d:=1) hb k4 k2
  obtain ⟨l',s',q1,q2,q3,q4⟩:=mlp_complete l (acc++[⟨1+(j:Int),x.name,b',(peekR L E s).pos⟩]) s5 post hv.2 (by simp only [List.length_append,List.length_cons,List.length_nil] at hl ⊢;omega) (by rw [b3];exact drop_app k4) b4
  refine ⟨⟨1+(j:Int),x.name,b',(peekR L E s).pos⟩ :: l',s',by rw [List.map_cons,List.map_cons,hdp b1 hj.symm rfl,q1],?_,q3,q4⟩
  rw [List.append_assoc] at q2
  refine Evt.ext2 b2 q2 fun f hf hf2=>?_
  rw [mlpR,if_pos ⟨hok,hi⟩,if_neg (by rw [hon];decide)]
  dsimp only
  rw [lim_id (by simp only [List.length_cons] at hl;omega),he,ham,if_neg (by omega), <- k1,k3]
  rw [show ((1:Nat):Int)=1 from rfl] at hf
  rw [hf]
  exact hf2
theorem mod_complete {m:Md} (hv:vlMd m=true) {s:Rd} {post:List Tok} (h:L.drop s.i=mdT m++post) (hok:okR s=true) :
  isR L E s [109,111,100,101]=true/\∃ m' s',m'.plain=m.plain/\Evt (fun f=>modR L E f s) (m',s')/\L.drop s'.i=post/\okR s'=true:=by
 unfold vlMd at hv
 simp only [Bool.and_eq_true,decide_eq_true_eq] at hv
 obtain ⟨⟨⟨⟨hn,p0⟩,p1⟩,hl⟩,hh⟩:=hv
 have h0:L.drop s.i=wordT [109,111,100,101] :: (namedT m.name++(numT m.prio++(wordT [123] :: (m.hds.flatMap hdT++([wordT [125]]++post))))):=by
  rw [h];unfold mdT;simp
 have hpk:=peek_cons (E:=E) h0
 have he:=exp_w (E:=E) h0 hok wmode.1
 have h1:L.drop (nxtR s).i=_:=drop_nx h0
 have htk:=take_n (E:=E) h1 hok hn
 have h2:L.drop (nxtR (nxtR s)).i=_:=app_nx (s:=nxtR s) h1 (namedT_len _)
 have htk2:=take_i3 (E:=E) h2 hok p0 p1
 have h3:L.drop (nxtR (nxtR (nxtR s))).i=_:=app_nx (s:=nxtR (nxtR s)) h2 (numT_len _)
 have he3:=exp_w (E:=E) h3 hok w123.1
 have h4:L.drop (nxtR (nxtR (nxtR (nxtR s)))).i=_:=drop_nx h3
 obtain ⟨l',s',q1,q2,q3,q4⟩:=mlp_complete (L:=L) (E:=E) m.hds [] _ post hh (by simp only [List.length_nil];omega) h4 hok
 refine ⟨by rw [is_T hok,hpk,wmode.1];rfl,⟨m.name,m.prio,l',(peekR L E s).pos⟩,s',?_,q2.map fun f hf=>?_,q3,q4⟩
 ·unfold Md.plain;dsimp only;rw [q1]
 ·unfold modR
  dsimp only
  rw [he,htk]
  dsimp only
  rw [htk2]
  dsimp only
  rw [he3,hf]
  rfl
theorem rlm_complete:∀ (l acc:List Md) (s:Rd),l.all vlMd=true->acc.length+l.length<=16->L.drop s.i=l.flatMap mdT->okR s=true ->
  ∃ l' s',l'.map Md.plain=l.map Md.plain/\Evt (fun f=>rlpM L E f acc s) (acc++l',s')/\okR s'=true
 | [],acc,s,hv,hl,h,hok=>by
  have hi:¬ s.i<L.length:=fun hlt=>by
   have:=List.drop_eq_nil_iff.1 (show L.drop s.i=[] from h)
   omega
  refine ⟨[],s,rfl,Evt.one fun f=>?_,hok⟩
  rw [rlpM,if_neg (fun h=>hi h.2),List.append_nil]
 | m :: l,acc,s,hv,hl,h,hok=>by
  simp only [List.all_cons,Bool.and_eq_true] at hv
  have h0:L.drop s.i=mdT m++l.flatMap mdT:=by rw [h,List.flatMap_cons]
  obtain ⟨hm,m',s1,e1,e2,e3,e4⟩:=mod_complete (E:=E) hv.1 h0 hok
  obtain ⟨l',s',q1,q2,q4⟩:=rlm_complete l (acc++[m']) s1 hv.2 (by simp only [List.length_append,List.length_cons,List.length_nil] at hl ⊢;omega) e3 e4
  refine ⟨m' :: l',s',by rw [List.map_cons,List.map_cons,e1,q1],?_,q4⟩
  rw [List.append_assoc] at q2
  refine Evt.ext2 e2 q2 fun f hf hf2=>?_
  rw [rlpM,if_pos ⟨hok,(is_ok hm).2⟩,if_neg (by rw [hm];decide)]
  dsimp only
  rw [lim_id (by simp only [List.length_cons] at hl;omega),if_pos hok,hf]
  exact hf2
end
theorem hd_good {h:Hd} (hv:vlHd h=true):hdBad h=false:=by
 unfold vlHd at hv
 simp only [Bool.and_eq_true,decide_eq_true_eq] at hv
 unfold hdBad
 simp only [Bool.or_eq_false_iff,decide_eq_false_iff_not]
 omega
theorem ru_complete {r:Ru} (hv:vldM r=true) (E:Int):okR (rulF (ruT r) E).2=true/\(rulF (ruT r) E).1.plain=r.plain:=by
 unfold vldM at hv
 simp only [Bool.and_eq_true,decide_eq_true_eq] at hv
 obtain ⟨⟨⟨h1,h2⟩,h3⟩,h4⟩:=hv
 have hbad:(r.modes.any fun m=>m.hds.any hdBad)=false:=by
  rw [List.any_eq_false]
  intro m hm
  have:=List.all_eq_true.1 h4 m hm
  unfold vlMd at this
  simp only [Bool.and_eq_true] at this
  rw [Bool.not_eq_true,List.any_eq_false]
  intro h hh
  rw [hd_good (List.all_eq_true.1 this.2 h hh)]
  decide
 have hT:ruT r=r.decls.flatMap dcT++r.modes.flatMap mdT:=by unfold ruT;rw [if_neg (by rw [hbad];decide)]
 have hp:amT (hd0 E (r.modes.flatMap mdT)) declsL<0:=by
  cases hm:r.modes with
  | nil=>exact (by decide:(-1:Int)<0)
  | cons m l =>
   have:hd0 E ((m :: l).flatMap mdT)=wordT [109,111,100,101]:=by rw [List.flatMap_cons];unfold mdT;rfl
   rw [this,wmode.2];decide
 obtain ⟨ld,s1,a1,a2,a3,a4⟩:=rld_complete (L:=ruT r) (E:=E) r.decls [] rd0 (r.modes.flatMap mdT) h3 (by simpa using h1) hp (by rw [hT];rfl) rfl
 obtain ⟨lm,s2,b1,b2,b4⟩:=rlm_complete (L:=ruT r) (E:=E) r.modes [] s1 h4 (by simpa using h2) a3 a4
 have hr:Evt (fun f=>rulR (ruT r) E f rd0) (⟨ld,lm⟩,s2):=a2.map2 b2 fun f h1 h2=>by
  unfold rulR
  rw [h1]
  dsimp only
  rw [h2]
  rfl
 rw [(rulF_e (ruT r) E).uniq hr]
 refine ⟨b4,?_⟩
 unfold Ru.plain
 dsimp only
 rw [a1,b1]
mutual
theorem msM_plain:∀ e:Ex,msM e.plain=msM e
 | .mk k v n a p=>by
  rw [Ex.plain,msM,msM,msL_plain k 0 a,Ex.plains_map,List.length_map]
theorem msL_plain:∀ (k:Int) (i:Nat) (l:List Ex),msL k i (Ex.plains l)=msL k i l
 | k,i,[]=>rfl
 | k,i,e :: l=>by
  have hk:e.plain.kind=e.kind:=by cases e;rfl
  rw [Ex.plains,msL,msL,msM_plain e,msL_plain k (i+1) l,hk]
end
theorem vlEx_plain (e:Ex):vlEx e.plain=vlEx e:=by unfold vlEx;rw [msM_plain]
theorem plains_nil {l:List St}:(St.plains l).isEmpty=l.isEmpty:=by cases l<;>rfl
theorem plains_len (l:List St):(St.plains l).length=l.length:=by rw [St.plains_map,List.length_map]
mutual
theorem vlSt_plain:∀ (d:Nat) (s:St),vlSt d s.plain=vlSt d s
 | d,.mk k n t a x y p=>by
  have ha:(Ex.plains a).all vlEx=a.all vlEx:=by
   rw [Ex.plains_map,List.all_map]
   congr 1
   funext e
   exact vlEx_plain e
  rw [St.plain,vlSt,vlSt,vlSts_plain (d+1) x,vlSts_plain (d+1) y,ha,Ex.plains_map,List.length_map,plains_nil,plains_nil,plains_len,plains_len]
theorem vlSts_plain:∀ (d:Nat) (l:List St),vlSts d (St.plains l)=vlSts d l
 | d,[]=>rfl
 | d,s :: l=>by rw [St.plains,vlSts,vlSts,vlSt_plain d s,vlSts_plain d l]
end
theorem vlHd_plain (h:Hd):vlHd h.plain=vlHd h:=by
 unfold vlHd Hd.plain vlBl
 dsimp only
 rw [vlSts_plain,plains_len,plains_nil]
theorem vlMd_plain (m:Md):vlMd m.plain=vlMd m:=by
 unfold vlMd Md.plain
 dsimp only
 rw [List.length_map,List.all_map]
 congr 2
 funext h
 exact vlHd_plain h
theorem vldM_plain (r:Ru):vldM r.plain=vldM r:=by
 unfold vldM Ru.plain
 dsimp only
 rw [List.length_map,List.length_map,List.all_map,List.all_map]
 congr 2
 funext m
 exact vlMd_plain m
theorem vd31_eq (r:Ru):vd31 r=vldM r:=by
 cases hv:vldM r with
 | true =>
  obtain ⟨h1,h2⟩:=ru_complete hv 0
  unfold vd31
  rw [h1,Bool.true_and]
  exact @decide_eq_true _ (_) h2
 | false =>
  cases hd:vd31 r with
  | false=>rfl
  | true =>
   unfold vd31 at hd
   rw [Bool.and_eq_true] at hd
   have h2:=@of_decide_eq_true _ (_) hd.2
   obtain ⟨f,hf⟩:=(rulF_e (ruT r) 0).get
   have h3:=rul_sound (fun t ht=>(goodRu r t ht).1) hf hd.1
   rw [<- vldM_plain,h2,vldM_plain,hv] at h3
   cases h3
end Go.Pb
set_option maxHeartbeats 8000000
set_option maxRecDepth 100000
namespace Go.Proofs.YtnmkkggfgdfmeaaGreatDoor
open Go.Eng (IC IOper DReg IFn IsFn)
open Go.Sym Go.Pb
theorem c_IF_hd {g:Hd->Bool} {f:Nat} {a cs:List DV} (xs:List (Hd)) (hx:xs.length<=9223372036854775807) (na:DV.nlL a=true) (ncs:DV.nlL cs=true) (hf:∀ x∈xs,PC Tryz.prog f (a++[Hd.v x]++cs) (.bool (g x))) :
  PC Tryz.prog 88 [hdsV xs,.func f a cs] (I64 (idxM g xs 0)):=by
 refine PC.of mixedU isU88 (Nat.le_of_ble_eq_true rfl) (by simp [DV.nlL,DV.nl,nlL_hds,na,ncs]) rfl ?_
 show IW Tryz.prog 19 u88_1 ⟨argT _,_,_⟩ (rt [.tmp 4] _)
 repeat' ((with_reducible first|refine wr ?_|fail)<;>try simp only [go_sem,seval,List.length_map])
 refine i_loop (fun k:Nat=>[(0,hdsV xs),(1,.func f a cs),(7,I64 xs.length),(8,I64 k)]) (fun _=>nil) (fun k _=>k<=xs.length/\idxM g xs 0=idxM g (xs.drop k) k) (fun k=>xs.length-k) 0 (by simp [tmLe,tm,Tm.upd]) (Sub.nil _) (by simp) ?_
 rintro k c ⟨hk,he⟩
 by_cases hlt:k<xs.length
 ·have hd:decide ((k:Int)<xs.length)=true:=by simpa using hlt
  have hg:=List.getElem?_eq_getElem hlt
  have hw:=w64 (n:=(k:Int)+1) (by omega) (by omega)
  have hst:=idxM_step (g:=g) hg
  have hc:=hf xs[k] (List.getElem_mem hlt)
  repeat' ((with_reducible first|refine wr ?_|refine cpc hc ?_|refine wb2 ?_ ?_<;>(intro hb;try simp only [hb])|fail)<;>try simp only [go_sem,seval,hd,hg,hw])
  ·refine pc_ret ?_
   rw [he,hst,hb];rfl
  ·exact ⟨k+1,rfl,Sub.refl _,inv ⟨by omega,by rw [he,hst,hb];rfl⟩,by omega⟩
 ·have hd:decide ((k:Int)<xs.length)=false:=by simpa using hlt
  repeat' ((with_reducible first|refine wr ?_|fail)<;>try simp only [go_sem,seval,hd])
  refine pc_ret ?_
  rw [he,idxM_end (by omega)]
theorem c_CF_hd {g:Hd->Bool} {f:Nat} {a cs:List DV} (xs:List (Hd)) (hx:xs.length<=9223372036854775807) (na:DV.nlL a=true) (ncs:DV.nlL cs=true) (hf:∀ x∈xs,PC Tryz.prog f (a++[Hd.v x]++cs) (.bool (g x))) :
  PC Tryz.prog 45 [hdsV xs,.func f a cs] (.bool (xs.any g)):=by
 refine PC.of mixedU isU45 (Nat.le_of_ble_eq_true rfl) (by simp [DV.nlL,DV.nl,nlL_hds,na,ncs]) rfl ?_
 show IW Tryz.prog 9 u45_1 ⟨argT _,_,_⟩ (rt [.tmp 4] _)
 have hc:=c_IF_hd xs hx na ncs hf
 repeat' ((with_reducible first|refine wr ?_|refine cpc hc ?_|fail)<;>try simp only [go_sem,seval])
 refine pc_ret ?_
 rw [idxM_any]
theorem c_IF_dc {g:Dc->Bool} {f:Nat} {a cs:List DV} (xs:List (Dc)) (hx:xs.length<=9223372036854775807) (na:DV.nlL a=true) (ncs:DV.nlL cs=true) (hf:∀ x∈xs,PC Tryz.prog f (a++[Dc.v x]++cs) (.bool (g x))) :
  PC Tryz.prog 120 [dcsV xs,.func f a cs] (I64 (idxM g xs 0)):=by
 refine PC.of mixedU isU120 (Nat.le_of_ble_eq_true rfl) (by simp [DV.nlL,DV.nl,nlL_dcs,na,ncs]) rfl ?_
 show IW Tryz.prog 19 u120_1 ⟨argT _,_,_⟩ (rt [.tmp 4] _)
 repeat' ((with_reducible first|refine wr ?_|fail)<;>try simp only [go_sem,seval,List.length_map])
 refine i_loop (fun k:Nat=>[(0,dcsV xs),(1,.func f a cs),(7,I64 xs.length),(8,I64 k)]) (fun _=>nil) (fun k _=>k<=xs.length/\idxM g xs 0=idxM g (xs.drop k) k) (fun k=>xs.length-k) 0 (by simp [tmLe,tm,Tm.upd]) (Sub.nil _) (by simp) ?_
 rintro k c ⟨hk,he⟩
 by_cases hlt:k<xs.length
 ·have hd:decide ((k:Int)<xs.length)=true:=by simpa using hlt
  have hg:=List.getElem?_eq_getElem hlt
  have hw:=w64 (n:=(k:Int)+1) (by omega) (by omega)
  have hst:=idxM_step (g:=g) hg
  have hc:=hf xs[k] (List.getElem_mem hlt)
  repeat' ((with_reducible first|refine wr ?_|refine cpc hc ?_|refine wb2 ?_ ?_<;>(intro hb;try simp only [hb])|fail)<;>try simp only [go_sem,seval,hd,hg,hw])
  ·refine pc_ret ?_
   rw [he,hst,hb];rfl
  ·exact ⟨k+1,rfl,Sub.refl _,inv ⟨by omega,by rw [he,hst,hb];rfl⟩,by omega⟩
 ·have hd:decide ((k:Int)<xs.length)=false:=by simpa using hlt
  repeat' ((with_reducible first|refine wr ?_|fail)<;>try simp only [go_sem,seval,hd])
  refine pc_ret ?_
  rw [he,idxM_end (by omega)]
theorem c_CF_dc {g:Dc->Bool} {f:Nat} {a cs:List DV} (xs:List (Dc)) (hx:xs.length<=9223372036854775807) (na:DV.nlL a=true) (ncs:DV.nlL cs=true) (hf:∀ x∈xs,PC Tryz.prog f (a++[Dc.v x]++cs) (.bool (g x))) :
  PC Tryz.prog 79 [dcsV xs,.func f a cs] (.bool (xs.any g)):=by
 refine PC.of mixedU isU79 (Nat.le_of_ble_eq_true rfl) (by simp [DV.nlL,DV.nl,nlL_dcs,na,ncs]) rfl ?_
 show IW Tryz.prog 9 u79_1 ⟨argT _,_,_⟩ (rt [.tmp 4] _)
 have hc:=c_IF_dc xs hx na ncs hf
 repeat' ((with_reducible first|refine wr ?_|refine cpc hc ?_|fail)<;>try simp only [go_sem,seval])
 refine pc_ret ?_
 rw [idxM_any]
theorem c_IF_md {g:Md->Bool} {f:Nat} {a cs:List DV} (xs:List (Md)) (hx:xs.length<=9223372036854775807) (na:DV.nlL a=true) (ncs:DV.nlL cs=true) (hf:∀ x∈xs,PC Tryz.prog f (a++[Md.v x]++cs) (.bool (g x))) :
  PC Tryz.prog 122 [mdsV xs,.func f a cs] (I64 (idxM g xs 0)):=by
 refine PC.of mixedU isU122 (Nat.le_of_ble_eq_true rfl) (by simp [DV.nlL,DV.nl,nlL_mds,na,ncs]) rfl ?_
 show IW Tryz.prog 19 u122_1 ⟨argT _,_,_⟩ (rt [.tmp 4] _)
 repeat' ((with_reducible first|refine wr ?_|fail)<;>try simp only [go_sem,seval,List.length_map])
 refine i_loop (fun k:Nat=>[(0,mdsV xs),(1,.func f a cs),(7,I64 xs.length),(8,I64 k)]) (fun _=>nil) (fun k _=>k<=xs.length/\idxM g xs 0=idxM g (xs.drop k) k) (fun k=>xs.length-k) 0 (by simp [tmLe,tm,Tm.upd]) (Sub.nil _) (by simp) ?_
 rintro k c ⟨hk,he⟩
 by_cases hlt:k<xs.length
 ·have hd:decide ((k:Int)<xs.length)=true:=by simpa using hlt
  have hg:=List.getElem?_eq_getElem hlt
  have hw:=w64 (n:=(k:Int)+1) (by omega) (by omega)
  have hst:=idxM_step (g:=g) hg
  have hc:=hf xs[k] (List.getElem_mem hlt)
  repeat' ((with_reducible first|refine wr ?_|refine cpc hc ?_|refine wb2 ?_ ?_<;>(intro hb;try simp only [hb])|fail)<;>try simp only [go_sem,seval,hd,hg,hw])
  ·refine pc_ret ?_
   rw [he,hst,hb];rfl
  ·exact ⟨k+1,rfl,Sub.refl _,inv ⟨by omega,by rw [he,hst,hb];rfl⟩,by omega⟩
 ·have hd:decide ((k:Int)<xs.length)=false:=by simpa using hlt
  repeat' ((with_reducible first|refine wr ?_|fail)<;>try simp only [go_sem,seval,hd])
  refine pc_ret ?_
  rw [he,idxM_end (by omega)]
theorem c_CF_md {g:Md->Bool} {f:Nat} {a cs:List DV} (xs:List (Md)) (hx:xs.length<=9223372036854775807) (na:DV.nlL a=true) (ncs:DV.nlL cs=true) (hf:∀ x∈xs,PC Tryz.prog f (a++[Md.v x]++cs) (.bool (g x))) :
  PC Tryz.prog 82 [mdsV xs,.func f a cs] (.bool (xs.any g)):=by
 refine PC.of mixedU isU82 (Nat.le_of_ble_eq_true rfl) (by simp [DV.nlL,DV.nl,nlL_mds,na,ncs]) rfl ?_
 show IW Tryz.prog 9 u82_1 ⟨argT _,_,_⟩ (rt [.tmp 4] _)
 have hc:=c_IF_md xs hx na ncs hf
 repeat' ((with_reducible first|refine wr ?_|refine cpc hc ?_|fail)<;>try simp only [go_sem,seval])
 refine pc_ret ?_
 rw [idxM_any]
theorem c_IF_st {g:Pb.St->Bool} {f:Nat} {a cs:List DV} (xs:List (Pb.St)) (hx:xs.length<=9223372036854775807) (na:DV.nlL a=true) (ncs:DV.nlL cs=true) (hf:∀ x∈xs,PC Tryz.prog f (a++[Pb.St.v x]++cs) (.bool (g x))) :
  PC Tryz.prog 158 [stsV xs,.func f a cs] (I64 (idxM g xs 0)):=by
 refine PC.of mixedU isU158 (Nat.le_of_ble_eq_true rfl) (by simp [DV.nlL,DV.nl,nlL_sts,na,ncs]) rfl ?_
 show IW Tryz.prog 19 u158_1 ⟨argT _,_,_⟩ (rt [.tmp 4] _)
 repeat' ((with_reducible first|refine wr ?_|fail)<;>try simp only [go_sem,seval,List.length_map])
 refine i_loop (fun k:Nat=>[(0,stsV xs),(1,.func f a cs),(7,I64 xs.length),(8,I64 k)]) (fun _=>nil) (fun k _=>k<=xs.length/\idxM g xs 0=idxM g (xs.drop k) k) (fun k=>xs.length-k) 0 (by simp [tmLe,tm,Tm.upd]) (Sub.nil _) (by simp) ?_
 rintro k c ⟨hk,he⟩
 by_cases hlt:k<xs.length
 ·have hd:decide ((k:Int)<xs.length)=true:=by simpa using hlt
  have hg:=List.getElem?_eq_getElem hlt
  have hw:=w64 (n:=(k:Int)+1) (by omega) (by omega)
  have hst:=idxM_step (g:=g) hg
  have hc:=hf xs[k] (List.getElem_mem hlt)
  rw [Pb.St.v_w] at hc
  repeat' ((with_reducible first|refine wr ?_|refine cpc hc ?_|refine wb2 ?_ ?_<;>(intro hb;try simp only [hb])|fail)<;>try simp only [go_sem,seval,hd,hg,hw,Pb.St.v_w])
  ·refine pc_ret ?_
   rw [he,hst,hb];rfl
  ·exact ⟨k+1,rfl,Sub.refl _,inv ⟨by omega,by rw [he,hst,hb];rfl⟩,by omega⟩
 ·have hd:decide ((k:Int)<xs.length)=false:=by simpa using hlt
  repeat' ((with_reducible first|refine wr ?_|fail)<;>try simp only [go_sem,seval,hd])
  refine pc_ret ?_
  rw [he,idxM_end (by omega)]
theorem c_CF_st {g:Pb.St->Bool} {f:Nat} {a cs:List DV} (xs:List (Pb.St)) (hx:xs.length<=9223372036854775807) (na:DV.nlL a=true) (ncs:DV.nlL cs=true) (hf:∀ x∈xs,PC Tryz.prog f (a++[Pb.St.v x]++cs) (.bool (g x))) :
  PC Tryz.prog 148 [stsV xs,.func f a cs] (.bool (xs.any g)):=by
 refine PC.of mixedU isU148 (Nat.le_of_ble_eq_true rfl) (by simp [DV.nlL,DV.nl,nlL_sts,na,ncs]) rfl ?_
 show IW Tryz.prog 9 u148_1 ⟨argT _,_,_⟩ (rt [.tmp 4] _)
 have hc:=c_IF_st xs hx na ncs hf
 repeat' ((with_reducible first|refine wr ?_|refine cpc hc ?_|fail)<;>try simp only [go_sem,seval])
 refine pc_ret ?_
 rw [idxM_any]
theorem c_IF_ex {g:Ex->Bool} {f:Nat} {a cs:List DV} (xs:List (Ex)) (hx:xs.length<=9223372036854775807) (na:DV.nlL a=true) (ncs:DV.nlL cs=true) (hf:∀ x∈xs,PC Tryz.prog f (a++[Ex.v x]++cs) (.bool (g x))) :
  PC Tryz.prog 166 [exsV xs,.func f a cs] (I64 (idxM g xs 0)):=by
 refine PC.of mixedU isU166 (Nat.le_of_ble_eq_true rfl) (by simp [DV.nlL,DV.nl,nlL_exs,na,ncs]) rfl ?_
 show IW Tryz.prog 19 u166_1 ⟨argT _,_,_⟩ (rt [.tmp 4] _)
 repeat' ((with_reducible first|refine wr ?_|fail)<;>try simp only [go_sem,seval,List.length_map])
 refine i_loop (fun k:Nat=>[(0,exsV xs),(1,.func f a cs),(7,I64 xs.length),(8,I64 k)]) (fun _=>nil) (fun k _=>k<=xs.length/\idxM g xs 0=idxM g (xs.drop k) k) (fun k=>xs.length-k) 0 (by simp [tmLe,tm,Tm.upd]) (Sub.nil _) (by simp) ?_
 rintro k c ⟨hk,he⟩
 by_cases hlt:k<xs.length
 ·have hd:decide ((k:Int)<xs.length)=true:=by simpa using hlt
  have hg:=List.getElem?_eq_getElem hlt
  have hw:=w64 (n:=(k:Int)+1) (by omega) (by omega)
  have hst:=idxM_step (g:=g) hg
  have hc:=hf xs[k] (List.getElem_mem hlt)
  rw [Ex.v_w] at hc
  repeat' ((with_reducible first|refine wr ?_|refine cpc hc ?_|refine wb2 ?_ ?_<;>(intro hb;try simp only [hb])|fail)<;>try simp only [go_sem,seval,hd,hg,hw,Ex.v_w])
  ·refine pc_ret ?_
   rw [he,hst,hb];rfl
  ·exact ⟨k+1,rfl,Sub.refl _,inv ⟨by omega,by rw [he,hst,hb];rfl⟩,by omega⟩
 ·have hd:decide ((k:Int)<xs.length)=false:=by simpa using hlt
  repeat' ((with_reducible first|refine wr ?_|fail)<;>try simp only [go_sem,seval,hd])
  refine pc_ret ?_
  rw [he,idxM_end (by omega)]
theorem c_CF_ex {g:Ex->Bool} {f:Nat} {a cs:List DV} (xs:List (Ex)) (hx:xs.length<=9223372036854775807) (na:DV.nlL a=true) (ncs:DV.nlL cs=true) (hf:∀ x∈xs,PC Tryz.prog f (a++[Ex.v x]++cs) (.bool (g x))) :
  PC Tryz.prog 160 [exsV xs,.func f a cs] (.bool (xs.any g)):=by
 refine PC.of mixedU isU160 (Nat.le_of_ble_eq_true rfl) (by simp [DV.nlL,DV.nl,nlL_exs,na,ncs]) rfl ?_
 show IW Tryz.prog 9 u160_1 ⟨argT _,_,_⟩ (rt [.tmp 4] _)
 have hc:=c_IF_ex xs hx na ncs hf
 repeat' ((with_reducible first|refine wr ?_|refine cpc hc ?_|fail)<;>try simp only [go_sem,seval])
 refine pc_ret ?_
 rw [idxM_any]
end Go.Proofs.YtnmkkggfgdfmeaaGreatDoor
namespace Go.Pb
variable [Go.Sym.Tab]
open Go.Sym
mutual
theorem ms_le:∀ (e:Ex) (o d:Nat),msM e=some (o,d)->o<=e.sz/\d+1<=2 * e.sz
 | .mk k v n a p,o,d,h=>by
  have hs:(Ex.mk k v n a p).sz=1+n.length+Ex.szs a:=by rw [Ex.sz]
  obtain ⟨h1,h2,h3,h4,h5,h6⟩:=ms_inv h
  by_cases hc:cntM k=0
  ·obtain ⟨rfl,rfl⟩:=h5 hc
   omega
  ·obtain ⟨d',hl,hd⟩:=h6 hc
   have:=msL_le k 0 a o d' hl
   rw [hd]
   split<;>omega
theorem msL_le:∀ (k:Int) (i:Nat) (l:List Ex) (o d:Nat),msL k i l=some (o,d)->o<=Ex.szs l/\d<=2 * Ex.szs l
 | k,i,[],o,d,h=>by simp [msL] at h;omega
 | k,i,e :: l,o,d,h=>by
  rw [msL] at h
  have hs:Ex.szs (e :: l)=e.sz+Ex.szs l:=by rw [Ex.szs]
  have hp:=e.sz_pos
  cases he:msM e with
  | none=>rw [he] at h;cases h
  | some q =>
   obtain ⟨o1,d1⟩:=q
   have h1:=ms_le e o1 d1 he
   rw [he] at h
   dsimp only at h
   cases hl:msL k (i+1) l with
   | none=>rw [hl] at h;cases h
   | some q2 =>
    obtain ⟨o2,d2⟩:=q2
    have h2:=msL_le k (i+1) l o2 d2 hl
    rw [hl] at h
    dsimp only at h
    have h3:=Option.some.inj h
    have h4:o1+o2=o:=congrArg Prod.fst h3
    have h5:max (if wrpB k e.kind i=true then d1+1 else d1) d2=d:=congrArg Prod.snd h3
    rw [hs]
    split at h5<;>omega
end
def msV:Option (Nat × Nat)->DV
 | none=>.tup [I64 0,I64 0,.bool false]
 | some (o,d)=>.tup [I64 o,I64 d,.bool true]
theorem msV_nl (q:Option (Nat × Nat)):(msV q).nl=true:=by cases q<;>rfl
theorem msL_drop {k:Int} {a:List Ex} {i:Nat} {x:Ex} (h:a[i]? = some x):msL k i (a.drop i)=match msM x with
  | none=>none
  | some (o,d)=>match msL k (i+1) (a.drop (i+1)) with
   | none=>none
   | some (o2,d2)=>some (o+o2,max (if wrpB k x.kind i=true then d+1 else d) d2):=by
 have hlt:=(List.getElem?_eq_some_iff.1 h).1
 rw [List.drop_eq_getElem_cons hlt,(List.getElem?_eq_some_iff.1 h).2,msL]
 rfl
end Go.Pb
namespace Go.Proofs.YtnmkkggfgdfmeaaGreatDoor
open Go.Eng (IC IOper DReg IFn IsFn)
open Go.Sym Go.Pb
theorem pc_bool {H:Hp} {a b:Bool} (h:a=b):∃ H2,GL H [.bool a] H2 [.bool b]:=⟨H,by rw [h];exact GL.refl _ _⟩
theorem sub_upd2 {b1 b2 b3:Blk} {cc:Nat} (u:Unit) (h:1<=cc):Sym.Sub (Sym.nil.upd 0 b1) (((Sym.nil.upd 0 b1).upd cc b2).upd cc b3):=by
 intro j b hj
 simp only [Hp.upd,Sym.nil] at hj ⊢
 split at hj
 ·rename_i h0
  rw [if_neg (by omega),if_neg (by omega),if_pos h0]
  exact hj
 ·cases hj
theorem c_levS (k:Int):PC Tryz.prog 127 [I64 k] (I64 (levM k)):=by
 refine PC.of mixedU isU127 (Nat.le_of_ble_eq_true rfl) (by simp [DV.nlL,DV.nl]) (by simp [DV.nlL,DV.nl]) ?_
 show IW Tryz.prog 37 u127_1 ⟨argT _,_,_⟩ (rt [.tmp 2] _)
 repeat' ((with_reducible first|refine wr ?_|refine wb2 ?_ ?_<;>(intro hb;try simp only [hb])|fail)<;>try simp only [go_sem,seval])
 all_goals refine pc_ret (congrArg I64 ?_)
 all_goals simp_all [levM]
 all_goals omega
theorem c_namedS (k:Int):PC Tryz.prog 128 [I64 k] (.bool (namB k)):=by
 refine PC.of mixedU isU128 (Nat.le_of_ble_eq_true rfl) (by simp [DV.nlL,DV.nl]) (by simp [DV.nlL,DV.nl]) ?_
 show IW Tryz.prog 13 u128_1 ⟨argT _,_,_⟩ (rt [.tmp 2] _)
 repeat' ((with_reducible first|refine wr ?_|refine wb2 ?_ ?_<;>(intro hb;try simp only [hb])|fail)<;>try simp only [go_sem,seval])
 all_goals refine pc_ret (congrArg DV.bool ?_)
 all_goals (cases h5:k == 5<;>cases h6:k == 6<;>cases h7:k == 7<;>simp_all [namB])
theorem c_wrapped (e x:Ex) (i:Nat) (h:e.args[i]? = some x) (hi:i<=1):PC Tryz.prog 129 [e.v,I64 i] (.bool (wrpB e.kind x.kind i)):=by
 refine PC.of mixedU isU129 (Nat.le_of_ble_eq_true rfl) (by simp [DV.nlL,DV.nl,Ex.nl]) rfl ?_
 rw [Ex.v_w]
 show IW Tryz.prog 33 u129_1 ⟨argT _,_,_⟩ (rt [.tmp 4] _)
 have h1:=c_levS e.kind
 have h2:=c_levS x.kind
 repeat' ((with_reducible first|refine wr ?_|refine cpc h1 ?_|refine cpc h2 ?_|refine wb2 ?_ ?_<;>(intro hb;try simp only [hb])|fail)<;>try simp only [go_sem,seval,h,Ex.v_w])
 all_goals refine pc_bool ?_
 all_goals unfold wrpB
 all_goals (cases hi1:i == 1<;>cases h3:levM e.kind == 3<;>simp_all)
 all_goals omega
theorem c_measure:∀ (m:Nat) (e:Ex),e.sz<m->e.sz<=100000000->PC Tryz.prog 95 [e.v] (msV (msM e)):=by
 intro m
 induction m with
 | zero=>intro e h;omega
 | succ m ih =>
 intro e hm hB
 have hnl:=e.sz_name
 have hx:∀ x∈e.args,PC Tryz.prog 95 [x.v] (msV (msM x)):=fun x hx=>ih x (by have:=Ex.sz_arg hx;omega) (by have:=Ex.sz_arg hx;omega)
 have hwr:∀ (x:Ex) (i:Nat),e.args[i]? = some x->i<=1->PC Tryz.prog 129 [e.w,I64 i] (.bool (wrpB e.kind x.kind i)):=fun x i h hi=>by have:=c_wrapped e x i h hi;rwa [Ex.v_w] at this
 refine PC.of mixedU isU95 (Nat.le_of_ble_eq_true rfl) (by simp [DV.nlL,DV.nl,Ex.nl]) (msV_nl _) ?_
 rw [Ex.v_w]
 obtain ⟨R,hR⟩:∃ R,R=msV (msM e):=⟨_,rfl⟩
 rw [<- hR]
 have hle:=msL_le e.kind 0 e.args
 have hal:Ex.szs e.args<e.sz:=by cases e with|mk k v n a p=>rw [Ex.sz];show Ex.szs a<_;omega
 have hargs:∀ x∈e.args,x.sz<=Ex.szs e.args:=fun x hx=>Ex.szs_mem hx
 cases e with|mk k v n a p =>
 rw [msM] at hR
 dsimp only [Ex.w,Ex.kind,Ex.value,Ex.name,Ex.args,Ex.pos] at hx hwr hle hal hargs hnl ⊢
 have hl:=c_levS k
 have hnk:=c_namedS k
 have hin:=c_IsName n (by omega)
 have none0:kOk k=false\/a.length≠cntM k\/nmOk k n=false\/vlOk k v=false->R=.tup [I64 0,I64 0,.bool false]:=fun h=>by rw [hR,if_pos h];rfl
 have ci:((cntM k:Nat):Int)<=2:=by unfold cntM;(repeat' split)<;>decide
 have kA:∀ nm vl:Bool,nmOk k n=nm->vlOk k v=vl->kOk k=true->IW Tryz.prog 113 u95_21 ⟨tm [(1,.ptr 0 0),(2,I64 0),(3,I64 0),(5,I64 (cntM k)),(7,.bool nm),(8,.bool vl)],Sym.nil.upd 0 ⟨0,true,[I64 k,I64 v,.str n,exsV a,I64 p]⟩,1⟩ (rt [.tmp 2,.tmp 3,.tmp 4] fun v H' x => ∃ H2,GL H' [v] H2 [R]):=by
  intro nm vl hnm hvl hkk
  by_cases hlen:a.length=cntM k
  ·have d0:((a.length:Int) != (cntM k:Int))=false:=by simp [hlen]
   cases nm with
   | false =>
    repeat' ((with_reducible first|refine wr ?_|fail)<;>try simp only [go_sem,seval,d0])
    exact pc_ret (none0 (.inr (.inr (.inl hnm)))).symm
   | true =>
    cases vl with
    | false =>
     repeat' ((with_reducible first|refine wr ?_|fail)<;>try simp only [go_sem,seval,d0])
     exact pc_ret (none0 (.inr (.inr (.inr hvl)))).symm
    | true =>
     rw [if_neg (by simp [hkk,hnm,hvl,hlen])] at hR
     by_cases hc0:cntM k=0
     ·have d1:((cntM k:Int) == 0)=true:=by simp [hc0]
      rw [if_pos hc0] at hR
      repeat' ((with_reducible first|refine wr ?_|fail)<;>try simp only [go_sem,seval,d0,d1])
      exact pc_ret hR.symm
     ·have d1:((cntM k:Int) == 0)=false:=by simp [hc0]
      rw [if_neg hc0] at hR
      repeat' ((with_reducible first|refine wr ?_|fail)<;>try simp only [go_sem,seval,d0,d1])
      have hl2:a.length<=2:=by omega
      refine i_loop (fun q:Nat × Nat × Nat=>[(1,.ptr 0 0),(5,I64 (cntM k)),(80,exsV a),(81,I64 a.length),(82,I64 q.1),(2,I64 q.2.1),(3,I64 q.2.2)]) (fun _=>Sym.nil.upd 0 ⟨0,true,[I64 k,I64 v,.str n,exsV a,I64 p]⟩)
       (fun q cc=>1<=cc/\q.1<=a.length/\q.2.1<=q.1 * 1000000000/\q.2.2<=1000000000/\msL k 0 a=(match msL k q.1 (a.drop q.1) with
        | none=>none
        | some (o2,d2)=>some (q.2.1+o2,max q.2.2 d2))) (fun q=>a.length-q.1) (0,0,0) (by simp [tmLe,tm,Tm.upd]) (Sub.refl _)
       ⟨Nat.le_refl _,Nat.zero_le _,Nat.zero_le _,Nat.zero_le _,by
        rw [List.drop_zero]
        cases msL k 0 a with
        | none=>rfl
        | some q=>obtain ⟨o2,d2⟩:=q;simp⟩ ?_
      rintro ⟨i,o,d⟩ cc ⟨h1c,hk,ho,hd3,he⟩
      dsimp only at hk ho hd3 he ⊢
      by_cases hlt:i<a.length
      ·have hd:decide ((i:Int)<a.length)=true:=by simpa using hlt
       have hg:=List.getElem?_eq_getElem hlt
       have hw:=w64 (n:=(i:Int)+1) (by omega) (by omega)
       rw [msL_drop hg] at he
       have hmx:=hx _ (List.getElem_mem hlt)
       have hax:=hargs _ (List.getElem_mem hlt)
       have hwx:=hwr _ i hg (by omega)
       have hms:=ms_le a[i]
       generalize a[i]=x at hg he hmx hax hwx hms
       rw [Ex.v_w] at hmx
       have hwx:PC Tryz.prog 129 [DV.agg [I64 k,I64 v,DV.str n,exsV a,I64 p],I64 i] (.bool (wrpB k x.kind i)):=hwx
       have ne0:=nes2 0 cc (by omega)
       cases hq:msM x with
       | none =>
        rw [hq] at he hmx
        dsimp only [msV] at he hmx
        rw [he] at hR
        repeat' ((with_reducible first|refine wr ?_|refine cpc hmx ?_|refine cpc hwx ?_|fail)<;>try simp only [go_sem,seval,hd,hg,hw,Ex.v_w,ne0])
        exact pc_ret hR.symm
       | some qq =>
        obtain ⟨o1,d1'⟩:=qq
        rw [hq] at he hmx
        dsimp only [msV] at he hmx
        have:=hms o1 d1' hq
        have w1:=w64 (n:=(o:Int)+(o1:Int)) (by omega) (by omega)
        have w2:=w64 (n:=(d1':Int)+1) (by omega) (by omega)
        cases hwb:wrpB k x.kind i with
        | true =>
         rw [hwb] at he
         repeat' ((with_reducible first|refine wr ?_|refine cpc hmx ?_|refine cpc hwx ?_|fail)<;>try simp only [go_sem,seval,hd,hg,hw,Ex.v_w,ne0,hwb,w1,w2])
         all_goals (refine ⟨(i+1,o+o1,max d (d1'+1)),⟨by simp,by simp,?_⟩,?_,inv ⟨by omega,by simp only;omega,by simp only;omega,by simp only;omega,?_⟩,by simp only;omega⟩)
         all_goals first
          | (refine congrArg I64 ?_;dsimp only;split<;>omega)
          | exact sub_upd2 () h1c
          | (rw [he];dsimp only;cases msL k (i+1) (a.drop (i+1)) with
           | none=>rfl
           | some q=>obtain ⟨o2,d2⟩:=q;simp [Nat.add_assoc,Nat.max_assoc])
        | false =>
         rw [hwb] at he
         repeat' ((with_reducible first|refine wr ?_|refine cpc hmx ?_|refine cpc hwx ?_|fail)<;>try simp only [go_sem,seval,hd,hg,hw,Ex.v_w,ne0,hwb,w1,w2])
         all_goals (refine ⟨(i+1,o+o1,max d (d1')),⟨by simp,by simp,?_⟩,?_,inv ⟨by omega,by simp only;omega,by simp only;omega,by simp only;omega,?_⟩,by simp only;omega⟩)
         all_goals first
          | (refine congrArg I64 ?_;dsimp only;split<;>omega)
          | exact sub_upd2 () h1c
          | (rw [he];dsimp only;cases msL k (i+1) (a.drop (i+1)) with
           | none=>rfl
           | some q=>obtain ⟨o2,d2⟩:=q;simp [Nat.add_assoc,Nat.max_assoc])
      ·have hd:decide ((i:Int)<a.length)=false:=by simpa using hlt
       rw [List.drop_of_length_le (by omega)] at he
       have w1:=w64 (n:=(d:Int)+1) (by omega) (by omega)
       by_cases hc1:cntM k=1
       ·have e1:((cntM k:Int) == 1)=true:=by simp [hc1]
        rw [he,hc1] at hR
        repeat' ((with_reducible first|refine wr ?_|fail)<;>try simp only [go_sem,seval,hd,e1,w1])
        refine pc_ret ?_
        rw [hR]
        simp [msV,msL]
       ·have e1:((cntM k:Int) == 1)=false:=by simp;omega
        rw [he] at hR
        simp only [if_neg hc1] at hR
        repeat' ((with_reducible first|refine wr ?_|fail)<;>try simp only [go_sem,seval,hd,e1,w1])
        refine pc_ret ?_
        rw [hR]
        simp [msV,msL]
  ·have d0:((a.length:Int) != (cntM k:Int))=true:=by simp;omega
   repeat' ((with_reducible first|refine wr ?_|fail)<;>try simp only [go_sem,seval,d0])
   exact pc_ret (none0 (.inr (.inl hlen))).symm
 have kB:∀ nm:Bool,nmOk k n=nm->kOk k=true->IW Tryz.prog 113 u95_20 ⟨tm [(1,.ptr 0 0),(2,I64 0),(3,I64 0),(5,I64 (cntM k)),(7,.bool nm)],Sym.nil.upd 0 ⟨0,true,[I64 k,I64 v,.str n,exsV a,I64 p]⟩,1⟩ (rt [.tmp 2,.tmp 3,.tmp 4] fun v H' x => ∃ H2,GL H' [v] H2 [R]):=by
  intro nm hnm hkk
  repeat' ((with_reducible first|refine hold (p:=IW _ _ u95_21 _ _) ?_|refine wr ?_|refine wb2 ?_ ?_<;>(intro hb;try simp only [hb])|fail)<;>try simp only [go_sem,seval])
  all_goals refine IW.stage (L:=[(1,.ptr 0 0),(2,I64 0),(3,I64 0),(5,I64 (cntM k)),(7,.bool nm),(8,.bool (vlOk k v))]) ?_ (kA nm _ hnm rfl hkk)
  all_goals simp_all [tmLe,tm,Tm.upd,vlOk]
  all_goals omega
 have kC:kOk k=true->IW Tryz.prog 113 u95_15 ⟨tm [(1,.ptr 0 0),(2,I64 0),(3,I64 0),(5,I64 (cntM k))],Sym.nil.upd 0 ⟨0,true,[I64 k,I64 v,.str n,exsV a,I64 p]⟩,1⟩ (rt [.tmp 2,.tmp 3,.tmp 4] fun v H' x => ∃ H2,GL H' [v] H2 [R]):=by
  intro hkk
  repeat' ((with_reducible first|refine hold (p:=IW _ _ u95_20 _ _) ?_|refine wr ?_|refine cpc hnk ?_|refine cpc hin ?_|refine wb2 ?_ ?_<;>(intro hb;try simp only [hb])|fail)<;>try simp only [go_sem,seval])
  all_goals refine IW.stage (L:=[(1,.ptr 0 0),(2,I64 0),(3,I64 0),(5,I64 (cntM k)),(7,.bool (nmOk k n))]) ?_ (kB _ rfl hkk)
  all_goals simp_all [tmLe,tm,Tm.upd,nmOk]
 show IW Tryz.prog 113 u95_1 ⟨argT _,_,_⟩ (rt [.tmp 2,.tmp 3,.tmp 4] _)
 by_cases l6:levM k=6
 ·have m6:(levM k == 6)=true:=by simpa using l6
  repeat' ((with_reducible first|refine hold (p:=IW _ _ u95_15 _ _) ?_|refine wr ?_|refine cpc hl ?_|fail)<;>try simp only [go_sem,seval,m6])
  refine IW.stage ?_ (kC (by simp [kOk];left;omega))
  simp [tmLe,tm,Tm.upd,cntM,l6]
 have m6:(levM k == 6)=false:=by simpa using l6
 by_cases l5:levM k<6
 ·have m5:decide (levM k<6)=true:=by simpa using l5
  repeat' ((with_reducible first|refine hold (p:=IW _ _ u95_15 _ _) ?_|refine wr ?_|refine cpc hl ?_|fail)<;>try simp only [go_sem,seval,m6,m5])
  refine IW.stage ?_ (kC (by simp [kOk];left;omega))
  simp [tmLe,tm,Tm.upd,cntM,l6,l5]
 have m5:decide (levM k<6)=false:=by simpa using l5
 repeat' ((with_reducible first|refine hold (p:=IW _ _ u95_15 _ _) ?_|refine wr ?_|refine cpc hl ?_|refine wb2 ?_ ?_<;>(intro hb;try simp only [hb])|fail)<;>try simp only [go_sem,seval,m6,m5])
 all_goals first
  | (refine IW.stage ?_ (kC (by simp_all [kOk]<;>omega));simp [tmLe,tm,Tm.upd,cntM,l6,l5];done)
  | (refine pc_ret (none0 (.inl ?_)).symm;simp_all [kOk]<;>omega)
theorem c_ValidExpr (e:Ex) (hB:e.sz<=100000000):PC Tryz.prog 56 [e.v] (.bool (vlEx e)):=by
 refine PC.of mixedU isU56 (Nat.le_of_ble_eq_true rfl) (by simp [DV.nlL,DV.nl]) (by simp [DV.nlL,DV.nl]) ?_
 show IW Tryz.prog 21 u56_1 ⟨argT _,_,_⟩ (rt [.tmp 2] _)
 have hm:=c_measure _ e (Nat.lt_succ_self _) hB
 unfold vlEx
 rw [Ex.v_w] at hm ⊢
 cases hq:msM e with
 | none =>
  rw [hq] at hm
  dsimp only [msV] at hm
  repeat' ((with_reducible first|refine wr ?_|refine cpc hm ?_|fail)<;>try simp only [go_sem,seval])
  all_goals exact pc_ret rfl
 | some q =>
  obtain ⟨o,d⟩:=q
  rw [hq] at hm
  dsimp only [msV] at hm
  repeat' ((with_reducible first|refine wr ?_|refine cpc hm ?_|refine wb2 ?_ ?_<;>(intro hb;try simp only [hb])|fail)<;>try simp only [go_sem,seval])
  all_goals (refine pc_ret (congrArg DV.bool ?_);by_cases h1:o<=32<;>by_cases h2:d<=16<;>simp_all<;>omega)
end Go.Proofs.YtnmkkggfgdfmeaaGreatDoor
namespace Go.Pb
open Go.Sym
def Shp.v (s:Shp):DV:=.agg [.bool s.name,.bool s.text,I64 s.args,.bool s.thn,.bool s.els]
end Go.Pb
namespace Go.Proofs.YtnmkkggfgdfmeaaGreatDoor
open Go.Eng (IC IOper DReg IFn IsFn)
open Go.Sym Go.Pb
def kndB (k:Int):Bool:=decide (1<=k) && decide (k<=19)
theorem c_shapeOf (k:Int):PC Tryz.prog 159 [I64 k] (.tup [(shpM k).v,.bool (kndB k)]):=by
 refine PC.of mixedU isU159 (Nat.le_of_ble_eq_true rfl) (by simp [DV.nlL,DV.nl]) rfl ?_
 show IW Tryz.prog 35 u159_1 ⟨argT _,_,_⟩ (rt [.cell 2 5 true,.tmp 3] _)
 repeat' ((with_reducible first|refine wr ?_|refine wb2 ?_ ?_<;>(intro hb;try simp only [hb])|fail)<;>try simp only [go_sem,seval])
 all_goals refine pc_ret ?_
 all_goals simp_all [shpM,kndB,Shp.v,tm,Tm.upd]
 all_goals omega
theorem c_isText (s:List UInt8) (hs:s.length<=1000000000):PC Tryz.prog 162 [.str s] (.bool (isTxt s)):=by
 refine PC.of mixedU isU162 (Nat.le_of_ble_eq_true rfl) (by simp [DV.nlL,DV.nl]) (by simp [DV.nlL,DV.nl]) ?_
 show IW Tryz.prog 23 u162_1 ⟨argT _,_,_⟩ (rt [.tmp 2] _)
 repeat' ((with_reducible first|refine wr ?_|fail)<;>try simp only [go_sem,seval])
 refine i_loop (fun k:Nat=>[(0,.str s),(3,I64 k)]) (fun _=>Sym.nil) (fun k _=>k<=s.length/\(s.take k).all txB=true) (fun k=>s.length-k) 0 (by simp [tmLe,tm,Tm.upd]) (Sub.refl _) ⟨Nat.zero_le _,rfl⟩ ?_
 rintro k cc ⟨hk,he⟩
 by_cases hlt:k<s.length
 ·have hd:decide ((k:Int)<s.length)=true:=by simpa using hlt
  have hg:=List.getElem?_eq_getElem hlt
  have hw:=w64 (n:=(k:Int)+1) (by omega) (by omega)
  generalize s[k]=x at hg
  have hx:txB x=(decide (32<=x.toNat) && decide (x.toNat<=126)):=rfl
  repeat' ((with_reducible first|refine wr ?_|refine wb2 ?_ ?_<;>(intro hb;try simp only [hb])|fail)<;>try simp only [go_sem,seval,hd,hg,hw])
  ·refine pc_ret (congrArg DV.bool ?_)
   have:=all_fail txB s k _ hg (by simp_all<;>omega)
   simp [isTxt,this]
  ·refine pc_ret (congrArg DV.bool ?_)
   have:=all_fail txB s k _ hg (by simp_all<;>omega)
   simp [isTxt,this]
  ·exact ⟨k+1,rfl,Sub.refl _,inv ⟨by omega,by rw [all_take' txB s k _ hg,he];simp_all<;>omega⟩,by omega⟩
 have hd:decide ((k:Int)<s.length)=false:=by simpa using hlt
 have hall:=all_done txB s k (by omega) he
 repeat' ((with_reducible first|refine wr ?_|fail)<;>try simp only [go_sem,seval,hd])
 refine pc_ret (congrArg DV.bool ?_)
 simp [isTxt,hall]
 omega
theorem c_validDecl (d:Dc) (hB:d.name.length<=1000000000):PC Tryz.prog 81 [d.v] (.bool (vlDc d)):=by
 refine PC.of mixedU isU81 (Nat.le_of_ble_eq_true rfl) (by simp [DV.nlL,DV.nl]) (by simp [DV.nlL,DV.nl]) ?_
 show IW Tryz.prog 37 u81_1 ⟨argT _,_,_⟩ (rt [.tmp 2] _)
 have hn:=c_IsName d.name hB
 repeat' ((with_reducible first|refine wr ?_|refine cpc hn ?_|refine wb2 ?_ ?_<;>(intro hb;try simp only [hb])|fail)<;>try simp only [go_sem,seval])
 all_goals (refine pc_ret (congrArg DV.bool ?_);simp_all [vlDc]<;>omega)
theorem c_vS1 (e:Ex) (hB:e.sz<=100000000):PC Tryz.prog 161 [e.v] (.bool (!vlEx e)):=by
 refine PC.of mixedU isU161 (Nat.le_of_ble_eq_true rfl) (by simp [DV.nlL,DV.nl]) (by simp [DV.nlL,DV.nl]) ?_
 show IW Tryz.prog 6 u161_1 ⟨argT _,_,_⟩ (rt [.tmp 2] _)
 have h:=c_ValidExpr e hB
 rw [Ex.v_w] at h ⊢
 repeat' ((with_reducible first|refine wr ?_|refine cpc h ?_|fail)<;>try simp only [go_sem,seval])
 exact pc_ret rfl
theorem vlSt_e (d:Nat) (s:Pb.St):vlSt d s=(kndB s.kind && (s.args.length == (shpM s.kind).args && s.args.all vlEx) &&
   ((if (shpM s.kind).name=true then isNameM s.name else s.name == []) && (if (shpM s.kind).text=true then isTxt s.text else s.text == [])) &&
   (((shpM s.kind).thn || s.thn.isEmpty) && ((shpM s.kind).els || s.els.isEmpty)) && (vlBl s.thn (d+1) && vlBl s.els (d+1))):=by
 cases s with|mk k n t a x y p=>rw [vlSt];rfl
theorem any_not {α : Type} (g : α -> Bool) (l:List α):l.any (fun x => !g x) = !l.all g:=by
 induction l with
 | nil=>rfl
 | cons x l ih=>rw [List.any_cons,List.all_cons,ih,Bool.not_and]
theorem c_vSt (s:Pb.St) (d:Nat) (hd:d<=1000000000) (hB:s.sz<=100000000) (hX:PC Tryz.prog 123 [stsV s.thn,I64 (d+1:Nat)] (.bool (vlBl s.thn (d+1)))) (hY:PC Tryz.prog 123 [stsV s.els,I64 (d+1:Nat)] (.bool (vlBl s.els (d+1)))) :
  PC Tryz.prog 150 [s.v,I64 d] (.bool (vlSt d s)):=by
 rw [vlSt_e]
 have hsa:Ex.szs s.args<s.sz:=by cases s with|mk k n t a x y p=>rw [Pb.St.sz];show Ex.szs a<_;omega
 have hal:=Ex.szs_len s.args
 have hxl:=Pb.St.szs_len s.thn
 have hyl:=Pb.St.szs_len s.els
 have hxs:=s.sz_thn
 have hys:=s.sz_els
 have hnl:=s.sz_name
 have htl:=s.sz_text
 have hn:=c_IsName s.name (by omega)
 have ht:=c_isText s.text (by omega)
 have hsh:=c_shapeOf s.kind
 have hca:=c_CF_ex (f:=161) (a:=[]) (cs:=[]) (g:=fun e => !vlEx e) s.args (by omega) rfl rfl (fun x hx=>c_vS1 x (by have:=Ex.szs_mem hx;omega))
 rw [any_not] at hca
 have hw:=w64 (n:=(d:Int)+1) (by omega) (by omega)
 refine PC.of mixedU isU150 (Nat.le_of_ble_eq_true rfl) (by rw [Pb.St.v_w];simp [DV.nlL,DV.nl,nlL_exs,nlL_sts]) rfl ?_
 cases s with|mk k n t a x y p =>
 dsimp only [Pb.St.kind,Pb.St.name,Pb.St.text,Pb.St.args,Pb.St.thn,Pb.St.els,Pb.St.pos] at *
 have hX:PC Tryz.prog 123 [stsV x,I64 ((d:Int)+1)] (.bool (vlBl x (d+1))):=hX
 have hY:PC Tryz.prog 123 [stsV y,I64 ((d:Int)+1)] (.bool (vlBl y (d+1))):=hY
 have ev:(Pb.St.mk k n t a x y p).v=.agg [I64 k,.str n,.str t,exsV a,stsV x,stsV y,I64 p]:=Pb.St.v_w _
 rw [ev]
 show IW Tryz.prog 86 u150_1 ⟨argT _,_,_⟩ (rt [.tmp 4] _)
 generalize vlBl x (d+1)=bx at *
 generalize vlBl y (d+1)=bY at *
 generalize kndB k=kb at *
 obtain ⟨nb,tb,ar,xb,yb,hs⟩:∃ nb tb ar xb yb,shpM k=⟨nb,tb,ar,xb,yb⟩:=⟨_,_,_,_,_,rfl⟩
 simp only [hs,Shp.v] at hsh ⊢
 have kA:∀ (cc:Nat) (nm tx:Bool),IW Tryz.prog 86 u150_16 ⟨tm [(1,I64 d),(2,.ptr 0 0),(5,.ptr 1 0),(7,.bool nm),(8,.bool tx)],(Sym.nil.upd 0 ⟨0,true,[I64 k,.str n,.str t,exsV a,stsV x,stsV y,I64 p]⟩).upd 1 ⟨0,true,[.bool nb,.bool tb,I64 ar,.bool xb,.bool yb]⟩,cc⟩ (rt [.tmp 4] fun v H' c => ∃ H2,GL H' [v] H2 [.bool ((nm && tx) && ((xb || x.isEmpty) && (yb || y.isEmpty)) && (bx && bY))]):=by
  intro cc nm tx
  have ex:x.isEmpty = !decide ((x.length:Int)>0):=by cases x<;>simp
  have ey:y.isEmpty = !decide ((y.length:Int)>0):=by cases y<;>simp
  rw [ex,ey]
  cases nm with
  | false =>
   repeat' ((with_reducible first|refine wr ?_|fail)<;>try simp only [go_sem,seval])
   exact pc_ret (by simp)
  | true =>
  cases tx with
  | false =>
   repeat' ((with_reducible first|refine wr ?_|fail)<;>try simp only [go_sem,seval])
   exact pc_ret (by simp)
  | true =>
  generalize hlx:decide ((x.length:Int)>0)=lx at *
  generalize hly:decide ((y.length:Int)>0)=ly at *
  cases bx<;>cases bY<;>cases xb<;>cases lx<;>cases yb<;>cases ly
  all_goals (repeat' ((with_reducible first|refine wr ?_|refine cpc hX ?_|refine cpc hY ?_|fail)<;>try simp only [go_sem,seval,hlx,hly,hw,List.length_map]))
  all_goals exact pc_ret rfl
 have kB:∀ cc:Nat,IW Tryz.prog 86 u150_8 ⟨tm [(1,I64 d),(2,.ptr 0 0),(5,.ptr 1 0),(7,.bool (n == [])),(8,.bool (t == []))],(Sym.nil.upd 0 ⟨0,true,[I64 k,.str n,.str t,exsV a,stsV x,stsV y,I64 p]⟩).upd 1 ⟨0,true,[.bool nb,.bool tb,I64 ar,.bool xb,.bool yb]⟩,cc⟩ (rt [.tmp 4] fun v H' c => ∃ H2,GL H' [v] H2 [.bool (((if nb=true then isNameM n else n == []) && (if tb=true then isTxt t else t == [])) && ((xb || x.isEmpty) && (yb || y.isEmpty)) && (bx && bY))]):=by
  intro cc
  cases nb<;>cases tb
  all_goals (repeat' ((with_reducible first|refine hold (p:=IW _ _ u150_16 _ _) ?_|refine wr ?_|refine cpc hn ?_|refine cpc ht ?_|fail)<;>try simp only [go_sem,seval]))
  all_goals (refine IW.stage ?_ (kA _ _ _);simp [tmLe,tm,Tm.upd])
 cases kb with
 | false =>
  repeat' ((with_reducible first|refine wr ?_|refine cpc hsh ?_|fail)<;>try simp only [go_sem,seval])
  exact pc_ret (by simp)
 | true =>
 by_cases hal2:a.length=ar
 ·have d0:((a.length:Int) != (ar:Int))=false:=by simp [hal2]
  cases hall:a.all vlEx with
  | false =>
   rw [hall] at hca
   repeat' ((with_reducible first|refine wr ?_|refine cpc hsh ?_|refine cpc hca ?_|fail)<;>try simp only [go_sem,seval,d0,List.length_map])
   exact pc_ret (by simp)
  | true =>
   rw [hall] at hca
   have e1:(a.length == ar)=true:=by simpa using hal2
   rw [e1]
   simp only [Bool.true_and]
   repeat' ((with_reducible first|refine hold (p:=IW _ _ u150_8 _ _) ?_|refine wr ?_|refine cpc hsh ?_|refine cpc hca ?_|fail)<;>try simp only [go_sem,seval,d0,List.length_map,h_upd2])
   refine IW.stage (L:=[(1,I64 d),(2,.ptr 0 0),(5,.ptr 1 0),(7,.bool (n == [])),(8,.bool (t == []))]) ?_ (kB _)
   simp [tmLe,tm,Tm.upd]
 ·have d0:((a.length:Int) != (ar:Int))=true:=by simp;omega
  repeat' ((with_reducible first|refine wr ?_|refine cpc hsh ?_|fail)<;>try simp only [go_sem,seval,d0,List.length_map])
  exact pc_ret (by simp;omega)
theorem c_vB1 (s:Pb.St) (d:Nat) (h:PC Tryz.prog 150 [s.v,I64 d] (.bool (vlSt d s))):PC Tryz.prog 149 [s.v,.fptr [I64 d]] (.bool (!vlSt d s)):=by
 rw [Pb.St.v_w] at h ⊢
 refine PC.of mixedU isU149 (Nat.le_of_ble_eq_true rfl) (by simp [DV.nlL,DV.nl]) (by simp [DV.nlL,DV.nl]) ?_
 show IW Tryz.prog 8 u149_1 ⟨argT _,_,_⟩ (rt [.tmp 3] _)
 repeat' ((with_reducible first|refine wr ?_|refine cpc h ?_|fail)<;>try simp only [go_sem,seval])
 exact pc_ret rfl
theorem vlSts_all (d:Nat):∀ l:List Pb.St,vlSts d l=l.all (vlSt d)
 | []=>by rw [vlSts];rfl
 | s :: l=>by rw [vlSts,vlSts_all d l];rfl
theorem c_validBlock:∀ (m:Nat) (l:List Pb.St) (d:Nat),Pb.St.szs l<m->Pb.St.szs l<=100000000->d+Pb.St.szs l<=1000000000->PC Tryz.prog 123 [stsV l,I64 d] (.bool (vlBl l d)):=by
 intro m
 induction m with
 | zero=>intro l d h;omega
 | succ m ih =>
 intro l d hm hB hd
 have hl:=Pb.St.szs_len l
 have hcf:=c_CF_st (f:=149) (a:=[]) (cs:=[.fptr [I64 d]]) (g:=fun s => !vlSt d s) l (by omega) rfl rfl (fun s hs=>by
  have h1:=Pb.St.szs_mem hs
  have h2:=s.sz_thn
  have h3:=s.sz_els
  exact c_vB1 s d (c_vSt s d (by omega) (by omega) (ih _ _ (by omega) (by omega) (by omega)) (ih _ _ (by omega) (by omega) (by omega))))
 rw [any_not, <- vlSts_all] at hcf
 refine PC.of mixedU isU123 (Nat.le_of_ble_eq_true rfl) (by simp [DV.nlL,DV.nl,nlL_sts]) rfl ?_
 show IW Tryz.prog 21 u123_1 ⟨argT _,_,_⟩ (rt [.tmp 4] _)
 have el:l.isEmpty = !decide ((l.length:Int)>0):=by cases l<;>simp
 have e64:decide (l.length<=64) = !decide ((l.length:Int)>64):=by rw [<- decide_not];exact decide_eq_decide.2 (by omega)
 have e8:decide (d<=8) = !decide ((d:Int)>8):=by rw [<- decide_not];exact decide_eq_decide.2 (by omega)
 unfold vlBl
 rw [el,e64,e8]
 repeat' ((first|(with_reducible first|refine wr ?_)|(with_reducible refine wb2 ?_ ?_<;>(intro hb;try simp only [hb]))|(refine AC.call (hcf.lend rfl (GL.one (id:=0) (b:=⟨0,true,[I64 d]⟩) rfl rfl (.cons _ _ _ _ (.same _) (.cons _ _ _ _ (.func _ _ _ _ _ .nil (.cons _ _ _ _ (.ptr 0 _ (Nat.zero_le _) rfl) .nil)) .nil)))) ?_<;>rintro v H' c' ⟨rfl,rfl,rfl⟩ hcc)|fail)<;>try simp only [go_sem,seval,List.length_map])
 all_goals (refine pc_ret (congrArg DV.bool ?_);simp_all)
theorem c_validHd (h:Hd) (hB:Pb.St.szs h.body<=100000000):PC Tryz.prog 123 [stsV h.body,I64 1] (.bool (vlBl h.body 1)) :=
 c_validBlock _ h.body 1 (Nat.lt_succ_self _) hB (by omega)
theorem hd_w (h:Hd):h.v=.agg [I64 h.trig,.str h.name,stsV h.body,I64 h.pos]:=rfl
theorem c_validMode (d:Md) (hB:d.sz<=100000000):PC Tryz.prog 84 [d.v] (.bool (vlMd d)):=by
 have hsz:d.sz=1+d.name.length+(d.hds.map Hd.sz).sum:=rfl
 have hhl:d.hds.length<=(d.hds.map Hd.sz).sum:=sum_len fun x _=>by show 1<=1+_+_;omega
 have hn:=c_IsName d.name (by omega)
 refine PC.of mixedU isU84 (Nat.le_of_ble_eq_true rfl) (by simp [Md.v,DV.nlL,DV.nl,nlL_hds]) rfl ?_
 have ev:d.v=.agg [.str d.name,I64 d.prio,hdsV d.hds,I64 d.pos]:=rfl
 rw [ev]
 show IW Tryz.prog 61 u84_1 ⟨argT _,_,_⟩ (rt [.tmp 2] _)
 cases hnm:isNameM d.name with
 | false =>
  rw [hnm] at hn
  repeat' ((with_reducible first|refine wr ?_|refine cpc hn ?_|fail)<;>try simp only [go_sem,seval])
  exact pc_ret (by simp [vlMd,hnm])
 | true =>
 rw [hnm] at hn
 by_cases p0:d.prio<0
 ·have q0:decide (d.prio<0)=true:=by simpa using p0
  repeat' ((with_reducible first|refine wr ?_|refine cpc hn ?_|fail)<;>try simp only [go_sem,seval,q0])
  exact pc_ret (by simp [vlMd,hnm];omega)
 have q0:decide (d.prio<0)=false:=by simpa using p0
 by_cases p1:d.prio>2147483647
 ·have q1:decide (d.prio>2147483647)=true:=by simpa using p1
  repeat' ((with_reducible first|refine wr ?_|refine cpc hn ?_|fail)<;>try simp only [go_sem,seval,q0,q1])
  exact pc_ret (by simp [vlMd,hnm];omega)
 have q1:decide (d.prio>2147483647)=false:=by simpa using p1
 by_cases p2:d.hds.length>32
 ·have q2:decide ((d.hds.length:Int)>32)=true:=by simp;omega
  repeat' ((with_reducible first|refine wr ?_|refine cpc hn ?_|fail)<;>try simp only [go_sem,seval,q0,q1,q2,List.length_map])
  exact pc_ret (by simp [vlMd,hnm];omega)
 have q2:decide ((d.hds.length:Int)>32)=false:=by simp;omega
 have er:vlMd d=d.hds.all vlHd:=by
  unfold vlMd
  rw [hnm,show decide (0<=d.prio)=true by simp;omega,show decide (d.prio<=2147483647)=true by simp;omega,show decide (d.hds.length<=32)=true by simp;omega]
  rfl
 rw [er]
 repeat' ((with_reducible first|refine wr ?_|refine cpc hn ?_|fail)<;>try simp only [go_sem,seval,q0,q1,q2,List.length_map])
 refine i_loop (fun k:Nat=>[(27,hdsV d.hds),(28,I64 d.hds.length),(29,I64 k)]) (fun _=>Sym.nil) (fun k _=>k<=d.hds.length/\(d.hds.take k).all vlHd=true) (fun k=>d.hds.length-k) 0 (by simp [tmLe,tm,Tm.upd]) (Sub.nil _) ⟨Nat.zero_le _,rfl⟩ ?_
 rintro k cc ⟨hk,he⟩
 by_cases hlt:k<d.hds.length
 ·have hd:decide ((k:Int)<d.hds.length)=true:=by simpa using hlt
  have hg:=List.getElem?_eq_getElem hlt
  have hw:=w64 (n:=(k:Int)+1) (by omega) (by omega)
  have hs:d.hds[k].sz<=(d.hds.map Hd.sz).sum:=sum_mem (List.getElem_mem hlt)
  generalize d.hds[k]=h at hg hs
  have hhs:h.sz=1+h.name.length+Pb.St.szs h.body:=rfl
  have hn2:=c_IsName h.name (by omega)
  have hb2:=c_validHd h (by omega)
  have hf:=all_fail vlHd d.hds k _ hg
  have ht:=all_take' vlHd d.hds k _ hg
  have eh:vlHd h=(decide (1<=h.trig) && decide (h.trig<=6) && (if 3<=h.trig then isNameM h.name else h.name == []) && vlBl h.body 1):=rfl
  by_cases t3:3<=h.trig
  ·have u3:decide (h.trig≥3)=true:=by simpa using t3
   rw [if_pos t3] at eh
   repeat' ((with_reducible first|refine wr ?_|refine cpc hn2 ?_|refine cpc hb2 ?_|refine wb2 ?_ ?_<;>(intro hb;try simp only [hb])|fail)<;>try simp only [go_sem,seval,hd,hg,hw,u3,hd_w,h_same,h_upd2])
   all_goals first
    | (refine pc_ret (congrArg DV.bool (hf ?_).symm);rw [eh];clear hf ht eh er;simp_all<;>omega)
    | (refine ⟨k+1,rfl,Sub.nil _,inv ⟨by omega,?_⟩,by omega⟩;rw [ht,he,eh];clear hf ht eh er;simp_all<;>omega)
  ·have u3:decide (h.trig≥3)=false:=by simpa using t3
   rw [if_neg t3] at eh
   repeat' ((with_reducible first|refine wr ?_|refine cpc hn2 ?_|refine cpc hb2 ?_|refine wb2 ?_ ?_<;>(intro hb;try simp only [hb])|fail)<;>try simp only [go_sem,seval,hd,hg,hw,u3,hd_w,h_same,h_upd2])
   all_goals first
    | (refine pc_ret (congrArg DV.bool (hf ?_).symm);rw [eh];clear hf ht eh er;simp_all<;>omega)
    | (refine ⟨k+1,rfl,Sub.nil _,inv ⟨by omega,?_⟩,by omega⟩;rw [ht,he,eh];clear hf ht eh er;simp_all<;>omega)
 have hd:decide ((k:Int)<d.hds.length)=false:=by simpa using hlt
 have hall:=all_done vlHd d.hds k (by omega) he
 repeat' ((with_reducible first|refine wr ?_|fail)<;>try simp only [go_sem,seval,hd])
 exact pc_ret (by rw [hall])
theorem c_V1 (d:Dc) (hB:d.name.length<=1000000000):PC Tryz.prog 80 [d.v] (.bool (!vlDc d)):=by
 have h:=c_validDecl d hB
 have ev:d.v=.agg [I64 d.kind,.str d.name,I64 d.value,I64 d.pos]:=rfl
 rw [ev] at h ⊢
 refine PC.of mixedU isU80 (Nat.le_of_ble_eq_true rfl) (by simp [DV.nlL,DV.nl]) (by simp [DV.nlL,DV.nl]) ?_
 show IW Tryz.prog 6 u80_1 ⟨argT _,_,_⟩ (rt [.tmp 2] _)
 repeat' ((with_reducible first|refine wr ?_|refine cpc h ?_|fail)<;>try simp only [go_sem,seval])
 exact pc_ret rfl
theorem c_V2 (d:Md) (hB:d.sz<=100000000):PC Tryz.prog 83 [d.v] (.bool (!vlMd d)):=by
 have h:=c_validMode d hB
 have ev:d.v=.agg [.str d.name,I64 d.prio,hdsV d.hds,I64 d.pos]:=rfl
 rw [ev] at h ⊢
 refine PC.of mixedU isU83 (Nat.le_of_ble_eq_true rfl) (by simp [DV.nlL,DV.nl]) (by simp [DV.nlL,DV.nl]) ?_
 show IW Tryz.prog 6 u83_1 ⟨argT _,_,_⟩ (rt [.tmp 2] _)
 repeat' ((with_reducible first|refine wr ?_|refine cpc h ?_|fail)<;>try simp only [go_sem,seval])
 exact pc_ret rfl
theorem c_Valid (r:Ru) (hB:r.sz<=100000000):PC Tryz.prog 40 [r.v] (.bool (vldM r)):=by
 obtain ⟨D,M⟩:=r
 have hDs:(D.map Dc.sz).sum+(M.map Md.sz).sum<=100000000:=hB
 have hDl:D.length<=(D.map Dc.sz).sum:=sum_len fun x _=>by show 1<=1+_;omega
 have hMl:M.length<=(M.map Md.sz).sum:=sum_len fun x _=>by show 1<=1+_+_;omega
 have h1:=c_CF_dc (f:=80) (a:=[]) (cs:=[]) (g:=fun e => !vlDc e) D (by omega) rfl rfl (fun x hx=>c_V1 x (by
  have:x.sz<=(D.map Dc.sz).sum:=sum_mem hx
  have e:x.sz=1+x.name.length:=rfl
  omega))
 have h2:=c_CF_md (f:=83) (a:=[]) (cs:=[]) (g:=fun e => !vlMd e) M (by omega) rfl rfl (fun x hx=>c_V2 x (by
  have:x.sz<=(M.map Md.sz).sum:=sum_mem hx
  omega))
 rw [any_not] at h1 h2
 refine PC.of mixedU isU40 (Nat.le_of_ble_eq_true rfl) (by simp [Ru.v,DV.nlL,DV.nl,nlL_dcs,nlL_mds]) rfl ?_
 dsimp only [Ru.v]
 show IW Tryz.prog 23 u40_1 ⟨argT _,_,_⟩ (rt [.tmp 2] _)
 unfold vldM
 dsimp only
 have e1:decide (D.length<=128) = !decide ((D.length:Int)>128):=by rw [<- decide_not];exact decide_eq_decide.2 (by omega)
 have e2:decide (M.length<=16) = !decide ((M.length:Int)>16):=by rw [<- decide_not];exact decide_eq_decide.2 (by omega)
 rw [e1,e2]
 generalize D.all vlDc=bD at *
 generalize M.all vlMd=bM at *
 repeat' ((with_reducible first|refine wr ?_|refine cpc h1 ?_|refine cpc h2 ?_|refine wb2 ?_ ?_<;>(intro hb;try simp only [hb])|fail)<;>try simp only [go_sem,seval,List.length_map])
 all_goals (refine pc_ret (congrArg DV.bool ?_);simp_all)
end Go.Proofs.YtnmkkggfgdfmeaaGreatDoor
set_option maxHeartbeats 4000000
namespace Go.Proofs.YtnmkkggfgdfmeaaGreatDoor
open Go.Eng (IC IOper DReg IFn IsFn)
open Go.Sym
section
abbrev u63_5:IC:=qS [oF 9 2 1,oL 10 9,oH 11 10,oM 4 11] .ret [2]
abbrev u63_4:IC:=qK u63_5 .skip (.t 8) [1,2,8]
abbrev u63_3:IC:=qS [oM 7 1,oK 8 7 .eql 9] u63_4 [1,2]
abbrev u63_12:IC:=qK .skip (.exit 0) (.t 16) [1,2,5,6,16]
abbrev u63_11:IC:=qS [oM 12 6,oF 13 2 0,oL 14 13,oH 15 14,oB 16 12 15 .lss] u63_12 [1,2,5,6]
abbrev u63_16:IC:=qE [oM 27 5,oK 28 27 .add 1,oM 5 28] [1,2,5,6]
abbrev u63_15:IC:=qK u63_16 .skip (.t 26) [1,2,5,6,26]
abbrev u63_14:IC:=qS [oF 19 2 0,oL 20 19,oM 21 6,oA 22 20 21 4,oF 23 22 0,oL 24 23,oM 25 1,oB 26 24 25 .eql] u63_15 [1,2,5,6]
abbrev u63_17:IC:=qE [oM 17 6,oK 18 17 .add 1,oM 6 18] [1,2,5,6]
abbrev u63_13:IC:=qB u63_14 u63_17 1 [1,2,5,6]
abbrev u63_10:IC:=qQ u63_11 u63_13 [1,2,5,6]
abbrev u63_9:IC:=qJ (.loop u63_10) 0 [1,2,5,6]
abbrev u63_8:IC:=qS [oI 6 0] u63_9 [1,2,5]
abbrev u63_18:IC:=qS [oM 29 5,oM 4 29] .ret [5]
abbrev u63_7:IC:=qQ u63_8 u63_18 [1,2,5]
abbrev u63_6:IC:=qS [oI 5 0] u63_7 [1,2]
abbrev u63_2:IC:=qQ u63_3 u63_6 [1,2]
abbrev u63_1:IC:=qS [oX 2 0,oI 4 0] u63_2 [0,1]
def u63:IFn:=⟨30,u63_1,[.tmp 4]⟩
end
theorem isU63:IsFn Tryz.prog 63 u63:=by unfold IsFn;kernel_rfl
section
abbrev u62_7:IC:=qK .skip (.exit 0) (.t 13) [1,2,6,13]
abbrev u62_6:IC:=qS [oM 9 6,oF 10 2 0,oL 11 10,oH 12 11,oB 13 9 12 .lss] u62_7 [1,2,6]
abbrev u62_12:IC:=qK (.exit 1) .skip (.t 24) [1,2,6,7,24]
abbrev u62_11:IC:=qS [oF 21 7 1,oL 22 21,oM 23 1,oB 24 22 23 .neq] u62_12 [1,2,6,7]
abbrev u62_16:IC:=qD [oF 28 7 0,oL 29 28,oF 30 7 2,oL 31 30,oM 4 29,oM 5 31] .ret [(0,none),(1,none),(2,none),(3,none),(4,some [2,3]),(5,some [])] 6 [7]
abbrev u62_15:IC:=qK u62_16 .skip (.t 27) [2,6,7,27]
abbrev u62_14:IC:=qS [oF 25 7 0,oL 26 25,oK 27 26 .lss 6] u62_15 [2,6,7]
abbrev u62_17:IC:=qD [oF 32 7 0,oL 33 32,oF 34 2 0,oL 35 34,oM 36 6,oP 37 (.slc 4 (.t 35) none (some (.t 36))),oP 38 (.bld #[.slice none 0 0,.slice none 0 0] [(0,1),(1,1)] [(0,.t 37)]),oF 39 7 0,oL 40 39,oC 41 63 [.t 38,.t 40],oM 4 33,oM 5 41] .ret [(0,none),(1,none),(2,none),(3,none),(4,none),(5,none),(6,none),(7,none),(8,none),(9,some [0,1]),(10,some []),(11,some [])] 12 [2,6,7]
abbrev u62_13:IC:=qQ u62_14 u62_17 [2,6,7]
abbrev u62_10:IC:=qQ u62_11 u62_13 [1,2,6,7]
abbrev u62_9:IC:=qS [oF 16 2 0,oL 17 16,oM 18 6,oA 19 17 18 4,oD 20 19 4,oW 7 (.agg #[.int .i64 0,.string ⟨#[]⟩,.int .i64 0,.int .i64 0]),oS 7 20 4] u62_10 [1,2,6]
abbrev u62_18:IC:=qE [oM 14 6,oK 15 14 .add 1,oM 6 15] [1,2,6]
abbrev u62_8:IC:=qB u62_9 u62_18 1 [1,2,6]
abbrev u62_5:IC:=qQ u62_6 u62_8 [1,2,6]
abbrev u62_4:IC:=qJ (.loop u62_5) 0 [1,2,6]
abbrev u62_3:IC:=qS [oI 6 0] u62_4 [1,2]
abbrev u62_24:IC:=qK .skip (.exit 2) (.t 46) [1,2,8,46]
abbrev u62_23:IC:=qS [oM 42 8,oF 43 2 1,oL 44 43,oH 45 44,oB 46 42 45 .lss] u62_24 [1,2,8]
abbrev u62_28:IC:=qS [oM 57 8,oI 4 9,oM 5 57] .ret [8]
abbrev u62_27:IC:=qK u62_28 .skip (.t 56) [1,2,8,56]
abbrev u62_26:IC:=qS [oF 49 2 1,oL 50 49,oM 51 8,oA 52 50 51 4,oF 53 52 0,oL 54 53,oM 55 1,oB 56 54 55 .eql] u62_27 [1,2,8]
abbrev u62_29:IC:=qE [oM 47 8,oK 48 47 .add 1,oM 8 48] [1,2,8]
abbrev u62_25:IC:=qB u62_26 u62_29 3 [1,2,8]
abbrev u62_22:IC:=qQ u62_23 u62_25 [1,2,8]
abbrev u62_21:IC:=qJ (.loop u62_22) 2 [1,2,8]
abbrev u62_20:IC:=qS [oI 8 0] u62_21 [1,2]
abbrev u62_30:IC:=qS [oI 4 0,oI 5 0] .ret []
abbrev u62_19:IC:=qQ u62_20 u62_30 [1,2]
abbrev u62_2:IC:=qQ u62_3 u62_19 [1,2]
abbrev u62_1:IC:=qS [oX 2 0,oI 4 0,oI 5 0] u62_2 [0,1]
def u62:IFn:=⟨58,u62_1,[.tmp 4,.tmp 5]⟩
end
theorem isU62:IsFn Tryz.prog 62 u62:=by unfold IsFn;kernel_rfl
section
abbrev u66_6:IC:=qS [oI 6 0] .ret []
abbrev u66_9:IC:=qS [oI 6 8] .ret []
abbrev u66_8:IC:=qK u66_9 .skip (.t 23) [23]
abbrev u66_7:IC:=qS [oM 24 7,oK 25 24 .eql 0,oM 23 25] u66_8 [7]
abbrev u66_5:IC:=qK u66_6 u66_7 (.t 15) [7,15]
abbrev u66_4:IC:=qS [oM 16 2,oK 17 16 .eql 0,oM 18 17,hM 19 7 18,hM 20 2 18,oR 21 (.bin .eql (.t 19) (.t 20)) 18,oO 22 18 21,oM 15 22] u66_5 [2,7]
abbrev u66_10:IC:=qS [oI 6 44] .ret []
abbrev u66_3:IC:=qB u66_4 u66_10 0 [2,7]
abbrev u66_2:IC:=qS [oD 10 3 2,oM 11 1,oC 12 62 [.t 10,.t 11],oM 9 12,oE 13 9 0,oE 14 9 1,oM 7 13,oM 8 14] u66_3 [1,2,3]
abbrev u66_1:IC:=qS [oX 3 0,oI 6 0] u66_2 [0,1,2]
def u66:IFn:=⟨26,u66_1,[.tmp 6]⟩
end
theorem isU66:IsFn Tryz.prog 66 u66:=by unfold IsFn;kernel_rfl
section
abbrev u103_2:IC:=qS [oM 3 0,oK 4 3 .eql 3,oM 5 4,hM 6 0 5,hK 7 6 5 .eql 4,oO 8 5 7,oM 9 8,hM 10 0 9,hK 11 10 9 .eql 5,oO 12 9 11,oM 13 12,hM 14 0 13,hK 15 14 13 .eql 6,oO 16 13 15,oM 17 16,hM 18 0 17,hK 19 18 17 .eql 11,oO 20 17 19,oM 21 20,hM 22 0 21,hK 23 22 21 .geq 17,oO 24 21 23,oM 2 24] .ret [0]
abbrev u103_1:IC:=qS [oV 2 (.bool false)] u103_2 [0]
def u103:IFn:=⟨25,u103_1,[.tmp 2]⟩
end
theorem isU103:IsFn Tryz.prog 103 u103:=by unfold IsFn;kernel_rfl
section
abbrev u102_7:IC:=qS [oI 2 6] .ret []
abbrev u102_10:IC:=qS [oI 2 1] .ret []
abbrev u102_13:IC:=qS [oI 2 9] .ret []
abbrev u102_16:IC:=qS [oI 2 7] .ret []
abbrev u102_15:IC:=qK u102_16 .skip (.t 10) [10]
abbrev u102_14:IC:=qS [oK 11 3 .eql 7,oM 10 11] u102_15 [3]
abbrev u102_12:IC:=qK u102_13 u102_14 (.t 8) [3,8]
abbrev u102_11:IC:=qS [oK 9 3 .eql 6,oM 8 9] u102_12 [3]
abbrev u102_9:IC:=qK u102_10 u102_11 (.t 6) [3,6]
abbrev u102_8:IC:=qS [oK 7 3 .eql 5,oM 6 7] u102_9 [3]
abbrev u102_6:IC:=qK u102_7 u102_8 (.t 4) [3,4]
abbrev u102_5:IC:=qS [oK 5 3 .eql 2,oM 4 5] u102_6 [3]
abbrev u102_4:IC:=qJ u102_5 0 [3]
abbrev u102_3:IC:=qS [oM 3 0] u102_4 [0]
abbrev u102_17:IC:=qS [oI 2 0] .ret []
abbrev u102_2:IC:=qQ u102_3 u102_17 [0]
abbrev u102_1:IC:=qS [oI 2 0] u102_2 [0]
def u102:IFn:=⟨12,u102_1,[.tmp 2]⟩
end
theorem isU102:IsFn Tryz.prog 102 u102:=by unfold IsFn;kernel_rfl
section
abbrev u61_8:IC:=qK .skip (.exit 0) (.t 19) [2,3,7,8,19]
abbrev u61_7:IC:=qS [oM 15 8,oF 16 3 3,oL 17 16,oH 18 17,oB 19 15 18 .lss] u61_8 [2,3,7,8]
abbrev u61_14:IC:=qS [oM 35 10,oM 36 11,oI 4 0,oM 5 35,oM 6 36] .ret [10,11]
abbrev u61_13:IC:=qK u61_14 .skip (.t 34) [2,3,7,8,9,10,11,34]
abbrev u61_12:IC:=qS [oM 33 11,oK 34 33 .neq 0] u61_13 [2,3,7,8,9,10,11]
abbrev u61_15:IC:=qE [oM 37 7,oM 38 9,⟨some 39,.new (.bsl 1 1 #[.int .i64 0] [(0,.t 38)]),none⟩,oT 40 37 39 1 8,oM 7 40] [2,3,7,8,9]
abbrev u61_11:IC:=qQ u61_12 u61_15 [2,3,7,8,9,10,11]
abbrev u61_10:IC:=qD [oD 23 2 2,oF 24 3 3,oL 25 24,oM 26 8,oA 27 25 26 5,oD 28 27 5,oC 29 61 [.t 23,.t 28],oM 22 29,oE 30 22 0,oE 31 22 1,oE 32 22 2,oM 9 30,oM 10 31,oM 11 32] u61_11 [(0,none),(1,none),(2,none),(3,none),(4,none),(5,none),(6,some []),(7,none),(8,none),(9,none),(10,none),(11,some [9,10]),(12,some [10]),(13,some [])] 14 [2,3,7,8]
abbrev u61_16:IC:=qE [oM 20 8,oK 21 20 .add 1,oM 8 21] [2,3,7,8]
abbrev u61_9:IC:=qB u61_10 u61_16 1 [2,3,7,8]
abbrev u61_6:IC:=qQ u61_7 u61_9 [2,3,7,8]
abbrev u61_5:IC:=qJ (.loop u61_6) 0 [2,3,7,8]
abbrev u61_4:IC:=qS [oI 8 0] u61_5 [2,3,7]
abbrev u61_21:IC:=qD [oF 50 3 4,oL 51 50,oM 52 12,oI 4 0,oM 5 51,oM 6 52] .ret [(0,none),(1,none),(2,none),(3,some [0,1,2]),(4,some [2]),(5,some [])] 6 [3,12]
abbrev u61_20:IC:=qK u61_21 .skip (.t 49) [3,7,12,49]
abbrev u61_19:IC:=qS [oM 48 12,oK 49 48 .neq 0] u61_20 [3,7,12]
abbrev u61_18:IC:=qD [oD 41 2 2,oF 42 3 2,oL 43 42,oF 44 3 0,oL 45 44,oC 46 102 [.t 45],oC 47 66 [.t 41,.t 43,.t 46],oM 12 47] u61_19 [(0,none),(1,none),(2,none),(3,none),(4,none),(5,some [0,1,2]),(6,some []),(7,some [])] 8 [2,3,7]
abbrev u61_26:IC:=qE [oI 13 2] [3,7]
abbrev u61_25:IC:=qK u61_26 .skip (.t 65) [3,7,13,65]
abbrev u61_24:IC:=qS [oF 53 3 0,oL 54 53,oK 55 54 .eql 11,oM 56 55,hF 57 3 0 56,hL 58 57 56,hK 59 58 56 .eql 23,oO 60 56 59,oM 61 60,hF 62 3 0 61,hL 63 62 61,hK 64 63 61 .eql 24,oO 65 61 64] u61_25 [3,7,13]
abbrev u61_30:IC:=qE [oM 74 7,oP 75 (.iad 1 (.t 74) (.k (.int .i64 0))),oL 76 75,oM 13 76] [3,7]
abbrev u61_29:IC:=qK u61_30 .skip (.t 73) [3,7,13,73]
abbrev u61_28:IC:=qS [oF 66 3 0,oL 67 66,oK 68 67 .eql 21,oM 69 68,hF 70 3 0 69,hL 71 70 69,hK 72 71 69 .eql 22,oO 73 69 72] u61_29 [3,7,13]
abbrev u61_36:IC:=qK .skip (.exit 2) (.t 80) [3,7,13,14,80]
abbrev u61_35:IC:=qS [oM 77 14,oM 78 7,oH 79 78,oB 80 77 79 .lss] u61_36 [3,7,13,14]
abbrev u61_40:IC:=qD [oF 89 3 4,oL 90 89,oI 4 0,oM 5 90,oI 6 49] .ret [(0,none),(1,none),(2,some [0,1]),(3,some []),(4,some [])] 5 [3]
abbrev u61_39:IC:=qK u61_40 .skip (.t 88) [3,7,13,14,88]
abbrev u61_38:IC:=qS [oM 83 7,oM 84 14,oA 85 83 84 1,oL 86 85,oM 87 13,oB 88 86 87 .neq] u61_39 [3,7,13,14]
abbrev u61_41:IC:=qE [oM 81 14,oK 82 81 .add 1,oM 14 82] [3,7,13,14]
abbrev u61_37:IC:=qB u61_38 u61_41 3 [3,7,13,14]
abbrev u61_34:IC:=qQ u61_35 u61_37 [3,7,13,14]
abbrev u61_33:IC:=qJ (.loop u61_34) 2 [3,7,13,14]
abbrev u61_32:IC:=qS [oI 14 0] u61_33 [3,7,13]
abbrev u61_45:IC:=qS [oI 4 2,oI 5 0,oI 6 0] .ret []
abbrev u61_44:IC:=qK u61_45 .skip (.t 93) [93]
abbrev u61_43:IC:=qS [oF 91 3 0,oL 92 91,oC 93 103 [.t 92]] u61_44 [3]
abbrev u61_46:IC:=qS [oI 4 1,oI 5 0,oI 6 0] .ret []
abbrev u61_42:IC:=qQ u61_43 u61_46 [3]
abbrev u61_31:IC:=qQ u61_32 u61_42 [3,7,13]
abbrev u61_27:IC:=qQ u61_28 u61_31 [3,7,13]
abbrev u61_23:IC:=qQ u61_24 u61_27 [3,7,13]
abbrev u61_22:IC:=qS [oI 13 1] u61_23 [3,7]
abbrev u61_17:IC:=qQ u61_18 u61_22 [2,3,7]
abbrev u61_3:IC:=qQ u61_4 u61_17 [2,3,7]
abbrev u61_2:IC:=qS [oV 7 (.slice none 0 0)] u61_3 [2,3]
abbrev u61_1:IC:=qS [oX 2 0,oX 3 1,oI 4 0,oI 5 0,oI 6 0] u61_2 [0,1]
def u61:IFn:=⟨94,u61_1,[.tmp 4,.tmp 5,.tmp 6]⟩
end
theorem isU61:IsFn Tryz.prog 61 u61:=by unfold IsFn;kernel_rfl
section
abbrev u106_7:IC:=qS [oI 2 6] .ret []
abbrev u106_13:IC:=qE [oK 9 3 .eql 7,oM 6 9] [3]
abbrev u106_12:IC:=qK .skip u106_13 (.t 6) [3,6]
abbrev u106_11:IC:=qS [oK 8 3 .eql 6,oM 6 8] u106_12 [3]
abbrev u106_10:IC:=qK .skip u106_11 (.t 6) [3,6]
abbrev u106_9:IC:=qS [oK 7 3 .eql 5,oM 6 7] u106_10 [3]
abbrev u106_15:IC:=qS [oI 2 2] .ret []
abbrev u106_19:IC:=qE [oK 12 3 .eql 9,oM 10 12] [3]
abbrev u106_18:IC:=qK .skip u106_19 (.t 10) [3,10]
abbrev u106_17:IC:=qS [oK 11 3 .eql 8,oM 10 11] u106_18 [3]
abbrev u106_21:IC:=qS [oI 2 3] .ret []
abbrev u106_25:IC:=qE [oK 15 3 .eql 11,oM 13 15] [3]
abbrev u106_24:IC:=qK .skip u106_25 (.t 13) [3,13]
abbrev u106_23:IC:=qS [oK 14 3 .eql 10,oM 13 14] u106_24 [3]
abbrev u106_27:IC:=qS [oI 2 7] .ret []
abbrev u106_31:IC:=qE [oK 18 3 .eql 13,oM 16 18] [3]
abbrev u106_30:IC:=qK .skip u106_31 (.t 16) [3,16]
abbrev u106_29:IC:=qS [oK 17 3 .eql 12,oM 16 17] u106_30 [3]
abbrev u106_33:IC:=qS [oI 2 9] .ret []
abbrev u106_36:IC:=qS [oI 2 8] .ret []
abbrev u106_39:IC:=qS [oI 2 4] .ret []
abbrev u106_43:IC:=qE [oK 25 3 .eql 17,oM 23 25] [3]
abbrev u106_42:IC:=qK .skip u106_43 (.t 23) [3,23]
abbrev u106_41:IC:=qS [oK 24 3 .eql 16,oM 23 24] u106_42 [3]
abbrev u106_45:IC:=qS [oI 2 5] .ret []
abbrev u106_44:IC:=qK u106_45 .skip (.t 23) [23]
abbrev u106_40:IC:=qQ u106_41 u106_44 [3]
abbrev u106_38:IC:=qK u106_39 u106_40 (.t 21) [3,21]
abbrev u106_37:IC:=qS [oK 22 3 .eql 15,oM 21 22] u106_38 [3]
abbrev u106_35:IC:=qK u106_36 u106_37 (.t 19) [3,19]
abbrev u106_34:IC:=qS [oK 20 3 .eql 14,oM 19 20] u106_35 [3]
abbrev u106_32:IC:=qK u106_33 u106_34 (.t 16) [3,16]
abbrev u106_28:IC:=qQ u106_29 u106_32 [3]
abbrev u106_26:IC:=qK u106_27 u106_28 (.t 13) [3,13]
abbrev u106_22:IC:=qQ u106_23 u106_26 [3]
abbrev u106_20:IC:=qK u106_21 u106_22 (.t 10) [3,10]
abbrev u106_16:IC:=qQ u106_17 u106_20 [3]
abbrev u106_14:IC:=qK u106_15 u106_16 (.t 6) [3,6]
abbrev u106_8:IC:=qQ u106_9 u106_14 [3]
abbrev u106_6:IC:=qK u106_7 u106_8 (.t 4) [3,4]
abbrev u106_5:IC:=qS [oK 5 3 .eql 1,oM 4 5] u106_6 [3]
abbrev u106_4:IC:=qJ u106_5 0 [3]
abbrev u106_3:IC:=qS [oM 3 0] u106_4 [0]
abbrev u106_46:IC:=qS [oI 2 0] .ret []
abbrev u106_2:IC:=qQ u106_3 u106_46 [0]
abbrev u106_1:IC:=qS [oI 2 0] u106_2 [0]
def u106:IFn:=⟨26,u106_1,[.tmp 2]⟩
end
theorem isU106:IsFn Tryz.prog 106 u106:=by unfold IsFn;kernel_rfl
section
abbrev u68_7:IC:=qK .skip (.exit 0) (.t 20) [1,2,6,20]
abbrev u68_6:IC:=qS [oM 17 6,oM 18 1,oH 19 18,oB 20 17 19 .lss] u68_7 [1,2,6]
abbrev u68_14:IC:=qS [oF 36 7 6,oL 37 36,oM 38 8,oM 4 37,oM 5 38] .ret [7,8]
abbrev u68_13:IC:=qK u68_14 .skip (.t 35) [1,2,6,7,8,35]
abbrev u68_12:IC:=qS [oM 34 8,oK 35 34 .neq 0] u68_13 [1,2,6,7,8]
abbrev u68_11:IC:=qD [oD 27 2 2,oF 28 7 1,oL 29 28,oF 30 7 0,oL 31 30,oC 32 106 [.t 31],oC 33 66 [.t 27,.t 29,.t 32],oM 8 33] u68_12 [(0,none),(1,none),(2,none),(3,none),(4,none),(5,some [0,1,2]),(6,some []),(7,some [])] 8 [1,2,6,7]
abbrev u68_20:IC:=qK .skip (.exit 2) (.t 43) [1,2,6,7,9,43]
abbrev u68_19:IC:=qS [oM 39 9,oF 40 7 3,oL 41 40,oH 42 41,oB 43 39 42 .lss] u68_20 [1,2,6,7,9]
abbrev u68_26:IC:=qS [oM 59 11,oM 60 12,oM 4 59,oM 5 60] .ret [11,12]
abbrev u68_25:IC:=qK u68_26 .skip (.t 58) [1,2,6,7,9,10,11,12,58]
abbrev u68_24:IC:=qS [oM 57 12,oK 58 57 .neq 0] u68_25 [1,2,6,7,9,10,11,12]
abbrev u68_29:IC:=qS [oF 67 7 3,oL 68 67,oM 69 9,oA 70 68 69 5,oF 71 70 4,oL 72 71,oM 4 72,oI 5 49] .ret [7,9]
abbrev u68_28:IC:=qK u68_29 .skip (.t 66) [1,2,6,7,9,66]
abbrev u68_27:IC:=qS [oM 61 10,oK 62 61 .eql 2,oF 63 7 0,oL 64 63,oK 65 64 .eql 2,oP 66 (.eqb true (.t 62) (.t 65))] u68_28 [1,2,6,7,9,10]
abbrev u68_23:IC:=qQ u68_24 u68_27 [1,2,6,7,9,10,11,12]
abbrev u68_22:IC:=qD [oD 47 2 2,oF 48 7 3,oL 49 48,oM 50 9,oA 51 49 50 5,oD 52 51 5,oC 53 61 [.t 47,.t 52],oM 46 53,oE 54 46 0,oE 55 46 1,oE 56 46 2,oM 10 54,oM 11 55,oM 12 56] u68_23 [(0,none),(1,none),(2,none),(3,none),(4,none),(5,none),(6,some []),(7,none),(8,none),(9,none),(10,none),(11,some [9,10]),(12,some [10]),(13,some [])] 14 [1,2,6,7,9]
abbrev u68_30:IC:=qE [oM 44 9,oK 45 44 .add 1,oM 9 45] [1,2,6,7,9]
abbrev u68_21:IC:=qB u68_22 u68_30 3 [1,2,6,7,9]
abbrev u68_18:IC:=qQ u68_19 u68_21 [1,2,6,7,9]
abbrev u68_17:IC:=qJ (.loop u68_18) 2 [1,2,6,7,9]
abbrev u68_16:IC:=qS [oI 9 0] u68_17 [1,2,6,7]
abbrev u68_35:IC:=qS [oM 82 13,oM 83 14,oM 4 82,oM 5 83] .ret [13,14]
abbrev u68_34:IC:=qK u68_35 .skip (.t 81) [1,2,6,7,13,14,81]
abbrev u68_33:IC:=qS [oM 80 14,oK 81 80 .neq 0] u68_34 [1,2,6,7,13,14]
abbrev u68_32:IC:=qS [oD 74 2 2,oF 75 7 4,oL 76 75,oC 77 68 [.t 74,.t 76],oM 73 77,oE 78 73 0,oE 79 73 1,oM 13 78,oM 14 79] u68_33 [1,2,6,7]
abbrev u68_39:IC:=qS [oM 93 15,oM 94 16,oM 4 93,oM 5 94] .ret [15,16]
abbrev u68_38:IC:=qK u68_39 .skip (.t 92) [1,2,6,15,16,92]
abbrev u68_37:IC:=qS [oM 91 16,oK 92 91 .neq 0] u68_38 [1,2,6,15,16]
abbrev u68_36:IC:=qS [oD 85 2 2,oF 86 7 5,oL 87 86,oC 88 68 [.t 85,.t 87],oM 84 88,oE 89 84 0,oE 90 84 1,oM 15 89,oM 16 90] u68_37 [1,2,6,7]
abbrev u68_31:IC:=qQ u68_32 u68_36 [1,2,6,7]
abbrev u68_15:IC:=qQ u68_16 u68_31 [1,2,6,7]
abbrev u68_10:IC:=qQ u68_11 u68_15 [1,2,6,7]
abbrev u68_9:IC:=qS [oM 23 1,oM 24 6,oA 25 23 24 7,oD 26 25 7,oW 7 (.agg #[.int .i64 0,.string ⟨#[]⟩,.string ⟨#[]⟩,.slice none 0 0,.slice none 0 0,.slice none 0 0,.int .i64 0]),oS 7 26 7] u68_10 [1,2,6]
abbrev u68_40:IC:=qE [oM 21 6,oK 22 21 .add 1,oM 6 22] [1,2,6]
abbrev u68_8:IC:=qB u68_9 u68_40 1 [1,2,6]
abbrev u68_5:IC:=qQ u68_6 u68_8 [1,2,6]
abbrev u68_4:IC:=qJ (.loop u68_5) 0 [1,2,6]
abbrev u68_3:IC:=qS [oI 6 0] u68_4 [1,2]
abbrev u68_41:IC:=qS [oI 4 0,oI 5 0] .ret []
abbrev u68_2:IC:=qQ u68_3 u68_41 [1,2]
abbrev u68_1:IC:=qS [oX 2 0,oI 4 0,oI 5 0] u68_2 [0,1]
def u68:IFn:=⟨95,u68_1,[.tmp 4,.tmp 5]⟩
end
theorem isU68:IsFn Tryz.prog 68 u68:=by unfold IsFn;kernel_rfl
section
abbrev u67_8:IC:=qE [oK 6 3 .eql 4,oM 4 6] [3]
abbrev u67_7:IC:=qK .skip u67_8 (.t 4) [3,4]
abbrev u67_6:IC:=qS [oK 5 3 .eql 3,oM 4 5] u67_7 [3]
abbrev u67_10:IC:=qS [oI 2 1] .ret []
abbrev u67_13:IC:=qS [oI 2 7] .ret []
abbrev u67_16:IC:=qS [oI 2 8] .ret []
abbrev u67_15:IC:=qK u67_16 .skip (.t 9) [9]
abbrev u67_14:IC:=qS [oK 10 3 .eql 6,oM 9 10] u67_15 [3]
abbrev u67_12:IC:=qK u67_13 u67_14 (.t 7) [3,7]
abbrev u67_11:IC:=qS [oK 8 3 .eql 5,oM 7 8] u67_12 [3]
abbrev u67_9:IC:=qK u67_10 u67_11 (.t 4) [3,4]
abbrev u67_5:IC:=qQ u67_6 u67_9 [3]
abbrev u67_4:IC:=qJ u67_5 0 [3]
abbrev u67_3:IC:=qS [oM 3 0] u67_4 [0]
abbrev u67_17:IC:=qS [oI 2 0] .ret []
abbrev u67_2:IC:=qQ u67_3 u67_17 [0]
abbrev u67_1:IC:=qS [oI 2 0] u67_2 [0]
def u67:IFn:=⟨11,u67_1,[.tmp 2]⟩
end
theorem isU67:IsFn Tryz.prog 67 u67:=by unfold IsFn;kernel_rfl
section
abbrev u105_7:IC:=qS [oI 2 63] .ret []
abbrev u105_10:IC:=qS [oI 2 31] .ret []
abbrev u105_16:IC:=qE [oK 11 3 .eql 5,oM 8 11] [3]
abbrev u105_15:IC:=qK .skip u105_16 (.t 8) [3,8]
abbrev u105_14:IC:=qS [oK 10 3 .eql 4,oM 8 10] u105_15 [3]
abbrev u105_13:IC:=qK .skip u105_14 (.t 8) [3,8]
abbrev u105_12:IC:=qS [oK 9 3 .eql 3,oM 8 9] u105_13 [3]
abbrev u105_18:IC:=qS [oI 2 63] .ret []
abbrev u105_17:IC:=qK u105_18 .skip (.t 8) [8]
abbrev u105_11:IC:=qQ u105_12 u105_17 [3]
abbrev u105_9:IC:=qK u105_10 u105_11 (.t 6) [3,6]
abbrev u105_8:IC:=qS [oK 7 3 .eql 2,oM 6 7] u105_9 [3]
abbrev u105_6:IC:=qK u105_7 u105_8 (.t 4) [3,4]
abbrev u105_5:IC:=qS [oK 5 3 .eql 1,oM 4 5] u105_6 [3]
abbrev u105_4:IC:=qJ u105_5 0 [3]
abbrev u105_3:IC:=qS [oM 3 0] u105_4 [0]
abbrev u105_19:IC:=qS [oI 2 2147483647] .ret []
abbrev u105_2:IC:=qQ u105_3 u105_19 [0]
abbrev u105_1:IC:=qS [oI 2 0] u105_2 [0]
def u105:IFn:=⟨12,u105_1,[.tmp 2]⟩
end
theorem isU105:IsFn Tryz.prog 105 u105:=by unfold IsFn;kernel_rfl
section
abbrev u65_7:IC:=qK .skip (.exit 0) (.t 16) [1,4,16]
abbrev u65_6:IC:=qS [oM 12 4,oF 13 1 0,oL 14 13,oH 15 14,oB 16 12 15 .lss] u65_7 [1,4]
abbrev u65_13:IC:=qS [oF 30 5 3,oL 31 30,oM 2 31,oI 3 5] .ret [5]
abbrev u65_12:IC:=qK u65_13 .skip (.t 29) [1,4,5,29]
abbrev u65_11:IC:=qD [oF 24 5 2,oL 25 24,oF 26 5 0,oL 27 26,oC 28 105 [.t 27],oB 29 25 28 .gtr] u65_12 [(0,none),(1,none),(2,none),(3,none),(4,some [0,1]),(5,none)] 6 [1,4,5]
abbrev u65_17:IC:=qS [oF 45 5 3,oL 46 45,oM 2 46,oI 3 7] .ret [5]
abbrev u65_16:IC:=qK u65_17 .skip (.t 44) [1,4,5,44]
abbrev u65_15:IC:=qS [oM 43 6,oK 44 43 .neq 0] u65_16 [1,4,5,6]
abbrev u65_14:IC:=qD [oF 33 1 0,oL 34 33,oM 35 4,oP 36 (.slc 4 (.t 34) none (some (.t 35))),oP 37 (.bld #[.slice none 0 0,.slice none 0 0] [(0,1),(1,1)] [(0,.t 36)]),oF 38 5 1,oL 39 38,oC 40 62 [.t 37,.t 39],oM 32 40,oE 41 32 0,oE 42 32 1,oM 6 41,oM 7 42] u65_15 [(0,none),(1,none),(2,none),(3,none),(4,none),(5,none),(6,none),(7,some []),(8,none),(9,none),(10,none),(11,some [10]),(12,some [])] 13 [1,4,5]
abbrev u65_10:IC:=qQ u65_11 u65_14 [1,4,5]
abbrev u65_9:IC:=qS [oF 19 1 0,oL 20 19,oM 21 4,oA 22 20 21 4,oD 23 22 4,oW 5 (.agg #[.int .i64 0,.string ⟨#[]⟩,.int .i64 0,.int .i64 0]),oS 5 23 4] u65_10 [1,4]
abbrev u65_18:IC:=qE [oM 17 4,oK 18 17 .add 1,oM 4 18] [1,4]
abbrev u65_8:IC:=qB u65_9 u65_18 1 [1,4]
abbrev u65_5:IC:=qQ u65_6 u65_8 [1,4]
abbrev u65_4:IC:=qJ (.loop u65_5) 0 [1,4]
abbrev u65_3:IC:=qS [oI 4 0] u65_4 [1]
abbrev u65_24:IC:=qK .skip (.exit 2) (.t 51) [1,8,51]
abbrev u65_23:IC:=qS [oM 47 8,oF 48 1 1,oL 49 48,oH 50 49,oB 51 47 50 .lss] u65_24 [1,8]
abbrev u65_30:IC:=qS [oF 62 9 3,oL 63 62,oM 2 63,oI 3 5] .ret [9]
abbrev u65_29:IC:=qK u65_30 .skip (.t 61) [1,8,9,61]
abbrev u65_28:IC:=qS [oF 59 9 1,oL 60 59,oK 61 60 .gtr 99] u65_29 [1,8,9]
abbrev u65_34:IC:=qS [oF 79 9 3,oL 80 79,oM 2 80,oI 3 7] .ret [9]
abbrev u65_33:IC:=qK u65_34 .skip (.t 78) [1,8,9,78]
abbrev u65_32:IC:=qS [oM 77 10,oK 78 77 .neq 0] u65_33 [1,8,9,10]
abbrev u65_31:IC:=qD [oF 65 1 0,oL 66 65,oF 67 1 1,oL 68 67,oM 69 8,oP 70 (.slc 4 (.t 68) none (some (.t 69))),oP 71 (.bld #[.slice none 0 0,.slice none 0 0] [(0,1),(1,1)] [(0,.t 66),(1,.t 70)]),oF 72 9 0,oL 73 72,oC 74 62 [.t 71,.t 73],oM 64 74,oE 75 64 0,oE 76 64 1,oM 10 75,oM 11 76] u65_32 [(0,none),(1,none),(2,none),(3,none),(4,none),(5,none),(6,none),(7,none),(8,none),(9,some []),(10,none),(11,none),(12,none),(13,some [12]),(14,some [])] 15 [1,8,9]
abbrev u65_27:IC:=qQ u65_28 u65_31 [1,8,9]
abbrev u65_26:IC:=qS [oF 54 1 1,oL 55 54,oM 56 8,oA 57 55 56 4,oD 58 57 4,oW 9 (.agg #[.string ⟨#[]⟩,.int .i64 0,.slice none 0 0,.int .i64 0]),oS 9 58 4] u65_27 [1,8]
abbrev u65_35:IC:=qE [oM 52 8,oK 53 52 .add 1,oM 8 53] [1,8]
abbrev u65_25:IC:=qB u65_26 u65_35 3 [1,8]
abbrev u65_22:IC:=qQ u65_23 u65_25 [1,8]
abbrev u65_21:IC:=qJ (.loop u65_22) 2 [1,8]
abbrev u65_20:IC:=qS [oI 8 0] u65_21 [1]
abbrev u65_36:IC:=qS [oI 2 0,oI 3 0] .ret []
abbrev u65_19:IC:=qQ u65_20 u65_36 [1]
abbrev u65_2:IC:=qQ u65_3 u65_19 [1]
abbrev u65_1:IC:=qS [oX 1 0,oI 2 0,oI 3 0] u65_2 [0]
def u65:IFn:=⟨81,u65_1,[.tmp 2,.tmp 3]⟩
end
theorem isU65:IsFn Tryz.prog 65 u65:=by unfold IsFn;kernel_rfl
section
abbrev u34_5:IC:=qS [oI 2 0,oI 3 1] .ret []
abbrev u34_4:IC:=qK u34_5 .skip (.t 15) [1,15]
abbrev u34_3:IC:=qS [oD 13 1 2,oC 14 59 [.t 13],oY 15 14] u34_4 [1]
abbrev u34_10:IC:=qS [oM 23 4,oM 24 5,oM 2 23,oM 3 24] .ret [4,5]
abbrev u34_9:IC:=qK u34_10 .skip (.t 22) [1,4,5,22]
abbrev u34_8:IC:=qS [oM 21 5,oK 22 21 .neq 0] u34_9 [1,4,5]
abbrev u34_7:IC:=qS [oD 17 1 2,oC 18 65 [.t 17],oM 16 18,oE 19 16 0,oE 20 16 1,oM 4 19,oM 5 20] u34_8 [1]
abbrev u34_16:IC:=qK .skip (.exit 0) (.t 29) [1,6,29]
abbrev u34_15:IC:=qS [oM 25 6,oF 26 1 1,oL 27 26,oH 28 27,oB 29 25 28 .lss] u34_16 [1,6]
abbrev u34_23:IC:=qK .skip (.exit 2) (.t 41) [1,6,7,8,41]
abbrev u34_22:IC:=qS [oM 38 8,oM 39 7,oH 40 39,oB 41 38 40 .lss] u34_23 [1,6,7,8]
abbrev u34_29:IC:=qS [oM 59 7,oM 60 8,oA 61 59 60 4,oF 62 61 3,oL 63 62,oM 64 9,oM 2 63,oM 3 64] .ret [7,8,9]
abbrev u34_28:IC:=qK u34_29 .skip (.t 58) [1,6,7,8,9,58]
abbrev u34_27:IC:=qS [oM 57 9,oK 58 57 .neq 0] u34_28 [1,6,7,8,9]
abbrev u34_26:IC:=qD [oD 44 1 2,oM 45 7,oM 46 8,oA 47 45 46 4,oF 48 47 1,oL 49 48,oM 50 7,oM 51 8,oA 52 50 51 4,oF 53 52 0,oL 54 53,oC 55 67 [.t 54],oC 56 66 [.t 44,.t 49,.t 55],oM 9 56] u34_27 [(0,none),(1,none),(2,none),(3,none),(4,none),(5,none),(6,none),(7,none),(8,none),(9,none),(10,none),(11,some [0,1,2,3,4,5]),(12,some []),(13,some [])] 14 [1,6,7,8]
abbrev u34_35:IC:=qK .skip (.exit 4) (.t 67) [1,6,7,8,10,67]
abbrev u34_34:IC:=qS [oM 65 10,oM 66 8,oB 67 65 66 .lss] u34_35 [1,6,7,8,10]
abbrev u34_39:IC:=qS [oM 94 7,oM 95 8,oA 96 94 95 4,oF 97 96 3,oL 98 97,oM 2 98,oI 3 7] .ret [7,8]
abbrev u34_38:IC:=qK u34_39 .skip (.t 93) [1,6,7,8,10,93]
abbrev u34_37:IC:=qP [oM 70 7,oM 71 10,oA 72 70 71 4,oF 73 72 0,oL 74 73,oM 75 7,oM 76 8,oA 77 75 76 4,oF 78 77 0,oL 79 78,oB 80 74 79 .eql,oM 81 80,gM 82 7 81,gM 83 10 81,oG 84 (.iad 4 (.t 82) (.t 83)) 81,gF 85 84 1 81,gL 86 85 81,gM 87 7 81,gM 88 8 81,oG 89 (.iad 4 (.t 87) (.t 88)) 81,gF 90 89 1 81,gL 91 90 81,oG 92 (.bin .eql (.t 86) (.t 91)) 81,oJ 93 81 92] u34_38 0 24 [1,6,7,8,10]
abbrev u34_40:IC:=qE [oM 68 10,oK 69 68 .add 1,oM 10 69] [1,6,7,8,10]
abbrev u34_36:IC:=qB u34_37 u34_40 5 [1,6,7,8,10]
abbrev u34_33:IC:=qQ u34_34 u34_36 [1,6,7,8,10]
abbrev u34_32:IC:=qJ (.loop u34_33) 4 [1,6,7,8,10]
abbrev u34_31:IC:=qS [oI 10 0] u34_32 [1,6,7,8]
abbrev u34_44:IC:=qS [oM 111 11,oM 112 12,oM 2 111,oM 3 112] .ret [11,12]
abbrev u34_43:IC:=qK u34_44 .skip (.t 110) [1,6,7,8,11,12,110]
abbrev u34_42:IC:=qS [oM 109 12,oK 110 109 .neq 0] u34_43 [1,6,7,8,11,12]
abbrev u34_41:IC:=qD [oD 100 1 2,oM 101 7,oM 102 8,oA 103 101 102 4,oF 104 103 2,oL 105 104,oC 106 68 [.t 100,.t 105],oM 99 106,oE 107 99 0,oE 108 99 1,oM 11 107,oM 12 108] u34_42 [(0,none),(1,none),(2,none),(3,none),(4,none),(5,none),(6,some []),(7,none),(8,none),(9,none),(10,some [9]),(11,some [])] 12 [1,6,7,8]
abbrev u34_30:IC:=qQ u34_31 u34_41 [1,6,7,8]
abbrev u34_25:IC:=qQ u34_26 u34_30 [1,6,7,8]
abbrev u34_45:IC:=qE [oM 42 8,oK 43 42 .add 1,oM 8 43] [1,6,7,8]
abbrev u34_24:IC:=qB u34_25 u34_45 3 [1,6,7,8]
abbrev u34_21:IC:=qQ u34_22 u34_24 [1,6,7,8]
abbrev u34_20:IC:=qJ (.loop u34_21) 2 [1,6,7,8]
abbrev u34_19:IC:=qS [oI 8 0] u34_20 [1,6,7]
abbrev u34_18:IC:=qS [oF 32 1 1,oL 33 32,oM 34 6,oA 35 33 34 4,oF 36 35 2,oL 37 36,oM 7 37] u34_19 [1,6]
abbrev u34_46:IC:=qE [oM 30 6,oK 31 30 .add 1,oM 6 31] [1,6]
abbrev u34_17:IC:=qB u34_18 u34_46 1 [1,6]
abbrev u34_14:IC:=qQ u34_15 u34_17 [1,6]
abbrev u34_13:IC:=qJ (.loop u34_14) 0 [1,6]
abbrev u34_12:IC:=qS [oI 6 0] u34_13 [1]
abbrev u34_47:IC:=qS [oI 2 0,oI 3 0] .ret []
abbrev u34_11:IC:=qQ u34_12 u34_47 [1]
abbrev u34_6:IC:=qQ u34_7 u34_11 [1]
abbrev u34_2:IC:=qQ u34_3 u34_6 [1]
abbrev u34_1:IC:=qS [oX 1 0,oI 2 0,oI 3 0] u34_2 [0]
def u34:IFn:=⟨113,u34_1,[.tmp 2,.tmp 3]⟩
end
theorem isU34:IsFn Tryz.prog 34 u34:=by unfold IsFn;kernel_rfl
section
abbrev u41_16:IC:=qE [oM 39 4,oF 40 7 0,oL 41 40,⟨some 42,.eff (.lkp (.i .i64) (.int .i64 0) false (.t 39) (.t 41)),none⟩,oF 43 8 1,oS 43 42 1] [1,3,4,5,7,8,15,16,17]
abbrev u41_15:IC:=qK u41_16 .skip (.t 38) [1,3,4,5,7,8,15,16,17,38]
abbrev u41_14:IC:=qS [oF 26 7 0,oL 27 26,oK 28 27 .eql 6,oM 29 28,hF 30 7 0 29,hL 31 30 29,hK 32 31 29 .eql 7,oO 33 29 32,oM 34 33,hF 35 7 0 34,hL 36 35 34,hK 37 36 34 .eql 8,oO 38 34 37] u41_15 [1,3,4,5,7,8,15,16,17]
abbrev u41_18:IC:=qE [oM 49 5,oF 50 7 1,oL 51 50,oD 52 8 2,⟨some 53,.callv (.t 49) [.t 51,.t 52],none⟩] [1,3,4,5,7,8,15,16,17]
abbrev u41_17:IC:=qS [oM 44 4,oF 45 7 0,oL 46 45,⟨some 47,.eff (.lkp (.i .i64) (.int .i64 0) false (.t 44) (.t 46)),none⟩,oK 48 47 .add 1,⟨none,.eff (.mup (.i .i64) (.t 44) (.t 46) (.t 48)),none⟩] u41_18 [1,3,4,5,7,8,15,16,17]
abbrev u41_13:IC:=qQ u41_14 u41_17 [1,3,4,5,7,8,15,16,17]
abbrev u41_12:IC:=qS [oF 21 7 0,oL 22 21,oF 23 7 2,oL 24 23,oP 25 (.bld #[.int .i64 0,.int .i64 0] [(0,1),(1,1)] [(0,.t 22),(1,.t 24)]),oW 8 (.agg #[.int .i64 0,.int .i64 0]),oS 8 25 2] u41_13 [1,3,4,5,7,15,16,17]
abbrev u41_11:IC:=qS [oA 19 15 17 4,oD 20 19 4,oW 7 (.agg #[.int .i64 0,.string ⟨#[]⟩,.int .i64 0,.int .i64 0]),oS 7 20 4] u41_12 [1,3,4,5,15,16,17]
abbrev u41_19:IC:=qE [oK 54 17 .add 1,oM 17 54] [1,3,4,5,15,16,17]
abbrev u41_10:IC:=qB u41_11 u41_19 1 [1,3,4,5,15,16,17]
abbrev u41_9:IC:=qC .skip u41_10 (.exit 0) (.t 18) [1,3,4,5,15,16,17,18]
abbrev u41_8:IC:=qS [oB 18 17 16 .lss] u41_9 [1,3,4,5,15,16,17]
abbrev u41_7:IC:=qJ (.loop u41_8) 0 [1,3,4,5,15,16,17]
abbrev u41_6:IC:=qS [oF 14 1 0,oL 15 14,oH 16 15,oI 17 0] u41_7 [1,3,4,5]
abbrev u41_27:IC:=qE [oM 63 5,oF 64 10 0,oL 65 64,oM 66 9,oP 67 (.bld #[.int .i64 0,.int .i64 0] [(0,1),(1,1)] [(0,.k (.int .i64 9)),(1,.t 66)]),⟨some 68,.callv (.t 63) [.t 65,.t 67],none⟩] [3,5,9,10,56,57,58]
abbrev u41_26:IC:=qS [oM 60 58,oA 61 56 58 4,oD 62 61 4,oW 10 (.agg #[.string ⟨#[]⟩,.int .i64 0,.slice none 0 0,.int .i64 0]),oM 9 60,oS 10 62 4] u41_27 [3,5,56,57,58]
abbrev u41_28:IC:=qE [oK 69 58 .add 1,oM 58 69] [3,5,56,57,58]
abbrev u41_25:IC:=qB u41_26 u41_28 3 [3,5,56,57,58]
abbrev u41_24:IC:=qC .skip u41_25 (.exit 2) (.t 59) [3,5,56,57,58,59]
abbrev u41_23:IC:=qS [oB 59 58 57 .lss] u41_24 [3,5,56,57,58]
abbrev u41_22:IC:=qJ (.loop u41_23) 2 [3,5,56,57,58]
abbrev u41_21:IC:=qS [oF 55 1 1,oL 56 55,oH 57 56,oI 58 0] u41_22 [1,3,5]
abbrev u41_29:IC:=qS [oL 70 3,oM 2 70] .ret [3]
abbrev u41_20:IC:=qQ u41_21 u41_29 [1,3,5]
abbrev u41_5:IC:=qQ u41_6 u41_20 [1,3,4,5]
abbrev u41_4:IC:=qS [oP 13 (.mkf 85 [] [.t 3]),oM 5 13] u41_5 [1,3,4]
abbrev u41_3:IC:=qS [⟨some 12,.eff (.mkm (.i .i64)),none⟩,oM 4 12] u41_4 [1,3]
abbrev u41_2:IC:=qS [⟨some 11,.eff (.mkm .s),none⟩,oW 3 (.map none),oS 3 11 1] u41_3 [1]
abbrev u41_1:IC:=qS [oX 1 0,oV 2 (.map none)] u41_2 [0]
def u41:IFn:=⟨71,u41_1,[.tmp 2]⟩
end
theorem isU41:IsFn Tryz.prog 41 u41:=by unfold IsFn;kernel_rfl
section
abbrev u85_5:IC:=qE [oL 15 2,oM 16 0,oD 17 4 2,⟨none,.eff (.mup .s (.t 15) (.t 16) (.t 17)),none⟩] [0,2,4]
abbrev u85_4:IC:=qK u85_5 .skip (.t 14) [0,2,4,14]
abbrev u85_3:IC:=qS [oM 13 6,oY 14 13] u85_4 [0,2,4,6]
abbrev u85_2:IC:=qS [oL 8 2,oM 9 0,⟨some 10,.eff (.lkp .s (.agg #[.int .i64 0,.int .i64 0]) true (.t 8) (.t 9)),none⟩,oM 7 10,oE 11 7 0,oE 12 7 1,oW 5 (.agg #[.int .i64 0,.int .i64 0]),oS 5 11 2,oM 6 12] u85_3 [0,2,4]
abbrev u85_1:IC:=qS [oX 4 1] u85_2 [0,1,2]
def u85:IFn:=⟨18,u85_1,[]⟩
end
theorem isU85:IsFn Tryz.prog 85 u85:=by unfold IsFn;kernel_rfl
section
abbrev u42_11:IC:=qG [oM 19 5,oF 20 7 1,oL 21 20,oF 22 7 3,oL 23 22,oF 24 7 2,oL 25 24,oF 26 7 0,oL 27 26,oC 28 87 [.t 27],⟨some 29,.callv (.t 19) [.t 21,.t 23,.t 25,.t 28],none⟩] [(0,none),(1,none),(2,none),(3,none),(4,none),(5,none),(6,none),(7,none),(8,none),(9,some [0,1,2,3,4,5,6]),(10,some [])] 11 [3,5,7,13,14,15]
abbrev u42_10:IC:=qS [oA 17 13 15 4,oD 18 17 4,oW 7 (.agg #[.int .i64 0,.string ⟨#[]⟩,.int .i64 0,.int .i64 0]),oS 7 18 4] u42_11 [3,5,13,14,15]
abbrev u42_12:IC:=qE [oK 30 15 .add 1,oM 15 30] [3,5,13,14,15]
abbrev u42_9:IC:=qB u42_10 u42_12 1 [3,5,13,14,15]
abbrev u42_8:IC:=qC .skip u42_9 (.exit 0) (.t 16) [3,5,13,14,15,16]
abbrev u42_7:IC:=qS [oB 16 15 14 .lss] u42_8 [3,5,13,14,15]
abbrev u42_6:IC:=qJ (.loop u42_7) 0 [3,5,13,14,15]
abbrev u42_5:IC:=qS [oF 12 3 0,oL 13 12,oH 14 13,oI 15 0] u42_6 [3,5]
abbrev u42_19:IC:=qE [oM 38 5,oF 39 9 0,oL 40 39,oF 41 9 3,oL 42 41,oF 43 9 1,oL 44 43,⟨some 45,.callv (.t 38) [.t 40,.t 42,.t 44,.k (.int .i64 99)],none⟩] [5,9,32,33,34]
abbrev u42_18:IC:=qS [oA 36 32 34 4,oD 37 36 4,oW 9 (.agg #[.string ⟨#[]⟩,.int .i64 0,.slice none 0 0,.int .i64 0]),oS 9 37 4] u42_19 [5,32,33,34]
abbrev u42_20:IC:=qE [oK 46 34 .add 1,oM 34 46] [5,32,33,34]
abbrev u42_17:IC:=qB u42_18 u42_20 3 [5,32,33,34]
abbrev u42_16:IC:=qC .skip u42_17 (.exit 2) (.t 35) [5,32,33,34,35]
abbrev u42_15:IC:=qS [oB 35 34 33 .lss] u42_16 [5,32,33,34]
abbrev u42_14:IC:=qJ (.loop u42_15) 2 [5,32,33,34]
abbrev u42_13:IC:=qS [oF 31 3 1,oL 32 31,oH 33 32,oI 34 0] u42_14 [3,5]
abbrev u42_4:IC:=qQ u42_5 u42_13 [3,5]
abbrev u42_3:IC:=qS [oP 11 (.mkf 86 [] [.t 2,.t 4]),oM 5 11] u42_4 [2,3,4]
abbrev u42_2:IC:=qS [⟨some 10,.eff (.mkm .s),none⟩,oW 4 (.map none),oS 4 10 1] u42_3 [2,3]
abbrev u42_1:IC:=qS [oX 2 0,oX 3 1] u42_2 [0,1]
def u42:IFn:=⟨47,u42_1,[]⟩
end
theorem isU42:IsFn Tryz.prog 42 u42:=by unfold IsFn;kernel_rfl
section
abbrev u86_4:IC:=qE [oL 13 4,oM 14 1,oC 15 47 [.t 13,.t 14,.k (.int .i64 5)]] [0,1,4,5]
abbrev u86_3:IC:=qK u86_4 .skip (.t 12) [0,1,4,5,12]
abbrev u86_2:IC:=qS [oM 10 2,oM 11 3,oB 12 10 11 .gtr] u86_3 [0,1,2,3,4,5]
abbrev u86_8:IC:=qE [oL 19 4,oM 20 1,oC 21 47 [.t 19,.t 20,.k (.int .i64 7)]] [0,1,4,5]
abbrev u86_7:IC:=qK u86_8 .skip (.t 18) [0,1,4,5,18]
abbrev u86_6:IC:=qS [oL 16 5,oM 17 0,⟨some 18,.eff (.lkp .s (.bool false) false (.t 16) (.t 17)),none⟩] u86_7 [0,1,4,5]
abbrev u86_9:IC:=qE [oL 22 5,oM 23 0,⟨none,.eff (.mup .s (.t 22) (.t 23) (.k (.bool true))),none⟩] [0,5]
abbrev u86_5:IC:=qQ u86_6 u86_9 [0,1,4,5]
abbrev u86_1:IC:=qQ u86_2 u86_5 [0,1,2,3,4,5]
def u86:IFn:=⟨24,u86_1,[]⟩
end
theorem isU86:IsFn Tryz.prog 86 u86:=by unfold IsFn;kernel_rfl
section
abbrev u47_3:IC:=qE [oM 11 0,oM 12 0,oM 13 1,oM 14 2,oN 15 11,oF 16 15 1,oS 16 13 1,oN 17 12,oF 18 17 2,oS 18 14 1] [0,1,2]
abbrev u47_2:IC:=qK u47_3 .skip (.t 10) [0,1,2,10]
abbrev u47_1:IC:=qS [oM 6 0,oN 7 6,oF 8 7 2,oL 9 8,oK 10 9 .eql 0] u47_2 [0,1,2]
def u47:IFn:=⟨19,u47_1,[]⟩
end
theorem isU47:IsFn Tryz.prog 47 u47:=by unfold IsFn;kernel_rfl
section
abbrev u43_7:IC:=qE [oM 25 0,oM 26 3,oC 27 47 [.t 25,.t 26,.k (.int .i64 8)]] [0,3]
abbrev u43_10:IC:=qE [oM 33 0,oM 34 3,oC 35 47 [.t 33,.t 34,.k (.int .i64 44)]] [0,3]
abbrev u43_9:IC:=qK u43_10 .skip (.t 28) [0,3,28]
abbrev u43_8:IC:=qS [oF 29 8 0,oL 30 29,oM 31 2,oB 32 30 31 .neq,oM 28 32] u43_9 [0,2,3,8]
abbrev u43_6:IC:=qK u43_7 u43_8 (.t 22) [0,2,3,8,22]
abbrev u43_5:IC:=qS [oM 23 9,oY 24 23,oM 22 24] u43_6 [0,2,3,8,9]
abbrev u43_4:IC:=qK .skip u43_5 (.t 19) [0,2,3,8,9,19]
abbrev u43_3:IC:=qS [oM 20 2,oK 21 20 .eql 0,oM 19 21] u43_4 [0,2,3,8,9]
abbrev u43_2:IC:=qJ u43_3 0 [0,2,3,8,9]
abbrev u43_1:IC:=qS [oM 11 0,oN 12 11,oF 13 12 0,oL 14 13,oM 15 1,⟨some 16,.eff (.lkp .s (.agg #[.int .i64 0,.int .i64 0]) true (.t 14) (.t 15)),none⟩,oM 10 16,oE 17 10 0,oE 18 10 1,oW 8 (.agg #[.int .i64 0,.int .i64 0]),oS 8 17 2,oM 9 18] u43_2 [0,1,2,3]
def u43:IFn:=⟨36,u43_1,[]⟩
end
theorem isU43:IsFn Tryz.prog 43 u43:=by unfold IsFn;kernel_rfl
section
abbrev u57_9:IC:=qE [oM 16 0,oD 17 5 5,oC 18 57 [.t 16,.t 17]] [0,3,5,10,11,12]
abbrev u57_8:IC:=qS [oA 14 10 12 5,oD 15 14 5,oW 5 (.agg #[.int .i64 0,.int .i64 0,.string ⟨#[]⟩,.slice none 0 0,.int .i64 0]),oS 5 15 5] u57_9 [0,3,10,11,12]
abbrev u57_10:IC:=qE [oK 19 12 .add 1,oM 12 19] [0,3,10,11,12]
abbrev u57_7:IC:=qB u57_8 u57_10 1 [0,3,10,11,12]
abbrev u57_6:IC:=qC .skip u57_7 (.exit 0) (.t 13) [0,3,10,11,12,13]
abbrev u57_5:IC:=qS [oB 13 12 11 .lss] u57_6 [0,3,10,11,12]
abbrev u57_4:IC:=qJ (.loop u57_5) 0 [0,3,10,11,12]
abbrev u57_3:IC:=qS [oF 9 3 3,oL 10 9,oH 11 10,oI 12 0] u57_4 [0,3]
abbrev u57_21:IC:=qE [oK 34 30 .eql 24,oM 31 34] [0,3,6,30]
abbrev u57_20:IC:=qK .skip u57_21 (.t 31) [0,3,6,30,31]
abbrev u57_19:IC:=qS [oK 33 30 .eql 23,oM 31 33] u57_20 [0,3,6,30]
abbrev u57_18:IC:=qK .skip u57_19 (.t 31) [0,3,6,30,31]
abbrev u57_17:IC:=qS [oK 32 30 .eql 11,oM 31 32] u57_18 [0,3,6,30]
abbrev u57_23:IC:=qE [oI 6 2] [0,3]
abbrev u57_27:IC:=qE [oK 37 30 .eql 22,oM 35 37] [0,3,6,30]
abbrev u57_26:IC:=qK .skip u57_27 (.t 35) [0,3,6,30,35]
abbrev u57_25:IC:=qS [oK 36 30 .eql 21,oM 35 36] u57_26 [0,3,6,30]
abbrev u57_29:IC:=qE [oF 38 3 3,oL 39 38,oP 40 (.iad 5 (.t 39) (.k (.int .i64 0))),oF 41 40 0,oL 42 41,oC 43 58 [.t 42],oM 6 43] [0,3]
abbrev u57_28:IC:=qK u57_29 .skip (.t 35) [0,3,6,35]
abbrev u57_24:IC:=qQ u57_25 u57_28 [0,3,6,30]
abbrev u57_22:IC:=qK u57_23 u57_24 (.t 31) [0,3,6,30,31]
abbrev u57_16:IC:=qQ u57_17 u57_22 [0,3,6,30]
abbrev u57_15:IC:=qJ u57_16 2 [0,3,6,30]
abbrev u57_14:IC:=qS [oF 29 3 0,oL 30 29] u57_15 [0,3,6]
abbrev u57_38:IC:=qE [oM 56 0,oF 57 3 4,oL 58 57,oC 59 47 [.t 56,.t 58,.k (.int .i64 49)]] [0,3,6,45,46,47]
abbrev u57_37:IC:=qK u57_38 .skip (.t 55) [0,3,6,45,46,47,55]
abbrev u57_36:IC:=qS [oF 51 8 0,oL 52 51,oC 53 58 [.t 52],oM 54 6,oB 55 53 54 .neq] u57_37 [0,3,6,8,45,46,47]
abbrev u57_35:IC:=qS [oA 49 45 47 5,oD 50 49 5,oW 8 (.agg #[.int .i64 0,.int .i64 0,.string ⟨#[]⟩,.slice none 0 0,.int .i64 0]),oS 8 50 5] u57_36 [0,3,6,45,46,47]
abbrev u57_39:IC:=qE [oK 60 47 .add 1,oM 47 60] [0,3,6,45,46,47]
abbrev u57_34:IC:=qB u57_35 u57_39 4 [0,3,6,45,46,47]
abbrev u57_33:IC:=qC .skip u57_34 (.exit 3) (.t 48) [0,3,6,45,46,47,48]
abbrev u57_32:IC:=qS [oB 48 47 46 .lss] u57_33 [0,3,6,45,46,47]
abbrev u57_31:IC:=qJ (.loop u57_32) 3 [0,3,6,45,46,47]
abbrev u57_30:IC:=qS [oF 44 3 3,oL 45 44,oH 46 45,oI 47 0] u57_31 [0,3,6]
abbrev u57_13:IC:=qQ u57_14 u57_30 [0,3,6]
abbrev u57_12:IC:=qS [oI 6 1] u57_13 [0,3]
abbrev u57_11:IC:=qD [oM 20 0,oF 21 3 2,oL 22 21,oF 23 3 0,oL 24 23,oC 25 96 [.t 24],oF 26 3 4,oL 27 26,oC 28 43 [.t 20,.t 22,.t 25,.t 27]] u57_12 [(0,none),(1,none),(2,none),(3,none),(4,none),(6,none),(7,none),(5,some [0,1,2,6,7]),(8,some [])] 9 [0,3]
abbrev u57_2:IC:=qQ u57_3 u57_11 [0,3]
abbrev u57_1:IC:=qS [oX 3 1] u57_2 [0,1]
def u57:IFn:=⟨61,u57_1,[]⟩
end
theorem isU57:IsFn Tryz.prog 57 u57:=by unfold IsFn;kernel_rfl
section
abbrev u48_12:IC:=qE [oI 6 2] [0,5,9,10,11]
abbrev u48_11:IC:=qK u48_12 .skip (.t 26) [0,5,6,9,10,11,26]
abbrev u48_10:IC:=qS [oF 24 5 0,oL 25 24,oK 26 25 .eql 2] u48_11 [0,5,6,9,10,11]
abbrev u48_23:IC:=qE [oM 42 0,oF 43 8 4,oL 44 43,oC 45 47 [.t 42,.t 44,.k (.int .i64 49)]] [0,5,6,8,9,10,11,28,29,30]
abbrev u48_22:IC:=qK u48_23 .skip (.t 41) [0,5,6,8,9,10,11,28,29,30,41]
abbrev u48_21:IC:=qS [oF 37 8 0,oL 38 37,oC 39 58 [.t 38],oM 40 6,oB 41 39 40 .neq] u48_22 [0,5,6,8,9,10,11,28,29,30]
abbrev u48_20:IC:=qS [oM 34 0,oD 35 8 5,oC 36 57 [.t 34,.t 35]] u48_21 [0,5,6,8,9,10,11,28,29,30]
abbrev u48_19:IC:=qS [oA 32 28 30 5,oD 33 32 5,oW 8 (.agg #[.int .i64 0,.int .i64 0,.string ⟨#[]⟩,.slice none 0 0,.int .i64 0]),oS 8 33 5] u48_20 [0,5,6,9,10,11,28,29,30]
abbrev u48_24:IC:=qE [oK 46 30 .add 1,oM 30 46] [0,5,6,9,10,11,28,29,30]
abbrev u48_18:IC:=qB u48_19 u48_24 3 [0,5,6,9,10,11,28,29,30]
abbrev u48_17:IC:=qC .skip u48_18 (.exit 2) (.t 31) [0,5,6,9,10,11,28,29,30,31]
abbrev u48_16:IC:=qS [oB 31 30 29 .lss] u48_17 [0,5,6,9,10,11,28,29,30]
abbrev u48_15:IC:=qJ (.loop u48_16) 2 [0,5,6,9,10,11,28,29,30]
abbrev u48_14:IC:=qS [oF 27 5 3,oL 28 27,oH 29 28,oI 30 0] u48_15 [0,5,6,9,10,11]
abbrev u48_26:IC:=qE [oM 51 0,oF 52 5 5,oL 53 52,oC 54 48 [.t 51,.t 53]] [0,5,9,10,11]
abbrev u48_25:IC:=qS [oM 47 0,oF 48 5 4,oL 49 48,oC 50 48 [.t 47,.t 49]] u48_26 [0,5,9,10,11]
abbrev u48_13:IC:=qQ u48_14 u48_25 [0,5,6,9,10,11]
abbrev u48_9:IC:=qQ u48_10 u48_13 [0,5,6,9,10,11]
abbrev u48_8:IC:=qS [oI 6 1] u48_9 [0,5,9,10,11]
abbrev u48_7:IC:=qD [oM 15 0,oF 16 5 1,oL 17 16,oF 18 5 0,oL 19 18,oC 20 89 [.t 19],oF 21 5 6,oL 22 21,oC 23 43 [.t 15,.t 17,.t 20,.t 22]] u48_8 [(0,none),(1,none),(2,none),(3,none),(4,none),(6,none),(7,none),(5,some [0,1,2,6,7]),(8,some [])] 9 [0,5,9,10,11]
abbrev u48_6:IC:=qS [oA 13 9 11 7,oD 14 13 7,oW 5 (.agg #[.int .i64 0,.string ⟨#[]⟩,.string ⟨#[]⟩,.slice none 0 0,.slice none 0 0,.slice none 0 0,.int .i64 0]),oS 5 14 7] u48_7 [0,9,10,11]
abbrev u48_27:IC:=qE [oK 55 11 .add 1,oM 11 55] [0,9,10,11]
abbrev u48_5:IC:=qB u48_6 u48_27 1 [0,9,10,11]
abbrev u48_4:IC:=qC .skip u48_5 (.exit 0) (.t 12) [0,9,10,11,12]
abbrev u48_3:IC:=qS [oB 12 11 10 .lss] u48_4 [0,9,10,11]
abbrev u48_2:IC:=qJ (.loop u48_3) 0 [0,9,10,11]
abbrev u48_1:IC:=qS [oM 9 1,oH 10 9,oI 11 0] u48_2 [0,1]
def u48:IFn:=⟨56,u48_1,[]⟩
end
theorem isU48:IsFn Tryz.prog 48 u48:=by unfold IsFn;kernel_rfl
section
abbrev u96_7:IC:=qS [oI 2 6] .ret []
abbrev u96_10:IC:=qS [oI 2 1] .ret []
abbrev u96_13:IC:=qS [oI 2 9] .ret []
abbrev u96_16:IC:=qS [oI 2 7] .ret []
abbrev u96_15:IC:=qK u96_16 .skip (.t 10) [10]
abbrev u96_14:IC:=qS [oK 11 3 .eql 7,oM 10 11] u96_15 [3]
abbrev u96_12:IC:=qK u96_13 u96_14 (.t 8) [3,8]
abbrev u96_11:IC:=qS [oK 9 3 .eql 6,oM 8 9] u96_12 [3]
abbrev u96_9:IC:=qK u96_10 u96_11 (.t 6) [3,6]
abbrev u96_8:IC:=qS [oK 7 3 .eql 5,oM 6 7] u96_9 [3]
abbrev u96_6:IC:=qK u96_7 u96_8 (.t 4) [3,4]
abbrev u96_5:IC:=qS [oK 5 3 .eql 2,oM 4 5] u96_6 [3]
abbrev u96_4:IC:=qJ u96_5 0 [3]
abbrev u96_3:IC:=qS [oM 3 0] u96_4 [0]
abbrev u96_17:IC:=qS [oI 2 0] .ret []
abbrev u96_2:IC:=qQ u96_3 u96_17 [0]
abbrev u96_1:IC:=qS [oI 2 0] u96_2 [0]
def u96:IFn:=⟨12,u96_1,[.tmp 2]⟩
end
theorem isU96:IsFn Tryz.prog 96 u96:=by unfold IsFn;kernel_rfl
section
abbrev u89_7:IC:=qS [oI 2 6] .ret []
abbrev u89_13:IC:=qE [oK 9 3 .eql 7,oM 6 9] [3]
abbrev u89_12:IC:=qK .skip u89_13 (.t 6) [3,6]
abbrev u89_11:IC:=qS [oK 8 3 .eql 6,oM 6 8] u89_12 [3]
abbrev u89_10:IC:=qK .skip u89_11 (.t 6) [3,6]
abbrev u89_9:IC:=qS [oK 7 3 .eql 5,oM 6 7] u89_10 [3]
abbrev u89_15:IC:=qS [oI 2 2] .ret []
abbrev u89_19:IC:=qE [oK 12 3 .eql 9,oM 10 12] [3]
abbrev u89_18:IC:=qK .skip u89_19 (.t 10) [3,10]
abbrev u89_17:IC:=qS [oK 11 3 .eql 8,oM 10 11] u89_18 [3]
abbrev u89_21:IC:=qS [oI 2 3] .ret []
abbrev u89_25:IC:=qE [oK 15 3 .eql 11,oM 13 15] [3]
abbrev u89_24:IC:=qK .skip u89_25 (.t 13) [3,13]
abbrev u89_23:IC:=qS [oK 14 3 .eql 10,oM 13 14] u89_24 [3]
abbrev u89_27:IC:=qS [oI 2 7] .ret []
abbrev u89_31:IC:=qE [oK 18 3 .eql 13,oM 16 18] [3]
abbrev u89_30:IC:=qK .skip u89_31 (.t 16) [3,16]
abbrev u89_29:IC:=qS [oK 17 3 .eql 12,oM 16 17] u89_30 [3]
abbrev u89_33:IC:=qS [oI 2 9] .ret []
abbrev u89_36:IC:=qS [oI 2 8] .ret []
abbrev u89_39:IC:=qS [oI 2 4] .ret []
abbrev u89_43:IC:=qE [oK 25 3 .eql 17,oM 23 25] [3]
abbrev u89_42:IC:=qK .skip u89_43 (.t 23) [3,23]
abbrev u89_41:IC:=qS [oK 24 3 .eql 16,oM 23 24] u89_42 [3]
abbrev u89_45:IC:=qS [oI 2 5] .ret []
abbrev u89_44:IC:=qK u89_45 .skip (.t 23) [23]
abbrev u89_40:IC:=qQ u89_41 u89_44 [3]
abbrev u89_38:IC:=qK u89_39 u89_40 (.t 21) [3,21]
abbrev u89_37:IC:=qS [oK 22 3 .eql 15,oM 21 22] u89_38 [3]
abbrev u89_35:IC:=qK u89_36 u89_37 (.t 19) [3,19]
abbrev u89_34:IC:=qS [oK 20 3 .eql 14,oM 19 20] u89_35 [3]
abbrev u89_32:IC:=qK u89_33 u89_34 (.t 16) [3,16]
abbrev u89_28:IC:=qQ u89_29 u89_32 [3]
abbrev u89_26:IC:=qK u89_27 u89_28 (.t 13) [3,13]
abbrev u89_22:IC:=qQ u89_23 u89_26 [3]
abbrev u89_20:IC:=qK u89_21 u89_22 (.t 10) [3,10]
abbrev u89_16:IC:=qQ u89_17 u89_20 [3]
abbrev u89_14:IC:=qK u89_15 u89_16 (.t 6) [3,6]
abbrev u89_8:IC:=qQ u89_9 u89_14 [3]
abbrev u89_6:IC:=qK u89_7 u89_8 (.t 4) [3,4]
abbrev u89_5:IC:=qS [oK 5 3 .eql 1,oM 4 5] u89_6 [3]
abbrev u89_4:IC:=qJ u89_5 0 [3]
abbrev u89_3:IC:=qS [oM 3 0] u89_4 [0]
abbrev u89_46:IC:=qS [oI 2 0] .ret []
abbrev u89_2:IC:=qQ u89_3 u89_46 [0]
abbrev u89_1:IC:=qS [oI 2 0] u89_2 [0]
def u89:IFn:=⟨26,u89_1,[.tmp 2]⟩
end
theorem isU89:IsFn Tryz.prog 89 u89:=by unfold IsFn;kernel_rfl
section
abbrev u44_8:IC:=qE [oK 6 3 .eql 4,oM 4 6] [3]
abbrev u44_7:IC:=qK .skip u44_8 (.t 4) [3,4]
abbrev u44_6:IC:=qS [oK 5 3 .eql 3,oM 4 5] u44_7 [3]
abbrev u44_10:IC:=qS [oI 2 1] .ret []
abbrev u44_13:IC:=qS [oI 2 7] .ret []
abbrev u44_16:IC:=qS [oI 2 8] .ret []
abbrev u44_15:IC:=qK u44_16 .skip (.t 9) [9]
abbrev u44_14:IC:=qS [oK 10 3 .eql 6,oM 9 10] u44_15 [3]
abbrev u44_12:IC:=qK u44_13 u44_14 (.t 7) [3,7]
abbrev u44_11:IC:=qS [oK 8 3 .eql 5,oM 7 8] u44_12 [3]
abbrev u44_9:IC:=qK u44_10 u44_11 (.t 4) [3,4]
abbrev u44_5:IC:=qQ u44_6 u44_9 [3]
abbrev u44_4:IC:=qJ u44_5 0 [3]
abbrev u44_3:IC:=qS [oM 3 0] u44_4 [0]
abbrev u44_17:IC:=qS [oI 2 0] .ret []
abbrev u44_2:IC:=qQ u44_3 u44_17 [0]
abbrev u44_1:IC:=qS [oI 2 0] u44_2 [0]
def u44:IFn:=⟨11,u44_1,[.tmp 2]⟩
end
theorem isU44:IsFn Tryz.prog 44 u44:=by unfold IsFn;kernel_rfl
section
abbrev u97_18:IC:=qE [oK 11 3 .eql 24,oM 4 11] [0,3]
abbrev u97_17:IC:=qK .skip u97_18 (.t 4) [0,3,4]
abbrev u97_16:IC:=qS [oK 10 3 .eql 23,oM 4 10] u97_17 [0,3]
abbrev u97_15:IC:=qK .skip u97_16 (.t 4) [0,3,4]
abbrev u97_14:IC:=qS [oK 9 3 .eql 11,oM 4 9] u97_15 [0,3]
abbrev u97_13:IC:=qK .skip u97_14 (.t 4) [0,3,4]
abbrev u97_12:IC:=qS [oK 8 3 .eql 6,oM 4 8] u97_13 [0,3]
abbrev u97_11:IC:=qK .skip u97_12 (.t 4) [0,3,4]
abbrev u97_10:IC:=qS [oK 7 3 .eql 5,oM 4 7] u97_11 [0,3]
abbrev u97_9:IC:=qK .skip u97_10 (.t 4) [0,3,4]
abbrev u97_8:IC:=qS [oK 6 3 .eql 4,oM 4 6] u97_9 [0,3]
abbrev u97_7:IC:=qK .skip u97_8 (.t 4) [0,3,4]
abbrev u97_6:IC:=qS [oK 5 3 .eql 3,oM 4 5] u97_7 [0,3]
abbrev u97_20:IC:=qS [oV 2 (.bool true)] .ret []
abbrev u97_19:IC:=qK u97_20 .skip (.t 4) [0,4]
abbrev u97_5:IC:=qQ u97_6 u97_19 [0,3]
abbrev u97_4:IC:=qJ u97_5 0 [0,3]
abbrev u97_3:IC:=qS [oM 3 0] u97_4 [0]
abbrev u97_21:IC:=qS [oM 12 0,oK 13 12 .geq 17,oM 14 13,gM 15 0 14,gK 16 15 14 .leq 22,oJ 17 14 16,oM 2 17] .ret [0]
abbrev u97_2:IC:=qQ u97_3 u97_21 [0]
abbrev u97_1:IC:=qS [oV 2 (.bool false)] u97_2 [0]
def u97:IFn:=⟨18,u97_1,[.tmp 2]⟩
end
theorem isU97:IsFn Tryz.prog 97 u97:=by unfold IsFn;kernel_rfl
section
abbrev u58_5:IC:=qS [oI 2 2] .ret []
abbrev u58_4:IC:=qK u58_5 .skip (.t 4) [4]
abbrev u58_3:IC:=qS [oM 3 0,oC 4 97 [.t 3]] u58_4 [0]
abbrev u58_6:IC:=qS [oI 2 1] .ret []
abbrev u58_2:IC:=qQ u58_3 u58_6 [0]
abbrev u58_1:IC:=qS [oI 2 0] u58_2 [0]
def u58:IFn:=⟨5,u58_1,[.tmp 2]⟩
end
theorem isU58:IsFn Tryz.prog 58 u58:=by unfold IsFn;kernel_rfl
section
abbrev u87_7:IC:=qS [oI 2 63] .ret []
abbrev u87_10:IC:=qS [oI 2 31] .ret []
abbrev u87_16:IC:=qE [oK 11 3 .eql 5,oM 8 11] [3]
abbrev u87_15:IC:=qK .skip u87_16 (.t 8) [3,8]
abbrev u87_14:IC:=qS [oK 10 3 .eql 4,oM 8 10] u87_15 [3]
abbrev u87_13:IC:=qK .skip u87_14 (.t 8) [3,8]
abbrev u87_12:IC:=qS [oK 9 3 .eql 3,oM 8 9] u87_13 [3]
abbrev u87_18:IC:=qS [oI 2 63] .ret []
abbrev u87_17:IC:=qK u87_18 .skip (.t 8) [8]
abbrev u87_11:IC:=qQ u87_12 u87_17 [3]
abbrev u87_9:IC:=qK u87_10 u87_11 (.t 6) [3,6]
abbrev u87_8:IC:=qS [oK 7 3 .eql 2,oM 6 7] u87_9 [3]
abbrev u87_6:IC:=qK u87_7 u87_8 (.t 4) [3,4]
abbrev u87_5:IC:=qS [oK 5 3 .eql 1,oM 4 5] u87_6 [3]
abbrev u87_4:IC:=qJ u87_5 0 [3]
abbrev u87_3:IC:=qS [oM 3 0] u87_4 [0]
abbrev u87_19:IC:=qS [oI 2 2147483647] .ret []
abbrev u87_2:IC:=qQ u87_3 u87_19 [0]
abbrev u87_1:IC:=qS [oI 2 0] u87_2 [0]
def u87:IFn:=⟨12,u87_1,[.tmp 2]⟩
end
theorem isU87:IsFn Tryz.prog 87 u87:=by unfold IsFn;kernel_rfl
section
abbrev u17_5:IC:=qS [oI 2 0,oI 3 1] .ret []
abbrev u17_4:IC:=qK u17_5 .skip (.t 11) [1,11]
abbrev u17_3:IC:=qS [oD 9 1 2,oC 10 40 [.t 9],oY 11 10] u17_4 [1]
abbrev u17_25:IC:=qE [oM 49 4,oF 50 8 3,oL 51 50,oC 52 47 [.t 49,.t 51,.k (.int .i64 7)]] [4,6,8,20,21,22,27,28,29]
abbrev u17_24:IC:=qK u17_25 .skip (.t 48) [4,6,8,20,21,22,27,28,29,48]
abbrev u17_23:IC:=qS [oF 43 6 2,oL 44 43,oM 45 7,oP 46 (.slc 4 (.t 44) none (some (.t 45))),oP 47 (.mkf 46 [] [.t 8]),oC 48 45 [.t 46,.t 47]] u17_24 [4,6,7,8,20,21,22,27,28,29]
abbrev u17_26:IC:=qE [oM 53 4,oF 54 8 2,oL 55 54,oC 56 48 [.t 53,.t 55]] [4,6,8,20,21,22,27,28,29]
abbrev u17_22:IC:=qQ u17_23 u17_26 [4,6,7,8,20,21,22,27,28,29]
abbrev u17_21:IC:=qD [oM 34 4,oF 35 8 1,oL 36 35,oF 37 8 0,oL 38 37,oC 39 44 [.t 38],oF 40 8 3,oL 41 40,oC 42 43 [.t 34,.t 36,.t 39,.t 41]] u17_22 [(0,none),(1,none),(2,none),(3,none),(4,none),(6,none),(7,none),(5,some [0,1,2,6,7]),(8,some [])] 9 [4,6,7,8,20,21,22,27,28,29]
abbrev u17_20:IC:=qS [oM 31 29,oA 32 27 29 4,oD 33 32 4,oW 8 (.agg #[.int .i64 0,.string ⟨#[]⟩,.slice none 0 0,.int .i64 0]),oM 7 31,oS 8 33 4] u17_21 [4,6,20,21,22,27,28,29]
abbrev u17_27:IC:=qE [oK 57 29 .add 1,oM 29 57] [4,6,20,21,22,27,28,29]
abbrev u17_19:IC:=qB u17_20 u17_27 3 [4,6,20,21,22,27,28,29]
abbrev u17_18:IC:=qC .skip u17_19 (.exit 2) (.t 30) [4,6,20,21,22,27,28,29,30]
abbrev u17_17:IC:=qS [oB 30 29 28 .lss] u17_18 [4,6,20,21,22,27,28,29]
abbrev u17_16:IC:=qJ (.loop u17_17) 2 [4,6,20,21,22,27,28,29]
abbrev u17_15:IC:=qS [oF 26 6 2,oL 27 26,oH 28 27,oI 29 0] u17_16 [4,6,20,21,22]
abbrev u17_14:IC:=qS [oA 24 20 22 4,oD 25 24 4,oW 6 (.agg #[.string ⟨#[]⟩,.int .i64 0,.slice none 0 0,.int .i64 0]),oS 6 25 4] u17_15 [4,20,21,22]
abbrev u17_28:IC:=qE [oK 58 22 .add 1,oM 22 58] [4,20,21,22]
abbrev u17_13:IC:=qB u17_14 u17_28 1 [4,20,21,22]
abbrev u17_12:IC:=qC .skip u17_13 (.exit 0) (.t 23) [4,20,21,22,23]
abbrev u17_11:IC:=qS [oB 23 22 21 .lss] u17_12 [4,20,21,22]
abbrev u17_10:IC:=qJ (.loop u17_11) 0 [4,20,21,22]
abbrev u17_9:IC:=qS [oF 19 1 1,oL 20 19,oH 21 20,oI 22 0] u17_10 [1,4]
abbrev u17_29:IC:=qD [oM 59 4,oN 60 59,oF 61 60 1,oL 62 61,oM 63 4,oN 64 63,oF 65 64 2,oL 66 65,oM 2 62,oM 3 66] .ret [(0,none),(1,none),(2,none),(3,none),(4,none),(5,none),(6,none),(7,none),(8,some [4,5,6,7]),(9,some [])] 10 [4]
abbrev u17_8:IC:=qQ u17_9 u17_29 [1,4]
abbrev u17_7:IC:=qS [oM 16 4,oD 17 1 2,oC 18 42 [.t 16,.t 17]] u17_8 [1,4]
abbrev u17_6:IC:=qS [oD 12 1 2,oC 13 41 [.t 12],oP 14 (.bld #[.map none,.int .i64 0,.int .i64 0] [(0,1),(1,1),(2,1)] [(0,.t 13)]),oX 15 14,oM 4 15] u17_7 [1]
abbrev u17_2:IC:=qQ u17_3 u17_6 [1]
abbrev u17_1:IC:=qS [oX 1 0,oI 2 0,oI 3 0] u17_2 [0]
def u17:IFn:=⟨67,u17_1,[.tmp 2,.tmp 3]⟩
end
theorem isU17:IsFn Tryz.prog 17 u17:=by unfold IsFn;kernel_rfl
section
abbrev u46_2:IC:=qS [oF 4 2 0,oL 5 4,oF 6 1 0,oL 7 6,oB 8 5 7 .eql,oM 9 8,gF 10 2 1 9,gL 11 10 9,gF 12 1 1 9,gL 13 12 9,oG 14 (.bin .eql (.t 11) (.t 13)) 9,oJ 15 9 14,oM 3 15] .ret [1,2]
abbrev u46_1:IC:=qS [oX 2 0,oV 3 (.bool false)] u46_2 [0,1]
def u46:IFn:=⟨16,u46_1,[.tmp 3]⟩
end
theorem isU46:IsFn Tryz.prog 46 u46:=by unfold IsFn;kernel_rfl
section
abbrev u28_5:IC:=qS [oI 4 0,oI 5 0] .ret []
abbrev u28_4:IC:=qK u28_5 .skip (.t 9) [1,2,9]
abbrev u28_3:IC:=qS [oD 7 2 2,oC 8 40 [.t 7],oY 9 8] u28_4 [1,2]
abbrev u28_7:IC:=qD [oF 14 6 0,oL 15 14,oF 16 6 1,oL 17 16,oM 4 15,oM 5 17] .ret [(0,none),(1,none),(2,none),(3,none),(4,some [2,3]),(5,some [])] 6 [6]
abbrev u28_6:IC:=qS [oD 10 2 2,oC 11 41 [.t 10],oM 12 1,⟨some 13,.eff (.lkp .s (.agg #[.int .i64 0,.int .i64 0]) false (.t 11) (.t 12)),none⟩,oW 6 (.agg #[.int .i64 0,.int .i64 0]),oS 6 13 2] u28_7 [1,2]
abbrev u28_2:IC:=qQ u28_3 u28_6 [1,2]
abbrev u28_1:IC:=qS [oX 2 0,oI 4 0,oI 5 0] u28_2 [0,1]
def u28:IFn:=⟨18,u28_1,[.tmp 4,.tmp 5]⟩
end
theorem isU28:IsFn Tryz.prog 28 u28:=by unfold IsFn;kernel_rfl
section
abbrev u91_8:IC:=qE [oF 15 5 3,oL 16 15,oM 17 1,oC 18 91 [.t 16,.t 17]] [1,5,6,7,8]
abbrev u91_7:IC:=qS [oM 12 1,oF 13 5 2,oL 14 13,⟨none,.eff (.mup .s (.t 12) (.t 14) (.k (.bool true))),none⟩] u91_8 [1,5,6,7,8]
abbrev u91_6:IC:=qS [oA 10 6 8 5,oD 11 10 5,oW 5 (.agg #[.int .i64 0,.int .i64 0,.string ⟨#[]⟩,.slice none 0 0,.int .i64 0]),oS 5 11 5] u91_7 [1,6,7,8]
abbrev u91_9:IC:=qE [oK 19 8 .add 1,oM 8 19] [1,6,7,8]
abbrev u91_5:IC:=qB u91_6 u91_9 1 [1,6,7,8]
abbrev u91_4:IC:=qC .skip u91_5 (.exit 0) (.t 9) [1,6,7,8,9]
abbrev u91_3:IC:=qS [oB 9 8 7 .lss] u91_4 [1,6,7,8]
abbrev u91_2:IC:=qJ (.loop u91_3) 0 [1,6,7,8]
abbrev u91_1:IC:=qS [oM 6 0,oH 7 6,oI 8 0] u91_2 [0,1]
def u91:IFn:=⟨20,u91_1,[]⟩
end
theorem isU91:IsFn Tryz.prog 91 u91:=by unfold IsFn;kernel_rfl
section
abbrev u50_10:IC:=qE [oF 23 5 5,oL 24 23,oM 25 1,oC 26 50 [.t 24,.t 25]] [1,5,6,7,8]
abbrev u50_9:IC:=qS [oF 19 5 4,oL 20 19,oM 21 1,oC 22 50 [.t 20,.t 21]] u50_10 [1,5,6,7,8]
abbrev u50_8:IC:=qS [oF 15 5 3,oL 16 15,oM 17 1,oC 18 91 [.t 16,.t 17]] u50_9 [1,5,6,7,8]
abbrev u50_7:IC:=qS [oM 12 1,oF 13 5 1,oL 14 13,⟨none,.eff (.mup .s (.t 12) (.t 14) (.k (.bool true))),none⟩] u50_8 [1,5,6,7,8]
abbrev u50_6:IC:=qS [oA 10 6 8 7,oD 11 10 7,oW 5 (.agg #[.int .i64 0,.string ⟨#[]⟩,.string ⟨#[]⟩,.slice none 0 0,.slice none 0 0,.slice none 0 0,.int .i64 0]),oS 5 11 7] u50_7 [1,6,7,8]
abbrev u50_11:IC:=qE [oK 27 8 .add 1,oM 8 27] [1,6,7,8]
abbrev u50_5:IC:=qB u50_6 u50_11 1 [1,6,7,8]
abbrev u50_4:IC:=qC .skip u50_5 (.exit 0) (.t 9) [1,6,7,8,9]
abbrev u50_3:IC:=qS [oB 9 8 7 .lss] u50_4 [1,6,7,8]
abbrev u50_2:IC:=qJ (.loop u50_3) 0 [1,6,7,8]
abbrev u50_1:IC:=qS [oM 6 0,oH 7 6,oI 8 0] u50_2 [0,1]
def u50:IFn:=⟨28,u50_1,[]⟩
end
theorem isU50:IsFn Tryz.prog 50 u50:=by unfold IsFn;kernel_rfl
section
abbrev u21_5:IC:=qS [oV 2 (.slice none 0 0)] .ret []
abbrev u21_4:IC:=qK u21_5 .skip (.t 13) [1,13]
abbrev u21_3:IC:=qS [oD 11 1 2,oC 12 40 [.t 11],oY 13 12] u21_4 [1]
abbrev u21_21:IC:=qE [oF 32 7 2,oL 33 32,oM 34 3,oC 35 50 [.t 33,.t 34]] [1,3,7,16,17,18,23,24,25]
abbrev u21_20:IC:=qS [oM 29 3,oF 30 7 1,oL 31 30,⟨none,.eff (.mup .s (.t 29) (.t 31) (.k (.bool true))),none⟩] u21_21 [1,3,7,16,17,18,23,24,25]
abbrev u21_19:IC:=qS [oA 27 23 25 4,oD 28 27 4,oW 7 (.agg #[.int .i64 0,.string ⟨#[]⟩,.slice none 0 0,.int .i64 0]),oS 7 28 4] u21_20 [1,3,16,17,18,23,24,25]
abbrev u21_22:IC:=qE [oK 36 25 .add 1,oM 25 36] [1,3,16,17,18,23,24,25]
abbrev u21_18:IC:=qB u21_19 u21_22 3 [1,3,16,17,18,23,24,25]
abbrev u21_17:IC:=qC .skip u21_18 (.exit 2) (.t 26) [1,3,16,17,18,23,24,25,26]
abbrev u21_16:IC:=qS [oB 26 25 24 .lss] u21_17 [1,3,16,17,18,23,24,25]
abbrev u21_15:IC:=qJ (.loop u21_16) 2 [1,3,16,17,18,23,24,25]
abbrev u21_14:IC:=qS [oF 22 5 2,oL 23 22,oH 24 23,oI 25 0] u21_15 [1,3,5,16,17,18]
abbrev u21_13:IC:=qS [oA 20 16 18 4,oD 21 20 4,oW 5 (.agg #[.string ⟨#[]⟩,.int .i64 0,.slice none 0 0,.int .i64 0]),oS 5 21 4] u21_14 [1,3,16,17,18]
abbrev u21_23:IC:=qE [oK 37 18 .add 1,oM 18 37] [1,3,16,17,18]
abbrev u21_12:IC:=qB u21_13 u21_23 1 [1,3,16,17,18]
abbrev u21_11:IC:=qC .skip u21_12 (.exit 0) (.t 19) [1,3,16,17,18,19]
abbrev u21_10:IC:=qS [oB 19 18 17 .lss] u21_11 [1,3,16,17,18]
abbrev u21_9:IC:=qJ (.loop u21_10) 0 [1,3,16,17,18]
abbrev u21_8:IC:=qS [oF 15 1 1,oL 16 15,oH 17 16,oI 18 0] u21_9 [1,3]
abbrev u21_34:IC:=qE [oM 50 8,oF 51 10 1,oL 52 51,⟨some 53,.new (.bsl 1 1 #[.string ⟨#[]⟩] [(0,.t 52)]),none⟩,oT 54 50 53 1 16,oM 8 54] [3,8,10,39,40,41]
abbrev u21_33:IC:=qK u21_34 .skip (.t 49) [3,8,10,39,40,41,49]
abbrev u21_32:IC:=qS [oM 45 3,oF 46 10 1,oL 47 46,⟨some 48,.eff (.lkp .s (.bool false) false (.t 45) (.t 47)),none⟩,oY 49 48] u21_33 [3,8,10,39,40,41]
abbrev u21_31:IC:=qS [oA 43 39 41 4,oD 44 43 4,oW 10 (.agg #[.int .i64 0,.string ⟨#[]⟩,.int .i64 0,.int .i64 0]),oS 10 44 4] u21_32 [3,8,39,40,41]
abbrev u21_35:IC:=qE [oK 55 41 .add 1,oM 41 55] [3,8,39,40,41]
abbrev u21_30:IC:=qB u21_31 u21_35 5 [3,8,39,40,41]
abbrev u21_29:IC:=qC .skip u21_30 (.exit 4) (.t 42) [3,8,39,40,41,42]
abbrev u21_28:IC:=qS [oB 42 41 40 .lss] u21_29 [3,8,39,40,41]
abbrev u21_27:IC:=qJ (.loop u21_28) 4 [3,8,39,40,41]
abbrev u21_26:IC:=qS [oF 38 1 0,oL 39 38,oH 40 39,oI 41 0] u21_27 [1,3,8]
abbrev u21_36:IC:=qS [oM 56 8,oM 2 56] .ret [8]
abbrev u21_25:IC:=qQ u21_26 u21_36 [1,3,8]
abbrev u21_24:IC:=qS [oV 8 (.slice none 0 0)] u21_25 [1,3]
abbrev u21_7:IC:=qQ u21_8 u21_24 [1,3]
abbrev u21_6:IC:=qS [⟨some 14,.eff (.mkm .s),none⟩,oM 3 14] u21_7 [1]
abbrev u21_2:IC:=qQ u21_3 u21_6 [1]
abbrev u21_1:IC:=qS [oX 1 0,oV 2 (.slice none 0 0)] u21_2 [0]
def u21:IFn:=⟨57,u21_1,[.tmp 2]⟩
end
theorem isU21:IsFn Tryz.prog 21 u21:=by unfold IsFn;kernel_rfl
end Go.Proofs.YtnmkkggfgdfmeaaGreatDoor
namespace Go.Pb
variable [Go.Sym.Tab]
open Go.Sym
abbrev Er:=Option (Int × Int)
def cnD (l:List Dc) (k:Int):Nat:=l.countP (fun d=>d.kind == k)
def cnR (r:Ru) (k:Int):Nat:=if k=9 then r.modes.length else cnD r.decls k
def lkD (pre:List Dc):List Dc->List UInt8->Option (Int × Int)
 | [],_=>none
 | d :: l,n=>if d.name=n then some (d.kind,if d.kind<6 then d.value else (cnR ⟨pre,[]⟩ d.kind:Int)) else lkD (pre++[d]) l n
def lkM (i:Nat):List Md->List UInt8->Option (Int × Int)
 | [],_=>none
 | m :: l,n=>if m.name=n then some (9,(i:Int)) else lkM (i+1) l n
def lokR (r:Ru) (n:List UInt8):Int × Int:=match lkD [] r.decls n with
 | some q=>q
 | none=>match lkM 0 r.modes n with
  | some q=>q
  | none=>(0,0)
def dnM (r:Ru) (n:List UInt8) (k:Int):Int:=if k=0\/(lokR r n).1=k then 0 else if (lokR r n).1=0 then 8 else 44
def dnE (r:Ru) (n:List UInt8) (k p:Int):Er:=if dnM r n k=0 then none else some (p,dnM r n k)
def kdE (k:Int):Int:=if k=2 then 6 else if k=5 then 1 else if k=6 then 9 else if k=7 then 7 else 0
def kdS (k:Int):Int:=if k=1 then 6 else if k=5\/k=6\/k=7 then 2 else if k=8\/k=9 then 3 else if k=10\/k=11 then 7 else if k=12\/k=13 then 9 else if k=14 then 8 else if k=15 then 4 else if k=16\/k=17 then 5 else 0
def kdH (k:Int):Int:=if k=3\/k=4 then 1 else if k=5 then 7 else if k=6 then 8 else 0
def mstM (k:Int):Int:=if k=1 then 63 else if k=2 then 31 else if k=3\/k=4\/k=5 then 63 else 2147483647
def bolM (k:Int):Bool:=k == 3 || k == 4 || k == 5 || k == 6 || k == 11 || decide (17<=k)
def typM (k:Int):Int:=if bolM k=true then 2 else 1
def wntM (k:Int) (a:List Ex):Int:=if k=11\/k=23\/k=24 then 2 else if k=21\/k=22 then (match a with
 | []=>1
 | x :: _=>typM x.kind) else 1
mutual
def erE (r:Ru):Ex->Er
 | .mk k v n a p=>((erEs r a).or (dnE r n (kdE k) p)).or (if a.all (fun x=>typM x.kind == wntM k a)=true then none else some (p,49))
def erEs (r:Ru):List Ex->Er
 | []=>none
 | x :: l=>(erE r x).or (erEs r l)
end
def tyV (r:Ru) (e:Ex):DV:=match erE r e with
 | some (p,c)=>.tup [I64 0,I64 p,I64 c]
 | none=>.tup [I64 (typM e.kind),I64 0,I64 0]
def erA (r:Ru) (b:Bool):List Ex->Er
 | []=>none
 | x :: l=>((erE r x).or (if (typM x.kind == 2)=b then none else some (x.pos,49))).or (erA r b l)
mutual
def erS (r:Ru):St->Er
 | .mk k n t a x y p=>(((dnE r n (kdS k) p).or (erA r (k == 2) a)).or (erB r x)).or (erB r y)
def erB (r:Ru):List St->Er
 | []=>none
 | s :: l=>(erS r s).or (erB r l)
end
def erD (pre:List Dc):List Dc->Er
 | []=>none
 | d :: l=>((if d.value>mstM d.kind then some (d.pos,5) else none:Er).or (if (lokR ⟨pre,[]⟩ d.name).1=0 then none else some (d.pos,7))).or (erD (pre++[d]) l)
def erP (D:List Dc) (pre:List Md):List Md->Er
 | []=>none
 | m :: l=>((if m.prio>99 then some (m.pos,5) else none:Er).or (if (lokR ⟨D,pre⟩ m.name).1=0 then none else some (m.pos,7))).or (erP D (pre++[m]) l)
def heaE (r:Ru):Er:=(erD [] r.decls).or (erP r.decls [] r.modes)
def erH (r:Ru) (pre:List Hd):List Hd->Er
 | []=>none
 | h :: l=>(((dnE r h.name (kdH h.trig) h.pos).or (if pre.any (fun x=>x.trig == h.trig && x.name == h.name)=true then some (h.pos,7) else none)).or (erB r h.body)).or (erH r (pre++[h]) l)
def erM (r:Ru):List Md->Er
 | []=>none
 | m :: l=>(erH r [] m.hds).or (erM r l)
def chkE (r:Ru):Er:=(heaE r).or (erM r r.modes)
def erV:Er->DV
 | some (p,c)=>.tup [I64 p,I64 c]
 | none=>.tup [I64 0,I64 0]
def chkV (r:Ru):DV:=if vldM r=true then erV (chkE r) else .tup [I64 0,I64 1]
mutual
def inE (n:List UInt8):Ex->Bool
 | .mk k v m a p=>(kdE k != 0 && m == n) || inEs n a
def inEs (n:List UInt8):List Ex->Bool
 | []=>false
 | x :: l=>inE n x || inEs n l
end
mutual
def inS (n:List UInt8):St->Bool
 | .mk k m t a x y p=>((m == n || inEs n a) || inB n x) || inB n y
def inB (n:List UInt8):List St->Bool
 | []=>false
 | s :: l=>inS n s || inB n l
end
def usdM (r:Ru) (n:List UInt8):Bool:=r.modes.any fun m=>m.hds.any fun h=>h.name == n || inB n h.body
def unuM (r:Ru):List (List UInt8):=(r.decls.filter fun d => !usdM r d.name).map Dc.name
theorem erV_nl (e:Er):(erV e).nl=true:=by cases e<;>rfl
theorem tyV_nl (r:Ru) (e:Ex):(tyV r e).nl=true:=by unfold tyV;split<;>rfl
theorem lkD_drop {D:List Dc} {i:Nat} {d:Dc} {n:List UInt8} (h:D[i]? = some d):lkD (D.take i) (D.drop i) n=if d.name=n then some (d.kind,if d.kind<6 then d.value else (cnR ⟨D.take i,[]⟩ d.kind:Int)) else lkD (D.take (i+1)) (D.drop (i+1)) n:=by
 have hlt:=(List.getElem?_eq_some_iff.1 h).1
 rw [List.drop_eq_getElem_cons hlt,(List.getElem?_eq_some_iff.1 h).2,lkD,List.take_add_one,h]
 rfl
theorem lkM_drop {M:List Md} {i:Nat} {m:Md} {n:List UInt8} (h:M[i]? = some m):lkM i (M.drop i) n=if m.name=n then some (9,(i:Int)) else lkM (i+1) (M.drop (i+1)) n:=by
 have hlt:=(List.getElem?_eq_some_iff.1 h).1
 rw [List.drop_eq_getElem_cons hlt,(List.getElem?_eq_some_iff.1 h).2,lkM]
theorem erEs_drop {r:Ru} {l:List Ex} {i:Nat} {x:Ex} (h:l[i]? = some x):erEs r (l.drop i)=(erE r x).or (erEs r (l.drop (i+1))):=by
 have hlt:=(List.getElem?_eq_some_iff.1 h).1
 rw [List.drop_eq_getElem_cons hlt,(List.getElem?_eq_some_iff.1 h).2,erEs]
theorem erA_drop {r:Ru} {b:Bool} {l:List Ex} {i:Nat} {x:Ex} (h:l[i]? = some x):erA r b (l.drop i)=((erE r x).or (if (typM x.kind == 2)=b then none else some (x.pos,49))).or (erA r b (l.drop (i+1))):=by
 have hlt:=(List.getElem?_eq_some_iff.1 h).1
 rw [List.drop_eq_getElem_cons hlt,(List.getElem?_eq_some_iff.1 h).2,erA]
theorem erB_drop {r:Ru} {l:List St} {i:Nat} {x:St} (h:l[i]? = some x):erB r (l.drop i)=(erS r x).or (erB r (l.drop (i+1))):=by
 have hlt:=(List.getElem?_eq_some_iff.1 h).1
 rw [List.drop_eq_getElem_cons hlt,(List.getElem?_eq_some_iff.1 h).2,erB]
theorem erM_drop {r:Ru} {l:List Md} {i:Nat} {x:Md} (h:l[i]? = some x):erM r (l.drop i)=(erH r [] x.hds).or (erM r (l.drop (i+1))):=by
 have hlt:=(List.getElem?_eq_some_iff.1 h).1
 rw [List.drop_eq_getElem_cons hlt,(List.getElem?_eq_some_iff.1 h).2,erM]
theorem take_snoc {α : Type} {l:List α} {i:Nat} {x : α} (h:l[i]? = some x):l.take i++[x]=l.take (i+1):=by
 rw [List.take_add_one,h];rfl
theorem erD_drop {D:List Dc} {i:Nat} {d:Dc} (h:D[i]? = some d):erD (D.take i) (D.drop i)=((if d.value>mstM d.kind then some (d.pos,5) else none:Er).or (if (lokR ⟨D.take i,[]⟩ d.name).1=0 then none else some (d.pos,7))).or (erD (D.take (i+1)) (D.drop (i+1))):=by
 have hlt:=(List.getElem?_eq_some_iff.1 h).1
 rw [List.drop_eq_getElem_cons hlt,(List.getElem?_eq_some_iff.1 h).2,erD,take_snoc h]
theorem erP_drop {D:List Dc} {M:List Md} {i:Nat} {m:Md} (h:M[i]? = some m):erP D (M.take i) (M.drop i)=((if m.prio>99 then some (m.pos,5) else none:Er).or (if (lokR ⟨D,M.take i⟩ m.name).1=0 then none else some (m.pos,7))).or (erP D (M.take (i+1)) (M.drop (i+1))):=by
 have hlt:=(List.getElem?_eq_some_iff.1 h).1
 rw [List.drop_eq_getElem_cons hlt,(List.getElem?_eq_some_iff.1 h).2,erP,take_snoc h]
theorem erH_drop {r:Ru} {l:List Hd} {i:Nat} {h:Hd} (hg:l[i]? = some h):erH r (l.take i) (l.drop i)=(((dnE r h.name (kdH h.trig) h.pos).or (if (l.take i).any (fun x=>x.trig == h.trig && x.name == h.name)=true then some (h.pos,7) else none)).or (erB r h.body)).or (erH r (l.take (i+1)) (l.drop (i+1))):=by
 have hlt:=(List.getElem?_eq_some_iff.1 hg).1
 rw [List.drop_eq_getElem_cons hlt,(List.getElem?_eq_some_iff.1 hg).2,erH,take_snoc hg]
def NzE (e:Er):Prop:=∀ p c,e=some (p,c)->c≠0
theorem NzE.or {a b:Er} (ha:NzE a) (hb:NzE b):NzE (a.or b):=by
 intro p c h
 cases a with
 | none=>exact hb p c (by simpa using h)
 | some q=>exact ha p c (by simpa using h)
theorem nz_none:NzE none:=fun p c h=>by cases h
theorem nz_if {b:Prop} [Decidable b] {p c:Int} (h:c≠0):NzE (if b then none else some (p,c)):=by
 intro p' c' e;split at e
 ·cases e
 ·cases e;exact h
theorem nz_if2 {b:Prop} [Decidable b] {p c:Int} (h:c≠0):NzE (if b then some (p,c) else none):=by
 intro p' c' e;split at e
 ·cases e;exact h
 ·cases e
theorem nz_dn (r:Ru) (n:List UInt8) (k p:Int):NzE (dnE r n k p):=by
 intro p' c h;unfold dnE at h;split at h
 ·cases h
 ·cases h;assumption
mutual
theorem nz_E (r:Ru):∀ e:Ex,NzE (erE r e)
 | .mk k v n a p=>by rw [erE];exact ((nz_Es r a).or (nz_dn _ _ _ _)).or (nz_if (by decide))
theorem nz_Es (r:Ru):∀ l:List Ex,NzE (erEs r l)
 | []=>by rw [erEs];exact nz_none
 | x :: l=>by rw [erEs];exact (nz_E r x).or (nz_Es r l)
end
theorem nz_A (r:Ru) (b:Bool):∀ l:List Ex,NzE (erA r b l)
 | []=>by rw [erA];exact nz_none
 | x :: l=>by rw [erA];exact ((nz_E r x).or (nz_if (by decide))).or (nz_A r b l)
mutual
theorem nz_S (r:Ru):∀ e:St,NzE (erS r e)
 | .mk k n t a x y p=>by rw [erS];exact (((nz_dn _ _ _ _).or (nz_A _ _ _)).or (nz_B r x)).or (nz_B r y)
theorem nz_B (r:Ru):∀ l:List St,NzE (erB r l)
 | []=>by rw [erB];exact nz_none
 | x :: l=>by rw [erB];exact (nz_S r x).or (nz_B r l)
end
theorem nz_D:∀ (l pre:List Dc),NzE (erD pre l)
 | [],pre=>by rw [erD];exact nz_none
 | d :: l,pre=>by rw [erD];exact ((nz_if2 (by decide)).or (nz_if (by decide))).or (nz_D l _)
theorem nz_P (D:List Dc):∀ (l pre:List Md),NzE (erP D pre l)
 | [],pre=>by rw [erP];exact nz_none
 | d :: l,pre=>by rw [erP];exact ((nz_if2 (by decide)).or (nz_if (by decide))).or (nz_P D l _)
theorem nz_hea (r:Ru):NzE (heaE r):=(nz_D _ _).or (nz_P _ _ _)
theorem nz_H (r:Ru):∀ (l pre:List Hd),NzE (erH r pre l)
 | [],pre=>by rw [erH];exact nz_none
 | d :: l,pre=>by rw [erH];exact (((nz_dn _ _ _ _).or (nz_if2 (by decide))).or (nz_B r _)).or (nz_H r l _)
theorem nz_M (r:Ru):∀ (l:List Md),NzE (erM r l)
 | []=>by rw [erM];exact nz_none
 | d :: l=>by rw [erM];exact (nz_H r _ _).or (nz_M r l)
theorem msL_mem {k:Int}:∀ {i:Nat} {l:List Ex} {q:Nat × Nat},msL k i l=some q->∀ x∈l, ∃ q,msM x=some q
 | i,[],q,h,x,hx=>by cases hx
 | i,e :: l,q,h,x,hx=>by
  rw [msL] at h
  cases he:msM e with
  | none=>rw [he] at h;cases h
  | some q1 =>
   rw [he] at h
   dsimp only at h
   cases hl:msL k (i+1) l with
   | none=>rw [hl] at h;cases h
   | some q2 =>
    rcases List.mem_cons.1 hx with rfl|hx
    ·exact ⟨_,he⟩
    ·exact msL_mem hl x hx
theorem ms_args {e:Ex} {q:Nat × Nat} (h:msM e=some q):∀ x∈e.args, ∃ q,msM x=some q:=by
 cases e with|mk k v n a p =>
 obtain ⟨o,d⟩:=q
 obtain ⟨m1,m2,m3,m4,m5,m6⟩:=ms_inv h
 intro x hx
 by_cases hc:cntM k=0
 ·have:a=[]:=List.eq_nil_of_length_eq_zero (by omega)
  subst this;cases hx
 ·obtain ⟨d',h1, -⟩:=m6 hc
  exact msL_mem h1 x hx
theorem ms_two {e:Ex} {q:Nat × Nat} (h:msM e=some q) (hk:e.kind=21\/e.kind=22):e.args.length=2:=by
 cases e with|mk k v n a p =>
 obtain ⟨o,d⟩:=q
 obtain ⟨m1,m2,m3,m4,m5,m6⟩:=ms_inv h
 show a.length=2
 rw [m2]
 rcases hk with hk|hk
 all_goals (have hk:k=_:=hk;subst hk;decide)
theorem erS_e (r:Ru) (s:St):erS r s=(((dnE r s.name (kdS s.kind) s.pos).or (erA r (s.kind == 2) s.args)).or (erB r s.thn)).or (erB r s.els):=by
 cases s with|mk k n t a x y p=>rw [erS];rfl
theorem vlSts_mem {d:Nat}:∀ {l:List St},vlSts d l=true->∀ s∈l,vlSt d s=true
 | s0 :: l,h,s,hs=>by
  rw [vlSts,Bool.and_eq_true] at h
  rcases List.mem_cons.1 hs with rfl|hs
  ·exact h.1
  ·exact vlSts_mem h.2 s hs
theorem vlSt_parts {d:Nat} {s:St} (h:vlSt d s=true):(∀ x∈s.args, ∃ q,msM x=some q)/\vlSts (d+1) s.thn=true/\vlSts (d+1) s.els=true:=by
 cases s with|mk k n t a x y p =>
 rw [vlSt] at h
 simp only [Bool.and_eq_true] at h
 refine ⟨fun e he=>?_,h.2.1.2,h.2.2.2⟩
 have h1:=List.all_eq_true.1 h.1.1.1.2.2 e he
 unfold vlEx at h1
 cases hm:msM e with
 | none=>rw [hm] at h1;cases h1
 | some q=>exact ⟨q,rfl⟩
theorem vld_body {r:Ru} (h:vldM r=true):∀ m∈r.modes, ∀ x∈m.hds,vlSts 1 x.body=true:=by
 intro m hm x hx
 unfold vldM at h
 simp only [Bool.and_eq_true] at h
 have h1:=List.all_eq_true.1 h.2 m hm
 unfold vlMd at h1
 simp only [Bool.and_eq_true] at h1
 have h2:=List.all_eq_true.1 h1.2 x hx
 unfold vlHd at h2
 simp only [Bool.and_eq_true] at h2
 have h3:=h2.2
 unfold vlBl at h3
 simp only [Bool.and_eq_true] at h3
 exact h3.2
theorem sz_md {r:Ru} {m:Md} (h:m∈r.modes):m.sz<=r.sz:=by
 have:m.sz<=(r.modes.map Md.sz).sum:=sum_mem h
 show _<=(r.decls.map Dc.sz).sum+(r.modes.map Md.sz).sum
 omega
theorem sz_hd {m:Md} {x:Hd} (h:x∈m.hds):x.sz<=m.sz:=by
 have:x.sz<=(m.hds.map Hd.sz).sum:=sum_mem h
 show _<=1+m.name.length+(m.hds.map Hd.sz).sum
 omega
theorem sz_dl (r:Ru):r.decls.length<=r.sz:=by
 have:r.decls.length<=(r.decls.map Dc.sz).sum:=sum_len fun x _=>by show 1<=1+_;omega
 show _<=(r.decls.map Dc.sz).sum+(r.modes.map Md.sz).sum
 omega
theorem sz_ml (r:Ru):r.modes.length<=r.sz:=by
 have:r.modes.length<=(r.modes.map Md.sz).sum:=sum_len fun x _=>by show 1<=1+_+_;omega
 show _<=(r.decls.map Dc.sz).sum+(r.modes.map Md.sz).sum
 omega
theorem sz_hl (m:Md):m.hds.length<=m.sz:=by
 have:m.hds.length<=(m.hds.map Hd.sz).sum:=sum_len fun x _=>by show 1<=1+_+_;omega
 show _<=1+m.name.length+(m.hds.map Hd.sz).sum
 omega
theorem any_take' {α : Type} (p : α -> Bool) (l:List α) (k:Nat) (x : α) (hx:l[k]? = some x):(l.take (k+1)).any p=((l.take k).any p || p x):=by
 rw [List.take_add_one,hx,List.any_append];simp
end Go.Pb
set_option maxHeartbeats 8000000
namespace Go.Proofs.YtnmkkggfgdfmeaaGreatDoor
open Go.Eng (IC IOper DReg IFn IsFn)
open Go.Sym Go.Pb
theorem c_expKR (k:Int):PC Tryz.prog 102 [I64 k] (I64 (kdE k)):=by
 refine PC.of mixedU isU102 (Nat.le_of_ble_eq_true rfl) (by simp [DV.nlL,DV.nl]) (by simp [DV.nlL,DV.nl]) ?_
 show IW Tryz.prog 12 u102_1 ⟨argT _,_,_⟩ (rt [.tmp 2] _)
 repeat' ((with_reducible first|refine wr ?_|refine wb2 ?_ ?_<;>(intro hb;try simp only [hb])|fail)<;>try simp only [go_sem,seval])
 all_goals (refine pc_ret (congrArg I64 ?_);simp_all [kdE])
theorem c_stmKR (k:Int):PC Tryz.prog 106 [I64 k] (I64 (kdS k)):=by
 refine PC.of mixedU isU106 (Nat.le_of_ble_eq_true rfl) (by simp [DV.nlL,DV.nl]) (by simp [DV.nlL,DV.nl]) ?_
 show IW Tryz.prog 26 u106_1 ⟨argT _,_,_⟩ (rt [.tmp 2] _)
 repeat' ((with_reducible first|refine wr ?_|refine wb2 ?_ ?_<;>(intro hb;try simp only [hb])|fail)<;>try simp only [go_sem,seval])
 all_goals (refine pc_ret (congrArg I64 ?_);simp_all [kdS])
theorem c_trgKR (k:Int):PC Tryz.prog 67 [I64 k] (I64 (kdH k)):=by
 refine PC.of mixedU isU67 (Nat.le_of_ble_eq_true rfl) (by simp [DV.nlL,DV.nl]) (by simp [DV.nlL,DV.nl]) ?_
 show IW Tryz.prog 11 u67_1 ⟨argT _,_,_⟩ (rt [.tmp 2] _)
 repeat' ((with_reducible first|refine wr ?_|refine wb2 ?_ ?_<;>(intro hb;try simp only [hb])|fail)<;>try simp only [go_sem,seval])
 all_goals (refine pc_ret (congrArg I64 ?_);simp_all [kdH])
theorem c_mostR (k:Int):PC Tryz.prog 105 [I64 k] (I64 (mstM k)):=by
 refine PC.of mixedU isU105 (Nat.le_of_ble_eq_true rfl) (by simp [DV.nlL,DV.nl]) (by simp [DV.nlL,DV.nl]) ?_
 show IW Tryz.prog 12 u105_1 ⟨argT _,_,_⟩ (rt [.tmp 2] _)
 repeat' ((with_reducible first|refine wr ?_|refine wb2 ?_ ?_<;>(intro hb;try simp only [hb])|fail)<;>try simp only [go_sem,seval])
 all_goals (refine pc_ret (congrArg I64 ?_);simp_all [mstM])
theorem c_boolR (k:Int):PC Tryz.prog 103 [I64 k] (.bool (bolM k)):=by
 refine PC.of mixedU isU103 (Nat.le_of_ble_eq_true rfl) (by simp [DV.nlL,DV.nl]) (by simp [DV.nlL,DV.nl]) ?_
 show IW Tryz.prog 25 u103_1 ⟨argT _,_,_⟩ (rt [.tmp 2] _)
 repeat' ((with_reducible first|refine wr ?_|refine wb2 ?_ ?_<;>(intro hb;try simp only [hb])|fail)<;>try simp only [go_sem,seval])
 all_goals (refine pc_ret (congrArg DV.bool ?_);simp_all [bolM])
theorem dc_w (d:Dc):d.v=.agg [I64 d.kind,.str d.name,I64 d.value,I64 d.pos]:=rfl
theorem md_w (d:Md):d.v=.agg [.str d.name,I64 d.prio,hdsV d.hds,I64 d.pos]:=rfl
theorem c_cntR (r:Ru) (k:Int) (h1:r.decls.length<=1000000000) (h2:r.modes.length<=1000000000):PC Tryz.prog 63 [r.v,I64 k] (I64 (cnR r k)):=by
 refine PC.of mixedU isU63 (Nat.le_of_ble_eq_true rfl) (by simp [Ru.v,DV.nlL,DV.nl,nlL_dcs,nlL_mds]) rfl ?_
 obtain ⟨D,M⟩:=r
 dsimp only [Ru.v] at h1 h2 ⊢
 show IW Tryz.prog 30 u63_1 ⟨argT _,_,_⟩ (rt [.tmp 4] _)
 by_cases k9:k=9
 ·subst k9
  repeat' ((with_reducible first|refine wr ?_|fail)<;>try simp only [go_sem,seval,List.length_map])
  exact pc_ret rfl
 have q9:(k == 9)=false:=by simpa using k9
 have er:cnR ⟨D,M⟩ k=cnD D k:=by rw [cnR,if_neg k9]
 rw [er]
 repeat' ((with_reducible first|refine wr ?_|fail)<;>try simp only [go_sem,seval,q9])
 refine i_loop (fun i:Nat=>[(1,I64 k),(2,.ptr 0 0),(5,I64 (cnD (D.take i) k)),(6,I64 i)]) (fun _=>Sym.nil.upd 0 ⟨0,true,[dcsV D,mdsV M]⟩) (fun i c=>i<=D.length) (fun i=>D.length-i) 0 (by simp [tmLe,tm,Tm.upd,cnD]) (Sub.refl _) (Nat.zero_le _) ?_
 rintro i c hk
 by_cases hlt:i<D.length
 ·have hd:decide ((i:Int)<D.length)=true:=by simpa using hlt
  have hg:=List.getElem?_eq_getElem hlt
  have hw:=w64 (n:=(i:Int)+1) (by omega) (by omega)
  have e0:cnD (D.take (i+1)) k=cnD (D.take i) k+(if D[i].kind == k then 1 else 0):=by
   unfold cnD;rw [List.take_add_one,hg,List.countP_append];simp [List.countP_cons]
  have hle:cnD (D.take i) k<=D.length:=by
   refine Nat.le_trans List.countP_le_length ?_
   rw [List.length_take];omega
  have hw2:=w64 (n:=(cnD (D.take i) k:Int)+1) (by omega) (by omega)
  generalize D[i]=d at hg e0
  repeat' ((with_reducible first|refine wr ?_|refine wb2 ?_ ?_<;>(intro hb;try simp only [hb])|fail)<;>try simp only [go_sem,seval,hd,hg,hw,hw2,dc_w,List.length_map])
  all_goals (refine ⟨i+1,?_,Sub.refl _,inv (by omega),by omega⟩;simp_all)
 have hd:decide ((i:Int)<D.length)=false:=by simpa using hlt
 repeat' ((with_reducible first|refine wr ?_|fail)<;>try simp only [go_sem,seval,hd,List.length_map])
 rw [List.take_of_length_le (by omega)]
 exact pc_ret rfl
theorem v_ruN {ρ : Ren} {v:Value} {a:DV} (h:VRel ρ (.agg [a,.snil]) v):VRel ρ (.agg [a,.lst []]) v:=by
 obtain ⟨b,rfl,k1,k2⟩:=h.agg_inv
 refine .agg _ _ k1 fun i x y hx hy=>?_
 match i with
 | 0=>exact k2 0 _ y hx hy
 | 1=>cases hx;exact (k2 1 _ y rfl hy).snil_lst
 | i+2=>simp at hx
theorem pc_ruN {f:Nat} {a x r:DV} (h:PC Tryz.prog f [.agg [a,.lst []],x] r):PC Tryz.prog f [.agg [a,.snil],x] r:=by
 have hn:DV.nlL [.agg [a,.snil],x]=true:=by have:=h.na;simpa [DV.nlL,DV.nl] using this
 have g:GL Sym.nil [.agg [a,.snil],x] Sym.nil [.agg [a,.lst []],x]:=GL.view fun ρ vs hA=>⟨hA.1,fun i d v hd hv=>by
  match i with
  | 0=>cases hd;exact v_ruN (hA.2 0 _ v rfl hv)
  | 1=>exact hA.2 1 _ v hd hv
  | i+2=>simp at hd⟩
 exact ⟨hn,h.nr,AC.ghost g h.ac⟩
theorem r_slcl {xs:List DV} {h sz:Nat} (hh:h<=xs.length) (hu:∀ x∈xs,x.cells.length=sz) (H:Hp):slcR H sz (.lst xs) none (some (I64 (h:Int)))=some (.lst (xs.take h)):=by
 have e:unit sz xs=true:=List.all_eq_true.2 fun x hx=>by simpa using hu x hx
 simp only [slcR,boundOf,Int.natCast_nonneg,if_true,Int.toNat_natCast,hh,Nat.zero_le,and_self,e,Nat.sub_zero,List.drop_zero]
theorem sub_upd2' {b1 b2:Blk} {cc:Nat} (h:1<=cc):Sym.Sub (Sym.nil.upd 0 b1) ((Sym.nil.upd 0 b1).upd cc b2):=by
 intro j b hj
 simp only [Hp.upd,Sym.nil] at hj ⊢
 split at hj
 ·rename_i h0
  rw [if_neg (by omega),if_pos h0]
  exact hj
 ·cases hj
theorem c_lkR (r:Ru) (n:List UInt8) (h1:r.decls.length<=1000000000) (h2:r.modes.length<=1000000000):PC Tryz.prog 62 [r.v,.str n] (.tup [I64 (lokR r n).1,I64 (lokR r n).2]):=by
 refine PC.of mixedU isU62 (Nat.le_of_ble_eq_true rfl) (by simp [Ru.v,DV.nlL,DV.nl,nlL_dcs,nlL_mds]) rfl ?_
 obtain ⟨D,M⟩:=r
 dsimp only at h1 h2
 obtain ⟨R,hR⟩:∃ R:DV,R=.tup [I64 (lokR ⟨D,M⟩ n).1,I64 (lokR ⟨D,M⟩ n).2]:=⟨_,rfl⟩
 rw [<- hR]
 unfold lokR at hR
 dsimp only [Ru.v] at hR ⊢
 show IW Tryz.prog 58 u62_1 ⟨argT _,_,_⟩ (rt [.tmp 4,.tmp 5] _)
 repeat' ((with_reducible first|refine wr ?_|fail)<;>try simp only [go_sem,seval])
 refine i_loop (fun i:Nat=>[(1,.str n),(2,.ptr 0 0),(6,I64 i)]) (fun _=>Sym.nil.upd 0 ⟨0,true,[dcsV D,mdsV M]⟩) (fun i c=>1<=c/\i<=D.length/\lkD [] D n=lkD (D.take i) (D.drop i) n) (fun i=>D.length-i) 0 (by simp [tmLe,tm,Tm.upd]) (Sub.refl _) ⟨Nat.le_refl _,Nat.zero_le _,rfl⟩ ?_
 rintro i c ⟨h1c,hk,he⟩
 by_cases hlt:i<D.length
 ·have hd:decide ((i:Int)<D.length)=true:=by simpa using hlt
  have hg:=List.getElem?_eq_getElem hlt
  have hw:=w64 (n:=(i:Int)+1) (by omega) (by omega)
  rw [lkD_drop hg] at he
  have hcn:=pc_ruN (c_cntR ⟨D.take i,[]⟩ D[i].kind (by rw [List.length_take];omega) (Nat.zero_le _))
  generalize D[i]=d at hg he hcn
  have ne0:=nes2 0 c (by omega)
  have hsl:=fun H=>r_slcl (xs:=D.map Dc.v) (h:=i) (sz:=4) (by rw [List.length_map];omega) (dc_unit _) H
  rw [<- List.map_take] at hsl
  by_cases hn:d.name=n
  ·have q0:(d.name == n)=true:=by simp [hn]
   rw [if_pos hn] at he
   rw [he] at hR
   by_cases h6:d.kind<6
   ·have q6:decide (d.kind<6)=true:=by simpa using h6
    rw [if_pos h6] at hR
    repeat' ((with_reducible first|refine wr ?_|fail)<;>try simp only [go_sem,seval,hd,hg,hw,q0,q6,dc_w,List.length_map,ne0,h_same,h_upd2])
    refine ⟨by and_intros<;>(repeat rw [h_ne (by omega)])<;>rfl,?_⟩
    repeat' ((with_reducible first|refine wr ?_|fail)<;>try simp only [go_sem,seval,ne0,h_same,h_upd2])
    exact pc_ret hR.symm
   ·have q6:decide (d.kind<6)=false:=by simpa using h6
    rw [if_neg h6] at hR
    repeat' ((with_reducible first|refine wr ?_|refine cpc hcn ?_|fail)<;>try simp only [go_sem,seval,hd,hg,hw,q0,q6,dc_w,List.length_map,ne0,h_same,h_upd2,hsl])
    refine ⟨by and_intros<;>(repeat rw [h_ne (by omega)])<;>rfl,?_⟩
    repeat' ((with_reducible first|refine wr ?_|refine cpc hcn ?_|fail)<;>try simp only [go_sem,seval,ne0,h_same,h_upd2])
    exact pc_ret hR.symm
  ·have q0:(d.name == n)=false:=by simp [hn]
   rw [if_neg hn] at he
   repeat' ((with_reducible first|refine wr ?_|fail)<;>try simp only [go_sem,seval,hd,hg,hw,q0,dc_w,List.length_map,ne0,h_same,h_upd2])
   exact ⟨i+1,by simp,sub_upd2' h1c,inv ⟨by omega,by omega,he⟩,by omega⟩
 have hd:decide ((i:Int)<D.length)=false:=by simpa using hlt
 rw [List.drop_of_length_le (by omega),lkD] at he
 rw [he] at hR
 repeat' ((with_reducible first|refine wr ?_|fail)<;>try simp only [go_sem,seval,hd,List.length_map])
 clear he hd hlt hk i
 refine i_loop (fun i:Nat=>[(1,.str n),(2,.ptr 0 0),(8,I64 i)]) (fun _=>Sym.nil.upd 0 ⟨0,true,[dcsV D,mdsV M]⟩) (fun i c=>i<=M.length/\lkM 0 M n=lkM i (M.drop i) n) (fun i=>M.length-i) 0 (by simp [tmLe,tm,Tm.upd]) (Sub.refl _) ⟨Nat.zero_le _,rfl⟩ ?_
 rintro i c ⟨hk,he⟩
 by_cases hlt:i<M.length
 ·have hd:decide ((i:Int)<M.length)=true:=by simpa using hlt
  have hg:=List.getElem?_eq_getElem hlt
  have hw:=w64 (n:=(i:Int)+1) (by omega) (by omega)
  rw [lkM_drop hg] at he
  generalize M[i]=d at hg he
  by_cases hn:d.name=n
  ·have q0:(d.name == n)=true:=by simp [hn]
   rw [if_pos hn] at he
   rw [he] at hR
   repeat' ((with_reducible first|refine wr ?_|fail)<;>try simp only [go_sem,seval,hd,hg,hw,q0,md_w,List.length_map])
   exact pc_ret hR.symm
  ·have q0:(d.name == n)=false:=by simp [hn]
   rw [if_neg hn] at he
   repeat' ((with_reducible first|refine wr ?_|fail)<;>try simp only [go_sem,seval,hd,hg,hw,q0,md_w,List.length_map])
   exact ⟨i+1,by simp,Sub.refl _,inv ⟨by omega,he⟩,by omega⟩
 have hd:decide ((i:Int)<M.length)=false:=by simpa using hlt
 rw [List.drop_of_length_le (by omega),lkM] at he
 rw [he] at hR
 repeat' ((with_reducible first|refine wr ?_|fail)<;>try simp only [go_sem,seval,hd,List.length_map])
 exact pc_ret hR.symm
theorem c_dnR (r:Ru) (n:List UInt8) (k:Int) (h1:r.decls.length<=1000000000) (h2:r.modes.length<=1000000000):PC Tryz.prog 66 [r.v,.str n,I64 k] (I64 (dnM r n k)):=by
 refine PC.of mixedU isU66 (Nat.le_of_ble_eq_true rfl) (by simp [Ru.v,DV.nlL,DV.nl,nlL_dcs,nlL_mds]) rfl ?_
 have hl:=c_lkR r n h1 h2
 dsimp only [Ru.v] at hl ⊢
 unfold dnM
 generalize lokR r n=q at hl ⊢
 obtain ⟨a,b⟩:=q
 dsimp only at hl ⊢
 show IW Tryz.prog 26 u66_1 ⟨argT _,_,_⟩ (rt [.tmp 6] _)
 repeat' ((with_reducible first|refine wr ?_|refine cpc hl ?_|refine wb2 ?_ ?_<;>(intro hb;try simp only [hb])|fail)<;>try simp only [go_sem,seval])
 all_goals (refine pc_ret (congrArg I64 ?_);simp_all)
theorem sub_todo {H0 HH:Hp} {o:Option Nat} {x id:Nat} {b1 bx b b':Blk} (hHH:optH H0 o b1=HH) (hn:∀ j,2<=j->H0 j=none) (ho:∀ i,o=some i->2<=i) (hx:2<=x) (h:b=b') :
  Sym.Sub (optH H0 (some id) b) ((delO (HH.upd x bx) o).upd id b'):=by
 subst h
 intro j q hj
 simp only [optH] at hj
 by_cases e:j=id
 ·subst e;rw [h_same] at hj ⊢;exact hj
 ·rw [h_ne e] at hj ⊢
  have hj2:j<2:=Nat.lt_of_not_le fun h2=>by rw [hn j h2] at hj;cases hj
  have hHj:HH j=some q:=by rw [<- hHH,optH_ne (fun i hi=>by have:=ho i hi;omega)];exact hj
  cases o with
  | none=>simp only [delO];rw [h_ne (by omega)];exact hHj
  | some i =>
   have:=ho i rfl
   simp only [delO,Hp.del]
   rw [if_neg (by omega),h_ne (by omega)];exact hHj
theorem c_tyR (r:Ru) (h1:r.decls.length<=1000000000) (h2:r.modes.length<=1000000000):∀ (m:Nat) (e:Ex),e.sz<m->e.sz<=100000000->(∃ q,msM e=some q)->PC Tryz.prog 61 [r.v,e.v] (tyV r e):=by
 intro m
 induction m with
 | zero=>intro e h;omega
 | succ m ih =>
 intro e hm hB ⟨q0,hq0⟩
 have hal:Ex.szs e.args<e.sz:=by cases e with|mk k v n a p=>rw [Ex.sz];show Ex.szs a<_;omega
 have hargs:∀ x∈e.args,x.sz<=Ex.szs e.args:=fun x hx=>Ex.szs_mem hx
 have hll:=Ex.szs_len e.args
 have hms:=ms_args hq0
 have h22:=ms_two hq0
 refine PC.of mixedU isU61 (Nat.le_of_ble_eq_true rfl) (by simp [Ru.v,DV.nlL,DV.nl,nlL_dcs,nlL_mds,Ex.nl]) (tyV_nl _ _) ?_
 rw [Ex.v_w]
 obtain ⟨R,hR⟩:∃ R,R=tyV r e:=⟨_,rfl⟩
 rw [<- hR]
 cases e with|mk k v n a p =>
 unfold tyV at hR
 rw [erE] at hR
 have hR:R=(match ((erEs r a).or (dnE r n (kdE k) p)).or (if a.all (fun x=>typM x.kind == wntM k a)=true then none else some (p,49)) with
  | some (p,c)=>.tup [I64 0,I64 p,I64 c]
  | none=>.tup [I64 (typM k),I64 0,I64 0]):=hR
 dsimp only [Ex.w,Ex.kind,Ex.value,Ex.name,Ex.args,Ex.pos] at hal hargs hll hms h22 ⊢
 have hk1:=c_expKR k
 have hdn:=c_dnR r n (kdE k) h1 h2
 have hbo:=c_boolR k
 have ih:∀ x∈a,PC Tryz.prog 61 [r.v,x.v] (tyV r x):=fun x hx=>ih x (by have:=hargs x hx;omega) (by have:=hargs x hx;omega) (hms x hx)
 obtain ⟨D,M⟩:=r
 dsimp only [Ru.v] at hdn ih ⊢
 show IW Tryz.prog 94 u61_1 ⟨argT _,_,_⟩ (rt [.tmp 4,.tmp 5,.tmp 6] _)
 repeat' ((with_reducible first|refine wr ?_|fail)<;>try simp only [go_sem,seval])
 obtain ⟨H0,hH0⟩:∃ H0,H0=(Sym.nil.upd 0 ⟨0,true,[dcsV D,mdsV M]⟩).upd 1 ⟨0,true,[I64 k,I64 v,.str n,exsV a,I64 p]⟩:=⟨_,rfl⟩
 have hz0:H0 0=some ⟨0,true,[dcsV D,mdsV M]⟩:=by rw [hH0];rfl
 have hz1:H0 1=some ⟨0,true,[I64 k,I64 v,.str n,exsV a,I64 p]⟩:=by rw [hH0];rfl
 have hzn:∀ j,2<=j->H0 j=none:=fun j hj=>by rw [hH0,h_ne (by omega),h_ne (by omega)];rfl
 rw [<- hH0]
 clear hH0
 obtain ⟨T,hT⟩:∃ T:List DV,T=a.map (fun x=>I64 (typM x.kind)):=⟨_,rfl⟩
 have hTl:T.length=a.length:=by rw [hT,List.length_map]
 have hTg:∀ (i:Nat) (x:Ex),a[i]? = some x->T[i]? = some (I64 (typM x.kind)):=fun i x h=>by rw [hT,List.getElem?_map,h];rfl
 refine i_loop (fun q:Nat × Option Nat=>[(2,.ptr 0 0),(3,.ptr 1 0),(7,todoV q.2 q.1),(8,I64 q.1)]) (fun q=>optH H0 q.2 ⟨1,true,T.take q.1⟩)
  (fun q c=>2<=c/\q.1<=a.length/\(q.2=none↔q.1=0)/\(∀ i,q.2=some i->2<=i/\i<c)/\erEs ⟨D,M⟩ a=erEs ⟨D,M⟩ (a.drop q.1)) (fun q=>a.length-q.1) (0,none)
  (by simp [tmLe,tm,Tm.upd,todoV]) (Sub.refl _) ⟨Nat.le_refl _,Nat.zero_le _,by simp,(fun i hi=>by cases hi),rfl⟩ ?_
 rintro ⟨i,o⟩ c ⟨h2c,hk,hno,ho,he⟩
 dsimp only at hk hno ho he ⊢
 have hb0:optH H0 o ⟨1,true,T.take i⟩ 0=some ⟨0,true,[dcsV D,mdsV M]⟩:=by rw [optH_ne (fun i hi=>by have:=ho i hi;omega)];exact hz0
 have hb1:optH H0 o ⟨1,true,T.take i⟩ 1=some ⟨0,true,[I64 k,I64 v,.str n,exsV a,I64 p]⟩:=by rw [optH_ne (fun i hi=>by have:=ho i hi;omega)];exact hz1
 have hbn:∀ j:Nat,c<=j->optH H0 o ⟨1,true,T.take i⟩ j=none:=fun j hj=>by rw [optH_ne (fun i hi=>by have:=ho i hi;omega)];exact hzn j (by omega)
 have hbo2:∀ j:Nat,o=some j->optH H0 o ⟨1,true,T.take i⟩ j=some ⟨1,true,T.take i⟩:=fun j hj=>by subst hj;exact h_same
 generalize hHH:optH H0 o ⟨1,true,T.take i⟩=HH at hb0 hb1 hbn hbo2 ⊢
 by_cases hlt:i<a.length
 ·have hd:decide ((i:Int)<a.length)=true:=by simpa using hlt
  have hg:=List.getElem?_eq_getElem hlt
  have hw:=w64 (n:=(i:Int)+1) (by omega) (by omega)
  have hc:=ih _ (List.getElem_mem hlt)
  have hTi:=hTg _ _ hg
  rw [erEs_drop hg] at he
  generalize a[i]=x at hg hc hTi he
  rw [Ex.v_w] at hc
  unfold tyV at hc
  cases hq:erE ⟨D,M⟩ x with
  | some q =>
   obtain ⟨px,cx⟩:=q
   have hnz:(cx != 0)=true:=by simpa using nz_E _ x _ _ hq
   rw [hq] at hc he
   rw [he] at hR
   repeat' ((with_reducible first|refine wr ?_|refine cpc hc ?_|fail)<;>try simp only [go_sem,seval,hb0,hb1,hd,hg,hw,Ex.v_w,List.length_map,hnz])
   refine ⟨by (try and_intros)<;>exact hbn _ (by omega),by (try and_intros)<;>exact hbn _ (by omega),?_⟩
   repeat' ((with_reducible first|refine wr ?_|refine cpc hc ?_|fail)<;>try simp only [go_sem,seval,hb0,hb1,hd,hg,hw,Ex.v_w,List.length_map,hnz])
   exact pc_ret hR.symm
  | none =>
   rw [hq] at hc he
   repeat' ((with_reducible first|refine wr ?_|refine cpc hc ?_|fail)<;>try simp only [go_sem,seval,hb0,hb1,hd,hg,hw,Ex.v_w,List.length_map])
   refine ⟨by (try and_intros)<;>exact hbn _ (by omega),by (try and_intros)<;>exact hbn _ (by omega),?_⟩
   repeat' ((with_reducible first|refine wr ?_|refine cpc hc ?_|fail)<;>try simp only [go_sem,seval,hb0,hb1,hd,hg,hw,Ex.v_w,List.length_map])
   refine k_eval (r_apptodo (cs:=T.take i) (fun e=>by have:=hno.1 e;subst this;exact ⟨rfl,rfl⟩) (fun j hj=>by have:=ho j hj;rw [h_ne (by omega)];exact hbo2 j hj) (by rw [List.length_take];omega) (by omega) (by omega) (by omega)) ?_
   simp only [go_sem,seval,hw]
   repeat' ((with_reducible first|refine wr ?_|fail)<;>try simp only [go_sem,seval,hw])
   refine ⟨(i+1,some (c+14+1)),by simp [tmLe,tm,Tm.upd,todoV],?_,inv ⟨by omega,by omega,by simp,(fun j hj=>by cases hj;omega),he⟩,by simp only;omega⟩
   exact sub_todo hHH hzn (fun i hi=>(ho i hi).1) (by omega) (by simp only;rw [List.take_add_one,hTi];rfl)
 have hd:decide ((i:Int)<a.length)=false:=by simpa using hlt
 rw [List.drop_of_length_le (by omega),erEs] at he
 rw [he,Option.none_or] at hR
 have hi:i=a.length:=by omega
 subst hi
 rw [List.take_of_length_le (by omega)] at hbo2
 repeat' ((with_reducible first|refine wr ?_|refine cpc hk1 ?_|refine cpc hdn ?_|fail)<;>try simp only [go_sem,seval,hb0,hb1,hd,List.length_map])
 refine ⟨by (try and_intros)<;>exact hbn _ (by omega),?_⟩
 cases hdz:(dnM ⟨D,M⟩ n (kdE k) != 0) with
 | false =>
  have e0:dnE ⟨D,M⟩ n (kdE k) p=none:=by rw [dnE,if_pos (by simpa using hdz)]
  rw [e0,Option.none_or] at hR
  have kL:∀ cc:Nat,c<=cc->IW Tryz.prog 94 (.loop u61_34) ⟨tm [(3,.ptr 1 0),(7,todoV o a.length),(13,I64 (wntM k a)),(14,I64 0)],HH,cc⟩ (bk 2 (sq Tryz.prog 94 u61_42 (rt [.tmp 4,.tmp 5,.tmp 6] fun v H' x => ∃ H2,GL H' [v] H2 [R]))):=by
   intro cc hcc
   generalize wntM k a=wnt at hR ⊢
   refine i_loop (fun i:Nat=>[(3,.ptr 1 0),(7,todoV o a.length),(13,I64 wnt),(14,I64 i)]) (fun _=>HH) (fun i c2=>c<=c2/\i<=a.length/\(a.take i).all (fun x=>typM x.kind == wnt)=true) (fun i=>a.length-i) 0 (by simp [tmLe,tm,Tm.upd]) (Sub.refl _) ⟨hcc,Nat.zero_le _,rfl⟩ ?_
   rintro i cc ⟨hcc,hi,hall⟩
   by_cases hlt:i<a.length
   ·have hd:decide ((i:Int)<a.length)=true:=by simpa using hlt
    have hg:=List.getElem?_eq_getElem hlt
    have hw:=w64 (n:=(i:Int)+1) (by omega) (by omega)
    have hTi:=hTg _ _ hg
    obtain ⟨j,hj⟩:∃ j,o=some j:=by
     cases o with
     | none=>have:=hno.1 rfl;omega
     | some j=>exact ⟨j,rfl⟩
    have hbj:=hbo2 j hj
    subst hj
    have hlen:lenR (todoV (some j) a.length)=some (I64 (a.length:Int)):=r_lentodo (fun h=>by cases h)
    have hia:iadR 1 (.slc j 0 a.length) (I64 (i:Int))=some (.ptr j i):=by simp [iadR];omega
    generalize a[i]=x at hg hTi
    by_cases hx:typM x.kind=wnt
    ·have hxn:(typM x.kind != wnt)=false:=by simp [hx]
     repeat' ((with_reducible first|refine wr ?_|fail)<;>try simp only [go_sem,seval,hb0,hb1,hd,hlen,hia,hbj,hTi,hw,hxn])
     exact ⟨i+1,by simp,Sub.refl _,inv ⟨by omega,by omega,by rw [all_take' _ a i _ hg,hall];simp [hx]⟩,by omega⟩
    ·have hxn:(typM x.kind != wnt)=true:=by simp [hx]
     repeat' ((with_reducible first|refine wr ?_|fail)<;>try simp only [go_sem,seval,hb0,hb1,hd,hlen,hia,hbj,hTi,hw,hxn])
     refine ⟨by (try and_intros)<;>exact hbn _ (by omega),?_⟩
     repeat' ((with_reducible first|refine wr ?_|fail)<;>try simp only [go_sem,seval,hb0,hb1,hd,hlen,hia,hbj,hTi,hw,hxn])
     rw [all_fail _ a i _ hg (by simp [hx]),if_neg (by decide)] at hR
     exact pc_ret hR.symm
   have hd:decide ((i:Int)<a.length)=false:=by simpa using hlt
   have hlen:lenR (todoV o a.length)=some (I64 (a.length:Int)):=r_lentodo (fun h=>by have:=hno.1 h;omega)
   have hall2:=all_done _ a i (by omega) hall
   rw [if_pos hall2] at hR
   repeat' ((with_reducible first|refine wr ?_|refine cpc hbo ?_|refine wb2 ?_ ?_<;>(intro hb;try simp only [hb])|fail)<;>try simp only [go_sem,seval,hb0,hb1,hd,hlen])
   all_goals (refine pc_ret ?_;rw [hR];simp_all [typM])
  by_cases ka:k=11\/k=23\/k=24
  ·have ew:wntM k a=2:=by unfold wntM;rw [if_pos ka]
   rw [ew] at kL
   rcases ka with rfl|rfl|rfl
   all_goals (repeat' ((with_reducible first|refine wr ?_|refine cpc hk1 ?_|refine cpc hdn ?_|fail)<;>try simp only [go_sem,seval,hb0,hb1,hdz]))
   all_goals exact kL (c+8) (by omega)
  have ka1:(k == 11)=false:=by simp;omega
  have ka2:(k == 23)=false:=by simp;omega
  have ka3:(k == 24)=false:=by simp;omega
  by_cases kb:k=21\/k=22
  ·have hl2:=h22 kb
   obtain ⟨j,hj⟩:∃ j,o=some j:=by
    cases o with
    | none=>have:=hno.1 rfl;omega
    | some j=>exact ⟨j,rfl⟩
   obtain ⟨x0,l0,rfl⟩:∃ x l,a=x :: l:=by
    cases a with
    | nil=>simp at hl2
    | cons x l=>exact ⟨x,l,rfl⟩
   have ew:wntM k (x0 :: l0)=typM x0.kind:=by unfold wntM;rw [if_neg ka,if_pos kb]
   rw [ew] at kL
   have hbj:=hbo2 j hj
   subst hj
   have hT0:∃ T',T=I64 (typM x0.kind) :: T':=⟨l0.map (fun x=>I64 (typM x.kind)),by rw [hT];rfl⟩
   obtain ⟨T',hT'⟩:=hT0
   rw [hT'] at hbj
   have hia:iadR 1 (.slc j 0 (l0.length+1)) (.int .i64 0)=some (.ptr j 0):=by
    simp [iadR]
   rcases kb with rfl|rfl
   all_goals (repeat' ((with_reducible first|refine wr ?_|refine cpc hk1 ?_|refine cpc hdn ?_|fail)<;>try simp only [go_sem,seval,hb0,hb1,hdz,hia,hbj]))
   all_goals exact kL (c+8) (by omega)
  have ew:wntM k a=1:=by unfold wntM;rw [if_neg ka,if_neg kb]
  rw [ew] at kL
  have kb1:(k == 21)=false:=by simp;omega
  have kb2:(k == 22)=false:=by simp;omega
  repeat' ((with_reducible first|refine wr ?_|refine cpc hk1 ?_|refine cpc hdn ?_|fail)<;>try simp only [go_sem,seval,hb0,hb1,hdz,ka1,ka2,ka3,kb1,kb2])
  all_goals exact kL (c+8) (by omega)
 | true =>
  have e0:dnE ⟨D,M⟩ n (kdE k) p=some (p,dnM ⟨D,M⟩ n (kdE k)):=by rw [dnE,if_neg (by simpa using hdz)]
  rw [e0] at hR
  repeat' ((with_reducible first|refine wr ?_|refine cpc hk1 ?_|refine cpc hdn ?_|fail)<;>try simp only [go_sem,seval,hb0,hb1,hdz])
  refine ⟨by (try and_intros)<;>exact hbn _ (by omega),by (try and_intros)<;>exact hbn _ (by omega),?_⟩
  repeat' ((with_reducible first|refine wr ?_|refine cpc hk1 ?_|refine cpc hdn ?_|fail)<;>try simp only [go_sem,seval,hb0,hb1,hdz])
  exact pc_ret hR.symm
theorem c_blkR (r:Ru) (h1:r.decls.length<=1000000000) (h2:r.modes.length<=1000000000):∀ (m:Nat) (l:List Pb.St) (d:Nat),Pb.St.szs l<m->Pb.St.szs l<=100000000->vlSts d l=true->PC Tryz.prog 68 [r.v,stsV l] (erV (erB r l)):=by
 intro m
 induction m with
 | zero=>intro l d h;omega
 | succ m ih =>
 intro l d hm hB hv
 have hl:=Pb.St.szs_len l
 refine PC.of mixedU isU68 (Nat.le_of_ble_eq_true rfl) (by simp [Ru.v,DV.nlL,DV.nl,nlL_dcs,nlL_mds,nlL_sts]) (erV_nl _) ?_
 obtain ⟨R,hR⟩:∃ R,R=erV (erB r l):=⟨_,rfl⟩
 rw [<- hR]
 have hty:=fun x h h' h''=>c_tyR r h1 h2 (x.sz+1) x h h' h''
 have hdn:=fun n k=>c_dnR r n k h1 h2
 obtain ⟨D,M⟩:=r
 dsimp only [Ru.v] at hty hdn ih ⊢
 show IW Tryz.prog 95 u68_1 ⟨argT _,_,_⟩ (rt [.tmp 4,.tmp 5] _)
 repeat' ((with_reducible first|refine wr ?_|fail)<;>try simp only [go_sem,seval])
 refine i_loop (fun i:Nat=>[(1,stsV l),(2,.ptr 0 0),(6,I64 i)]) (fun _=>Sym.nil.upd 0 ⟨0,true,[dcsV D,mdsV M]⟩) (fun i c=>1<=c/\i<=l.length/\erB ⟨D,M⟩ l=erB ⟨D,M⟩ (l.drop i)) (fun i=>l.length-i) 0 (by simp [tmLe,tm,Tm.upd]) (Sub.refl _) ⟨Nat.le_refl _,Nat.zero_le _,rfl⟩ ?_
 rintro i c ⟨h1c,hk,he⟩
 by_cases hlt:i<l.length
 ·have hd:decide ((i:Int)<l.length)=true:=by simpa using hlt
  have hg:=List.getElem?_eq_getElem hlt
  have hw:=w64 (n:=(i:Int)+1) (by omega) (by omega)
  have hsx:=Pb.St.szs_mem (List.getElem_mem hlt)
  obtain ⟨v1,v2,v3⟩:=vlSt_parts (vlSts_mem hv _ (List.getElem_mem hlt))
  rw [erB_drop hg,erS_e] at he
  generalize l[i]=s at hg hsx v1 v2 v3 he
  have hsa:Ex.szs s.args<s.sz:=by cases s with|mk k n t a x y p=>rw [Pb.St.sz];show Ex.szs a<_;omega
  have hal:=Ex.szs_len s.args
  have hX:=ih s.thn (d+1) (by have:=s.sz_thn;omega) (by have:=s.sz_thn;omega) v2
  have hY:=ih s.els (d+1) (by have:=s.sz_els;omega) (by have:=s.sz_els;omega) v3
  have hk1:=c_stmKR s.kind
  have hdn:=hdn s.name (kdS s.kind)
  have ne0:=nes2 0 c (by omega)
  repeat' ((with_reducible first|refine wr ?_|refine cpc hk1 ?_|refine cpc hdn ?_|fail)<;>try simp only [go_sem,seval,hd,hg,hw,Pb.St.v_w,List.length_map,ne0,h_same,h_upd2])
  refine ⟨by (try and_intros)<;>(repeat rw [h_ne (by omega)])<;>rfl,?_⟩
  obtain ⟨HH,hHH⟩:∃ HH,HH=(Sym.nil.upd 0 ⟨0,true,[dcsV D,mdsV M]⟩).upd c ⟨0,true,[I64 s.kind,.str s.name,.str s.text,exsV s.args,stsV s.thn,stsV s.els,I64 s.pos]⟩:=⟨_,rfl⟩
  have hb0:HH 0=some ⟨0,true,[dcsV D,mdsV M]⟩:=by rw [hHH,h_ne (by omega)];rfl
  have hbc:HH c=some ⟨0,true,[I64 s.kind,.str s.name,.str s.text,exsV s.args,stsV s.thn,stsV s.els,I64 s.pos]⟩:=by rw [hHH];exact h_same
  have hbn:∀ j:Nat,c+1<=j->HH j=none:=fun j hj=>by rw [hHH,h_ne (by omega),h_ne (by omega)];rfl
  have hsub:Sym.Sub (Sym.nil.upd 0 ⟨0,true,[dcsV D,mdsV M]⟩) HH:=by rw [hHH];exact sub_upd2' h1c
  rw [<- hHH]
  cases hdz:(dnM ⟨D,M⟩ s.name (kdS s.kind) != 0) with
  | true =>
   have e0:dnE ⟨D,M⟩ s.name (kdS s.kind) s.pos=some (s.pos,dnM ⟨D,M⟩ s.name (kdS s.kind)):=by rw [dnE,if_neg (by simpa using hdz)]
   rw [e0] at he
   rw [he] at hR
   repeat' ((with_reducible first|refine wr ?_|refine cpc hk1 ?_|refine cpc hdn ?_|fail)<;>try simp only [go_sem,seval,hb0,hbc,hdz])
   exact pc_ret hR.symm
  | false =>
  have e0:dnE ⟨D,M⟩ s.name (kdS s.kind) s.pos=none:=by rw [dnE,if_pos (by simpa using hdz)]
  rw [e0,Option.none_or] at he
  repeat' ((with_reducible first|refine wr ?_|refine cpc hk1 ?_|refine cpc hdn ?_|fail)<;>try simp only [go_sem,seval,hb0,hbc,hdz])
  refine i_loop (fun i2:Nat=>[(1,stsV l),(2,.ptr 0 0),(6,I64 i),(7,.ptr c 0),(9,I64 i2)]) (fun _=>HH) (fun i2 c2=>c+1<=c2/\i2<=s.args.length/\erA ⟨D,M⟩ (s.kind == 2) s.args=erA ⟨D,M⟩ (s.kind == 2) (s.args.drop i2)) (fun i2=>s.args.length-i2) 0 (by simp [tmLe,tm,Tm.upd]) (Sub.refl _) ⟨by omega,Nat.zero_le _,rfl⟩ ?_
  rintro i2 c2 ⟨hc2,hk2,he2⟩
  by_cases hlt2:i2<s.args.length
  ·have hd2:decide ((i2:Int)<s.args.length)=true:=by simpa using hlt2
   have hg2:=List.getElem?_eq_getElem hlt2
   have hw2:=w64 (n:=(i2:Int)+1) (by omega) (by omega)
   have hxs:=Ex.szs_mem (List.getElem_mem hlt2)
   have hc:=hty s.args[i2] (by omega) (by omega) (v1 _ (List.getElem_mem hlt2))
   rw [erA_drop hg2] at he2
   generalize s.args[i2]=x at hg2 hxs hc he2
   rw [Ex.v_w] at hc
   unfold tyV at hc
   cases hq:erE ⟨D,M⟩ x with
   | some q =>
    obtain ⟨px,cx⟩:=q
    have hnz:(cx != 0)=true:=by simpa using nz_E _ x _ _ hq
    rw [hq] at hc he2
    rw [he,he2] at hR
    repeat' ((with_reducible first|refine wr ?_|refine cpc hc ?_|fail)<;>try simp only [go_sem,seval,hb0,hbc,hd2,hg2,hw2,Ex.v_w,List.length_map,hnz])
    refine ⟨by (try and_intros)<;>exact hbn _ (by omega),by (try and_intros)<;>exact hbn _ (by omega),?_⟩
    repeat' ((with_reducible first|refine wr ?_|refine cpc hc ?_|fail)<;>try simp only [go_sem,seval,hb0,hbc,hd2,hg2,hw2,Ex.v_w,List.length_map,hnz])
    exact pc_ret hR.symm
   | none =>
    rw [hq] at hc he2
    repeat' ((with_reducible first|refine wr ?_|refine cpc hc ?_|fail)<;>try simp only [go_sem,seval,hb0,hbc,hd2,hg2,hw2,Ex.v_w,List.length_map])
    refine ⟨by (try and_intros)<;>exact hbn _ (by omega),by (try and_intros)<;>exact hbn _ (by omega),?_⟩
    repeat' ((with_reducible first|refine wr ?_|refine cpc hc ?_|refine wb2 ?_ ?_<;>(intro hb;try simp only [hb])|fail)<;>try simp only [go_sem,seval,hb0,hbc,hd2,hg2,hw2,Ex.v_w,List.length_map])
    ·have hne:¬ (typM x.kind == 2)=(s.kind == 2):=by simpa [bne] using hb
     rw [if_neg hne] at he2
     rw [he,he2] at hR
     exact pc_ret hR.symm
    ·have heq:(typM x.kind == 2)=(s.kind == 2):=by simpa [bne] using hb
     rw [if_pos heq] at he2
     exact ⟨i2+1,by simp,Sub.refl _,inv ⟨by omega,by omega,he2⟩,by omega⟩
  have hd2:decide ((i2:Int)<s.args.length)=false:=by simpa using hlt2
  rw [List.drop_of_length_le (by omega),erA] at he2
  rw [he2,Option.none_or] at he
  clear he2
  cases hqX:erB ⟨D,M⟩ s.thn with
  | some q =>
   obtain ⟨px,cx⟩:=q
   have hnz:(cx != 0)=true:=by simpa using nz_B _ _ _ _ hqX
   rw [hqX] at hX he
   rw [he] at hR
   dsimp only [erV] at hX
   repeat' ((with_reducible first|refine wr ?_|refine cpc hX ?_|fail)<;>try simp only [go_sem,seval,hb0,hbc,hd2,List.length_map,hnz])
   exact pc_ret hR.symm
  | none =>
  rw [hqX] at hX he
  rw [Option.none_or] at he
  dsimp only [erV] at hX
  cases hqY:erB ⟨D,M⟩ s.els with
  | some q =>
   obtain ⟨px,cx⟩:=q
   have hnz:(cx != 0)=true:=by simpa using nz_B _ _ _ _ hqY
   rw [hqY] at hY he
   rw [he] at hR
   dsimp only [erV] at hY
   repeat' ((with_reducible first|refine wr ?_|refine cpc hX ?_|refine cpc hY ?_|fail)<;>try simp only [go_sem,seval,hb0,hbc,hd2,List.length_map,hnz])
   exact pc_ret hR.symm
  | none =>
  rw [hqY] at hY he
  rw [Option.none_or] at he
  dsimp only [erV] at hY
  repeat' ((with_reducible first|refine wr ?_|refine cpc hX ?_|refine cpc hY ?_|fail)<;>try simp only [go_sem,seval,hb0,hbc,hd2,List.length_map,hw])
  exact ⟨i+1,by simp,hsub,inv ⟨by omega,by omega,he⟩,by omega⟩
 have hd:decide ((i:Int)<l.length)=false:=by simpa using hlt
 rw [List.drop_of_length_le (by omega),erB] at he
 rw [he] at hR
 repeat' ((with_reducible first|refine wr ?_|fail)<;>try simp only [go_sem,seval,hd,List.length_map])
 exact pc_ret hR.symm
theorem c_headsR (r:Ru) (h1:r.decls.length<=1000000000) (h2:r.modes.length<=1000000000):PC Tryz.prog 65 [r.v] (erV (heaE r)):=by
 refine PC.of mixedU isU65 (Nat.le_of_ble_eq_true rfl) (by simp [Ru.v,DV.nlL,DV.nl,nlL_dcs,nlL_mds]) (erV_nl _) ?_
 obtain ⟨R,hR⟩:∃ R,R=erV (heaE r):=⟨_,rfl⟩
 rw [<- hR]
 obtain ⟨D,M⟩:=r
 unfold heaE at hR
 dsimp only at h1 h2 hR
 dsimp only [Ru.v]
 show IW Tryz.prog 81 u65_1 ⟨argT _,_,_⟩ (rt [.tmp 2,.tmp 3] _)
 repeat' ((with_reducible first|refine wr ?_|fail)<;>try simp only [go_sem,seval])
 refine i_loop (fun i:Nat=>[(1,.ptr 0 0),(4,I64 i)]) (fun _=>Sym.nil.upd 0 ⟨0,true,[dcsV D,mdsV M]⟩) (fun i c=>1<=c/\i<=D.length/\erD [] D=erD (D.take i) (D.drop i)) (fun i=>D.length-i) 0 (by simp [tmLe,tm,Tm.upd]) (Sub.refl _) ⟨Nat.le_refl _,Nat.zero_le _,rfl⟩ ?_
 rintro i c ⟨h1c,hk,he⟩
 by_cases hlt:i<D.length
 ·have hd:decide ((i:Int)<D.length)=true:=by simpa using hlt
  have hg:=List.getElem?_eq_getElem hlt
  have hw:=w64 (n:=(i:Int)+1) (by omega) (by omega)
  rw [erD_drop hg] at he
  have hlk:=pc_ruN (c_lkR ⟨D.take i,[]⟩ D[i].name (by rw [List.length_take];omega) (Nat.zero_le _))
  generalize D[i]=d at hg he hlk
  have hmo:=c_mostR d.kind
  have hsl:=fun H=>r_slcl (xs:=D.map Dc.v) (h:=i) (sz:=4) (by rw [List.length_map];omega) (dc_unit _) H
  rw [<- List.map_take] at hsl
  have ne0:=nes2 0 c (by omega)
  by_cases hv:d.value>mstM d.kind
  ·have qv:decide (d.value>mstM d.kind)=true:=by simpa using hv
   rw [if_pos hv] at he
   rw [he] at hR
   repeat' ((with_reducible first|refine wr ?_|refine cpc hmo ?_|refine cpc hlk ?_|fail)<;>try simp only [go_sem,seval,hd,hg,hw,dc_w,List.length_map,ne0,h_same,h_upd2,hsl,qv])
   refine ⟨by (try and_intros)<;>(repeat rw [h_ne (by omega)])<;>rfl,?_⟩
   repeat' ((with_reducible first|refine wr ?_|refine cpc hmo ?_|refine cpc hlk ?_|fail)<;>try simp only [go_sem,seval,hd,hg,hw,dc_w,List.length_map,ne0,h_same,h_upd2,hsl,qv])
   exact pc_ret hR.symm
  have qv:decide (d.value>mstM d.kind)=false:=by simpa using hv
  rw [if_neg hv,Option.none_or] at he
  by_cases hl:(lokR ⟨D.take i,[]⟩ d.name).1=0
  ·have ql:((lokR ⟨D.take i,[]⟩ d.name).1 != 0)=false:=by simp [hl]
   rw [if_pos hl,Option.none_or] at he
   repeat' ((with_reducible first|refine wr ?_|refine cpc hmo ?_|refine cpc hlk ?_|fail)<;>try simp only [go_sem,seval,hd,hg,hw,dc_w,List.length_map,ne0,h_same,h_upd2,hsl,qv,ql])
   refine ⟨by (try and_intros)<;>(repeat rw [h_ne (by omega)])<;>rfl,?_⟩
   repeat' ((with_reducible first|refine wr ?_|refine cpc hmo ?_|refine cpc hlk ?_|fail)<;>try simp only [go_sem,seval,hd,hg,hw,dc_w,List.length_map,ne0,h_same,h_upd2,hsl,qv,ql])
   refine ⟨by (try and_intros)<;>(repeat rw [h_ne (by omega)])<;>rfl,?_⟩
   repeat' ((with_reducible first|refine wr ?_|refine cpc hmo ?_|refine cpc hlk ?_|fail)<;>try simp only [go_sem,seval,hd,hg,hw,dc_w,List.length_map,ne0,h_same,h_upd2,hsl,qv,ql])
   exact ⟨i+1,by simp,sub_upd2' h1c,inv ⟨by omega,by omega,he⟩,by omega⟩
  ·have ql:((lokR ⟨D.take i,[]⟩ d.name).1 != 0)=true:=by simp [hl]
   rw [if_neg hl] at he
   rw [he] at hR
   repeat' ((with_reducible first|refine wr ?_|refine cpc hmo ?_|refine cpc hlk ?_|fail)<;>try simp only [go_sem,seval,hd,hg,hw,dc_w,List.length_map,ne0,h_same,h_upd2,hsl,qv,ql])
   refine ⟨by (try and_intros)<;>(repeat rw [h_ne (by omega)])<;>rfl,?_⟩
   repeat' ((with_reducible first|refine wr ?_|refine cpc hmo ?_|refine cpc hlk ?_|fail)<;>try simp only [go_sem,seval,hd,hg,hw,dc_w,List.length_map,ne0,h_same,h_upd2,hsl,qv,ql])
   refine ⟨by (try and_intros)<;>(repeat rw [h_ne (by omega)])<;>rfl,?_⟩
   repeat' ((with_reducible first|refine wr ?_|refine cpc hmo ?_|refine cpc hlk ?_|fail)<;>try simp only [go_sem,seval,hd,hg,hw,dc_w,List.length_map,ne0,h_same,h_upd2,hsl,qv,ql])
   exact pc_ret hR.symm
 have hd:decide ((i:Int)<D.length)=false:=by simpa using hlt
 rw [List.drop_of_length_le (by omega),erD] at he
 rw [he,Option.none_or] at hR
 repeat' ((with_reducible first|refine wr ?_|fail)<;>try simp only [go_sem,seval,hd,List.length_map])
 clear he hd hlt hk i
 refine i_loop (fun i:Nat=>[(1,.ptr 0 0),(8,I64 i)]) (fun _=>Sym.nil.upd 0 ⟨0,true,[dcsV D,mdsV M]⟩) (fun i c=>1<=c/\i<=M.length/\erP D [] M=erP D (M.take i) (M.drop i)) (fun i=>M.length-i) 0 (by simp [tmLe,tm,Tm.upd]) (Sub.refl _) ⟨h1c,Nat.zero_le _,rfl⟩ ?_
 clear h1c c
 rintro i c ⟨h1c,hk,he⟩
 by_cases hlt:i<M.length
 ·have hd:decide ((i:Int)<M.length)=true:=by simpa using hlt
  have hg:=List.getElem?_eq_getElem hlt
  have hw:=w64 (n:=(i:Int)+1) (by omega) (by omega)
  rw [erP_drop hg] at he
  have hlk:PC Tryz.prog 62 [.agg [dcsV D,mdsV (M.take i)],.str M[i].name] _:=c_lkR ⟨D,M.take i⟩ M[i].name (by omega) (by rw [List.length_take];omega)
  generalize M[i]=d at hg he hlk
  have hsl:=fun H=>r_slcl (xs:=M.map Md.v) (h:=i) (sz:=4) (by rw [List.length_map];omega) (md_unit _) H
  rw [<- List.map_take] at hsl
  have ne0:=nes2 0 c (by omega)
  by_cases hv:d.prio>99
  ·have qv:decide (d.prio>99)=true:=by simpa using hv
   rw [if_pos hv] at he
   rw [he] at hR
   repeat' ((with_reducible first|refine wr ?_|refine cpc hlk ?_|fail)<;>try simp only [go_sem,seval,hd,hg,hw,md_w,List.length_map,ne0,h_same,h_upd2,hsl,qv])
   exact pc_ret hR.symm
  have qv:decide (d.prio>99)=false:=by simpa using hv
  rw [if_neg hv,Option.none_or] at he
  by_cases hl:(lokR ⟨D,M.take i⟩ d.name).1=0
  ·have ql:((lokR ⟨D,M.take i⟩ d.name).1 != 0)=false:=by simp [hl]
   rw [if_pos hl,Option.none_or] at he
   repeat' ((with_reducible first|refine wr ?_|refine cpc hlk ?_|fail)<;>try simp only [go_sem,seval,hd,hg,hw,md_w,List.length_map,ne0,h_same,h_upd2,hsl,qv,ql])
   refine ⟨by (try and_intros)<;>(repeat rw [h_ne (by omega)])<;>rfl,?_⟩
   repeat' ((with_reducible first|refine wr ?_|refine cpc hlk ?_|fail)<;>try simp only [go_sem,seval,hd,hg,hw,md_w,List.length_map,ne0,h_same,h_upd2,hsl,qv,ql])
   exact ⟨i+1,by simp,sub_upd2' h1c,inv ⟨by omega,by omega,he⟩,by omega⟩
  ·have ql:((lokR ⟨D,M.take i⟩ d.name).1 != 0)=true:=by simp [hl]
   rw [if_neg hl] at he
   rw [he] at hR
   repeat' ((with_reducible first|refine wr ?_|refine cpc hlk ?_|fail)<;>try simp only [go_sem,seval,hd,hg,hw,md_w,List.length_map,ne0,h_same,h_upd2,hsl,qv,ql])
   refine ⟨by (try and_intros)<;>(repeat rw [h_ne (by omega)])<;>rfl,?_⟩
   repeat' ((with_reducible first|refine wr ?_|refine cpc hlk ?_|fail)<;>try simp only [go_sem,seval,hd,hg,hw,md_w,List.length_map,ne0,h_same,h_upd2,hsl,qv,ql])
   exact pc_ret hR.symm
 have hd:decide ((i:Int)<M.length)=false:=by simpa using hlt
 rw [List.drop_of_length_le (by omega),erP] at he
 rw [he] at hR
 repeat' ((with_reducible first|refine wr ?_|fail)<;>try simp only [go_sem,seval,hd,List.length_map])
 exact pc_ret hR.symm
theorem hdl_w (h:Hd):h.v=.agg [I64 h.trig,.str h.name,stsV h.body,I64 h.pos]:=rfl
theorem c_vdR (r:Ru) (hB:r.sz<4000000):PC Tryz.prog 59 [r.v] (.bool (vldM r)):=by
 have:=c_ValidR31 r hB
 rwa [vd31_eq] at this
theorem chkV_nl (r:Ru):(chkV r).nl=true:=by unfold chkV;split;exact erV_nl _;rfl
theorem c_CheckR (r:Ru) (hB:r.sz<4000000):PC Tryz.prog 34 [r.v] (chkV r):=by
 refine PC.of mixedU isU34 (Nat.le_of_ble_eq_true rfl) (by simp [Ru.v,DV.nlL,DV.nl,nlL_dcs,nlL_mds]) (chkV_nl _) ?_
 have hv:=c_vdR r hB
 have hhe:=c_headsR r (by have:=sz_dl r;omega) (by have:=sz_ml r;omega)
 have hdn:=fun n k=>c_dnR r n k (by have:=sz_dl r;omega) (by have:=sz_ml r;omega)
 have hbl:=fun l d h h'=>c_blkR r (by have:=sz_dl r;omega) (by have:=sz_ml r;omega) (Pb.St.szs l+1) l d (Nat.lt_succ_self _) h h'
 have hml:=sz_ml r
 have hms:∀ m∈r.modes,m.sz<=r.sz:=fun m h=>sz_md h
 have hbv:=@vld_body _ r
 have hch:chkV r=if vldM r=true then erV (chkE r) else .tup [I64 0,I64 1]:=rfl
 unfold chkE at hch
 cases hvd:vldM r with
 | false =>
  rw [hvd] at hv hch
  rw [hch]
  obtain ⟨D,M⟩:=r
  dsimp only [Ru.v] at hv ⊢
  show IW Tryz.prog 113 u34_1 ⟨argT _,_,_⟩ (rt [.tmp 2,.tmp 3] _)
  repeat' ((with_reducible first|refine wr ?_|refine cpc hv ?_|fail)<;>try simp only [go_sem,seval])
  exact pc_ret rfl
 | true =>
 have hbv:=hbv hvd
 rw [hvd] at hv hch
 rw [if_pos rfl] at hch
 obtain ⟨R,hR⟩:∃ R,R=chkV r:=⟨_,rfl⟩
 rw [<- hR]
 rw [hch] at hR
 have hnz:=nz_hea r
 obtain ⟨D,M⟩:=r
 dsimp only [Ru.v] at hv hhe hdn hbl hml hms hbv hR ⊢
 show IW Tryz.prog 113 u34_1 ⟨argT _,_,_⟩ (rt [.tmp 2,.tmp 3] _)
 cases hqH:heaE ⟨D,M⟩ with
 | some q =>
  obtain ⟨px,cx⟩:=q
  have hn:(cx != 0)=true:=by simpa using hnz _ _ hqH
  rw [hqH] at hhe hR
  dsimp only [erV] at hhe
  repeat' ((with_reducible first|refine wr ?_|refine cpc hv ?_|refine cpc hhe ?_|fail)<;>try simp only [go_sem,seval,hn])
  exact pc_ret hR.symm
 | none =>
 rw [hqH] at hhe hR
 rw [Option.none_or] at hR
 dsimp only [erV] at hhe
 repeat' ((with_reducible first|refine wr ?_|refine cpc hv ?_|refine cpc hhe ?_|fail)<;>try simp only [go_sem,seval])
 refine i_loop (fun i:Nat=>[(1,.ptr 0 0),(6,I64 i)]) (fun _=>Sym.nil.upd 0 ⟨0,true,[dcsV D,mdsV M]⟩) (fun i c=>1<=c/\i<=M.length/\erM ⟨D,M⟩ M=erM ⟨D,M⟩ (M.drop i)) (fun i=>M.length-i) 0 (by simp [tmLe,tm,Tm.upd]) (Sub.refl _) ⟨by omega,Nat.zero_le _,rfl⟩ ?_
 rintro i c ⟨h1c,hk,he⟩
 by_cases hlt:i<M.length
 ·have hd:decide ((i:Int)<M.length)=true:=by simpa using hlt
  have hg:=List.getElem?_eq_getElem hlt
  have hw:=w64 (n:=(i:Int)+1) (by omega) (by omega)
  rw [erM_drop hg] at he
  have hms:=hms _ (List.getElem_mem hlt)
  have hbv:=hbv _ (List.getElem_mem hlt)
  generalize M[i]=d at hg he hms hbv
  have hhl:=sz_hl d
  repeat' ((with_reducible first|refine wr ?_|refine cpc hv ?_|refine cpc hhe ?_|fail)<;>try simp only [go_sem,seval,hd,hg,hw,md_w,List.length_map])
  refine i_loop (fun i2:Nat=>[(1,.ptr 0 0),(6,I64 i),(7,hdsV d.hds),(8,I64 i2)]) (fun _=>Sym.nil.upd 0 ⟨0,true,[dcsV D,mdsV M]⟩) (fun i2 c=>1<=c/\i2<=d.hds.length/\erH ⟨D,M⟩ [] d.hds=erH ⟨D,M⟩ (d.hds.take i2) (d.hds.drop i2)) (fun i2=>d.hds.length-i2) 0 (by simp [tmLe,tm,Tm.upd]) (Sub.refl _) ⟨by omega,Nat.zero_le _,rfl⟩ ?_
  rintro i2 c2 ⟨hc2,hk2,he2⟩
  by_cases hlt2:i2<d.hds.length
  ·have hd2:decide ((i2:Int)<d.hds.length)=true:=by simpa using hlt2
   have hg2:=List.getElem?_eq_getElem hlt2
   have hw2:=w64 (n:=(i2:Int)+1) (by omega) (by omega)
   have hxs:=sz_hd (List.getElem_mem hlt2)
   have hbv:=hbv _ (List.getElem_mem hlt2)
   rw [erH_drop hg2] at he2
   generalize d.hds[i2]=x at hg2 hxs hbv he2
   have hxe:x.sz=1+x.name.length+Pb.St.szs x.body:=rfl
   have hbl:=hbl x.body 1 (by omega) hbv
   have htk:=c_trgKR x.trig
   have hdn:=hdn x.name (kdH x.trig)
   cases hdz:(dnM ⟨D,M⟩ x.name (kdH x.trig) != 0) with
   | true =>
    have e0:dnE ⟨D,M⟩ x.name (kdH x.trig) x.pos=some (x.pos,dnM ⟨D,M⟩ x.name (kdH x.trig)):=by rw [dnE,if_neg (by simpa using hdz)]
    rw [e0] at he2
    rw [he,he2] at hR
    repeat' ((with_reducible first|refine wr ?_|refine cpc htk ?_|refine cpc hdn ?_|fail)<;>try simp only [go_sem,seval,hd2,hg2,hw2,hdl_w,List.length_map,hdz])
    refine ⟨by (try and_intros)<;>(repeat rw [h_ne (by omega)])<;>rfl,?_⟩
    repeat' ((with_reducible first|refine wr ?_|refine cpc htk ?_|refine cpc hdn ?_|fail)<;>try simp only [go_sem,seval,hd2,hg2,hw2,hdl_w,List.length_map,hdz])
    exact pc_ret hR.symm
   | false =>
   have e0:dnE ⟨D,M⟩ x.name (kdH x.trig) x.pos=none:=by rw [dnE,if_pos (by simpa using hdz)]
   rw [e0,Option.none_or] at he2
   repeat' ((with_reducible first|refine wr ?_|refine cpc htk ?_|refine cpc hdn ?_|fail)<;>try simp only [go_sem,seval,hd2,hg2,hw2,hdl_w,List.length_map,hdz])
   refine ⟨by (try and_intros)<;>(repeat rw [h_ne (by omega)])<;>rfl,?_⟩
   repeat' ((with_reducible first|refine wr ?_|refine cpc htk ?_|refine cpc hdn ?_|fail)<;>try simp only [go_sem,seval,hd2,hg2,hw2,hdl_w,List.length_map,hdz])
   refine i_loop (fun j:Nat=>[(1,.ptr 0 0),(6,I64 i),(7,hdsV d.hds),(8,I64 i2),(10,I64 j)]) (fun _=>Sym.nil.upd 0 ⟨0,true,[dcsV D,mdsV M]⟩) (fun j c=>1<=c/\j<=i2/\(d.hds.take j).any (fun y=>y.trig == x.trig && y.name == x.name)=false) (fun j=>i2-j) 0 (by simp [tmLe,tm,Tm.upd]) (Sub.refl _) ⟨by omega,Nat.zero_le _,rfl⟩ ?_
   rintro j c3 ⟨hc3,hj,ha⟩
   by_cases hlt3:j<i2
   ·have hd3:decide ((j:Int)<(i2:Int))=true:=by simpa using hlt3
    have hg3:=List.getElem?_eq_getElem (l:=d.hds) (i:=j) (by omega)
    have hw3:=w64 (n:=(j:Int)+1) (by omega) (by omega)
    generalize d.hds[j]'(by omega)=y at hg3
    cases hp:(y.trig == x.trig && y.name == x.name) with
    | true =>
     have hany:(d.hds.take i2).any (fun y=>y.trig == x.trig && y.name == x.name)=true:=by
      rw [List.any_eq_true]
      exact ⟨y,List.mem_of_getElem? (by rw [List.getElem?_take_of_lt hlt3];exact hg3),hp⟩
     rw [if_pos hany] at he2
     rw [he,he2] at hR
     rw [Bool.and_eq_true] at hp
     repeat' ((with_reducible first|refine wr ?_|fail)<;>try simp only [go_sem,seval,hd3,hg3,hg2,hw3,hdl_w,List.length_map,hp.1,hp.2])
     exact pc_ret hR.symm
    | false =>
     have hnx:=any_take' (fun y=>y.trig == x.trig && y.name == x.name) _ _ _ hg3
     rw [ha,hp] at hnx
     cases hp1:y.trig == x.trig with
     | false =>
      repeat' ((with_reducible first|refine wr ?_|fail)<;>try simp only [go_sem,seval,hd3,hg3,hg2,hw3,hdl_w,List.length_map,hp1])
      exact ⟨j+1,by simp,Sub.refl _,inv ⟨by omega,by omega,hnx⟩,by omega⟩
     | true =>
      have hp2:(y.name == x.name)=false:=by rw [hp1] at hp;simpa using hp
      repeat' ((with_reducible first|refine wr ?_|fail)<;>try simp only [go_sem,seval,hd3,hg3,hg2,hw3,hdl_w,List.length_map,hp1,hp2])
      exact ⟨j+1,by simp,Sub.refl _,inv ⟨by omega,by omega,hnx⟩,by omega⟩
   have hd3:decide ((j:Int)<(i2:Int))=false:=by simpa using hlt3
   have hji:j=i2:=by omega
   subst hji
   rw [if_neg (by rw [ha];decide),Option.none_or] at he2
   cases hqB:erB ⟨D,M⟩ x.body with
   | some q =>
    obtain ⟨px,cx⟩:=q
    have hn:(cx != 0)=true:=by simpa using nz_B _ _ _ _ hqB
    rw [hqB] at hbl he2
    dsimp only [erV] at hbl
    rw [he,he2] at hR
    repeat' ((with_reducible first|refine wr ?_|refine cpc hbl ?_|fail)<;>try simp only [go_sem,seval,hd3,hg2,hw2,hdl_w,List.length_map,hn])
    exact pc_ret hR.symm
   | none =>
   rw [hqB] at hbl he2
   dsimp only [erV] at hbl
   rw [Option.none_or] at he2
   repeat' ((with_reducible first|refine wr ?_|refine cpc hbl ?_|fail)<;>try simp only [go_sem,seval,hd3,hg2,hw2,hdl_w,List.length_map])
   exact ⟨j+1,by simp,Sub.refl _,inv ⟨by omega,by omega,he2⟩,by omega⟩
  have hd2:decide ((i2:Int)<d.hds.length)=false:=by simpa using hlt2
  rw [List.drop_of_length_le (by omega),erH] at he2
  rw [he2,Option.none_or] at he
  repeat' ((with_reducible first|refine wr ?_|fail)<;>try simp only [go_sem,seval,hd2,hw,List.length_map])
  exact ⟨i+1,by simp,Sub.refl _,inv ⟨by omega,by omega,he⟩,by omega⟩
 have hd:decide ((i:Int)<M.length)=false:=by simpa using hlt
 rw [List.drop_of_length_le (by omega),erM] at he
 rw [he] at hR
 repeat' ((with_reducible first|refine wr ?_|fail)<;>try simp only [go_sem,seval,hd,List.length_map])
 exact pc_ret hR.symm
def lokV (r:Ru) (n:List UInt8):DV:=if vldM r=true then .tup [I64 (lokR r n).1,I64 (lokR r n).2] else .tup [I64 0,I64 0]
theorem lkV_nl (r:Ru) (n:List UInt8):(lokV r n).nl=true:=by unfold lokV;split<;>rfl
theorem sub_frs {H:Hp} {c:Nat} {b:Blk} (h:H c=none):Sym.Sub H (H.upd c b):=by
 intro j q hj
 by_cases e:j=c
 ·subst e;rw [h] at hj;cases hj
 ·rw [h_ne e];exact hj
def unuV (r:Ru):DV:=if vldM r=true then .lst ((unuM r).map DV.str) else .lst []
theorem unuV_nl (r:Ru):(unuV r).nl=true:=by unfold unuV;split<;>simp [DV.nl,DV.nlL,nlL_strs]
theorem str_unit (l:List (List UInt8)):∀ x∈l.map DV.str,x.cells.length=1:=fun x hx=>by obtain ⟨y, -,rfl⟩:=List.mem_map.1 hx;rfl
end Go.Proofs.YtnmkkggfgdfmeaaGreatDoor
namespace Go.Pb
variable [Go.Sym.Tab]
open Go.Sym
open Go.Eng (KKey)
def mkK (l:List (List UInt8 × DV)):List DV:=l.map fun p=>.str p.1
def mvV (l:List (List UInt8 × DV)):List DV:=l.map fun p=>p.2
theorem mfind_lkp {n:List UInt8}:∀ (l:List (List UInt8 × DV)) (i:Nat),match mfind (.str n) (mkK l) i with
  | some j=>i<=j/\∃ x,(mvV l)[j-i]? = some x/\l.lookup n=some x
  | none=>l.lookup n=none
 | [],i=>rfl
 | p :: l,i=>by
  obtain ⟨a,x⟩:=p
  show match mfind (.str n) (.str a :: mkK l) i with
   | some j=>_
   | none=>_
  rw [mfind,keyEq_str]
  cases h:n == a with
  | true =>
   refine ⟨Nat.le_refl _,x,by simp [mvV],?_⟩
   rw [List.lookup_cons,h]
  | false =>
   have ih:=mfind_lkp (n:=n) l (i+1)
   dsimp only
   cases hf:mfind (.str n) (mkK l) (i+1) with
   | none=>rw [hf] at ih;dsimp only at ih ⊢;rw [List.lookup_cons,h];exact ih
   | some j =>
    rw [hf] at ih
    obtain ⟨h1,y,h2,h3⟩:=ih
    refine ⟨by omega,y,?_,by rw [List.lookup_cons,h];exact h3⟩
    have e:j-i=(j-(i+1))+1:=by omega
    rw [e]
    exact h2
theorem lk_some {l:List (List UInt8 × DV)} {n:List UInt8} {x z:DV} {ok:Bool} (h:l.lookup n=some x):lkV z ok (mvV l) (mfind (.str n) (mkK l) 0)=some (match ok with
  | true=>.tup [x,.bool true]
  | false=>x):=by
 have:=mfind_lkp (n:=n) l 0
 cases hf:mfind (.str n) (mkK l) 0 with
 | none=>rw [hf] at this;rw [this] at h;cases h
 | some j =>
  rw [hf] at this
  obtain ⟨-,y,h2,h3⟩:=this
  rw [h3] at h;cases h
  simp only [lkV]
  rw [Nat.sub_zero] at h2
  rw [h2]
  cases ok<;>rfl
theorem lk_none {l:List (List UInt8 × DV)} {n:List UInt8} {z:DV} {ok:Bool} (h:l.lookup n=none):lkV z ok (mvV l) (mfind (.str n) (mkK l) 0)=some (match ok with
  | true=>.tup [z,.bool false]
  | false=>z):=by
 have:=mfind_lkp (n:=n) l 0
 cases hf:mfind (.str n) (mkK l) 0 with
 | none=>simp only [lkV];cases ok<;>rfl
 | some j =>
  rw [hf] at this
  obtain ⟨-,y,h2,h3⟩:=this
  rw [h3] at h;cases h
theorem mf_none {l:List (List UInt8 × DV)} {n:List UInt8} (h:l.lookup n=none):mfind (.str n) (mkK l) 0=none:=by
 have:=mfind_lkp (n:=n) l 0
 cases hf:mfind (.str n) (mkK l) 0 with
 | none=>rfl
 | some j =>
  rw [hf] at this
  obtain ⟨-,y,h2,h3⟩:=this
  rw [h3] at h;cases h
theorem lookup_snoc {α : Type} (n:List UInt8) (a:List UInt8) (x : α):∀ l:List (List UInt8 × α),(l++[(a,x)]).lookup n=(l.lookup n).or (if n == a then some x else none)
 | []=>by simp [List.lookup_cons];split<;>simp_all
 | (b,y) :: l=>by
  rw [List.cons_append,List.lookup_cons,List.lookup_cons,lookup_snoc n a x l]
  cases n == b<;>rfl
def meaV (q:Int × Int):DV:=.agg [I64 q.1,I64 q.2]
def setM (l:List (List UInt8 × (Int × Int))) (n:List UInt8) (q:Int × Int):List (List UInt8 × (Int × Int)):=if (l.lookup n).isSome=true then l else l++[(n,q)]
def meaL (l:List (List UInt8 × (Int × Int))):List (List UInt8 × DV):=l.map fun p=>(p.1,meaV p.2)
theorem mea_lookup (n:List UInt8):∀ l:List (List UInt8 × (Int × Int)),(meaL l).lookup n=(l.lookup n).map meaV
 | []=>rfl
 | (a,x) :: l=>by
  show ((a,meaV x) :: meaL l).lookup n=_
  rw [List.lookup_cons,List.lookup_cons,mea_lookup n l]
  cases n == a<;>rfl
def numM (pre:List Dc) (d:Dc):Int:=if d.kind=6\/d.kind=7\/d.kind=8 then (cnD pre d.kind:Int) else d.value
def nmD (pre:List Dc) (l:List (List UInt8 × (Int × Int))):List Dc->List (List UInt8 × (Int × Int))
 | []=>l
 | d :: r=>nmD (pre++[d]) (setM l d.name (d.kind,numM pre d)) r
def nmX (i:Nat) (l:List (List UInt8 × (Int × Int))):List Md->List (List UInt8 × (Int × Int))
 | []=>l
 | m :: r=>nmX (i+1) (setM l m.name (9,(i:Int))) r
def nmL (r:Ru):List (List UInt8 × (Int × Int)):=nmX 0 (nmD [] [] r.decls) r.modes
def nmV (r:Ru):DV:=.mp .s (mkK (meaL (nmL r))) (mvV (meaL (nmL r)))
def ahS:List (Int × Nat)->Int->List (Int × Nat)
 | [],k=>[(k,1)]
 | (a,n) :: l,k=>if a=k then (a,n+1) :: l else (a,n) :: ahS l k
def ahM (l:List Dc):List (Int × Nat):=l.foldl (fun a d=>ahS a d.kind) []
def ahK (l:List (Int × Nat)):List DV:=l.map fun p=>I64 p.1
def ahV (l:List (Int × Nat)):List DV:=l.map fun p=>I64 (p.2:Int)
def ahN (l:List (Int × Nat)) (k:Int):Nat:=match l with
 | []=>0
 | (a,n) :: r=>if a=k then n else ahN r k
theorem ah_step (k:Int):∀ (l:List (Int × Nat)) (i:Nat),match mfind (I64 k) (ahK l) i with
  | some j=>i<=j/\∃ n:Nat,(ahV l)[j-i]? = some (I64 (n:Int))/\ahN l k=n/\(ahK l).set (j-i) (I64 k)=ahK (ahS l k)/\(ahV l).set (j-i) (I64 ((n:Int)+1))=ahV (ahS l k)
  | none=>ahN l k=0/\ahK l++[I64 k]=ahK (ahS l k)/\ahV l++[I64 1]=ahV (ahS l k)
 | [],i=>⟨rfl,rfl,rfl⟩
 | (a,n) :: l,i=>by
  have e:mfind (I64 k) (ahK ((a,n) :: l)) i=if k=a then some i else mfind (I64 k) (ahK l) (i+1):=by
   show mfind (I64 k) (I64 a :: ahK l) i=_
   rw [mfind]
   show (match k == a with
    | true=>some i
    | false=>mfind (I64 k) (ahK l) (i+1))=_
   by_cases h:k=a
   ·rw [if_pos h,beq_iff_eq.2 h]
   ·rw [if_neg h,beq_eq_false_iff_ne.2 h]
  rw [e]
  by_cases h:k=a
  ·rw [if_pos h]
   subst h
   refine ⟨Nat.le_refl _,n,?_,?_,?_,?_⟩
   ·simp [ahV]
   ·simp [ahN]
   ·simp [ahK,ahS]
   ·simp [ahV,ahS]
  ·rw [if_neg h]
   have ih:=ah_step k l (i+1)
   have h':¬ a=k:=fun e=>h e.symm
   have es:ahS ((a,n) :: l) k=(a,n) :: ahS l k:=by rw [ahS,if_neg h']
   have en:ahN ((a,n) :: l) k=ahN l k:=by rw [ahN,if_neg h']
   rw [es,en]
   cases hf:mfind (I64 k) (ahK l) (i+1) with
   | none =>
    rw [hf] at ih
    obtain ⟨i1,i2,i3⟩:=ih
    exact ⟨i1,congrArg (I64 a :: ·) i2,congrArg (I64 (n:Int) :: ·) i3⟩
   | some j =>
    rw [hf] at ih
    obtain ⟨i0,m,i1,i2,i3,i4⟩:=ih
    have ej:j-i=(j-(i+1))+1:=by omega
    dsimp only;rw [ej]
    exact ⟨by omega,m,i1,i2,congrArg (I64 a :: ·) i3,congrArg (I64 (n:Int) :: ·) i4⟩
theorem ahN_S (k a:Int):∀ l:List (Int × Nat),ahN (ahS l a) k=ahN l k+(if a=k then 1 else 0)
 | []=>by simp [ahS,ahN]
 | (b,n) :: l=>by
  rw [ahS]
  by_cases h:b=a
  ·subst h
   rw [if_pos rfl,ahN,ahN]
   by_cases h2:b=k
   ·simp [h2]
   ·simp [h2]
  ·rw [if_neg h,ahN,ahN,ahN_S k a l]
   by_cases h2:b=k
   ·have:¬ a=k:=fun e=>h (by rw [h2,e])
    simp [h2,this]
   ·simp [h2]
theorem ahM_snoc (l:List Dc) (d:Dc):ahM (l++[d])=ahS (ahM l) d.kind:=by
 unfold ahM;rw [List.foldl_append];rfl
theorem cnD_snoc (l:List Dc) (d:Dc) (k:Int):cnD (l++[d]) k=cnD l k+(if d.kind=k then 1 else 0):=by
 unfold cnD;rw [List.countP_append];simp [List.countP_cons,List.countP_nil]
theorem ahN_fold:∀ (m:Nat) (l:List Dc),l.length<=m->∀ k,ahN (ahM l) k=cnD l k:=by
 intro m
 induction m with
 | zero =>
  intro l hl k
  have:l=[]:=List.eq_nil_of_length_eq_zero (by omega)
  subst this;rfl
 | succ m ih =>
  intro l hl k
  by_cases h:l=[]
  ·subst h;rfl
  ·obtain ⟨l',d,rfl⟩:∃ l' d,l=l'++[d]:=⟨l.dropLast,l.getLast h,(List.dropLast_concat_getLast h).symm⟩
   rw [ahM_snoc,ahN_S,cnD_snoc,ih l' (by simp at hl;omega)]
theorem ahN_cn (l:List Dc) (k:Int):ahN (ahM l) k=cnD l k:=ahN_fold _ l (Nat.le_refl _) k
theorem nmD_drop {D:List Dc} {i:Nat} {d:Dc} {l:List (List UInt8 × (Int × Int))} (h:D[i]? = some d):nmD (D.take i) l (D.drop i)=nmD (D.take (i+1)) (setM l d.name (d.kind,numM (D.take i) d)) (D.drop (i+1)):=by
 have hlt:=(List.getElem?_eq_some_iff.1 h).1
 rw [List.drop_eq_getElem_cons hlt,(List.getElem?_eq_some_iff.1 h).2,nmD,take_snoc h]
theorem nmX_drop {M:List Md} {i:Nat} {m:Md} {l:List (List UInt8 × (Int × Int))} (h:M[i]? = some m):nmX i l (M.drop i)=nmX (i+1) (setM l m.name (9,(i:Int))) (M.drop (i+1)):=by
 have hlt:=(List.getElem?_eq_some_iff.1 h).1
 rw [List.drop_eq_getElem_cons hlt,(List.getElem?_eq_some_iff.1 h).2,nmX]
theorem cnD_le (l:List Dc) (k:Int):cnD l k<=l.length:=List.countP_le_length
theorem ah_lk (k:Int) (a:List (Int × Nat)):Sym.lkV (I64 0) false (ahV a) (mfind (I64 k) (ahK a) 0)=some (I64 (ahN a k:Int)):=by
 have:=ah_step k a 0
 cases hf:mfind (I64 k) (ahK a) 0 with
 | none =>
  rw [hf] at this
  obtain ⟨h, -, -⟩:=this
  rw [h];rfl
 | some j =>
  rw [hf] at this
  obtain ⟨-,n,h1,h2, -, -⟩:=this
  rw [h2]
  simp only [Sym.lkV]
  rw [Nat.sub_zero] at h1
  rw [h1]
theorem ah_mu (k:Int) (a:List (Int × Nat)) (H:Hp) (c id u:Nat):muV H c id u (.i .i64) (ahK a) (ahV a) (I64 k) (I64 ((ahN a k:Int)+1)) (mfind (I64 k) (ahK a) 0)=some (.tup [],H.upd id ⟨u,true,[.mpc (.i .i64) (ahK (ahS a k)) (ahV (ahS a k))]⟩,c):=by
 have:=ah_step k a 0
 cases hf:mfind (I64 k) (ahK a) 0 with
 | none =>
  rw [hf] at this
  obtain ⟨h,h1,h2⟩:=this
  rw [h]
  simp only [muV]
  rw [h1]
  rw [show ((0:Nat):Int)+1=1 from rfl,h2]
 | some j =>
  rw [hf] at this
  obtain ⟨-,n,h1,h2,h3,h4⟩:=this
  rw [h2]
  simp only [muV]
  rw [Nat.sub_zero] at h3 h4
  rw [h3,h4]
end Go.Pb
namespace Go.Proofs.YtnmkkggfgdfmeaaGreatDoor
open Go.Eng (IC IOper DReg IFn IsFn)
open Go.Sym Go.Pb
abbrev mapB (l:List (List UInt8 × (Int × Int))):Blk:=⟨0,true,[.mpc .s (mkK (meaL l)) (mvV (meaL l))]⟩
theorem c_set (n:List UInt8) (q:Int × Int) (l:List (List UInt8 × (Int × Int))) (H:Hp) (cc b t:Nat) (hb:H b=some ⟨0,true,[.mid t]⟩) (ht:H t=some (mapB l)) (hbc:b<cc) (htc:t<cc) :
  AC Tryz.prog 85 [.str n,meaV q,.ptr b 0] H cc (fun v H' c'=>v=.tup []/\H'=H.upd t (mapB (setM l n q))):=by
 refine AC.body mixedU isU85 (Nat.le_of_ble_eq_true rfl) fun hfr=>?_
 show IW Tryz.prog 18 u85_1 ⟨argT _,_,_⟩ (rt [] _)
 have hbt:b≠t:=fun e=>by rw [e,ht] at hb;cases hb
 cases hl:l.lookup n with
 | some y =>
  have hs:setM l n q=l:=by rw [setM,if_pos (by rw [hl];rfl)]
  have h1:Sym.lkV (.agg [I64 0,I64 0]) true (mvV (meaL l)) (mfind (.str n) (mkK (meaL l)) 0)=some (.tup [meaV y,.bool true]):=lk_some (ok:=true) (by rw [mea_lookup,hl];rfl)
  unfold meaV at h1 ⊢
  rw [hs,upd_same ht]
  have ne0:=nes4 b t cc (cc+1) (by omega)
  repeat' ((with_reducible first|refine wr ?_|fail)<;>try simp only [go_sem,seval,hb,ht,h1,ne0,h_same,h_upd2])
  refine ⟨_,_,GL.less' fun j b hj=>?_,rfl,rfl⟩
  have:=ne_own hfr hj
  have h2:j≠cc+1:=by rintro rfl;rw [hfr _ (by omega)] at hj;cases hj
  rw [h_ne h2,h_ne this];exact hj
 | none =>
  have hs:setM l n q=l++[(n,q)]:=by rw [setM,if_neg (by rw [hl];simp)]
  have hl':(meaL l).lookup n=none:=by rw [mea_lookup,hl];rfl
  have h1:Sym.lkV (.agg [I64 0,I64 0]) true (mvV (meaL l)) (mfind (.str n) (mkK (meaL l)) 0)=some (.tup [.agg [I64 0,I64 0],.bool false]):=lk_none (ok:=true) hl'
  have h2:=mf_none hl'
  have e1:mkK (meaL (l++[(n,q)]))=mkK (meaL l)++[.str n]:=by simp [mkK,meaL]
  have e2:mvV (meaL (l++[(n,q)]))=mvV (meaL l)++[meaV q]:=by simp [mvV,meaL]
  unfold meaV at e2 ⊢
  rw [hs]
  unfold mapB
  rw [e1,e2]
  have ne0:=nes4 b t cc (cc+1) (by omega)
  repeat' ((with_reducible first|refine wr ?_|fail)<;>try simp only [go_sem,seval,hb,ht,h1,h2,ne0,h_same,h_upd2])
  refine ⟨_,_,GL.less' fun j b hj=>?_,rfl,rfl⟩
  by_cases e:j=t
  ·subst e;rw [h_same] at hj ⊢;exact hj
  ·rw [h_ne e] at hj ⊢
   have:=ne_own hfr hj
   have h2:j≠cc+1:=by rintro rfl;rw [hfr _ (by omega)] at hj;cases hj
   rw [h_ne h2,h_ne this];exact hj
def nmH (D:List Dc) (M:List Md) (l:List (List UInt8 × (Int × Int))) (a:List (Int × Nat)):Hp:=(((Sym.nil.upd 0 ⟨0,true,[dcsV D,mdsV M]⟩).upd 1 (mapB l)).upd 2 ⟨0,true,[.mid 1]⟩).upd 3 ⟨0,true,[.mpc (.i .i64) (ahK a) (ahV a)]⟩
section
variable {D:List Dc} {M:List Md} {l:List (List UInt8 × (Int × Int))} {a:List (Int × Nat)}
theorem nmH0:nmH D M l a 0=some ⟨0,true,[dcsV D,mdsV M]⟩:=rfl
theorem nmH1:nmH D M l a 1=some (mapB l):=rfl
theorem nmH2:nmH D M l a 2=some ⟨0,true,[.mid 1]⟩:=rfl
theorem nmH3:nmH D M l a 3=some ⟨0,true,[.mpc (.i .i64) (ahK a) (ahV a)]⟩:=rfl
theorem nmHn (j:Nat) (h:4<=j):nmH D M l a j=none:=by
 unfold nmH;rw [h_ne (by omega),h_ne (by omega),h_ne (by omega),h_ne (by omega)];rfl
theorem nm_sub {H:Hp} (h0:H 0=some ⟨0,true,[dcsV D,mdsV M]⟩) (h1:H 1=some (mapB l)) (h2:H 2=some ⟨0,true,[.mid 1]⟩) (h3:H 3=some ⟨0,true,[.mpc (.i .i64) (ahK a) (ahV a)]⟩):Sym.Sub (nmH D M l a) H:=by
 intro j b hj
 have hlt:j<4:=Nat.lt_of_not_le fun h=>by rw [nmHn j h] at hj;cases hj
 match j,hlt with
 | 0,_=>rw [h0];exact hj
 | 1,_=>rw [h1];exact hj
 | 2,_=>rw [h2];exact hj
 | 3,_=>rw [h3];exact hj
end
theorem nmV_nl (r:Ru):(nmV r).nl=true:=by
 unfold nmV mkK mvV meaL
 simp only [DV.nl]
 rw [List.map_map,List.map_map]
 rw [show ((fun p:List UInt8 × DV=>DV.str p.1)∘fun p:List UInt8 × (Int × Int)=>(p.1,meaV p.2))=fun p=>DV.str p.1 from rfl,show ((fun p:List UInt8 × DV=>p.2)∘fun p:List UInt8 × (Int × Int)=>(p.1,meaV p.2))=fun p=>meaV p.2 from rfl]
 rw [nlL_map (fun _=>rfl),nlL_map (fun _=>rfl)];rfl
theorem box_mnil:boxR (inj (Value.map none))=some (none,⟨0,true,[.mnil]⟩):=rfl
theorem c_names (r:Ru) (h1:r.decls.length<=1000000000) (h2:r.modes.length<=1000000000):PC Tryz.prog 41 [r.v] (nmV r):=by
 refine PC.of mixedU isU41 (Nat.le_of_ble_eq_true rfl) (by simp [Ru.v,DV.nlL,DV.nl,nlL_dcs,nlL_mds]) (nmV_nl _) ?_
 obtain ⟨R,hR⟩:∃ R,R=nmL r:=⟨_,rfl⟩
 unfold nmV
 rw [<- hR]
 unfold nmL at hR
 obtain ⟨D,M⟩:=r
 dsimp only at h1 h2 hR
 dsimp only [Ru.v]
 show IW Tryz.prog 71 u41_1 ⟨argT _,_,_⟩ (rt [.tmp 2] _)
 repeat' ((with_reducible first|refine wr ?_|fail)<;>try simp only [go_sem,seval,box_mnil])
 refine i_loop (fun q:Nat × List (List UInt8 × (Int × Int))=>[(1,.ptr 0 0),(3,.ptr 2 0),(4,.mid 3),(5,.func 85 [] [.ptr 2 0]),(15,dcsV D),(16,I64 D.length),(17,I64 q.1)]) (fun q=>nmH D M q.2 (ahM (D.take q.1)))
  (fun q c=>4<=c/\q.1<=D.length/\nmD [] [] D=nmD (D.take q.1) q.2 (D.drop q.1)) (fun q=>D.length-q.1) (0,[])
  (by simp [tmLe,tm,Tm.upd]) (nm_sub rfl rfl rfl rfl) ⟨by omega,Nat.zero_le _,rfl⟩ ?_
 rintro ⟨i,l⟩ c ⟨h1c,hk,he⟩
 dsimp only at hk he ⊢
 by_cases hlt:i<D.length
 ·have hd:decide ((i:Int)<D.length)=true:=by simpa using hlt
  have hg:=List.getElem?_eq_getElem hlt
  have hw:=w64 (n:=(i:Int)+1) (by omega) (by omega)
  rw [nmD_drop hg] at he
  have hah:ahM (D.take (i+1))=ahS (ahM (D.take i)) D[i].kind:=by rw [List.take_add_one,hg];exact ahM_snoc _ _
  have hlk:=ah_lk D[i].kind (ahM (D.take i))
  have hmu:=ah_mu D[i].kind (ahM (D.take i))
  have hcn:=ahN_cn (D.take i) D[i].kind
  have hcl:=cnD_le (D.take i) D[i].kind
  rw [List.length_take] at hcl
  generalize D[i]=d at hg he hah hlk hmu hcn hcl
  rw [hcn] at hlk hmu
  have hw2:=w64 (n:=(cnD (D.take i) d.kind:Int)+1) (by omega) (by omega)
  have hb0:nmH D M l (ahM (D.take i)) 0=_:=nmH0
  have hb1:nmH D M l (ahM (D.take i)) 1=_:=nmH1
  have hb2:nmH D M l (ahM (D.take i)) 2=_:=nmH2
  have hb3:nmH D M l (ahM (D.take i)) 3=_:=nmH3
  have hbn:∀ j,4<=j->nmH D M l (ahM (D.take i)) j=none:=fun j=>nmHn j
  generalize nmH D M l (ahM (D.take i))=HH at hb0 hb1 hb2 hb3 hbn ⊢
  have ne0:=nes6 0 1 2 3 c (c+1) (by omega)
  by_cases hkk:d.kind=6\/d.kind=7\/d.kind=8
  ·have hnum:numM (D.take i) d=(cnD (D.take i) d.kind:Int):=by rw [numM,if_pos hkk]
   rw [hnum] at he
   by_cases k6:d.kind=6
   ·have k6:(d.kind == 6)=true:=by simpa using k6
    repeat' ((with_reducible first|refine wr ?_|fail)<;>try simp only [go_sem,seval,hb0,hb1,hb2,hb3,hd,hg,hw,hw2,hlk,hmu,k6,dc_w,List.length_map,ne0,h_same,h_upd2])
    refine AC.call (c_set d.name (d.kind,(cnD (D.take i) d.kind:Int)) l _ _ 2 1 (by rw [h_ne (by omega),h_ne (by omega),h_ne (by omega)];exact hb2) (by rw [h_ne (by omega),h_ne (by omega),h_ne (by omega)];exact hb1) (by omega) (by omega)) ?_
    rintro v H' c' ⟨rfl,rfl⟩ hcc
    simp only [go_sem,seval,hw]
    repeat' ((with_reducible first|refine wr ?_|fail)<;>try simp only [go_sem,seval,hw])
    refine ⟨(i+1,setM l d.name (d.kind,(cnD (D.take i) d.kind:Int))),by simp [tmLe,tm,Tm.upd],?_,inv ⟨by omega,by omega,he⟩,by simp only;omega⟩
    dsimp only
    rw [hah]
    refine nm_sub ?_ h_same ?_ ?_
    ·rw [h_ne (by omega),h_ne (by omega),h_ne (by omega),h_ne (by omega)];exact hb0
    ·rw [h_ne (by omega),h_ne (by omega),h_ne (by omega),h_ne (by omega)];exact hb2
    ·rw [h_ne (by omega),h_same]
   have k6:(d.kind == 6)=false:=by simpa using k6
   by_cases k7:d.kind=7
   ·have k7:(d.kind == 7)=true:=by simpa using k7
    repeat' ((with_reducible first|refine wr ?_|fail)<;>try simp only [go_sem,seval,hb0,hb1,hb2,hb3,hd,hg,hw,hw2,hlk,hmu,k6,k7,dc_w,List.length_map,ne0,h_same,h_upd2])
    refine AC.call (c_set d.name (d.kind,(cnD (D.take i) d.kind:Int)) l _ _ 2 1 (by rw [h_ne (by omega),h_ne (by omega),h_ne (by omega)];exact hb2) (by rw [h_ne (by omega),h_ne (by omega),h_ne (by omega)];exact hb1) (by omega) (by omega)) ?_
    rintro v H' c' ⟨rfl,rfl⟩ hcc
    simp only [go_sem,seval,hw]
    repeat' ((with_reducible first|refine wr ?_|fail)<;>try simp only [go_sem,seval,hw])
    refine ⟨(i+1,setM l d.name (d.kind,(cnD (D.take i) d.kind:Int))),by simp [tmLe,tm,Tm.upd],?_,inv ⟨by omega,by omega,he⟩,by simp only;omega⟩
    dsimp only
    rw [hah]
    refine nm_sub ?_ h_same ?_ ?_
    ·rw [h_ne (by omega),h_ne (by omega),h_ne (by omega),h_ne (by omega)];exact hb0
    ·rw [h_ne (by omega),h_ne (by omega),h_ne (by omega),h_ne (by omega)];exact hb2
    ·rw [h_ne (by omega),h_same]
   have k7:(d.kind == 7)=false:=by simpa using k7
   have k8:(d.kind == 8)=true:=by simp at k6 k7 ⊢;omega
   repeat' ((with_reducible first|refine wr ?_|fail)<;>try simp only [go_sem,seval,hb0,hb1,hb2,hb3,hd,hg,hw,hw2,hlk,hmu,k6,k7,k8,dc_w,List.length_map,ne0,h_same,h_upd2])
   refine AC.call (c_set d.name (d.kind,(cnD (D.take i) d.kind:Int)) l _ _ 2 1 (by rw [h_ne (by omega),h_ne (by omega),h_ne (by omega)];exact hb2) (by rw [h_ne (by omega),h_ne (by omega),h_ne (by omega)];exact hb1) (by omega) (by omega)) ?_
   rintro v H' c' ⟨rfl,rfl⟩ hcc
   simp only [go_sem,seval,hw]
   repeat' ((with_reducible first|refine wr ?_|fail)<;>try simp only [go_sem,seval,hw])
   refine ⟨(i+1,setM l d.name (d.kind,(cnD (D.take i) d.kind:Int))),by simp [tmLe,tm,Tm.upd],?_,inv ⟨by omega,by omega,he⟩,by simp only;omega⟩
   dsimp only
   rw [hah]
   refine nm_sub ?_ h_same ?_ ?_
   ·rw [h_ne (by omega),h_ne (by omega),h_ne (by omega),h_ne (by omega)];exact hb0
   ·rw [h_ne (by omega),h_ne (by omega),h_ne (by omega),h_ne (by omega)];exact hb2
   ·rw [h_ne (by omega),h_same]
  ·have hnum:numM (D.take i) d=d.value:=by rw [numM,if_neg hkk]
   rw [hnum] at he
   have k6:(d.kind == 6)=false:=by simp;omega
   have k7:(d.kind == 7)=false:=by simp;omega
   have k8:(d.kind == 8)=false:=by simp;omega
   repeat' ((with_reducible first|refine wr ?_|fail)<;>try simp only [go_sem,seval,hb0,hb1,hb2,hb3,hd,hg,hw,hw2,hlk,hmu,k6,k7,k8,dc_w,List.length_map,ne0,h_same,h_upd2])
   refine AC.call (c_set d.name (d.kind,d.value) l _ _ 2 1 (by rw [h_ne (by omega),h_ne (by omega),h_ne (by omega)];exact hb2) (by rw [h_ne (by omega),h_ne (by omega),h_ne (by omega)];exact hb1) (by omega) (by omega)) ?_
   rintro v H' c' ⟨rfl,rfl⟩ hcc
   simp only [go_sem,seval,hw]
   repeat' ((with_reducible first|refine wr ?_|fail)<;>try simp only [go_sem,seval,hw])
   refine ⟨(i+1,setM l d.name (d.kind,d.value)),by simp [tmLe,tm,Tm.upd],?_,inv ⟨by omega,by omega,he⟩,by simp only;omega⟩
   dsimp only
   rw [hah]
   refine nm_sub ?_ h_same ?_ ?_
   ·rw [h_ne (by omega),h_ne (by omega),h_ne (by omega),h_ne (by omega)];exact hb0
   ·rw [h_ne (by omega),h_ne (by omega),h_ne (by omega),h_ne (by omega)];exact hb2
   ·rw [h_ne (by omega),h_same]
 have hd:decide ((i:Int)<D.length)=false:=by simpa using hlt
 rw [List.drop_of_length_le (by omega),nmD] at he
 rw [he] at hR
 repeat' ((with_reducible first|refine wr ?_|fail)<;>try simp only [go_sem,seval,hd,List.length_map,nmH0,nmH1,nmH2,nmH3])
 clear he hd hlt hk
 generalize ahM (D.take i)=A
 clear i
 refine i_loop (fun q:Nat × List (List UInt8 × (Int × Int))=>[(3,.ptr 2 0),(5,.func 85 [] [.ptr 2 0]),(56,mdsV M),(57,I64 M.length),(58,I64 q.1)]) (fun q=>nmH D M q.2 A)
  (fun q c=>4<=c/\q.1<=M.length/\R=nmX q.1 q.2 (M.drop q.1)) (fun q=>M.length-q.1) (0,l)
  (by simp [tmLe,tm,Tm.upd]) (Sub.refl _) ⟨h1c,Nat.zero_le _,hR⟩ ?_
 clear hR h1c c l
 rintro ⟨i,l⟩ c ⟨h1c,hk,he⟩
 dsimp only at hk he ⊢
 by_cases hlt:i<M.length
 ·have hd:decide ((i:Int)<M.length)=true:=by simpa using hlt
  have hg:=List.getElem?_eq_getElem hlt
  have hw:=w64 (n:=(i:Int)+1) (by omega) (by omega)
  rw [nmX_drop hg] at he
  generalize M[i]=d at hg he
  have hb0:nmH D M l A 0=_:=nmH0
  have hb1:nmH D M l A 1=_:=nmH1
  have hb2:nmH D M l A 2=_:=nmH2
  have hb3:nmH D M l A 3=_:=nmH3
  have hbn:∀ j,4<=j->nmH D M l A j=none:=fun j=>nmHn j
  generalize nmH D M l A=HH at hb0 hb1 hb2 hb3 hbn ⊢
  have ne0:=nes6 0 1 2 3 c (c+1) (by omega)
  repeat' ((with_reducible first|refine wr ?_|fail)<;>try simp only [go_sem,seval,hb0,hb1,hb2,hb3,hd,hg,hw,md_w,List.length_map,ne0,h_same,h_upd2])
  refine AC.call (c_set d.name (9,(i:Int)) l _ _ 2 1 (by rw [h_ne (by omega)];exact hb2) (by rw [h_ne (by omega)];exact hb1) (by omega) (by omega)) ?_
  rintro v H' c' ⟨rfl,rfl⟩ hcc
  simp only [go_sem,seval,hw]
  repeat' ((with_reducible first|refine wr ?_|fail)<;>try simp only [go_sem,seval,hw])
  refine ⟨(i+1,setM l d.name (9,(i:Int))),by simp [tmLe,tm,Tm.upd],?_,inv ⟨by omega,by omega,he⟩,by simp only;omega⟩
  refine nm_sub ?_ h_same ?_ ?_
  ·rw [h_ne (by omega),h_ne (by omega)];exact hb0
  ·rw [h_ne (by omega),h_ne (by omega)];exact hb2
  ·rw [h_ne (by omega),h_ne (by omega)];exact hb3
 have hd:decide ((i:Int)<M.length)=false:=by simpa using hlt
 rw [List.drop_of_length_le (by omega),nmX] at he
 subst he
 have hb2:nmH D M R A 2=_:=nmH2
 repeat' ((with_reducible first|refine wr ?_|fail)<;>try simp only [go_sem,seval,hd,List.length_map,hb2])
 exact pc_map nmH1
end Go.Proofs.YtnmkkggfgdfmeaaGreatDoor
namespace Go.Pb
variable [Go.Sym.Tab]
open Go.Sym
def KdOk (l:List Dc):Prop:=∀ d∈l,1<=d.kind/\d.kind<=8
theorem vld_kd {r:Ru} (h:vldM r=true):KdOk r.decls:=by
 intro d hd
 unfold vldM at h
 simp only [Bool.and_eq_true] at h
 have h1:=List.all_eq_true.1 h.1.2 d hd
 unfold vlDc at h1
 simp only [Bool.and_eq_true,decide_eq_true_eq] at h1
 exact ⟨h1.1.1.1.1,h1.1.1.1.2⟩
theorem set_lookup (l:List (List UInt8 × (Int × Int))) (a n:List UInt8) (q:Int × Int):(setM l a q).lookup n=(l.lookup n).or (if n == a then some q else none):=by
 unfold setM
 split
 ·rename_i h
  cases hn:n == a with
  | false=>simp
  | true =>
   have e:n=a:=by simpa using hn
   subst e
   cases hl:l.lookup n with
   | none=>rw [hl] at h;cases h
   | some x=>rfl
 ·exact lookup_snoc n a q l
theorem nmX_lookup (n:List UInt8):∀ (M:List Md) (i:Nat) (l:List (List UInt8 × (Int × Int))),(nmX i l M).lookup n=(l.lookup n).or (lkM i M n)
 | [],i,l=>by rw [nmX,lkM,Option.or_none]
 | m :: M,i,l=>by
  rw [nmX,nmX_lookup n M,set_lookup,lkM,Option.or_assoc]
  by_cases h:m.name=n
  ·rw [if_pos h,if_pos (by simp [h])];rfl
  ·rw [if_neg h,if_neg (by simp;exact fun e=>h e.symm)];rfl
theorem nmD_lookup (n:List UInt8):∀ (D pre:List Dc) (l:List (List UInt8 × (Int × Int))),KdOk D->(nmD pre l D).lookup n=(l.lookup n).or (lkD pre D n)
 | [],pre,l,_=>by rw [nmD,lkD,Option.or_none]
 | d :: D,pre,l,hk=>by
  obtain ⟨k1,k2⟩:=hk d List.mem_cons_self
  rw [nmD,nmD_lookup n D _ _ (fun x hx=>hk x (List.mem_cons_of_mem _ hx)),set_lookup,lkD,Option.or_assoc]
  by_cases h:d.name=n
  ·rw [if_pos h,if_pos (by simp [h])]
   have e:numM pre d=(if d.kind<6 then d.value else (cnR ⟨pre,[]⟩ d.kind:Int)):=by
    unfold numM cnR
    by_cases h6:d.kind<6
    ·rw [if_pos h6,if_neg (by omega)]
    ·rw [if_neg h6,if_pos (by omega),if_neg (by omega)]
   rw [e];rfl
  ·rw [if_neg h,if_neg (by simp;exact fun e=>h e.symm)];rfl
theorem nm_lookup {r:Ru} (hk:KdOk r.decls) (n:List UInt8):(nmL r).lookup n=(lkD [] r.decls n).or (lkM 0 r.modes n):=by
 unfold nmL
 rw [nmX_lookup,nmD_lookup n _ _ _ hk]
 simp
theorem lok_or (r:Ru) (n:List UInt8):lokR r n=((lkD [] r.decls n).or (lkM 0 r.modes n)).getD (0,0):=by
 unfold lokR
 cases lkD [] r.decls n with
 | some q=>rfl
 | none =>
  cases lkM 0 r.modes n with
  | some q=>rfl
  | none=>rfl
theorem lkD_nz {n:List UInt8}:∀ {D pre:List Dc} {q:Int × Int},KdOk D->lkD pre D n=some q->q.1≠0
 | d :: D,pre,q,hk,h=>by
  rw [lkD] at h
  split at h
  ·cases h;have:=hk d List.mem_cons_self;show d.kind≠0;omega
  ·exact lkD_nz (fun x hx=>hk x (List.mem_cons_of_mem _ hx)) h
theorem lkM_nz {n:List UInt8}:∀ {M:List Md} {i:Nat} {q:Int × Int},lkM i M n=some q->q.1≠0
 | m :: M,i,q,h=>by
  rw [lkM] at h
  split at h
  ·cases h;show (9:Int)≠0;decide
  ·exact lkM_nz h
theorem nm_some {r:Ru} (hk:KdOk r.decls) {n:List UInt8} {q:Int × Int} (h:(nmL r).lookup n=some q):lokR r n=q/\q.1≠0:=by
 rw [nm_lookup hk] at h
 rw [lok_or,h]
 refine ⟨rfl,?_⟩
 cases hd:lkD [] r.decls n with
 | some p=>rw [hd] at h;cases h;exact lkD_nz hk hd
 | none=>rw [hd] at h;exact lkM_nz h
theorem nm_none {r:Ru} (hk:KdOk r.decls) {n:List UInt8} (h:(nmL r).lookup n=none):lokR r n=(0,0):=by
 rw [nm_lookup hk] at h
 rw [lok_or,h];rfl
def upS (s:Int × Int) (o:Er):Int × Int:=if s.2=0 then o.getD s else s
theorem upS_or {s:Int × Int} {a b:Er} (ha:NzE a):upS (upS s a) b=upS s (a.or b):=by
 unfold upS
 by_cases h:s.2=0
 ·cases a with
  | none=>simp [h]
  | some q =>
   have:=ha q.1 q.2 rfl
   simp [h,this]
 ·simp [h]
theorem upS_none (s:Int × Int):upS s none=s:=by unfold upS;split<;>rfl
theorem upS_idem (s:Int × Int) (p e:Int) (h:e≠0):upS (upS s (some (p,e))) (some (p,e))=upS s (some (p,e)):=by
 rw [upS_or (fun a b hq=>by cases hq;exact h)];rfl
def truM (k:Int):Bool:=(k == 3 || k == 4 || k == 5 || k == 6 || k == 11 || k == 23 || k == 24) || (decide (17<=k) && decide (k<=22))
theorem tru_bol {k:Int} (h:k<=24):truM k=bolM k:=by
 unfold truM bolM
 rw [Bool.eq_iff_iff]
 simp only [Bool.or_eq_true,Bool.and_eq_true,beq_iff_eq,decide_eq_true_eq]
 omega
theorem ms_kind {e:Ex} {q:Nat × Nat} (h:msM e=some q):e.kind<=24:=by
 cases e with|mk k v n a p =>
 obtain ⟨o,d⟩:=q
 obtain ⟨m1, -⟩:=ms_inv h
 show k<=24
 unfold kOk at m1
 simp only [Bool.or_eq_true,Bool.and_eq_true,decide_eq_true_eq] at m1
 rcases m1 with m1|m1
 ·have:=lev_lt m1;omega
 ·exact m1.2
theorem lok_pre (D:List Dc) (M:List Md) (n:List UInt8) (hk:KdOk D):(lokR ⟨D,M⟩ n).1=0↔D.any (fun d=>d.name == n)=false/\M.any (fun d=>d.name == n)=false:=by
 have hD:∀ (D pre:List Dc),lkD pre D n=none↔D.any (fun d=>d.name == n)=false:=by
  intro D
  induction D with
  | nil=>intro pre;simp [lkD]
  | cons d D ih =>
   intro pre
   rw [lkD]
   by_cases h:d.name=n
   ·rw [if_pos h];simp [h]
   ·rw [if_neg h,ih];simp [h]
 have hM:∀ (M:List Md) (i:Nat),lkM i M n=none↔M.any (fun d=>d.name == n)=false:=by
  intro M
  induction M with
  | nil=>intro pre;simp [lkM]
  | cons d D ih =>
   intro pre
   rw [lkM]
   by_cases h:d.name=n
   ·rw [if_pos h];simp [h]
   ·rw [if_neg h,ih];simp [h]
 rw [lok_or, <- hD D [], <- hM M 0]
 dsimp only
 cases h1:lkD [] D n with
 | some q =>
  have:=lkD_nz hk h1
  simp [this]
 | none =>
  cases h2:lkM 0 M n with
  | some q =>
   have:=lkM_nz h2
   simp [this]
  | none=>simp
theorem erEs_take {r:Ru} {x:Ex}:∀ {l:List Ex} {i:Nat},l[i]? = some x->erEs r (l.take (i+1))=(erEs r (l.take i)).or (erE r x)
 | y :: l,0,h=>by cases h;simp [erEs]
 | y :: l,i+1,h=>by
  rw [List.take_succ_cons,List.take_succ_cons,erEs,erEs,erEs_take (by simpa using h),Option.or_assoc]
theorem erA_take {r:Ru} {b:Bool} {x:Ex}:∀ {l:List Ex} {i:Nat},l[i]? = some x->erA r b (l.take (i+1))=(erA r b (l.take i)).or ((erE r x).or (if (typM x.kind == 2)=b then none else some (x.pos,49)))
 | y :: l,0,h=>by cases h;simp [erA]
 | y :: l,i+1,h=>by
  rw [List.take_succ_cons,List.take_succ_cons,erA,erA,erA_take (by simpa using h)];simp only [Option.or_assoc]
theorem erB_take {r:Ru} {x:St}:∀ {l:List St} {i:Nat},l[i]? = some x->erB r (l.take (i+1))=(erB r (l.take i)).or (erS r x)
 | y :: l,0,h=>by cases h;simp [erB]
 | y :: l,i+1,h=>by
  rw [List.take_succ_cons,List.take_succ_cons,erB,erB,erB_take (by simpa using h),Option.or_assoc]
theorem erE_e (r:Ru) (e:Ex):erE r e=((erEs r e.args).or (dnE r e.name (kdE e.kind) e.pos)).or (if e.args.all (fun x=>typM x.kind == wntM e.kind e.args)=true then none else some (e.pos,49)):=by
 cases e with|mk k v n a p=>rw [erE];rfl
def stD (pre:List Dc) (d:Dc):Er:=(if d.value>mstM d.kind then some (d.pos,5) else none:Er).or (if (lokR ⟨pre,[]⟩ d.name).1=0 then none else some (d.pos,7))
def stP (D:List Dc) (pre:List Md) (m:Md):Er:=(if m.prio>99 then some (m.pos,5) else none:Er).or (if (lokR ⟨D,pre⟩ m.name).1=0 then none else some (m.pos,7))
theorem erD_snoc (d:Dc):∀ (l pre:List Dc),erD pre (l++[d])=(erD pre l).or (stD (pre++l) d)
 | [],pre=>by rw [List.nil_append,erD,erD,erD,List.append_nil,Option.or_none,Option.none_or];rfl
 | x :: l,pre=>by rw [List.cons_append,erD,erD,erD_snoc d l,List.append_assoc];simp only [Option.or_assoc];rfl
theorem erP_snoc (D:List Dc) (m:Md):∀ (l pre:List Md),erP D pre (l++[m])=(erP D pre l).or (stP D (pre++l) m)
 | [],pre=>by rw [List.nil_append,erP,erP,erP,List.append_nil,Option.or_none,Option.none_or];rfl
 | x :: l,pre=>by rw [List.cons_append,erP,erP,erP_snoc D m l,List.append_assoc];simp only [Option.or_assoc];rfl
theorem erD_take {D:List Dc} {i:Nat} {d:Dc} (h:D[i]? = some d):erD [] (D.take (i+1))=(erD [] (D.take i)).or (stD (D.take i) d):=by
 rw [<- take_snoc h,erD_snoc];rfl
theorem erP_take {D:List Dc} {M:List Md} {i:Nat} {m:Md} (h:M[i]? = some m):erP D [] (M.take (i+1))=(erP D [] (M.take i)).or (stP D (M.take i) m):=by
 rw [<- take_snoc h,erP_snoc];rfl
def seeL (l:List (List UInt8)):List (List UInt8 × DV):=l.map fun n=>(n,DV.bool true)
theorem see_lookup (n:List UInt8):∀ l:List (List UInt8),(seeL l).lookup n=if l.contains n=true then some (DV.bool true) else none
 | []=>rfl
 | a :: l=>by
  show ((a,DV.bool true) :: seeL l).lookup n=_
  rw [List.lookup_cons,see_lookup n l,List.contains_cons]
  cases n == a<;>simp
def seeS (l:List (List UInt8)) (n:List UInt8):List (List UInt8):=if l.contains n=true then l else l++[n]
theorem seeS_has (l:List (List UInt8)) (n m:List UInt8):(seeS l n).contains m=(l.contains m || m == n):=by
 unfold seeS
 split
 ·rename_i h
  cases hm:m == n with
  | false=>rw [Bool.or_false]
  | true =>
   have e:m=n:=by simpa using hm
   rw [e,h];rfl
 ·rw [Bool.eq_iff_iff]
  simp
theorem mset_same {n:List UInt8}:∀ (l:List (List UInt8)) (i j:Nat),mfind (.str n) (mkK (seeL l)) i=some j->(mkK (seeL l)).set (j-i) (.str n)=mkK (seeL l)/\(mvV (seeL l)).set (j-i) (.bool true)=mvV (seeL l)
 | [],i,j,h=>by cases h
 | a :: l,i,j,h=>by
  have h:mfind (.str n) (.str a :: mkK (seeL l)) i=some j:=h
  rw [mfind,keyEq_str] at h
  cases ha:n == a with
  | true =>
   rw [ha] at h
   cases h
   have e:n=a:=by simpa using ha
   subst e
   rw [Nat.sub_self]
   exact ⟨rfl,rfl⟩
  | false =>
   rw [ha] at h
   dsimp only at h
   have hlt:=mfind_lt h
   obtain ⟨h1,h2⟩:=mset_same l (i+1) j h
   have ej:j-i=(j-(i+1))+1:=by omega
   rw [ej]
   exact ⟨congrArg (DV.str a :: ·) h1,congrArg (DV.bool true :: ·) h2⟩
theorem see_mu (n:List UInt8) (l:List (List UInt8)) (H:Hp) (c id u:Nat):muV H c id u .s (mkK (seeL l)) (mvV (seeL l)) (.str n) (.bool true) (mfind (.str n) (mkK (seeL l)) 0)=some (.tup [],H.upd id ⟨u,true,[.mpc .s (mkK (seeL (seeS l n))) (mvV (seeL (seeS l n)))]⟩,c):=by
 have hl:=see_lookup n l
 have hf:=mfind_lkp (n:=n) (seeL l) 0
 cases hm:mfind (.str n) (mkK (seeL l)) 0 with
 | none =>
  rw [hm] at hf
  rw [hf] at hl
  have hc:l.contains n=false:=by
   cases h:l.contains n with
   | false=>rfl
   | true=>rw [h] at hl;cases hl
  have e:seeS l n=l++[n]:=by unfold seeS;rw [if_neg (by rw [hc];decide)]
  rw [e]
  simp only [muV]
  have e1:mkK (seeL (l++[n]))=mkK (seeL l)++[.str n]:=by simp [mkK,seeL]
  have e2:mvV (seeL (l++[n]))=mvV (seeL l)++[.bool true]:=by simp [mvV,seeL]
  rw [e1,e2]
 | some j =>
  rw [hm] at hf
  obtain ⟨-,x, -,h3⟩:=hf
  rw [h3] at hl
  have hc:l.contains n=true:=by
   cases h:l.contains n with
   | true=>rfl
   | false=>rw [h] at hl;simp at hl
  have e:seeS l n=l:=by unfold seeS;rw [if_pos hc]
  rw [e]
  simp only [muV]
  obtain ⟨h1,h2⟩:=mset_same l 0 j hm
  rw [Nat.sub_zero] at h1 h2
  rw [h1,h2]
theorem see_lk (n:List UInt8) (l:List (List UInt8)):Sym.lkV (.bool false) false (mvV (seeL l)) (mfind (.str n) (mkK (seeL l)) 0)=some (.bool (l.contains n)):=by
 cases h:l.contains n with
 | true=>exact lk_some (ok:=false) (by rw [see_lookup,if_pos h])
 | false=>exact lk_none (ok:=false) (by rw [see_lookup,if_neg (by rw [h];decide)])
def stH (r:Ru) (pre:List Hd) (h:Hd):Er:=((dnE r h.name (kdH h.trig) h.pos).or (if pre.any (fun x=>x.trig == h.trig && x.name == h.name)=true then some (h.pos,7) else none)).or (erB r h.body)
theorem erH_snoc (r:Ru) (h:Hd):∀ (l pre:List Hd),erH r pre (l++[h])=(erH r pre l).or (stH r (pre++l) h)
 | [],pre=>by rw [List.nil_append,erH,erH,erH,List.append_nil,Option.or_none,Option.none_or];rfl
 | x :: l,pre=>by rw [List.cons_append,erH,erH,erH_snoc r h l,List.append_assoc];simp only [Option.or_assoc];rfl
theorem erH_take {r:Ru} {l:List Hd} {i:Nat} {h:Hd} (hg:l[i]? = some h):erH r [] (l.take (i+1))=(erH r [] (l.take i)).or (stH r (l.take i) h):=by
 rw [<- take_snoc hg,erH_snoc];rfl
theorem erM_take {r:Ru} {x:Md}:∀ {l:List Md} {i:Nat},l[i]? = some x->erM r (l.take (i+1))=(erM r (l.take i)).or (erH r [] x.hds)
 | y :: l,0,h=>by cases h;simp [erM]
 | y :: l,i+1,h=>by
  rw [List.take_succ_cons,List.take_succ_cons,erM,erM,erM_take (by simpa using h),Option.or_assoc]
theorem erV_up (e:Er):erV e=.tup [I64 (upS (0,0) e).1,I64 (upS (0,0) e).2]:=by
 cases e<;>rfl
end Go.Pb
namespace Go.Proofs.YtnmkkggfgdfmeaaGreatDoor
open Go.Eng (IC IOper DReg IFn IsFn)
open Go.Sym Go.Pb
def ckB (r:Ru) (s:Int × Int):Blk:=⟨0,true,[nmV r,I64 s.1,I64 s.2]⟩
theorem dn_ok {r:Ru} {n:List UInt8} {k p:Int} (h:k=0\/(lokR r n).1=k):dnE r n k p=none:=by unfold dnE dnM;rw [if_pos h];rfl
theorem dn_ms {r:Ru} {n:List UInt8} {k p:Int} (h:¬ (k=0\/(lokR r n).1=k)) (h2:(lokR r n).1=0):dnE r n k p=some (p,8):=by unfold dnE dnM;rw [if_neg h,if_pos h2];rfl
theorem dn_kd {r:Ru} {n:List UInt8} {k p:Int} (h:¬ (k=0\/(lokR r n).1=k)) (h2:¬ (lokR r n).1=0):dnE r n k p=some (p,44):=by unfold dnE dnM;rw [if_neg h,if_neg h2];rfl
theorem gl_ownt {H:Hp} {cc t:Nat} {b b':Blk} {ds:List DV} (hfr:∀ i,cc<=i->H i=none) (htc:t<cc):GL ((H.upd cc b).upd t b') ds (H.upd t b') ds:=GL.less' fun j q hj=>by
 by_cases e:j=t
 ·subst e;rw [h_same] at hj ⊢;exact hj
 ·rw [h_ne e] at hj ⊢;rw [h_ne (ne_own hfr hj)];exact hj
theorem c_inE32 (k:Int):PC Tryz.prog 96 [I64 k] (I64 (kdE k)):=by
 refine PC.of mixedU isU96 (Nat.le_of_ble_eq_true rfl) (by simp [DV.nlL,DV.nl]) (by simp [DV.nlL,DV.nl]) ?_
 show IW Tryz.prog 12 u96_1 ⟨argT _,_,_⟩ (rt [.tmp 2] _)
 repeat' ((with_reducible first|refine wr ?_|refine wb2 ?_ ?_<;>(intro hb;try simp only [hb])|fail)<;>try simp only [go_sem,seval])
 all_goals (refine pc_ret (congrArg I64 ?_);simp_all [kdE])
theorem c_inS32 (k:Int):PC Tryz.prog 89 [I64 k] (I64 (kdS k)):=by
 refine PC.of mixedU isU89 (Nat.le_of_ble_eq_true rfl) (by simp [DV.nlL,DV.nl]) (by simp [DV.nlL,DV.nl]) ?_
 show IW Tryz.prog 26 u89_1 ⟨argT _,_,_⟩ (rt [.tmp 2] _)
 repeat' ((with_reducible first|refine wr ?_|refine wb2 ?_ ?_<;>(intro hb;try simp only [hb])|fail)<;>try simp only [go_sem,seval])
 all_goals (refine pc_ret (congrArg I64 ?_);simp_all [kdS])
theorem c_inH32 (k:Int):PC Tryz.prog 44 [I64 k] (I64 (kdH k)):=by
 refine PC.of mixedU isU44 (Nat.le_of_ble_eq_true rfl) (by simp [DV.nlL,DV.nl]) (by simp [DV.nlL,DV.nl]) ?_
 show IW Tryz.prog 11 u44_1 ⟨argT _,_,_⟩ (rt [.tmp 2] _)
 repeat' ((with_reducible first|refine wr ?_|refine wb2 ?_ ?_<;>(intro hb;try simp only [hb])|fail)<;>try simp only [go_sem,seval])
 all_goals (refine pc_ret (congrArg I64 ?_);simp_all [kdH])
theorem c_most32 (k:Int):PC Tryz.prog 87 [I64 k] (I64 (mstM k)):=by
 refine PC.of mixedU isU87 (Nat.le_of_ble_eq_true rfl) (by simp [DV.nlL,DV.nl]) (by simp [DV.nlL,DV.nl]) ?_
 show IW Tryz.prog 12 u87_1 ⟨argT _,_,_⟩ (rt [.tmp 2] _)
 repeat' ((with_reducible first|refine wr ?_|refine wb2 ?_ ?_<;>(intro hb;try simp only [hb])|fail)<;>try simp only [go_sem,seval])
 all_goals (refine pc_ret (congrArg I64 ?_);simp_all [mstM])
theorem c_truth32 (k:Int):PC Tryz.prog 97 [I64 k] (.bool (truM k)):=by
 refine PC.of mixedU isU97 (Nat.le_of_ble_eq_true rfl) (by simp [DV.nlL,DV.nl]) (by simp [DV.nlL,DV.nl]) ?_
 show IW Tryz.prog 18 u97_1 ⟨argT _,_,_⟩ (rt [.tmp 2] _)
 repeat' ((with_reducible first|refine wr ?_|refine wb2 ?_ ?_<;>(intro hb;try simp only [hb])|fail)<;>try simp only [go_sem,seval])
 all_goals (refine pc_ret (congrArg DV.bool ?_);simp_all [truM]<;>omega)
theorem c_typ32 (k:Int) (h:k<=24):PC Tryz.prog 58 [I64 k] (I64 (typM k)):=by
 refine PC.of mixedU isU58 (Nat.le_of_ble_eq_true rfl) (by simp [DV.nlL,DV.nl]) (by simp [DV.nlL,DV.nl]) ?_
 show IW Tryz.prog 5 u58_1 ⟨argT _,_,_⟩ (rt [.tmp 2] _)
 have ht:=c_truth32 k
 rw [tru_bol h] at ht
 repeat' ((with_reducible first|refine wr ?_|refine cpc ht ?_|refine wb2 ?_ ?_<;>(intro hb;try simp only [hb])|fail)<;>try simp only [go_sem,seval])
 all_goals (refine pc_ret (congrArg I64 ?_);simp_all [typM])
theorem c_fail32 (r:Ru) (s:Int × Int) (H:Hp) (cc t:Nat) (ht:H t=some (ckB r s)) (htc:t<cc) (p e:Int):AC Tryz.prog 47 [.ptr t 0,I64 p,I64 e] H cc (fun v H' c'=>v=.tup []/\H'=H.upd t (ckB r (upS s (some (p,e))))):=by
 refine AC.body mixedU isU47 (Nat.le_of_ble_eq_true rfl) fun hfr=>?_
 show IW Tryz.prog 19 u47_1 ⟨argT _,_,_⟩ (rt [] _)
 unfold ckB at ht ⊢
 cases h:(s.2 == 0) with
 | true =>
  have e0:upS s (some (p,e))=(p,e):=by unfold upS;rw [if_pos (by simpa using h)];rfl
  rw [e0]
  repeat' ((with_reducible first|refine wr ?_|fail)<;>try simp only [go_sem,seval,ht,h,h_same,h_upd2])
  exact ⟨_,_,GL.refl _ _,rfl,rfl⟩
 | false =>
  have e0:upS s (some (p,e))=s:=by unfold upS;rw [if_neg (by simpa using h)]
  rw [e0,upd_same ht]
  repeat' ((with_reducible first|refine wr ?_|fail)<;>try simp only [go_sem,seval,ht,h,h_same,h_upd2])
  exact ⟨_,_,GL.refl _ _,rfl,rfl⟩
theorem c_den32 (r:Ru) (hk:KdOk r.decls) (s:Int × Int) (H:Hp) (cc t:Nat) (ht:H t=some (ckB r s)) (htc:t<cc) (n:List UInt8) (k p:Int):AC Tryz.prog 43 [.ptr t 0,.str n,I64 k,I64 p] H cc (fun v H' c'=>v=.tup []/\H'=H.upd t (ckB r (upS s (dnE r n k p)))):=by
 refine AC.body mixedU isU43 (Nat.le_of_ble_eq_true rfl) fun hfr=>?_
 show IW Tryz.prog 36 u43_1 ⟨argT _,_,_⟩ (rt [] _)
 have ht':=ht
 unfold ckB nmV at ht'
 have ne0:=nes2 t cc (by omega)
 cases hl:(nmL r).lookup n with
 | some q =>
  obtain ⟨h1,h2⟩:=nm_some hk hl
  have hlk:Sym.lkV (.agg [I64 0,I64 0]) true (mvV (meaL (nmL r))) (mfind (.str n) (mkK (meaL (nmL r))) 0)=some (.tup [meaV q,.bool true]):=lk_some (ok:=true) (by rw [mea_lookup,hl];rfl)
  unfold meaV at hlk
  by_cases hk0:k=0
  ·subst hk0
   have e0:dnE r n 0 p=none:=dn_ok (.inl rfl)
   rw [e0,upS_none,upd_same ht]
   repeat' ((with_reducible first|refine wr ?_|fail)<;>try simp only [go_sem,seval,ht',hlk,ne0,h_same,h_upd2])
   exact ⟨_,_,gl_own hfr,rfl,rfl⟩
  have q0:(k == 0)=false:=by simpa using hk0
  by_cases hq:q.1=k
  ·have e0:dnE r n k p=none:=dn_ok (.inr (by rw [h1];exact hq))
   rw [e0,upS_none,upd_same ht]
   have q1:(q.1 != k)=false:=by simp [hq]
   repeat' ((with_reducible first|refine wr ?_|fail)<;>try simp only [go_sem,seval,ht',hlk,q0,q1,ne0,h_same,h_upd2])
   exact ⟨_,_,gl_own hfr,rfl,rfl⟩
  ·have e0:dnE r n k p=some (p,44):=dn_kd (by rw [h1];simp [hk0,hq]) (by rw [h1];exact h2)
   rw [e0]
   have q1:(q.1 != k)=true:=by simp [hq]
   repeat' ((with_reducible first|refine wr ?_|fail)<;>try simp only [go_sem,seval,ht',hlk,q0,q1,ne0,h_same,h_upd2])
   refine AC.call (c_fail32 r s _ _ t (by rw [h_ne (by omega)];exact ht) (by omega) p 44) ?_
   rintro v H' c' ⟨rfl,rfl⟩ hcc
   simp only [go_sem,seval]
   repeat' ((with_reducible first|refine wr ?_|fail)<;>try simp only [go_sem,seval])
   exact ⟨_,_,gl_ownt hfr htc,rfl,rfl⟩
 | none =>
  have h1:=nm_none hk hl
  have hlk:Sym.lkV (.agg [I64 0,I64 0]) true (mvV (meaL (nmL r))) (mfind (.str n) (mkK (meaL (nmL r))) 0)=some (.tup [.agg [I64 0,I64 0],.bool false]):=lk_none (ok:=true) (by rw [mea_lookup,hl];rfl)
  by_cases hk0:k=0
  ·subst hk0
   have e0:dnE r n 0 p=none:=dn_ok (.inl rfl)
   rw [e0,upS_none,upd_same ht]
   repeat' ((with_reducible first|refine wr ?_|fail)<;>try simp only [go_sem,seval,ht',hlk,ne0,h_same,h_upd2])
   exact ⟨_,_,gl_own hfr,rfl,rfl⟩
  have q0:(k == 0)=false:=by simpa using hk0
  have e0:dnE r n k p=some (p,8):=dn_ms (by rw [h1];simp;omega) (by rw [h1])
  rw [e0]
  repeat' ((with_reducible first|refine wr ?_|fail)<;>try simp only [go_sem,seval,ht',hlk,q0,ne0,h_same,h_upd2])
  refine AC.call (c_fail32 r s _ _ t (by rw [h_ne (by omega)];exact ht) (by omega) p 8) ?_
  rintro v H' c' ⟨rfl,rfl⟩ hcc
  simp only [go_sem,seval]
  repeat' ((with_reducible first|refine wr ?_|fail)<;>try simp only [go_sem,seval])
  exact ⟨_,_,gl_ownt hfr htc,rfl,rfl⟩
theorem sub_ckl {G:Hp} {t c:Nat} {b0 b1 b:Blk} (hG:∀ j,c<=j->G j=none) (htc:t<c):Sym.Sub (G.upd t b) (((G.upd t b0).upd c b1).upd t b):=by
 intro j q hj
 by_cases e:j=t
 ·subst e;rw [h_same] at hj ⊢;exact hj
 ·rw [h_ne e] at hj
  have:j<c:=Nat.lt_of_not_le fun h=>by rw [hG j h] at hj;cases hj
  rw [h_ne e,h_ne (by omega),h_ne e];exact hj
theorem sub_ck1 {G:Hp} {t c:Nat} {b0 b1:Blk} (hG:∀ j,c<=j->G j=none) (htc:t<c):Sym.Sub (G.upd t b0) ((G.upd t b0).upd c b1):=by
 intro j q hj
 have:j<c:=Nat.lt_of_not_le fun h=>by rw [h_ne (by omega),hG j h] at hj;cases hj
 rw [h_ne (by omega)];exact hj
theorem c_exp32 (r:Ru) (hk:KdOk r.decls):∀ (m:Nat) (e:Ex),e.sz<m->e.sz<=100000000->(∃ q,msM e=some q)->∀ (s:Int × Int) (H:Hp) (cc t:Nat) (ht:H t=some (ckB r s)) (htc:t<cc),
  AC Tryz.prog 57 [.ptr t 0,e.v] H cc (fun v H' c'=>v=.tup []/\H'=H.upd t (ckB r (upS s (erE r e)))):=by
 intro m
 induction m with
 | zero=>intro e h;omega
 | succ m ih =>
 intro e hm hB ⟨q0,hq0⟩ s H cc t ht htc
 have hal:Ex.szs e.args<e.sz:=by cases e with|mk k v n a p=>rw [Ex.sz];show Ex.szs a<_;omega
 have hargs:∀ x∈e.args,x.sz<=Ex.szs e.args:=fun x hx=>Ex.szs_mem hx
 have hll:=Ex.szs_len e.args
 have hms:=ms_args hq0
 have h22:=ms_two hq0
 have hknd:∀ x∈e.args,x.kind<=24:=fun x hx=>by obtain ⟨q,hq⟩:=hms x hx;exact ms_kind hq
 rw [erE_e,Ex.v_w]
 dsimp only [Ex.w]
 have ih:∀ x∈e.args, ∀ (s:Int × Int) (H:Hp) (cc t:Nat) (ht:H t=some (ckB r s)) (htc:t<cc),AC Tryz.prog 57 [.ptr t 0,x.v] H cc (fun v H' c'=>v=.tup []/\H'=H.upd t (ckB r (upS s (erE r x)))):=fun x hx=>ih x (by have:=hargs x hx;omega) (by have:=hargs x hx;omega) (hms x hx)
 have hk1:=c_inE32 e.kind
 have hden:=fun (s:Int × Int) (H:Hp) (cc t:Nat) (ht:H t=some (ckB r s)) (htc:t<cc)=>c_den32 r hk s H cc t ht htc e.name (kdE e.kind) e.pos
 generalize ek:e.kind=k at *
 generalize e.value=v at *
 generalize e.name=n at *
 generalize e.args=a at *
 generalize e.pos=p at *
 refine AC.body mixedU isU57 (Nat.le_of_ble_eq_true rfl) fun hfr=>?_
 show IW Tryz.prog 61 u57_1 ⟨argT _,_,_⟩ (rt [] _)
 repeat' ((with_reducible first|refine wr ?_|fail)<;>try simp only [go_sem,seval])
 obtain ⟨G,hG⟩:∃ G,G=H.upd cc ⟨0,true,[I64 k,I64 v,.str n,exsV a,I64 p]⟩:=⟨_,rfl⟩
 have hGc:∀ b,(G.upd t b) cc=some ⟨0,true,[I64 k,I64 v,.str n,exsV a,I64 p]⟩:=fun b=>by rw [h_ne (by omega),hG,h_same]
 have hGn:∀ j,cc+1<=j->G j=none:=fun j hj=>by rw [hG,h_ne (by omega)];exact hfr j (by omega)
 have hGt:G=G.upd t (ckB r s):=by rw [upd_same];rw [hG,h_ne (by omega)];exact ht
 rw [<- hG,hGt]
 refine i_loop (fun i:Nat=>[(0,.ptr t 0),(3,.ptr cc 0),(10,exsV a),(11,I64 a.length),(12,I64 i)]) (fun i=>G.upd t (ckB r (upS s (erEs r (a.take i))))) (fun i c=>cc+1<=c/\i<=a.length) (fun i=>a.length-i) 0 (by simp [tmLe,tm,Tm.upd]) (by rw [List.take_zero,erEs,upS_none];exact Sub.refl _) ⟨by omega,Nat.zero_le _⟩ ?_
 rintro i c ⟨h1c,hki⟩
 by_cases hlt:i<a.length
 ·have hd:decide ((i:Int)<a.length)=true:=by simpa using hlt
  have hg:=List.getElem?_eq_getElem hlt
  have hw:=w64 (n:=(i:Int)+1) (by omega) (by omega)
  have hc:=ih _ (List.getElem_mem hlt)
  have het:=erEs_take (r:=r) hg
  generalize a[i]=x at hg hc het
  rw [Ex.v_w] at hc
  have ne0:=nes2 t c (by omega)
  repeat' ((with_reducible first|refine wr ?_|fail)<;>try simp only [go_sem,seval,hd,hg,hw,Ex.v_w,ne0,h_same,h_upd2,hGc])
  refine AC.call (hc (upS s (erEs r (a.take i))) _ _ t (by rw [h_ne (by omega),h_same]) (by omega)) ?_
  rintro v' H' c' ⟨rfl,rfl⟩ hcc
  simp only [go_sem,seval,hw]
  repeat' ((with_reducible first|refine wr ?_|fail)<;>try simp only [go_sem,seval,hw])
  refine ⟨i+1,by simp,?_,inv ⟨by omega,by omega⟩,by omega⟩
  rw [upS_or (nz_Es _ _), <- het]
  exact sub_ckl (fun j hj=>hGn j (by omega)) (by omega)
 have hd:decide ((i:Int)<a.length)=false:=by simpa using hlt
 rw [List.take_of_length_le (by omega)]
 repeat' ((with_reducible first|refine wr ?_|refine cpc hk1 ?_|fail)<;>try simp only [go_sem,seval,hd,hGc])
 refine ⟨by and_intros<;>(rw [h_ne (by omega)];exact hGn _ (by omega)),?_⟩
 refine AC.call (hden (upS s (erEs r a)) _ _ t h_same (by omega)) ?_
 rintro v' H' c' ⟨rfl,rfl⟩ hcc
 rw [h_upd2,upS_or (nz_Es _ _)]
 obtain ⟨s1,hs1⟩:∃ s1,s1=upS s ((erEs r a).or (dnE r n (kdE k) p)):=⟨_,rfl⟩
 have nz1:NzE ((erEs r a).or (dnE r n (kdE k) p)):=(nz_Es _ _).or (nz_dn _ _ _ _)
 rw [<- hs1, <- upS_or nz1, <- hs1]
 clear hs1
 have kL:∀ c2:Nat,c+9<=c2->IW Tryz.prog 61 (.loop u57_32) ⟨tm [(0,.ptr t 0),(3,.ptr cc 0),(6,I64 (wntM k a)),(45,exsV a),(46,I64 a.length),(47,I64 0)],G.upd t (ckB r s1),c2⟩ (bk 3 (rt [] fun v H' c' => ∃ v2 H2,GL H' [v] H2 [v2]/\v2=.tup []/\H2=H.upd t (ckB r (upS s1 (if (a.all fun x=>typM x.kind == wntM k a)=true then none else some (p,49)))))):=by
  intro c2 hc2
  generalize wntM k a=wnt
  refine i_loop (fun i:Nat=>[(0,.ptr t 0),(3,.ptr cc 0),(6,I64 wnt),(45,exsV a),(46,I64 a.length),(47,I64 i)]) (fun i=>G.upd t (ckB r (upS s1 (if ((a.take i).all fun x=>typM x.kind == wnt)=true then none else some (p,49))))) (fun i c=>cc+1<=c/\i<=a.length) (fun i=>a.length-i) 0 (by simp [tmLe,tm,Tm.upd]) (by rw [List.take_zero,List.all_nil,if_pos rfl,upS_none];exact Sub.refl _) ⟨by omega,Nat.zero_le _⟩ ?_
  rintro i c3 ⟨h3c,hki3⟩
  by_cases hlt3:i<a.length
  ·have hd3:decide ((i:Int)<a.length)=true:=by simpa using hlt3
   have hg3:=List.getElem?_eq_getElem hlt3
   have hw3:=w64 (n:=(i:Int)+1) (by omega) (by omega)
   have hat:=all_take' (fun x:Ex=>typM x.kind == wnt) a i _ hg3
   have hty:=c_typ32 _ (hknd _ (List.getElem_mem hlt3))
   generalize a[i]=x at hg3 hat hty
   obtain ⟨o,ho⟩:∃ o:Er,o=if ((a.take i).all fun x=>typM x.kind == wnt)=true then none else some (p,49):=⟨_,rfl⟩
   rw [<- ho]
   have ne0:=nes3 t c3 cc (by omega)
   by_cases hx:typM x.kind=wnt
   ·have hxn:(typM x.kind != wnt)=false:=by simp [hx]
    repeat' ((with_reducible first|refine wr ?_|refine cpc hty ?_|fail)<;>try simp only [go_sem,seval,hd3,hg3,hw3,Ex.v_w,ne0,h_same,h_upd2,hGc,hxn])
    refine ⟨i+1,by simp,?_,inv ⟨by omega,by omega⟩,by omega⟩
    rw [hat,show (typM x.kind == wnt)=true by simpa using hx,Bool.and_true, <- ho]
    exact sub_ck1 (fun j hj=>hGn j (by omega)) (by omega)
   ·have hxn:(typM x.kind != wnt)=true:=by simp [hx]
    repeat' ((with_reducible first|refine wr ?_|refine cpc hty ?_|fail)<;>try simp only [go_sem,seval,hd3,hg3,hw3,Ex.v_w,ne0,h_same,h_upd2,hGc,hxn])
    refine AC.call (c_fail32 r (upS s1 o) _ _ t (by rw [h_ne (by omega),h_same]) (by omega) p 49) ?_
    rintro v' H' c4 ⟨rfl,rfl⟩ hcc4
    simp only [go_sem,seval,hw3]
    repeat' ((with_reducible first|refine wr ?_|fail)<;>try simp only [go_sem,seval,hw3])
    refine ⟨i+1,by simp,?_,inv ⟨by omega,by omega⟩,by omega⟩
    have eo:upS (upS s1 o) (some (p,49))=upS s1 (some (p,49)):=by
     rw [ho];split
     ·rw [upS_none]
     ·exact upS_idem s1 p 49 (by decide)
    rw [hat,show (typM x.kind == wnt)=false by simpa using hx,Bool.and_false,if_neg (by decide),eo]
    exact sub_ckl (fun j hj=>hGn j (by omega)) (by omega)
  have hd3:decide ((i:Int)<a.length)=false:=by simpa using hlt3
  rw [List.take_of_length_le (by omega)]
  repeat' ((with_reducible first|refine wr ?_|fail)<;>try simp only [go_sem,seval,hd3])
  refine ⟨_,_,?_,rfl,rfl⟩
  rw [hG]
  exact gl_ownt hfr htc
 simp only [go_sem,seval]
 by_cases ka:k=11\/k=23\/k=24
 ·have ew:wntM k a=2:=by unfold wntM;rw [if_pos ka]
  rw [ew] at kL ⊢
  rcases ka with rfl|rfl|rfl
  all_goals (repeat' ((with_reducible first|refine wr ?_|fail)<;>try simp only [go_sem,seval,hGc]))
  all_goals exact kL _ hcc
 have ka1:(k == 11)=false:=by simp;omega
 have ka2:(k == 23)=false:=by simp;omega
 have ka3:(k == 24)=false:=by simp;omega
 by_cases kb:k=21\/k=22
 ·have hl2:=h22 kb
  obtain ⟨x0,l0,ha⟩:∃ x l,a=x :: l:=by
   cases a with
   | nil=>simp at hl2
   | cons x l=>exact ⟨x,l,rfl⟩
  have ew:wntM k a=typM x0.kind:=by rw [ha];unfold wntM;rw [if_neg ka,if_pos kb]
  have hg0:a[0]? = some x0:=by rw [ha];rfl
  have hty:=c_typ32 _ (hknd x0 (by rw [ha];exact List.mem_cons_self))
  rw [ew] at kL ⊢
  rcases kb with rfl|rfl
  all_goals (repeat' ((with_reducible first|refine wr ?_|refine cpc hty ?_|fail)<;>try simp only [go_sem,seval,hGc,ka1,ka2,ka3,hg0,Ex.v_w]))
  all_goals exact kL _ hcc
 have ew:wntM k a=1:=by unfold wntM;rw [if_neg ka,if_neg kb]
 rw [ew] at kL ⊢
 have kb1:(k == 21)=false:=by simp;omega
 have kb2:(k == 22)=false:=by simp;omega
 repeat' ((with_reducible first|refine wr ?_|fail)<;>try simp only [go_sem,seval,hGc,ka1,ka2,ka3,kb1,kb2])
 exact kL _ hcc
theorem upd_cm {H:Hp} {i j:Nat} {a b:Blk} (h:i≠j):(H.upd i a).upd j b=(H.upd j b).upd i a:=by
 funext k
 by_cases e:k=j
 ·subst e;rw [h_same,h_ne (Ne.symm h),h_same]
 ·rw [h_ne e]
  by_cases e2:k=i
  ·subst e2;rw [h_same,h_same]
  ·rw [h_ne e2,h_ne e2,h_ne e]
theorem sub_ckb {H:Hp} {t c:Nat} {b1 b:Blk} (hG:∀ j,c<=j->H j=none) (htc:t<c):Sym.Sub (H.upd t b) ((H.upd c b1).upd t b):=by
 rw [<- upd_cm (Nat.ne_of_lt htc)]
 exact sub_ck1 hG htc
theorem typ_want (k:Int) (b:Bool):typM k=(if b=true then 2 else 1)↔(typM k == 2)=b:=by
 unfold typM
 cases b<;>cases bolM k<;>simp
theorem c_blk32 (r:Ru) (hk:KdOk r.decls):∀ (m:Nat) (l:List Pb.St) (d:Nat),Pb.St.szs l<m->Pb.St.szs l<=100000000->vlSts d l=true->∀ (s:Int × Int) (H:Hp) (cc t:Nat) (ht:H t=some (ckB r s)) (htc:t<cc),
  AC Tryz.prog 48 [.ptr t 0,stsV l] H cc (fun v H' c'=>v=.tup []/\H'=H.upd t (ckB r (upS s (erB r l)))):=by
 intro m
 induction m with
 | zero=>intro l d h;omega
 | succ m ih =>
 intro l d hm hB hv s H cc t ht htc
 have hl:=Pb.St.szs_len l
 refine AC.body mixedU isU48 (Nat.le_of_ble_eq_true rfl) fun hfr=>?_
 show IW Tryz.prog 56 u48_1 ⟨argT _,_,_⟩ (rt [] _)
 repeat' ((with_reducible first|refine wr ?_|fail)<;>try simp only [go_sem,seval])
 have hHt:H=H.upd t (ckB r s):=(upd_same ht).symm
 refine i_loop (fun i:Nat=>[(0,.ptr t 0),(9,stsV l),(10,I64 l.length),(11,I64 i)]) (fun i=>H.upd t (ckB r (upS s (erB r (l.take i))))) (fun i c=>cc<=c/\i<=l.length) (fun i=>l.length-i) 0 (by simp [tmLe,tm,Tm.upd]) (by rw [List.take_zero,erB,upS_none, <- hHt];exact Sub.refl _) ⟨by omega,Nat.zero_le _⟩ ?_
 rintro i c ⟨h1c,hki⟩
 by_cases hlt:i<l.length
 ·have hd:decide ((i:Int)<l.length)=true:=by simpa using hlt
  have hg:=List.getElem?_eq_getElem hlt
  have hw:=w64 (n:=(i:Int)+1) (by omega) (by omega)
  have hsx:=Pb.St.szs_mem (List.getElem_mem hlt)
  obtain ⟨v1,v2,v3⟩:=vlSt_parts (vlSts_mem hv _ (List.getElem_mem hlt))
  have het:=erB_take (r:=r) hg
  rw [erS_e] at het
  generalize l[i]=x at hg hsx v1 v2 v3 het
  have hsa:Ex.szs x.args<x.sz:=by cases x with|mk k n t a x y p=>rw [Pb.St.sz];show Ex.szs a<_;omega
  have hal:=Ex.szs_len x.args
  have hX:=ih x.thn (d+1) (by have:=x.sz_thn;omega) (by have:=x.sz_thn;omega) v2
  have hY:=ih x.els (d+1) (by have:=x.sz_els;omega) (by have:=x.sz_els;omega) v3
  have hk1:=c_inS32 x.kind
  obtain ⟨s0,hs0⟩:∃ s0,s0=upS s (erB r (l.take i)):=⟨_,rfl⟩
  have hfin:upS s (erB r (l.take (i+1)))=upS s0 ((((dnE r x.name (kdS x.kind) x.pos).or (erA r (x.kind == 2) x.args)).or (erB r x.thn)).or (erB r x.els)):=by rw [het, <- upS_or (nz_B _ _), <- hs0]
  rw [<- hs0]
  have ne0:=nes2 t c (by omega)
  repeat' ((with_reducible first|refine wr ?_|refine cpc hk1 ?_|fail)<;>try simp only [go_sem,seval,hd,hg,hw,Pb.St.v_w,ne0,h_same,h_upd2])
  obtain ⟨G,hG⟩:∃ G,G=H.upd c ⟨0,true,[I64 x.kind,.str x.name,.str x.text,exsV x.args,stsV x.thn,stsV x.els,I64 x.pos]⟩:=⟨_,rfl⟩
  have hGc:∀ b,(G.upd t b) c=some ⟨0,true,[I64 x.kind,.str x.name,.str x.text,exsV x.args,stsV x.thn,stsV x.els,I64 x.pos]⟩:=fun b=>by rw [h_ne (by omega),hG,h_same]
  have hGn:∀ j,c+1<=j->G j=none:=fun j hj=>by rw [hG,h_ne (by omega)];exact hfr j (by omega)
  rw [upd_cm (by omega), <- hG]
  refine ⟨by and_intros<;>(rw [h_ne (by omega)];exact hGn _ (by omega)),?_⟩
  refine AC.call (c_den32 r hk s0 _ _ t h_same (by omega) x.name (kdS x.kind) x.pos) ?_
  rintro v' H' c2 ⟨rfl,rfl⟩ hc2
  rw [h_upd2]
  obtain ⟨s1,hs1⟩:∃ s1,s1=upS s0 (dnE r x.name (kdS x.kind) x.pos):=⟨_,rfl⟩
  rw [Option.or_assoc,Option.or_assoc, <- upS_or (nz_dn _ _ _ _), <- hs1] at hfin
  rw [<- hs1]
  have kL:∀ c3:Nat,c+1<=c3->IW Tryz.prog 56 (.loop u48_16) ⟨tm [(0,.ptr t 0),(5,.ptr c 0),(6,I64 (if (x.kind == 2)=true then 2 else 1)),(9,stsV l),(10,I64 l.length),(11,I64 i),(28,exsV x.args),(29,I64 x.args.length),(30,I64 0)],G.upd t (ckB r s1),c3⟩ (bk 2 (sq Tryz.prog 56 u48_25 (bk 1 (sq Tryz.prog 56 u48_27
    (lp (fun i:Nat=>[(0,DV.ptr t 0),(9,stsV l),(10,I64 l.length),(11,I64 i)]) (fun i:Nat=>H.upd t (ckB r (upS s (erB r (l.take i))))) (fun (i c:Nat)=>cc<=c/\i<=l.length) (fun i:Nat=>l.length-i) (l.length-i) (bk 0 (rt [] fun v H' c' => ∃ v2 H2,GL H' [v] H2 [v2]/\v2=DV.tup []/\H2=H.upd t (ckB r (upS s (erB r l)))))))))):=by
   intro c3 hc3
   obtain ⟨wnt,hwnt⟩:∃ wnt:Int,wnt=if (x.kind == 2)=true then 2 else 1:=⟨_,rfl⟩
   rw [<- hwnt]
   refine i_loop (fun j:Nat=>[(0,.ptr t 0),(5,.ptr c 0),(6,I64 wnt),(9,stsV l),(10,I64 l.length),(11,I64 i),(28,exsV x.args),(29,I64 x.args.length),(30,I64 j)]) (fun j=>G.upd t (ckB r (upS s1 (erA r (x.kind == 2) (x.args.take j))))) (fun j c4=>c+1<=c4/\j<=x.args.length) (fun j=>x.args.length-j) 0 (by simp [tmLe,tm,Tm.upd]) (by rw [List.take_zero,erA,upS_none];exact Sub.refl _) ⟨by omega,Nat.zero_le _⟩ ?_
   rintro j c4 ⟨h4c,hkj⟩
   by_cases hlt2:j<x.args.length
   ·have hd2:decide ((j:Int)<x.args.length)=true:=by simpa using hlt2
    have hg2:=List.getElem?_eq_getElem hlt2
    have hw2:=w64 (n:=(j:Int)+1) (by omega) (by omega)
    have hxs:=Ex.szs_mem (List.getElem_mem hlt2)
    have hmy:=v1 _ (List.getElem_mem hlt2)
    have heA:=erA_take (r:=r) (b:=x.kind == 2) hg2
    generalize x.args[j]=y at hg2 hxs hmy heA
    have hex:=c_exp32 r hk _ y (Nat.lt_succ_self _) (by omega) hmy
    obtain ⟨qy,hqy⟩:=hmy
    have hty:=c_typ32 _ (ms_kind hqy)
    rw [Ex.v_w] at hex
    obtain ⟨o,ho⟩:∃ o,o=erA r (x.kind == 2) (x.args.take j):=⟨_,rfl⟩
    have hno:NzE o:=by rw [ho];exact nz_A _ _ _
    have htw:=typ_want y.kind (x.kind == 2)
    rw [<- hwnt] at htw
    rw [<- ho]
    rw [<- ho, <- Option.or_assoc] at heA
    have ne0:=nes3 t c c4 (by omega)
    repeat' ((with_reducible first|refine wr ?_|fail)<;>try simp only [go_sem,seval,hd2,hg2,hw2,Ex.v_w,ne0,h_same,h_upd2,hGc])
    refine AC.call (hex (upS s1 o) _ _ t (by rw [h_ne (by omega),h_same]) (by omega)) ?_
    rintro v' H' c5 ⟨rfl,rfl⟩ hc5
    rw [upS_or hno]
    simp only [go_sem,seval,hw2,h_upd2]
    by_cases hx:typM y.kind=wnt
    ·have hxn:(typM y.kind != wnt)=false:=by simp [hx]
     repeat' ((with_reducible first|refine wr ?_|refine cpc hty ?_|fail)<;>try simp only [go_sem,seval,hw2,ne0,h_same,h_upd2,hxn])
     refine ⟨j+1,by simp,?_,inv ⟨by omega,by omega⟩,by omega⟩
     rw [heA,if_pos (htw.1 hx),Option.or_none]
     exact sub_ckl (fun j hj=>hGn j (by omega)) (by omega)
    ·have hxn:(typM y.kind != wnt)=true:=by simp [hx]
     repeat' ((with_reducible first|refine wr ?_|refine cpc hty ?_|fail)<;>try simp only [go_sem,seval,hw2,ne0,h_same,h_upd2,hxn])
     refine AC.call (c_fail32 r (upS s1 (o.or (erE r y))) _ _ t h_same (by omega) y.pos 49) ?_
     rintro v' H' c6 ⟨rfl,rfl⟩ hc6
     simp only [go_sem,seval,hw2,h_upd2]
     repeat' ((with_reducible first|refine wr ?_|fail)<;>try simp only [go_sem,seval,hw2])
     refine ⟨j+1,by simp,?_,inv ⟨by omega,by omega⟩,by omega⟩
     rw [upS_or (hno.or (nz_E _ _)),heA,if_neg (fun h=>hx (htw.2 h))]
     exact sub_ckl (fun j hj=>hGn j (by omega)) (by omega)
   have hd2:decide ((j:Int)<x.args.length)=false:=by simpa using hlt2
   rw [List.take_of_length_le (by omega)]
   repeat' ((with_reducible first|refine wr ?_|fail)<;>try simp only [go_sem,seval,hd2,hGc])
   refine AC.call (hX (upS s1 (erA r (x.kind == 2) x.args)) _ _ t h_same (by omega)) ?_
   rintro v' H' c5 ⟨rfl,rfl⟩ hc5
   rw [h_upd2,upS_or (nz_A _ _ _)]
   simp only [go_sem,seval,hGc]
   repeat' ((with_reducible first|refine wr ?_|fail)<;>try simp only [go_sem,seval,hGc])
   refine AC.call (hY (upS s1 ((erA r (x.kind == 2) x.args).or (erB r x.thn))) _ _ t h_same (by omega)) ?_
   rintro v' H' c6 ⟨rfl,rfl⟩ hc6
   rw [h_upd2,upS_or ((nz_A _ _ _).or (nz_B _ _))]
   simp only [go_sem,seval,hw]
   repeat' ((with_reducible first|refine wr ?_|fail)<;>try simp only [go_sem,seval,hw])
   refine ⟨i+1,by simp,?_,inv ⟨by omega,by omega⟩,by omega⟩
   rw [hfin,Option.or_assoc,hG]
   exact sub_ckb (fun j hj=>hfr j (by omega)) (by omega)
  simp only [go_sem,seval]
  cases hb2:(x.kind == 2) with
  | true =>
   rw [hb2] at kL
   repeat' ((with_reducible first|refine wr ?_|fail)<;>try simp only [go_sem,seval,hGc,hw,hb2])
   exact kL _ (by omega)
  | false =>
   rw [hb2] at kL
   repeat' ((with_reducible first|refine wr ?_|fail)<;>try simp only [go_sem,seval,hGc,hw,hb2])
   exact kL _ (by omega)
 have hd:decide ((i:Int)<l.length)=false:=by simpa using hlt
 rw [List.take_of_length_le (by omega)]
 repeat' ((with_reducible first|refine wr ?_|fail)<;>try simp only [go_sem,seval,hd])
 exact ⟨_,_,GL.refl _ _,rfl,rfl⟩
abbrev seeB (l:List (List UInt8)):Blk:=⟨0,true,[.mpc .s (mkK (seeL l)) (mvV (seeL l))]⟩
theorem c_head1 (r:Ru) (s:Int × Int) (l:List (List UInt8)) (nm:List UInt8) (p val most:Int) (H:Hp) (cc t a b mm:Nat) (ht:H t=some (ckB r s)) (ha:H a=some ⟨0,true,[.ptr t 0]⟩) (hb:H b=some ⟨0,true,[.mid mm]⟩) (hm:H mm=some (seeB l))
  (htc:t<cc) (hac:a<cc) (hbc:b<cc) (hmc:mm<cc) (hta:t≠a) (htb:t≠b) (htm:t≠mm) (hbm:b≠mm) (ham:a≠mm) (hab:a≠b) :
  AC Tryz.prog 86 [.str nm,I64 p,I64 val,I64 most,.ptr a 0,.ptr b 0] H cc (fun v H' c'=>v=.tup []/\H'=(H.upd t (ckB r (upS s ((if val>most then some (p,5) else none:Er).or (if l.contains nm=true then some (p,7) else none))))).upd mm (seeB (seeS l nm))):=by
 refine AC.body mixedU isU86 (Nat.le_of_ble_eq_true rfl) fun hfr=>?_
 show IW Tryz.prog 24 u86_1 ⟨argT _,_,_⟩ (rt [] _)
 have hlk:=see_lk nm l
 have hmu:=fun H c id u=>see_mu nm l H c id u
 obtain ⟨o1,ho1⟩:∃ o1:Er,o1=if val>most then some (p,5) else none:=⟨_,rfl⟩
 have n1:NzE o1:=by rw [ho1];exact nz_if2 (by decide)
 rw [<- ho1]
 have hkB:∀ c0,cc<=c0->IW Tryz.prog 24 u86_5 ⟨tm [(0,.str nm),(1,I64 p),(4,.ptr a 0),(5,.ptr b 0)],H.upd t (ckB r (upS s o1)),c0⟩ (rt [] fun v H' c' => ∃ v2 H2,GL H' [v] H2 [v2]/\v2=.tup []/\H2=(H.upd t (ckB r (upS s (o1.or (if l.contains nm=true then some (p,7) else none))))).upd mm (seeB (seeS l nm))):=by
  intro c0 hc0
  have ne0:=nes4 t a b mm (by omega)
  cases hc:l.contains nm with
  | false =>
   rw [hc] at hlk
   rw [if_neg (by decide),Option.or_none]
   repeat' ((with_reducible first|refine wr ?_|fail)<;>try simp only [go_sem,seval,ha,hb,hm,hlk,hmu,ne0,h_same,h_upd2])
   exact ⟨_,_,GL.refl _ _,rfl,rfl⟩
  | true =>
   rw [hc] at hlk
   rw [if_pos rfl]
   repeat' ((with_reducible first|refine wr ?_|fail)<;>try simp only [go_sem,seval,ha,hb,hm,hlk,hmu,ne0,h_same,h_upd2])
   refine AC.call (c_fail32 r (upS s o1) _ _ t h_same (by omega) p 7) ?_
   rintro v' H' c2 ⟨rfl,rfl⟩ hc2
   rw [h_upd2,upS_or n1]
   simp only [go_sem,seval]
   repeat' ((with_reducible first|refine wr ?_|fail)<;>try simp only [go_sem,seval,ha,hb,hm,hlk,hmu,ne0,h_same,h_upd2])
   exact ⟨_,_,GL.refl _ _,rfl,rfl⟩
 have ne0:=nes4 t a b mm (by omega)
 by_cases hv:val>most
 ·have qv:decide (val>most)=true:=by simpa using hv
  rw [if_pos hv] at ho1
  rw [ho1] at hkB ⊢
  repeat' ((with_reducible first|refine wr ?_|fail)<;>try simp only [go_sem,seval,ha,hb,hm,qv,ne0,h_same,h_upd2])
  refine AC.call (c_fail32 r s _ _ t ht (by omega) p 5) ?_
  rintro v' H' c2 ⟨rfl,rfl⟩ hc2
  simp only [go_sem,seval]
  repeat' ((with_reducible first|refine hold (p:=IW _ _ u86_5 _ _) ?_|refine wr ?_|fail)<;>try simp only [go_sem,seval])
  exact IW.stage (by simp [tmLe,tm,Tm.upd]) (hkB _ hc2)
 ·have qv:decide (val>most)=false:=by simpa using hv
  rw [if_neg hv] at ho1
  rw [ho1,upS_none,upd_same ht] at hkB
  rw [ho1]
  repeat' ((with_reducible first|refine hold (p:=IW _ _ u86_5 _ _) ?_|refine wr ?_|fail)<;>try simp only [go_sem,seval,ha,hb,hm,qv,ne0,h_same,h_upd2])
  exact IW.stage (by simp [tmLe,tm,Tm.upd]) (hkB _ (Nat.le_refl _))
def hdH (H:Hp) (r:Ru) (t cc:Nat) (s:Int × Int) (l:List (List UInt8)):Hp:=((((H.upd t (ckB r s)).upd cc ⟨0,true,[.ptr t 0]⟩).upd (cc+1) ⟨0,true,[dcsV r.decls,mdsV r.modes]⟩).upd (cc+2) (seeB l)).upd (cc+3) ⟨0,true,[.mid (cc+2)]⟩
theorem hdH_t {H:Hp} {r:Ru} {t cc:Nat} {s:Int × Int} {l:List (List UInt8)} (htc:t<cc):hdH H r t cc s l t=some (ckB r s):=by
 unfold hdH;rw [h_ne (by omega),h_ne (by omega),h_ne (by omega),h_ne (by omega),h_same]
theorem hdH_0 {H:Hp} {r:Ru} {t cc:Nat} {s:Int × Int} {l:List (List UInt8)}:hdH H r t cc s l cc=some ⟨0,true,[.ptr t 0]⟩:=by
 unfold hdH;rw [h_ne (by omega),h_ne (by omega),h_ne (by omega),h_same]
theorem hdH_1 {H:Hp} {r:Ru} {t cc:Nat} {s:Int × Int} {l:List (List UInt8)}:hdH H r t cc s l (cc+1)=some ⟨0,true,[dcsV r.decls,mdsV r.modes]⟩:=by
 unfold hdH;rw [h_ne (by omega),h_ne (by omega),h_same]
theorem hdH_2 {H:Hp} {r:Ru} {t cc:Nat} {s:Int × Int} {l:List (List UInt8)}:hdH H r t cc s l (cc+2)=some (seeB l):=by
 unfold hdH;rw [h_ne (by omega),h_same]
theorem hdH_3 {H:Hp} {r:Ru} {t cc:Nat} {s:Int × Int} {l:List (List UInt8)}:hdH H r t cc s l (cc+3)=some ⟨0,true,[.mid (cc+2)]⟩:=by
 unfold hdH;rw [h_same]
theorem hdH_n {H:Hp} {r:Ru} {t cc:Nat} {s:Int × Int} {l:List (List UInt8)} (htc:t<cc) (hfr:∀ i,cc<=i->H i=none) (j:Nat) (hj:cc+4<=j):hdH H r t cc s l j=none:=by
 unfold hdH;rw [h_ne (by omega),h_ne (by omega),h_ne (by omega),h_ne (by omega),h_ne (by omega)];exact hfr j (by omega)
theorem hdH_o {H:Hp} {r:Ru} {t cc:Nat} {s:Int × Int} {l:List (List UInt8)} (j:Nat) (hj:j<cc) (hjt:j≠t):hdH H r t cc s l j=H j:=by
 unfold hdH;rw [h_ne (by omega),h_ne (by omega),h_ne (by omega),h_ne (by omega),h_ne hjt]
theorem hd_sub {H X:Hp} {r:Ru} {t cc:Nat} {s:Int × Int} {l:List (List UInt8)} (htc:t<cc) (hfr:∀ i,cc<=i->H i=none) (ht:X t=some (ckB r s)) (h0:X cc=some ⟨0,true,[.ptr t 0]⟩) (h1:X (cc+1)=some ⟨0,true,[dcsV r.decls,mdsV r.modes]⟩) (h2:X (cc+2)=some (seeB l)) (h3:X (cc+3)=some ⟨0,true,[.mid (cc+2)]⟩)
  (ho:∀ j,j<cc->j≠t->X j=H j):Sym.Sub (hdH H r t cc s l) X:=by
 intro j b hj
 by_cases hlt:j<cc
 ·by_cases hjt:j=t
  ·subst hjt;rw [hdH_t htc] at hj;rw [ht];exact hj
  ·rw [hdH_o j hlt hjt] at hj;rw [ho j hlt hjt];exact hj
 ·have h4:j<cc+4:=Nat.lt_of_not_le fun h=>by rw [hdH_n htc hfr j h] at hj;cases hj
  have:j=cc\/j=cc+1\/j=cc+2\/j=cc+3:=by omega
  rcases this with rfl|rfl|rfl|rfl
  ·rw [hdH_0] at hj;rw [h0];exact hj
  ·rw [hdH_1] at hj;rw [h1];exact hj
  ·rw [hdH_2] at hj;rw [h2];exact hj
  ·rw [hdH_3] at hj;rw [h3];exact hj
theorem c_heads32 (r:Ru) (hk:KdOk r.decls) (s:Int × Int) (H:Hp) (cc t:Nat) (ht:H t=some (ckB r s)) (htc:t<cc) (h1:r.decls.length<=1000000000) (h2:r.modes.length<=1000000000) :
  AC Tryz.prog 42 [.ptr t 0,r.v] H cc (fun v H' c'=>v=.tup []/\H'=H.upd t (ckB r (upS s (heaE r)))):=by
 have hrv:r.v=.agg [dcsV r.decls,mdsV r.modes]:=rfl
 rw [hrv]
 have hkt:∀ i,KdOk (r.decls.take i):=fun i d hd=>hk d (List.mem_of_mem_take hd)
 refine AC.body mixedU isU42 (Nat.le_of_ble_eq_true rfl) fun hfr=>?_
 show IW Tryz.prog 47 u42_1 ⟨argT _,_,_⟩ (rt [] _)
 have ne0:=nes5 t cc (cc+1) (cc+1+1) (cc+1+1+1) (by omega)
 repeat' ((with_reducible first|refine wr ?_|fail)<;>try simp only [go_sem,seval,box_mnil,ne0,h_same,h_upd2])
 refine i_loop (fun q:Nat × List (List UInt8)=>[(3,.ptr (cc+1) 0),(5,.func 86 [] [.ptr cc 0,.ptr (cc+1+1+1) 0]),(13,dcsV r.decls),(14,I64 r.decls.length),(15,I64 q.1)]) (fun q=>hdH H r t cc (upS s (erD [] (r.decls.take q.1))) q.2)
  (fun q c=>cc+4<=c/\q.1<=r.decls.length/\∀ n,q.2.contains n=(r.decls.take q.1).any (fun d=>d.name == n)) (fun q=>r.decls.length-q.1) (0,[]) (by simp [tmLe,tm,Tm.upd])
  (by
   dsimp only
   rw [List.take_zero,erD,upS_none]
   refine hd_sub htc hfr ?_ ?_ ?_ ?_ h_same ?_
   ·repeat rw [h_ne (by omega)]
    exact ht
   ·repeat rw [h_ne (by omega)]
    exact h_same
   ·repeat rw [h_ne (by omega)]
    exact h_same
   ·rw [h_ne (by omega)];exact h_same
   ·intro j hj hjt
    repeat rw [h_ne (by omega)]) ⟨by omega,Nat.zero_le _,fun n=>rfl⟩ ?_
 rintro ⟨i,l⟩ c ⟨h1c,hki,hsn⟩
 dsimp only at hki hsn ⊢
 by_cases hlt:i<r.decls.length
 ·have hd:decide ((i:Int)<r.decls.length)=true:=by simpa using hlt
  have hg:=List.getElem?_eq_getElem hlt
  have hw:=w64 (n:=(i:Int)+1) (by omega) (by omega)
  have het:=erD_take hg
  have hnx:=fun n=>any_take' (fun d:Dc=>d.name == n) r.decls i _ hg
  have hlo:=fun n=>lok_pre (r.decls.take i) [] n (hkt i)
  generalize r.decls[i]=d at hg het hnx
  have hmo:=c_most32 d.kind
  obtain ⟨o,ho⟩:∃ o,o=erD [] (r.decls.take i):=⟨_,rfl⟩
  have hno:NzE o:=by rw [ho];exact nz_D _ _
  rw [<- ho] at het ⊢
  have hb0:hdH H r t cc (upS s o) l cc=_:=hdH_0
  have hb1:hdH H r t cc (upS s o) l (cc+1)=_:=hdH_1
  have hb2:hdH H r t cc (upS s o) l (cc+2)=_:=hdH_2
  have hb3:hdH H r t cc (upS s o) l (cc+1+1+1)=_:=hdH_3
  have hbt:hdH H r t cc (upS s o) l t=_:=hdH_t htc
  have hbn:=hdH_n (s:=upS s o) (l:=l) (r:=r) htc hfr
  have hbo:=hdH_o (H:=H) (cc:=cc) (t:=t) (s:=upS s o) (l:=l) (r:=r)
  generalize hdH H r t cc (upS s o) l=HH at hb0 hb1 hb2 hb3 hbt hbn hbo ⊢
  have ne0:=nes4 c t cc (cc+1) (by omega)
  repeat' ((with_reducible first|refine wr ?_|refine cpc hmo ?_|fail)<;>try simp only [go_sem,seval,hd,hg,dc_w,hb0,hb1,hb2,hb3,hbt,ne0,h_same,h_upd2])
  refine ⟨by and_intros<;>(rw [h_ne (by omega)];exact hbn _ (by omega)),?_⟩
  refine AC.call (c_head1 r (upS s o) l d.name d.pos d.value (mstM d.kind) _ _ t cc (cc+1+1+1) (cc+2) (by rw [h_ne (by omega)];exact hbt) (by rw [h_ne (by omega)];exact hb0) (by rw [h_ne (by omega)];exact hb3) (by rw [h_ne (by omega)];exact hb2) (by omega) (by omega) (by omega) (by omega) (by omega) (by omega) (by omega) (by omega) (by omega) (by omega)) ?_
  rintro v' H' c2 ⟨rfl,rfl⟩ hc2
  have est:((if d.value>mstM d.kind then some (d.pos,5) else none:Er).or (if l.contains d.name=true then some (d.pos,7) else none))=stD (r.decls.take i) d:=by
   unfold stD
   congr 1
   rw [hsn]
   have:=hlo d.name
   cases ha:(r.decls.take i).any (fun x=>x.name == d.name) with
   | true=>rw [ha] at this;rw [if_pos rfl,if_neg (fun h=>by simpa using (this.1 h).1)]
   | false=>rw [ha] at this;rw [if_neg (by decide),if_pos (this.2 ⟨rfl,rfl⟩)]
  rw [est,upS_or hno, <- het]
  simp only [go_sem,seval,hw]
  repeat' ((with_reducible first|refine wr ?_|fail)<;>try simp only [go_sem,seval,hw])
  refine ⟨(i+1,seeS l d.name),by simp [tmLe,tm,Tm.upd],?_,inv ⟨by omega,by omega,fun n=>?_⟩,by simp only;omega⟩
  ·refine hd_sub htc hfr ?_ ?_ ?_ h_same ?_ ?_
   ·rw [h_ne (by omega),h_same]
   ·repeat rw [h_ne (by omega)]
    exact hb0
   ·repeat rw [h_ne (by omega)]
    exact hb1
   ·repeat rw [h_ne (by omega)]
    exact hb3
   ·intro j hj hjt
    rw [h_ne (by omega),h_ne hjt,h_ne (by omega)]
    exact hbo j hj hjt
  ·simp only
   rw [seeS_has,hsn,hnx]
   congr 1
   rw [Bool.eq_iff_iff];simp;exact eq_comm
 have hd:decide ((i:Int)<r.decls.length)=false:=by simpa using hlt
 rw [List.take_of_length_le (by omega)] at hsn ⊢
 have hb1:hdH H r t cc (upS s (erD [] r.decls)) l (cc+1)=_:=hdH_1
 repeat' ((with_reducible first|refine wr ?_|fail)<;>try simp only [go_sem,seval,hd,hb1])
 clear hd hlt hki i hb1
 have hrp:heaE r=(erD [] r.decls).or (erP r.decls [] r.modes):=rfl
 rw [hrp, <- upS_or (nz_D _ _)]
 obtain ⟨s1,hs1⟩:∃ s1,s1=upS s (erD [] r.decls):=⟨_,rfl⟩
 rw [<- hs1]
 refine i_loop (fun q:Nat × List (List UInt8)=>[(5,.func 86 [] [.ptr cc 0,.ptr (cc+1+1+1) 0]),(32,mdsV r.modes),(33,I64 r.modes.length),(34,I64 q.1)]) (fun q=>hdH H r t cc (upS s1 (erP r.decls [] (r.modes.take q.1))) q.2)
  (fun q c=>cc+4<=c/\q.1<=r.modes.length/\∀ n,q.2.contains n=(r.decls.any (fun d=>d.name == n) || (r.modes.take q.1).any (fun d=>d.name == n))) (fun q=>r.modes.length-q.1) (0,l) (by simp [tmLe,tm,Tm.upd])
  (by
   dsimp only
   rw [List.take_zero,erP,upS_none]
   exact Sub.refl _) ⟨h1c,Nat.zero_le _,fun n=>by rw [hsn];simp⟩ ?_
 clear hsn h1c c l hs1
 rintro ⟨i,l⟩ c ⟨h1c,hki,hsn⟩
 dsimp only at hki hsn ⊢
 by_cases hlt:i<r.modes.length
 ·have hd:decide ((i:Int)<r.modes.length)=true:=by simpa using hlt
  have hg:=List.getElem?_eq_getElem hlt
  have hw:=w64 (n:=(i:Int)+1) (by omega) (by omega)
  have het:=erP_take (D:=r.decls) hg
  have hnx:=fun n=>any_take' (fun d:Md=>d.name == n) r.modes i _ hg
  have hlo:=fun n=>lok_pre r.decls (r.modes.take i) n hk
  generalize r.modes[i]=d at hg het hnx
  obtain ⟨o,ho⟩:∃ o,o=erP r.decls [] (r.modes.take i):=⟨_,rfl⟩
  have hno:NzE o:=by rw [ho];exact nz_P _ _ _
  rw [<- ho] at het ⊢
  have hb0:hdH H r t cc (upS s1 o) l cc=_:=hdH_0
  have hb1:hdH H r t cc (upS s1 o) l (cc+1)=_:=hdH_1
  have hb2:hdH H r t cc (upS s1 o) l (cc+2)=_:=hdH_2
  have hb3:hdH H r t cc (upS s1 o) l (cc+1+1+1)=_:=hdH_3
  have hbt:hdH H r t cc (upS s1 o) l t=_:=hdH_t htc
  have hbn:=hdH_n (s:=upS s1 o) (l:=l) (r:=r) htc hfr
  have hbo:=hdH_o (H:=H) (cc:=cc) (t:=t) (s:=upS s1 o) (l:=l) (r:=r)
  generalize hdH H r t cc (upS s1 o) l=HH at hb0 hb1 hb2 hb3 hbt hbn hbo ⊢
  have ne0:=nes4 c t cc (cc+1) (by omega)
  repeat' ((with_reducible first|refine wr ?_|fail)<;>try simp only [go_sem,seval,hd,hg,md_w,hb0,hb1,hb2,hb3,hbt,ne0,h_same,h_upd2])
  refine AC.call (c_head1 r (upS s1 o) l d.name d.pos d.prio 99 _ _ t cc (cc+1+1+1) (cc+2) (by rw [h_ne (by omega)];exact hbt) (by rw [h_ne (by omega)];exact hb0) (by rw [h_ne (by omega)];exact hb3) (by rw [h_ne (by omega)];exact hb2) (by omega) (by omega) (by omega) (by omega) (by omega) (by omega) (by omega) (by omega) (by omega) (by omega)) ?_
  rintro v' H' c2 ⟨rfl,rfl⟩ hc2
  have est:((if d.prio>99 then some (d.pos,5) else none:Er).or (if l.contains d.name=true then some (d.pos,7) else none))=stP r.decls (r.modes.take i) d:=by
   unfold stP
   congr 1
   rw [hsn]
   have:=hlo d.name
   cases ha:r.decls.any (fun x=>x.name == d.name) with
   | true=>rw [ha] at this;rw [Bool.true_or,if_pos rfl,if_neg (fun h=>by simpa using (this.1 h).1)]
   | false =>
    rw [ha] at this
    cases ha2:(r.modes.take i).any (fun x=>x.name == d.name) with
    | true=>rw [ha2] at this;rw [Bool.false_or,if_pos rfl,if_neg (fun h=>by simpa using (this.1 h).2)]
    | false=>rw [ha2] at this;rw [Bool.false_or,if_neg (by decide),if_pos (this.2 ⟨rfl,rfl⟩)]
  rw [est,upS_or hno, <- het]
  simp only [go_sem,seval,hw]
  repeat' ((with_reducible first|refine wr ?_|fail)<;>try simp only [go_sem,seval,hw])
  refine ⟨(i+1,seeS l d.name),by simp [tmLe,tm,Tm.upd],?_,inv ⟨by omega,by omega,fun n=>?_⟩,by simp only;omega⟩
  ·refine hd_sub htc hfr ?_ ?_ ?_ h_same ?_ ?_
   ·rw [h_ne (by omega),h_same]
   ·repeat rw [h_ne (by omega)]
    exact hb0
   ·repeat rw [h_ne (by omega)]
    exact hb1
   ·repeat rw [h_ne (by omega)]
    exact hb3
   ·intro j hj hjt
    rw [h_ne (by omega),h_ne hjt,h_ne (by omega)]
    exact hbo j hj hjt
  ·simp only
   rw [seeS_has,hsn,hnx,Bool.or_assoc]
   congr 2
   rw [Bool.eq_iff_iff];simp;exact eq_comm
 have hd:decide ((i:Int)<r.modes.length)=false:=by simpa using hlt
 rw [List.take_of_length_le (by omega)]
 repeat' ((with_reducible first|refine wr ?_|fail)<;>try simp only [go_sem,seval,hd])
 refine ⟨_,_,GL.less' (fun j b hj=>?_),rfl,rfl⟩
 by_cases e:j=t
 ·subst e;rw [h_same] at hj;rw [hdH_t htc];exact hj
 ·rw [h_ne e] at hj
  have:j<cc:=Nat.lt_of_not_le fun h=>by rw [hfr _ h] at hj;cases hj
  rw [hdH_o j this e];exact hj
end Go.Proofs.YtnmkkggfgdfmeaaGreatDoor
end
