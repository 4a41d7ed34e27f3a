/-
  HELPERS of the claim: part 8 of its texts.
-/
import Derived.Test.YtnmkkggfgdfmeaaGreatDoorProg
import Derived.KernelRfl
import Derived.Test.YtnmkkggfgdfmeaaGreatDoorChyg
noncomputable section
set_option linter.unusedVariables false
set_option linter.unusedSectionVars false
set_option linter.unusedSimpArgs false
namespace Go.Pb
variable [Go.Sym.Tab]
open Go.Sym
section
variable {L:List Tok} {E:Int}
theorem dc_all:∀ j:Nat,j<8->amT (A4 (E0.getD j [])) E0=(j:Int):=by decide +kernel
theorem tr_all:∀ j:Nat,j<6->amT (A4 (E9.getD j [])) E9=(j:Int):=by decide +kernel
theorem wmode:O2 (A4 [109,111,100,101])=true/\amT (A4 [109,111,100,101]) E0 = -1:=by decide +kernel
theorem won:O2 (A4 [111,110])=true/\(A4 [111,110]).text≠[125]:=by decide +kernel
theorem wneg:O2 (A4 [45])=true:=by decide +kernel
theorem dc_eta {d:Dc} {k v:Int} {n:List UInt8} (h1:k=d.kind) (h2:n=d.name) (h3:v=d.value) {p:Int}:Dc.plain ⟨k,n,v,p⟩=d.plain:=by
 subst h1 h2 h3;rfl
theorem B0h {d:Dc} (hv:A0k d=true) {s:Rd} {post:List Tok} (h:L.drop s.i=dcT d++post) (hok:okR s=true) :
  C0 L E s E0=d.kind-1/\(Q8 L E (d.kind-1) s).1.plain=d.plain/\(Q8 L E (d.kind-1) s).2.i=s.i+(dcT d).length/\okR (Q8 L E (d.kind-1) s).2=true:=by
 unfold A0k at hv;simp only [Bool.and_eq_true,decide_eq_true_eq] at hv;obtain ⟨⟨⟨⟨k1,k8⟩,hn⟩,v0⟩,v1⟩:=hv;obtain ⟨j,hj⟩:∃ j:Nat,d.kind=1+(j:Int):=⟨(d.kind-1).toNat,by omega⟩;have hj8:j<8:=by omega
 have hjn:(d.kind-1).toNat=j:=by omega
 have a1:=dc_all j hj8;have hT:dcT d=[A4 (E0.getD j [])]++D0 d.name++(if 6<d.kind then [] else if d.value<0 then [A4 [45]]++R6 (-d.value) else R6 d.value)++[A4 [59]]:=by
  unfold dcT;rw [if_neg (by omega)];dsimp only;rw [hjn];by_cases h6:6<d.kind
  ·rw [if_pos h6,if_pos h6];simp
  ·rw [if_neg h6,if_neg h6];by_cases hneg:d.value<0
   ·have hk6:d.kind=6:=by
     by_cases hz:d.kind=6
     ·exact hz
     ·rw [if_neg hz] at v0;omega
    rw [if_pos hk6] at v0;rw [if_pos ⟨hneg,v0,hk6⟩,if_pos hneg];simp
   ·rw [if_neg (fun h=>hneg h.1),if_neg hneg]
 rw [hT] at h ⊢;have h0:L.drop s.i=A4 (E0.getD j []) :: (D0 d.name++((if 6<d.kind then [] else if d.value<0 then [A4 [45]]++R6 (-d.value) else R6 d.value)++(A4 [59] :: post))):=by rw [h];simp
 have hpk:=C5 (E:=E) h0;have h1:=F0 h0;have htk:=A1x (E:=E) (s:=B1 s) h1 hok hn;have h2:=V1 (s:=B1 s) h1 (A3 d.name);refine ⟨by rw [S7 hok,hpk,a1];omega,?_⟩;unfold Q8;dsimp only;rw [htk];dsimp only;by_cases h6:6<d.kind
 ·rw [if_pos h6] at h2 ⊢;rw [if_neg (by omega)];have h2:L.drop (B1 (B1 s)).i=A4 [59] :: post:=h2;rw [P4 h2 hok w59.1];refine ⟨dc_eta (by omega) rfl ?_,?_,hok⟩
  ·rw [if_neg (by omega)] at v0;rw [if_pos (by omega)] at v1;omega
  ·simp only [List.length_append,List.length_singleton,A3,List.length_nil];show s.i+1+1+1=_;omega
 ·rw [if_neg h6] at h2 ⊢;rw [if_pos (by omega)];rw [if_neg (by omega)] at v1;by_cases hneg:d.value<0
  ·have hk6:d.kind=6:=by
    by_cases hz:d.kind=6
    ·exact hz
    ·rw [if_neg hz] at v0;omega
   rw [if_pos hk6] at v0;rw [if_pos hneg] at h2 ⊢;have h3:L.drop (B1 (B1 s)).i=A4 [45] :: (R6 (-d.value)++(A4 [59] :: post)):=by rw [show L.drop (B1 (B1 s)).i=_ from h2];simp
   have hm:(d.kind-1+1 == 6 && isR L E (B1 (B1 s)) [45])=true:=by
    rw [A1n (show okR (B1 (B1 s))=true from hok),C5 h3,wneg,hk6];rfl
   rw [if_pos hm,if_pos hm];have h4:=F0 h3;have htk2:=A9f (E:=E) (s:=B1 (B1 (B1 s))) h4 hok (by omega) (by omega);rw [htk2];have h5:=V1 (s:=B1 (B1 (B1 s))) h4 (B0 _);have h5:L.drop (B1 (B1 (B1 (B1 s)))).i=A4 [59] :: post:=h5;dsimp only;rw [P4 h5 hok w59.1];refine ⟨dc_eta (by omega) rfl (by omega),?_,hok⟩;simp only [List.length_append,List.length_singleton,A3,B0];show s.i+1+1+1+1+1=_;omega
  ·rw [if_neg hneg] at h2 ⊢;have h3:L.drop (B1 (B1 s)).i=R6 d.value++(A4 [59] :: post):=h2;have hp3:B7 L E (B1 (B1 s))=⟨3,[],d.value,0⟩:=C5 (ts:=A4 [59] :: post) (by rw [h3];unfold R6;rw [if_neg (by omega)];rfl);have hm:(d.kind-1+1 == 6 && isR L E (B1 (B1 s)) [45])=false:=by
    rw [A1n (show okR (B1 (B1 s))=true from hok),hp3];simp [O2]
   rw [hm];simp only [Bool.false_eq_true,if_false];have htk2:=A9f (E:=E) (s:=B1 (B1 s)) h3 hok (by omega) (by omega);rw [htk2];have h5:=V1 (s:=B1 (B1 s)) h3 (B0 _);have h5:L.drop (B1 (B1 (B1 s))).i=A4 [59] :: post:=h5;dsimp only;rw [P4 h5 hok w59.1];refine ⟨dc_eta (by omega) rfl rfl,?_,hok⟩;simp only [List.length_append,List.length_singleton,A3,B0];show s.i+1+1+1+1=_;omega
theorem A2s:∀ (l acc:List Dc) (s:Rd) (post:List Tok),l.all A0k=true->acc.length+l.length<=128->amT (hd0 E post) E0<0->L.drop s.i=l.flatMap dcT++post->okR s=true ->
  ∃ l' s',l'.map Dc.plain=l.map Dc.plain/\Evt (fun f=>T1 L E f acc s) (acc++l',s')/\L.drop s'.i=post/\okR s'=true
 | [],acc,s,post,hv,hl,hp,h,hok=>by
  have h:L.drop s.i=post:=h;refine ⟨[],s,rfl,Evt.one fun f=>?_,h,hok⟩;rw [T1];dsimp only;rw [S7 hok,A5q,h,if_pos hp,List.append_nil]
 | d :: l,acc,s,post,hv,hl,hp,h,hok=>by
  simp only [List.all_cons,Bool.and_eq_true] at hv;have h0:L.drop s.i=dcT d++(l.flatMap dcT++post):=by rw [h,List.flatMap_cons,List.append_assoc]
  obtain ⟨e1,e2,e3,e4⟩:=B0h (E:=E) hv.1 h0 hok;have hk1:1<=d.kind:=by
   have:=hv.1;unfold A0k at this;simp only [Bool.and_eq_true,decide_eq_true_eq] at this;omega
  obtain ⟨l',s',q1,q2,q3,q4⟩:=A2s l (acc++[(Q8 L E (d.kind-1) s).1]) (Q8 L E (d.kind-1) s).2 post hv.2 (by simp only [List.length_append,List.length_cons,List.length_nil] at hl ⊢;omega) hp (by rw [e3];exact G4 h0) e4;refine ⟨(Q8 L E (d.kind-1) s).1 :: l',s',by rw [List.map_cons,List.map_cons,e2,q1],?_,q3,q4⟩;rw [List.append_assoc] at q2;refine q2.ext fun f hf=>?_;rw [T1];dsimp only;rw [e1,if_neg (by omega),A2d (by simp only [List.length_cons] at hl;omega),if_pos hok];exact hf
theorem hdp {h:Hd} {b:List St} (hb:St.plains b=St.plains h.body) {k:Int} {n:List UInt8} {p:Int} (hk:k=h.trig) (hn:n=h.name):Hd.plain ⟨k,n,b,p⟩=h.plain:=by
 unfold Hd.plain;dsimp only;rw [hb,hk,hn]
theorem A2y:∀ (l acc:List Hd) (s:Rd) (post:List Tok),l.all A0f=true->acc.length+l.length<=32->L.drop s.i=l.flatMap hdT++([A4 [125]]++post)->okR s=true ->
  ∃ l' s',l'.map Hd.plain=l.map Hd.plain/\Evt (fun f=>U7 L E f acc s) (acc++l',s')/\L.drop s'.i=post/\okR s'=true
 | [],acc,s,post,hv,hl,h,hok=>by
  have h:L.drop s.i=A4 [125] :: post:=h;have hi:isR L E s [125]=true:=by rw [A1n hok,C5 h,w125.1];rfl
  refine ⟨[],B1 s,rfl,Evt.one fun f=>?_,F0 h,hok⟩;rw [U7,if_neg (by rw [hi];simp),P4 h hok w125.1,List.append_nil]
 | x :: l,acc,s,post,hv,hl,h,hok=>by
  simp only [List.all_cons,Bool.and_eq_true] at hv;have hx:=hv.1;unfold A0f at hx;simp only [Bool.and_eq_true,decide_eq_true_eq] at hx;obtain ⟨⟨⟨t1,t6⟩,hn⟩,hb⟩:=hx;obtain ⟨j,hj⟩:∃ j:Nat,x.trig=1+(j:Int):=⟨(x.trig-1).toNat,by omega⟩;have hj6:j<6:=by omega
  have hjn:(x.trig-1).toNat=j:=by omega
  have h0:L.drop s.i=A4 [111,110] :: (A4 (E9.getD j []) :: ((if 2<x.trig then D0 x.name else [])++(blT x.body++(l.flatMap hdT++([A4 [125]]++post))))):=by
   rw [h,List.flatMap_cons];unfold hdT;rw [hjn];simp
  have hpk:=C5 (E:=E) h0;have hi:isR L E s [125]=false:=by rw [A1n hok,hpk,won.1,Bool.true_and];simpa using won.2
  have hon:isR L E s [111,110]=true:=by rw [A1n hok,hpk,won.1];rfl
  have he:=P4 (E:=E) h0 hok won.1;have h1:=F0 h0;have h1:L.drop (B1 s).i=_:=h1;have ham:C0 L E (B1 s) E9=(j:Int):=by rw [S7 (show okR (B1 s)=true from hok),C5 h1];exact tr_all j hj6
  have h2:=F0 h1;have h2:L.drop (B1 (B1 s)).i=_:=h2;have key:∃ s4,s4=(if 2<=(j:Int) then (B2 L E (B1 (B1 s)) 1).2 else B1 (B1 s))/\okR s4=true/\(if 2<=(j:Int) then (B2 L E (B1 (B1 s)) 1).1.text else [])=x.name/\L.drop s4.i=blT x.body++(l.flatMap hdT++([A4 [125]]++post)):=by
   refine ⟨_,rfl,?_⟩;by_cases h2j:2<=(j:Int)
   ·rw [if_pos h2j,if_pos h2j];rw [if_pos (by omega)] at hn h2;rw [A1x (E:=E) h2 hok hn];exact ⟨hok,rfl,V1 (s:=B1 (B1 s)) h2 (A3 _)⟩
   ·rw [if_neg h2j,if_neg h2j];rw [if_neg (by omega)] at hn h2;exact ⟨hok,by have:x.name=[]:=(by simpa using hn);rw [this],h2⟩
  obtain ⟨s4,k1,k2,k3,k4⟩:=key;obtain ⟨b',s5,b1,b2,b3,b4⟩:=B0i (L:=L) (E:=E) (d:=1) hb k4 k2;obtain ⟨l',s',q1,q2,q3,q4⟩:=A2y l (acc++[⟨1+(j:Int),x.name,b',(B7 L E s).pos⟩]) s5 post hv.2 (by simp only [List.length_append,List.length_cons,List.length_nil] at hl ⊢;omega) (by rw [b3];exact G4 k4) b4;refine ⟨⟨1+(j:Int),x.name,b',(B7 L E s).pos⟩ :: l',s',by rw [List.map_cons,List.map_cons,hdp b1 hj.symm rfl,q1],?_,q3,q4⟩;rw [List.append_assoc] at q2;refine Evt.ext2 b2 q2 fun f hf hf2=>?_;rw [U7,if_pos ⟨hok,hi⟩,if_neg (by rw [hon];decide)];dsimp only;rw [A2d (by simp only [List.length_cons] at hl;omega),he,ham,if_neg (by omega), <- k1,k3];rw [show ((1:Nat):Int)=1 from rfl] at hf;rw [hf];exact hf2
theorem A9x {m:Md} (hv:U0 m=true) {s:Rd} {post:List Tok} (h:L.drop s.i=mdT m++post) (hok:okR s=true) :
  isR L E s [109,111,100,101]=true/\∃ m' s',m'.plain=m.plain/\Evt (fun f=>A2x L E f s) (m',s')/\L.drop s'.i=post/\okR s'=true:=by
 unfold U0 at hv;simp only [Bool.and_eq_true,decide_eq_true_eq] at hv;obtain ⟨⟨⟨⟨hn,p0⟩,p1⟩,hl⟩,hh⟩:=hv;have h0:L.drop s.i=A4 [109,111,100,101] :: (D0 m.name++(R6 m.prio++(A4 [123] :: (m.hds.flatMap hdT++([A4 [125]]++post))))):=by
  rw [h];unfold mdT;simp
 have hpk:=C5 (E:=E) h0;have he:=P4 (E:=E) h0 hok wmode.1;have h1:L.drop (B1 s).i=_:=F0 h0;have htk:=A1x (E:=E) h1 hok hn;have h2:L.drop (B1 (B1 s)).i=_:=V1 (s:=B1 s) h1 (A3 _);have htk2:=A9f (E:=E) h2 hok p0 p1;have h3:L.drop (B1 (B1 (B1 s))).i=_:=V1 (s:=B1 (B1 s)) h2 (B0 _);have he3:=P4 (E:=E) h3 hok w123.1;have h4:L.drop (B1 (B1 (B1 (B1 s)))).i=_:=F0 h3;obtain ⟨l',s',q1,q2,q3,q4⟩:=A2y (L:=L) (E:=E) m.hds [] _ post hh (by simp only [List.length_nil];omega) h4 hok;refine ⟨by rw [A1n hok,hpk,wmode.1];rfl,⟨m.name,m.prio,l',(B7 L E s).pos⟩,s',?_,q2.map fun f hf=>?_,q3,q4⟩
 ·unfold Md.plain;dsimp only;rw [q1]
 ·unfold A2x;dsimp only;rw [he,htk];dsimp only;rw [htk2];dsimp only;rw [he3,hf];rfl
theorem A2r:∀ (l acc:List Md) (s:Rd),l.all U0=true->acc.length+l.length<=16->L.drop s.i=l.flatMap mdT->okR s=true ->
  ∃ l' s',l'.map Md.plain=l.map Md.plain/\Evt (fun f=>R5 L E f acc s) (acc++l',s')/\okR s'=true
 | [],acc,s,hv,hl,h,hok=>by
  have hi:¬ s.i<L.length:=fun hlt=>by
   have:=List.drop_eq_nil_iff.1 (show L.drop s.i=[] from h);omega
  refine ⟨[],s,rfl,Evt.one fun f=>?_,hok⟩;rw [R5,if_neg (fun h=>hi h.2),List.append_nil]
 | m :: l,acc,s,hv,hl,h,hok=>by
  simp only [List.all_cons,Bool.and_eq_true] at hv;have h0:L.drop s.i=mdT m++l.flatMap mdT:=by rw [h,List.flatMap_cons]
  obtain ⟨hm,m',s1,e1,e2,e3,e4⟩:=A9x (E:=E) hv.1 h0 hok;obtain ⟨l',s',q1,q2,q4⟩:=A2r l (acc++[m']) s1 hv.2 (by simp only [List.length_append,List.length_cons,List.length_nil] at hl ⊢;omega) e3 e4;refine ⟨m' :: l',s',by rw [List.map_cons,List.map_cons,e1,q1],?_,q4⟩;rw [List.append_assoc] at q2;refine Evt.ext2 e2 q2 fun f hf hf2=>?_;rw [R5,if_pos ⟨hok,(A0p hm).2⟩,if_neg (by rw [hm];decide)];dsimp only;rw [A2d (by simp only [List.length_cons] at hl;omega),if_pos hok,hf];exact hf2
end
theorem hd_good {h:Hd} (hv:A0f h=true):S3 h=false:=by
 unfold A0f at hv;simp only [Bool.and_eq_true,decide_eq_true_eq] at hv;unfold S3;simp only [Bool.or_eq_false_iff,decide_eq_false_iff_not];omega
theorem ru_complete {r:Ru} (hv:O4 r=true) (E:Int):okR (W9 (ruT r) E).2=true/\(W9 (ruT r) E).1.plain=r.plain:=by
 unfold O4 at hv;simp only [Bool.and_eq_true,decide_eq_true_eq] at hv;obtain ⟨⟨⟨h1,h2⟩,h3⟩,h4⟩:=hv;have hbad:(r.modes.any fun m=>m.hds.any S3)=false:=by
  rw [List.any_eq_false];intro m hm;have:=List.all_eq_true.1 h4 m hm;unfold U0 at this;simp only [Bool.and_eq_true] at this;rw [Bool.not_eq_true,List.any_eq_false];intro h hh;rw [hd_good (List.all_eq_true.1 this.2 h hh)];decide
 have hT:ruT r=r.decls.flatMap dcT++r.modes.flatMap mdT:=by unfold ruT;rw [if_neg (by rw [hbad];decide)]
 have hp:amT (hd0 E (r.modes.flatMap mdT)) E0<0:=by
  cases hm:r.modes with
  | nil=>exact (by decide:(-1:Int)<0)
  | cons m l =>
   have:hd0 E ((m :: l).flatMap mdT)=A4 [109,111,100,101]:=by rw [List.flatMap_cons];unfold mdT;rfl
   rw [this,wmode.2];decide
 obtain ⟨ld,s1,a1,a2,a3,a4⟩:=A2s (L:=ruT r) (E:=E) r.decls [] rd0 (r.modes.flatMap mdT) h3 (by simpa using h1) hp (by rw [hT];rfl) rfl;obtain ⟨lm,s2,b1,b2,b4⟩:=A2r (L:=ruT r) (E:=E) r.modes [] s1 h4 (by simpa using h2) a3 a4;have hr:Evt (fun f=>A3s (ruT r) E f rd0) (⟨ld,lm⟩,s2):=a2.map2 b2 fun f h1 h2=>by
  unfold A3s;rw [h1];dsimp only;rw [h2];rfl
 rw [(A3t (ruT r) E).uniq hr];refine ⟨b4,?_⟩;unfold Ru.plain;dsimp only;rw [a1,b1]
mutual
theorem A8i:∀ e:Ex,msM e.plain=msM e
 | .mk k v n a p=>by
  rw [Ex.plain,msM,msM,A8j k 0 a,Ex.plains_map,List.length_map]
theorem A8j:∀ (k:Int) (i:Nat) (l:List Ex),msL k i (Ex.plains l)=msL k i l
 | k,i,[]=>rfl
 | k,i,e :: l=>by
  have hk:e.plain.kind=e.kind:=by cases e;rfl
  rw [Ex.plains,msL,msL,A8i e,A8j k (i+1) l,hk]
end
theorem A1w (e:Ex):N2 e.plain=N2 e:=by unfold N2;rw [A8i]
theorem A2a {l:List St}:(St.plains l).isEmpty=l.isEmpty:=by cases l<;>rfl
theorem A2b (l:List St):(St.plains l).length=l.length:=by rw [St.plains_map,List.length_map]
mutual
theorem vlSt_plain:∀ (d:Nat) (s:St),P9 d s.plain=P9 d s
 | d,.mk k n t a x y p=>by
  have ha:(Ex.plains a).all N2=a.all N2:=by
   rw [Ex.plains_map,List.all_map]
   congr 1
   funext e
   exact A1w e
  rw [St.plain,P9,P9,V8 (d+1) x,V8 (d+1) y,ha,Ex.plains_map,List.length_map,A2a,A2a,A2b,A2b]
theorem V8:∀ (d:Nat) (l:List St),G6 d (St.plains l)=G6 d l
 | d,[]=>rfl
 | d,s :: l=>by rw [St.plains,G6,G6,vlSt_plain d s,V8 d l]
end
theorem vlHd_plain (h:Hd):A0f h.plain=A0f h:=by
 unfold A0f Hd.plain M3;dsimp only;rw [V8,A2b,A2a]
theorem vlMd_plain (m:Md):U0 m.plain=U0 m:=by
 unfold U0 Md.plain;dsimp only;rw [List.length_map,List.all_map]
 congr 2
 funext h
 exact vlHd_plain h
theorem A6c (r:Ru):O4 r.plain=O4 r:=by
 unfold O4 Ru.plain;dsimp only;rw [List.length_map,List.length_map,List.all_map,List.all_map]
 congr 2
 funext m
 exact vlMd_plain m
theorem vd31_eq (r:Ru):vd31 r=O4 r:=by
 cases hv:O4 r with
 | true =>
  obtain ⟨h1,h2⟩:=ru_complete hv 0;unfold vd31;rw [h1,Bool.true_and];exact @decide_eq_true _ (_) h2
 | false =>
  cases hd:vd31 r with
  | false=>rfl
  | true =>
   unfold vd31 at hd;rw [Bool.and_eq_true] at hd;have h2:=@of_decide_eq_true _ (_) hd.2;obtain ⟨f,hf⟩:=(A3t (ruT r) 0).get;have h3:=rul_sound (fun t ht=>(goodRu r t ht).1) hf hd.1;rw [<- A6c,h2,A6c,hv] at h3;cases h3
mutual
theorem A2f:∀ a b:Ex,A3h true a b=true↔a.plain=b.plain
 | .mk k v n a q,.mk k' v' n' a' q'=>by
  have:=A4s a a';simp only [A3h,Bool.and_eq_true,beq_iff_eq,Bool.true_or,this,Ex.plain,Ex.mk.injEq,true_and,and_true]
theorem A4s:∀ a b:List Ex,J2 true a b=true↔Ex.plains a=Ex.plains b
 | [],[]=>by simp [J2,Ex.plains]
 | [],_ :: _=>by simp [J2,Ex.plains]
 | _ :: _,[]=>by simp [J2,Ex.plains]
 | e :: l,e' :: l'=>by
  have h1:=A2f e e';have h2:=A4s l l';simp only [J2,Bool.and_eq_true,h1,h2,Ex.plains,List.cons.injEq]
end
theorem vdE31_eq (e:Ex):A7x e=N2 e:=by
 cases hv:N2 e with
 | true =>
  obtain ⟨e',s',h1,h2,h3,h4⟩:=I4 (L:=exT e) (E:=0) hv (s:=rd0) (post:=[]) (by rw [List.append_nil];rfl) rfl rfl;have hu:=(A5z (exT e) 0).uniq h2;unfold A7x;rw [hu];dsimp only;rw [h4,h3,(A2f e' e).2 h1,Bool.true_and,Bool.and_true];simp [rd0]
 | false =>
  cases hd:A7x e with
  | false=>rfl
  | true =>
   unfold A7x at hd;simp only [Bool.and_eq_true] at hd;obtain ⟨f,hf⟩:=(A5z (exT e) 0).get;have h3:=(J9 (fun t ht=>(goodE e t ht).1) hf hd.1).2;have h4:=(A2f _ _).1 hd.2.2;rw [<- A1w,h4,A1w,hv] at h3;cases h3
end Go.Pb
set_option maxHeartbeats 8000000
set_option maxRecDepth 100000
namespace Go.Proofs.YtnmkkggfgdfmeaaGreatDoor
open Go.Eng (IC IOper DReg IFn A6)
open Go.Sym Go.Pb
theorem c_IF_hd {g:Hd->Bool} {f:Nat} {a cs:List DV} (xs:List (Hd)) (hx:xs.length<=9223372036854775807) (na:DV.nlL a=true) (ncs:DV.nlL cs=true) (hf:∀ x∈xs,PC Tryz.prog f (a++[Hd.v x]++cs) (.bool (g x))) :
  PC Tryz.prog 88 [T6 xs,.func f a cs] (I64 (U9 g xs 0)):=by
 refine PC.of A9 isU88 (Nat.le_of_ble_eq_true rfl) (by simp [DV.nlL,DV.nl,A5r,na,ncs]) rfl ?_;show IW Tryz.prog 19 u88_1 ⟨B6 _,_,_⟩ (rt [.tmp 4] _);repeat' ((with_reducible apply wr)<;>try simp only [go_sem,seval,List.length_map])
 refine C2 (fun k:Nat=>[(0,T6 xs),(1,.func f a cs),(7,I64 xs.length),(8,I64 k)]) (fun _=>nil) (fun k _=>k<=xs.length/\U9 g xs 0=U9 g (xs.drop k) k) (fun k=>xs.length-k) 0 (by simp [C1,tm,Tm.upd]) (Sub.nil _) (by simp) ?_;rintro k c ⟨hk,he⟩;by_cases hlt:k<xs.length
 ·have hd:decide ((k:Int)<xs.length)=true:=by simpa using hlt
  have hg:=List.getElem?_eq_getElem hlt;have hw:=w64 (n:=(k:Int)+1) (by omega) (by omega);have hst:=X9 (g:=g) hg;have hc:=hf xs[k] (List.getElem_mem hlt);repeat' ((with_reducible first|refine wr ?_|refine cpc hc ?_|refine wb2 ?_ ?_<;>(intro hb;try simp only [hb])|fail)<;>try simp only [go_sem,seval,hd,hg,hw])
  ·refine A8 ?_;rw [he,hst,hb];rfl
  ·exact ⟨k+1,rfl,Sub.refl _,inv ⟨by omega,by rw [he,hst,hb];rfl⟩,by omega⟩
 ·have hd:decide ((k:Int)<xs.length)=false:=by simpa using hlt
  repeat' ((with_reducible apply wr)<;>try simp only [go_sem,seval,hd])
  refine A8 ?_;rw [he,A0q (by omega)]
theorem c_CF_hd {g:Hd->Bool} {f:Nat} {a cs:List DV} (xs:List (Hd)) (hx:xs.length<=9223372036854775807) (na:DV.nlL a=true) (ncs:DV.nlL cs=true) (hf:∀ x∈xs,PC Tryz.prog f (a++[Hd.v x]++cs) (.bool (g x))) :
  PC Tryz.prog 45 [T6 xs,.func f a cs] (.bool (xs.any g)):=by
 refine PC.of A9 isU45 (Nat.le_of_ble_eq_true rfl) (by simp [DV.nlL,DV.nl,A5r,na,ncs]) rfl ?_;show IW Tryz.prog 9 u45_1 ⟨B6 _,_,_⟩ (rt [.tmp 4] _);have hc:=c_IF_hd xs hx na ncs hf;repeat' ((with_reducible first|apply wr|refine cpc hc ?_|fail)<;>try simp only [go_sem,seval])
 refine A8 ?_;rw [A0r]
theorem c_IF_dc {g:Dc->Bool} {f:Nat} {a cs:List DV} (xs:List (Dc)) (hx:xs.length<=9223372036854775807) (na:DV.nlL a=true) (ncs:DV.nlL cs=true) (hf:∀ x∈xs,PC Tryz.prog f (a++[Dc.v x]++cs) (.bool (g x))) :
  PC Tryz.prog 120 [D5 xs,.func f a cs] (I64 (U9 g xs 0)):=by
 refine PC.of A9 isU120 (Nat.le_of_ble_eq_true rfl) (by simp [DV.nlL,DV.nl,H7,na,ncs]) rfl ?_;show IW Tryz.prog 19 u120_1 ⟨B6 _,_,_⟩ (rt [.tmp 4] _);repeat' ((with_reducible apply wr)<;>try simp only [go_sem,seval,List.length_map])
 refine C2 (fun k:Nat=>[(0,D5 xs),(1,.func f a cs),(7,I64 xs.length),(8,I64 k)]) (fun _=>nil) (fun k _=>k<=xs.length/\U9 g xs 0=U9 g (xs.drop k) k) (fun k=>xs.length-k) 0 (by simp [C1,tm,Tm.upd]) (Sub.nil _) (by simp) ?_;rintro k c ⟨hk,he⟩;by_cases hlt:k<xs.length
 ·have hd:decide ((k:Int)<xs.length)=true:=by simpa using hlt
  have hg:=List.getElem?_eq_getElem hlt;have hw:=w64 (n:=(k:Int)+1) (by omega) (by omega);have hst:=X9 (g:=g) hg;have hc:=hf xs[k] (List.getElem_mem hlt);repeat' ((with_reducible first|refine wr ?_|refine cpc hc ?_|refine wb2 ?_ ?_<;>(intro hb;try simp only [hb])|fail)<;>try simp only [go_sem,seval,hd,hg,hw])
  ·refine A8 ?_;rw [he,hst,hb];rfl
  ·exact ⟨k+1,rfl,Sub.refl _,inv ⟨by omega,by rw [he,hst,hb];rfl⟩,by omega⟩
 ·have hd:decide ((k:Int)<xs.length)=false:=by simpa using hlt
  repeat' ((with_reducible apply wr)<;>try simp only [go_sem,seval,hd])
  refine A8 ?_;rw [he,A0q (by omega)]
theorem c_CF_dc {g:Dc->Bool} {f:Nat} {a cs:List DV} (xs:List (Dc)) (hx:xs.length<=9223372036854775807) (na:DV.nlL a=true) (ncs:DV.nlL cs=true) (hf:∀ x∈xs,PC Tryz.prog f (a++[Dc.v x]++cs) (.bool (g x))) :
  PC Tryz.prog 79 [D5 xs,.func f a cs] (.bool (xs.any g)):=by
 refine PC.of A9 isU79 (Nat.le_of_ble_eq_true rfl) (by simp [DV.nlL,DV.nl,H7,na,ncs]) rfl ?_;show IW Tryz.prog 9 u79_1 ⟨B6 _,_,_⟩ (rt [.tmp 4] _);have hc:=c_IF_dc xs hx na ncs hf;repeat' ((with_reducible first|apply wr|refine cpc hc ?_|fail)<;>try simp only [go_sem,seval])
 refine A8 ?_;rw [A0r]
theorem c_IF_md {g:Md->Bool} {f:Nat} {a cs:List DV} (xs:List (Md)) (hx:xs.length<=9223372036854775807) (na:DV.nlL a=true) (ncs:DV.nlL cs=true) (hf:∀ x∈xs,PC Tryz.prog f (a++[Md.v x]++cs) (.bool (g x))) :
  PC Tryz.prog 122 [E1 xs,.func f a cs] (I64 (U9 g xs 0)):=by
 refine PC.of A9 isU122 (Nat.le_of_ble_eq_true rfl) (by simp [DV.nlL,DV.nl,H6,na,ncs]) rfl ?_;show IW Tryz.prog 19 u122_1 ⟨B6 _,_,_⟩ (rt [.tmp 4] _);repeat' ((with_reducible apply wr)<;>try simp only [go_sem,seval,List.length_map])
 refine C2 (fun k:Nat=>[(0,E1 xs),(1,.func f a cs),(7,I64 xs.length),(8,I64 k)]) (fun _=>nil) (fun k _=>k<=xs.length/\U9 g xs 0=U9 g (xs.drop k) k) (fun k=>xs.length-k) 0 (by simp [C1,tm,Tm.upd]) (Sub.nil _) (by simp) ?_;rintro k c ⟨hk,he⟩;by_cases hlt:k<xs.length
 ·have hd:decide ((k:Int)<xs.length)=true:=by simpa using hlt
  have hg:=List.getElem?_eq_getElem hlt;have hw:=w64 (n:=(k:Int)+1) (by omega) (by omega);have hst:=X9 (g:=g) hg;have hc:=hf xs[k] (List.getElem_mem hlt);repeat' ((with_reducible first|refine wr ?_|refine cpc hc ?_|refine wb2 ?_ ?_<;>(intro hb;try simp only [hb])|fail)<;>try simp only [go_sem,seval,hd,hg,hw])
  ·refine A8 ?_;rw [he,hst,hb];rfl
  ·exact ⟨k+1,rfl,Sub.refl _,inv ⟨by omega,by rw [he,hst,hb];rfl⟩,by omega⟩
 ·have hd:decide ((k:Int)<xs.length)=false:=by simpa using hlt
  repeat' ((with_reducible apply wr)<;>try simp only [go_sem,seval,hd])
  refine A8 ?_;rw [he,A0q (by omega)]
theorem c_CF_md {g:Md->Bool} {f:Nat} {a cs:List DV} (xs:List (Md)) (hx:xs.length<=9223372036854775807) (na:DV.nlL a=true) (ncs:DV.nlL cs=true) (hf:∀ x∈xs,PC Tryz.prog f (a++[Md.v x]++cs) (.bool (g x))) :
  PC Tryz.prog 82 [E1 xs,.func f a cs] (.bool (xs.any g)):=by
 refine PC.of A9 isU82 (Nat.le_of_ble_eq_true rfl) (by simp [DV.nlL,DV.nl,H6,na,ncs]) rfl ?_;show IW Tryz.prog 9 u82_1 ⟨B6 _,_,_⟩ (rt [.tmp 4] _);have hc:=c_IF_md xs hx na ncs hf;repeat' ((with_reducible first|apply wr|refine cpc hc ?_|fail)<;>try simp only [go_sem,seval])
 refine A8 ?_;rw [A0r]
theorem c_IF_st {g:Pb.St->Bool} {f:Nat} {a cs:List DV} (xs:List (Pb.St)) (hx:xs.length<=9223372036854775807) (na:DV.nlL a=true) (ncs:DV.nlL cs=true) (hf:∀ x∈xs,PC Tryz.prog f (a++[Pb.St.v x]++cs) (.bool (g x))) :
  PC Tryz.prog 158 [F7 xs,.func f a cs] (I64 (U9 g xs 0)):=by
 refine PC.of A9 isU158 (Nat.le_of_ble_eq_true rfl) (by simp [DV.nlL,DV.nl,Q9,na,ncs]) rfl ?_;show IW Tryz.prog 19 u158_1 ⟨B6 _,_,_⟩ (rt [.tmp 4] _);repeat' ((with_reducible apply wr)<;>try simp only [go_sem,seval,List.length_map])
 refine C2 (fun k:Nat=>[(0,F7 xs),(1,.func f a cs),(7,I64 xs.length),(8,I64 k)]) (fun _=>nil) (fun k _=>k<=xs.length/\U9 g xs 0=U9 g (xs.drop k) k) (fun k=>xs.length-k) 0 (by simp [C1,tm,Tm.upd]) (Sub.nil _) (by simp) ?_;rintro k c ⟨hk,he⟩;by_cases hlt:k<xs.length
 ·have hd:decide ((k:Int)<xs.length)=true:=by simpa using hlt
  have hg:=List.getElem?_eq_getElem hlt;have hw:=w64 (n:=(k:Int)+1) (by omega) (by omega);have hst:=X9 (g:=g) hg;have hc:=hf xs[k] (List.getElem_mem hlt);rw [Pb.St.v_w] at hc;repeat' ((with_reducible first|refine wr ?_|refine cpc hc ?_|refine wb2 ?_ ?_<;>(intro hb;try simp only [hb])|fail)<;>try simp only [go_sem,seval,hd,hg,hw,Pb.St.v_w])
  ·refine A8 ?_;rw [he,hst,hb];rfl
  ·exact ⟨k+1,rfl,Sub.refl _,inv ⟨by omega,by rw [he,hst,hb];rfl⟩,by omega⟩
 ·have hd:decide ((k:Int)<xs.length)=false:=by simpa using hlt
  repeat' ((with_reducible apply wr)<;>try simp only [go_sem,seval,hd])
  refine A8 ?_;rw [he,A0q (by omega)]
theorem c_CF_st {g:Pb.St->Bool} {f:Nat} {a cs:List DV} (xs:List (Pb.St)) (hx:xs.length<=9223372036854775807) (na:DV.nlL a=true) (ncs:DV.nlL cs=true) (hf:∀ x∈xs,PC Tryz.prog f (a++[Pb.St.v x]++cs) (.bool (g x))) :
  PC Tryz.prog 148 [F7 xs,.func f a cs] (.bool (xs.any g)):=by
 refine PC.of A9 isU148 (Nat.le_of_ble_eq_true rfl) (by simp [DV.nlL,DV.nl,Q9,na,ncs]) rfl ?_;show IW Tryz.prog 9 u148_1 ⟨B6 _,_,_⟩ (rt [.tmp 4] _);have hc:=c_IF_st xs hx na ncs hf;repeat' ((with_reducible first|apply wr|refine cpc hc ?_|fail)<;>try simp only [go_sem,seval])
 refine A8 ?_;rw [A0r]
theorem c_IF_ex {g:Ex->Bool} {f:Nat} {a cs:List DV} (xs:List (Ex)) (hx:xs.length<=9223372036854775807) (na:DV.nlL a=true) (ncs:DV.nlL cs=true) (hf:∀ x∈xs,PC Tryz.prog f (a++[Ex.v x]++cs) (.bool (g x))) :
  PC Tryz.prog 166 [F4 xs,.func f a cs] (I64 (U9 g xs 0)):=by
 refine PC.of A9 isU166 (Nat.le_of_ble_eq_true rfl) (by simp [DV.nlL,DV.nl,W1,na,ncs]) rfl ?_;show IW Tryz.prog 19 u166_1 ⟨B6 _,_,_⟩ (rt [.tmp 4] _);repeat' ((with_reducible apply wr)<;>try simp only [go_sem,seval,List.length_map])
 refine C2 (fun k:Nat=>[(0,F4 xs),(1,.func f a cs),(7,I64 xs.length),(8,I64 k)]) (fun _=>nil) (fun k _=>k<=xs.length/\U9 g xs 0=U9 g (xs.drop k) k) (fun k=>xs.length-k) 0 (by simp [C1,tm,Tm.upd]) (Sub.nil _) (by simp) ?_;rintro k c ⟨hk,he⟩;by_cases hlt:k<xs.length
 ·have hd:decide ((k:Int)<xs.length)=true:=by simpa using hlt
  have hg:=List.getElem?_eq_getElem hlt;have hw:=w64 (n:=(k:Int)+1) (by omega) (by omega);have hst:=X9 (g:=g) hg;have hc:=hf xs[k] (List.getElem_mem hlt);rw [Ex.v_w] at hc;repeat' ((with_reducible first|refine wr ?_|refine cpc hc ?_|refine wb2 ?_ ?_<;>(intro hb;try simp only [hb])|fail)<;>try simp only [go_sem,seval,hd,hg,hw,Ex.v_w])
  ·refine A8 ?_;rw [he,hst,hb];rfl
  ·exact ⟨k+1,rfl,Sub.refl _,inv ⟨by omega,by rw [he,hst,hb];rfl⟩,by omega⟩
 ·have hd:decide ((k:Int)<xs.length)=false:=by simpa using hlt
  repeat' ((with_reducible apply wr)<;>try simp only [go_sem,seval,hd])
  refine A8 ?_;rw [he,A0q (by omega)]
theorem c_CF_ex {g:Ex->Bool} {f:Nat} {a cs:List DV} (xs:List (Ex)) (hx:xs.length<=9223372036854775807) (na:DV.nlL a=true) (ncs:DV.nlL cs=true) (hf:∀ x∈xs,PC Tryz.prog f (a++[Ex.v x]++cs) (.bool (g x))) :
  PC Tryz.prog 160 [F4 xs,.func f a cs] (.bool (xs.any g)):=by
 refine PC.of A9 isU160 (Nat.le_of_ble_eq_true rfl) (by simp [DV.nlL,DV.nl,W1,na,ncs]) rfl ?_;show IW Tryz.prog 9 u160_1 ⟨B6 _,_,_⟩ (rt [.tmp 4] _);have hc:=c_IF_ex xs hx na ncs hf;repeat' ((with_reducible first|apply wr|refine cpc hc ?_|fail)<;>try simp only [go_sem,seval])
 refine A8 ?_;rw [A0r]
end Go.Proofs.YtnmkkggfgdfmeaaGreatDoor
namespace Go.Pb
variable [Go.Sym.Tab]
open Go.Sym
mutual
theorem ms_le:∀ (e:Ex) (o d:Nat),msM e=some (o,d)->o<=e.sz/\d+1<=2 * e.sz
 | .mk k v n a p,o,d,h=>by
  have hs:(Ex.mk k v n a p).sz=1+n.length+Ex.szs a:=by rw [Ex.sz]
  obtain ⟨h1,h2,h3,h4,h5,h6⟩:=A4c h;by_cases hc:J1 k=0
  ·obtain ⟨rfl,rfl⟩:=h5 hc;omega
  ·obtain ⟨d',hl,hd⟩:=h6 hc;have:=msL_le k 0 a o d' hl;rw [hd];split<;>omega
theorem msL_le:∀ (k:Int) (i:Nat) (l:List Ex) (o d:Nat),msL k i l=some (o,d)->o<=Ex.szs l/\d<=2 * Ex.szs l
 | k,i,[],o,d,h=>by simp [msL] at h;omega
 | k,i,e :: l,o,d,h=>by
  rw [msL] at h;have hs:Ex.szs (e :: l)=e.sz+Ex.szs l:=by rw [Ex.szs]
  have hp:=e.sz_pos;cases he:msM e with
  | none=>rw [he] at h;cases h
  | some q =>
   obtain ⟨o1,d1⟩:=q;have h1:=ms_le e o1 d1 he;rw [he] at h;dsimp only at h;cases hl:msL k (i+1) l with
   | none=>rw [hl] at h;cases h
   | some q2 =>
    obtain ⟨o2,d2⟩:=q2;have h2:=msL_le k (i+1) l o2 d2 hl;rw [hl] at h;dsimp only at h;have h3:=Option.some.inj h;have h4:o1+o2=o:=congrArg Prod.fst h3;have h5:max (if V3 k e.kind i=true then d1+1 else d1) d2=d:=congrArg Prod.snd h3;rw [hs];split at h5<;>omega
end
def msV:Option (Nat × Nat)->DV
 | none=>.tup [I64 0,I64 0,.bool false]
 | some (o,d)=>.tup [I64 o,I64 d,.bool true]
theorem msV_nl (q:Option (Nat × Nat)):(msV q).nl=true:=by cases q<;>rfl
theorem msL_drop {k:Int} {a:List Ex} {i:Nat} {x:Ex} (h:a[i]? = some x):msL k i (a.drop i)=match msM x with
  | none=>none
  | some (o,d)=>match msL k (i+1) (a.drop (i+1)) with
   | none=>none
   | some (o2,d2)=>some (o+o2,max (if V3 k x.kind i=true then d+1 else d) d2):=by
 have hlt:=(List.getElem?_eq_some_iff.1 h).1;rw [List.drop_eq_getElem_cons hlt,(List.getElem?_eq_some_iff.1 h).2,msL];try rfl
end Go.Pb
namespace Go.Proofs.YtnmkkggfgdfmeaaGreatDoor
open Go.Eng (IC IOper DReg IFn A6)
open Go.Sym Go.Pb
theorem pc_bool {H:Hp} {a b:Bool} (h:a=b):∃ H2,GL H [.bool a] H2 [.bool b]:=⟨H,by rw [h];exact GL.refl _ _⟩
theorem sub_upd2 {b1 b2 b3:Blk} {cc:Nat} (u:Unit) (h:1<=cc):Sym.Sub (Sym.nil.upd 0 b1) (((Sym.nil.upd 0 b1).upd cc b2).upd cc b3):=by
 intro j b hj;simp only [Hp.upd,Sym.nil] at hj ⊢;split at hj
 ·rename_i h0;rw [if_neg (by omega),if_neg (by omega),if_pos h0];exact hj
 ·cases hj
theorem c_levS (k:Int):PC Tryz.prog 127 [I64 k] (I64 (B3 k)):=by
 refine PC.of A9 isU127 (Nat.le_of_ble_eq_true rfl) (by simp [DV.nlL,DV.nl]) (by simp [DV.nlL,DV.nl]) ?_;show IW Tryz.prog 37 u127_1 ⟨B6 _,_,_⟩ (rt [.tmp 2] _);repeat' ((with_reducible first|refine wr ?_|refine wb2 ?_ ?_<;>(intro hb;try simp only [hb])|fail)<;>try simp only [go_sem,seval])
 all_goals refine A8 (congrArg I64 ?_)
 all_goals simp_all [B3]
 all_goals omega
theorem c_namedS (k:Int):PC Tryz.prog 128 [I64 k] (.bool (A9u k)):=by
 refine PC.of A9 isU128 (Nat.le_of_ble_eq_true rfl) (by simp [DV.nlL,DV.nl]) (by simp [DV.nlL,DV.nl]) ?_;show IW Tryz.prog 13 u128_1 ⟨B6 _,_,_⟩ (rt [.tmp 2] _);repeat' ((with_reducible first|refine wr ?_|refine wb2 ?_ ?_<;>(intro hb;try simp only [hb])|fail)<;>try simp only [go_sem,seval])
 all_goals refine A8 (congrArg DV.bool ?_)
 all_goals (cases h5:k == 5<;>cases h6:k == 6<;>cases h7:k == 7<;>simp_all [A9u])
theorem c_wrapped (e x:Ex) (i:Nat) (h:e.args[i]? = some x) (hi:i<=1):PC Tryz.prog 129 [e.v,I64 i] (.bool (V3 e.kind x.kind i)):=by
 refine PC.of A9 isU129 (Nat.le_of_ble_eq_true rfl) (by simp [DV.nlL,DV.nl,Ex.nl]) rfl ?_;rw [Ex.v_w];show IW Tryz.prog 33 u129_1 ⟨B6 _,_,_⟩ (rt [.tmp 4] _);have h1:=c_levS e.kind;have h2:=c_levS x.kind;repeat' ((with_reducible first|refine wr ?_|refine cpc h1 ?_|refine cpc h2 ?_|refine wb2 ?_ ?_<;>(intro hb;try simp only [hb])|fail)<;>try simp only [go_sem,seval,h,Ex.v_w])
 all_goals refine pc_bool ?_
 all_goals unfold V3
 all_goals (cases hi1:i == 1<;>cases h3:B3 e.kind == 3<;>simp_all)
 all_goals omega
theorem c_measure:∀ (m:Nat) (e:Ex),e.sz<m->e.sz<=100000000->PC Tryz.prog 95 [e.v] (msV (msM e)):=by
 intro m
 induction m with
 | zero=>intro e h;omega
 | succ m ih =>
 intro e hm hB;have hnl:=e.sz_name;have hx:∀ x∈e.args,PC Tryz.prog 95 [x.v] (msV (msM x)):=fun x hx=>ih x (by have:=Ex.sz_arg hx;omega) (by have:=Ex.sz_arg hx;omega);have hwr:∀ (x:Ex) (i:Nat),e.args[i]? = some x->i<=1->PC Tryz.prog 129 [e.w,I64 i] (.bool (V3 e.kind x.kind i)):=fun x i h hi=>by have:=c_wrapped e x i h hi;rwa [Ex.v_w] at this
 refine PC.of A9 isU95 (Nat.le_of_ble_eq_true rfl) (by simp [DV.nlL,DV.nl,Ex.nl]) (msV_nl _) ?_;rw [Ex.v_w];obtain ⟨R,hR⟩:∃ R,R=msV (msM e):=⟨_,rfl⟩;rw [<- hR];have hle:=msL_le e.kind 0 e.args;have hal:Ex.szs e.args<e.sz:=by cases e with|mk k v n a p=>rw [Ex.sz];show Ex.szs a<_;omega
 have hargs:∀ x∈e.args,x.sz<=Ex.szs e.args:=fun x hx=>Ex.szs_mem hx;cases e with|mk k v n a p =>
 rw [msM] at hR;dsimp only [Ex.w,Ex.kind,Ex.value,Ex.name,Ex.args,Ex.pos] at hx hwr hle hal hargs hnl ⊢;have hl:=c_levS k;have hnk:=c_namedS k;have hin:=c_IsName n (by omega);have none0:kOk k=false\/a.length≠J1 k\/A0h k n=false\/A0e k v=false->R=.tup [I64 0,I64 0,.bool false]:=fun h=>by rw [hR,if_pos h];rfl
 have ci:((J1 k:Nat):Int)<=2:=by unfold J1;(repeat' split)<;>decide
 have kA:∀ nm vl:Bool,A0h k n=nm->A0e k v=vl->kOk k=true->IW Tryz.prog 113 u95_21 ⟨tm [(1,.ptr 0 0),(2,I64 0),(3,I64 0),(5,I64 (J1 k)),(7,.bool nm),(8,.bool vl)],Sym.nil.upd 0 ⟨0,true,[I64 k,I64 v,.str n,F4 a,I64 p]⟩,1⟩ (rt [.tmp 2,.tmp 3,.tmp 4] fun v H' x => ∃ H2,GL H' [v] H2 [R]):=by
  intro nm vl hnm hvl hkk;by_cases hlen:a.length=J1 k
  ·have d0:((a.length:Int) != (J1 k:Int))=false:=by simp [hlen]
   cases nm with
   | false =>
    repeat' ((with_reducible apply wr)<;>try simp only [go_sem,seval,d0])
    exact A8 (none0 (.inr (.inr (.inl hnm)))).symm
   | true =>
    cases vl with
    | false =>
     repeat' ((with_reducible apply wr)<;>try simp only [go_sem,seval,d0])
     exact A8 (none0 (.inr (.inr (.inr hvl)))).symm
    | true =>
     rw [if_neg (by simp [hkk,hnm,hvl,hlen])] at hR;by_cases hc0:J1 k=0
     ·have d1:((J1 k:Int) == 0)=true:=by simp [hc0]
      rw [if_pos hc0] at hR;repeat' ((with_reducible apply wr)<;>try simp only [go_sem,seval,d0,d1])
      exact A8 hR.symm
     ·have d1:((J1 k:Int) == 0)=false:=by simp [hc0]
      rw [if_neg hc0] at hR;repeat' ((with_reducible apply wr)<;>try simp only [go_sem,seval,d0,d1])
      have hl2:a.length<=2:=by omega
      refine C2 (fun q:Nat × Nat × Nat=>[(1,.ptr 0 0),(5,I64 (J1 k)),(80,F4 a),(81,I64 a.length),(82,I64 q.1),(2,I64 q.2.1),(3,I64 q.2.2)]) (fun _=>Sym.nil.upd 0 ⟨0,true,[I64 k,I64 v,.str n,F4 a,I64 p]⟩)
       (fun q cc=>1<=cc/\q.1<=a.length/\q.2.1<=q.1 * 1000000000/\q.2.2<=1000000000/\msL k 0 a=(match msL k q.1 (a.drop q.1) with
        | none=>none
        | some (o2,d2)=>some (q.2.1+o2,max q.2.2 d2))) (fun q=>a.length-q.1) (0,0,0) (by simp [C1,tm,Tm.upd]) (Sub.refl _)
       ⟨Nat.le_refl _,Nat.zero_le _,Nat.zero_le _,Nat.zero_le _,by
        rw [List.drop_zero];cases msL k 0 a with
        | none=>rfl
        | some q=>obtain ⟨o2,d2⟩:=q;simp⟩ ?_
      rintro ⟨i,o,d⟩ cc ⟨h1c,hk,ho,hd3,he⟩;dsimp only at hk ho hd3 he ⊢;by_cases hlt:i<a.length
      ·have hd:decide ((i:Int)<a.length)=true:=by simpa using hlt
       have hg:=List.getElem?_eq_getElem hlt;have hw:=w64 (n:=(i:Int)+1) (by omega) (by omega);rw [msL_drop hg] at he;have hmx:=hx _ (List.getElem_mem hlt);have hax:=hargs _ (List.getElem_mem hlt);have hwx:=hwr _ i hg (by omega);have hms:=ms_le a[i];generalize a[i]=x at hg he hmx hax hwx hms;rw [Ex.v_w] at hmx;have hwx:PC Tryz.prog 129 [DV.agg [I64 k,I64 v,DV.str n,F4 a,I64 p],I64 i] (.bool (V3 k x.kind i)):=hwx;have ne0:=M2 0 cc (by omega);cases hq:msM x with
       | none =>
        rw [hq] at he hmx;dsimp only [msV] at he hmx;rw [he] at hR;repeat' ((with_reducible first|apply wr|refine cpc hmx ?_|refine cpc hwx ?_|fail)<;>try simp only [go_sem,seval,hd,hg,hw,Ex.v_w,ne0])
        exact A8 hR.symm
       | some qq =>
        obtain ⟨o1,d1'⟩:=qq;rw [hq] at he hmx;dsimp only [msV] at he hmx;have:=hms o1 d1' hq;have w1:=w64 (n:=(o:Int)+(o1:Int)) (by omega) (by omega);have w2:=w64 (n:=(d1':Int)+1) (by omega) (by omega);cases hwb:V3 k x.kind i with
        | true =>
         rw [hwb] at he;repeat' ((with_reducible first|apply wr|refine cpc hmx ?_|refine cpc hwx ?_|fail)<;>try simp only [go_sem,seval,hd,hg,hw,Ex.v_w,ne0,hwb,w1,w2])
         all_goals (refine ⟨(i+1,o+o1,max d (d1'+1)),⟨by simp,by simp,?_⟩,?_,inv ⟨by omega,by simp only;omega,by simp only;omega,by simp only;omega,?_⟩,by simp only;omega⟩)
         all_goals first
          | (refine congrArg I64 ?_;dsimp only;split<;>omega)
          | exact sub_upd2 () h1c
          | (rw [he];dsimp only;cases msL k (i+1) (a.drop (i+1)) with
           | none=>rfl
           | some q=>obtain ⟨o2,d2⟩:=q;simp [Nat.add_assoc,Nat.max_assoc])
        | false =>
         rw [hwb] at he;repeat' ((with_reducible first|apply wr|refine cpc hmx ?_|refine cpc hwx ?_|fail)<;>try simp only [go_sem,seval,hd,hg,hw,Ex.v_w,ne0,hwb,w1,w2])
         all_goals (refine ⟨(i+1,o+o1,max d (d1')),⟨by simp,by simp,?_⟩,?_,inv ⟨by omega,by simp only;omega,by simp only;omega,by simp only;omega,?_⟩,by simp only;omega⟩)
         all_goals first
          | (refine congrArg I64 ?_;dsimp only;split<;>omega)
          | exact sub_upd2 () h1c
          | (rw [he];dsimp only;cases msL k (i+1) (a.drop (i+1)) with
           | none=>rfl
           | some q=>obtain ⟨o2,d2⟩:=q;simp [Nat.add_assoc,Nat.max_assoc])
      ·have hd:decide ((i:Int)<a.length)=false:=by simpa using hlt
       rw [List.drop_of_length_le (by omega)] at he;have w1:=w64 (n:=(d:Int)+1) (by omega) (by omega);by_cases hc1:J1 k=1
       ·have e1:((J1 k:Int) == 1)=true:=by simp [hc1]
        rw [he,hc1] at hR;repeat' ((with_reducible apply wr)<;>try simp only [go_sem,seval,hd,e1,w1])
        refine A8 ?_;rw [hR];simp [msV,msL]
       ·have e1:((J1 k:Int) == 1)=false:=by simp;omega
        rw [he] at hR;simp only [if_neg hc1] at hR;repeat' ((with_reducible apply wr)<;>try simp only [go_sem,seval,hd,e1,w1])
        refine A8 ?_;rw [hR];simp [msV,msL]
  ·have d0:((a.length:Int) != (J1 k:Int))=true:=by simp;omega
   repeat' ((with_reducible apply wr)<;>try simp only [go_sem,seval,d0])
   exact A8 (none0 (.inr (.inl hlen))).symm
 have kB:∀ nm:Bool,A0h k n=nm->kOk k=true->IW Tryz.prog 113 u95_20 ⟨tm [(1,.ptr 0 0),(2,I64 0),(3,I64 0),(5,I64 (J1 k)),(7,.bool nm)],Sym.nil.upd 0 ⟨0,true,[I64 k,I64 v,.str n,F4 a,I64 p]⟩,1⟩ (rt [.tmp 2,.tmp 3,.tmp 4] fun v H' x => ∃ H2,GL H' [v] H2 [R]):=by
  intro nm hnm hkk;repeat' ((with_reducible first|refine H4 (p:=IW _ _ u95_21 _ _) ?_|refine wr ?_|refine wb2 ?_ ?_<;>(intro hb;try simp only [hb])|fail)<;>try simp only [go_sem,seval])
  all_goals refine IW.stage (L:=[(1,.ptr 0 0),(2,I64 0),(3,I64 0),(5,I64 (J1 k)),(7,.bool nm),(8,.bool (A0e k v))]) ?_ (kA nm _ hnm rfl hkk)
  all_goals simp_all [C1,tm,Tm.upd,A0e]
  all_goals omega
 have kC:kOk k=true->IW Tryz.prog 113 u95_15 ⟨tm [(1,.ptr 0 0),(2,I64 0),(3,I64 0),(5,I64 (J1 k))],Sym.nil.upd 0 ⟨0,true,[I64 k,I64 v,.str n,F4 a,I64 p]⟩,1⟩ (rt [.tmp 2,.tmp 3,.tmp 4] fun v H' x => ∃ H2,GL H' [v] H2 [R]):=by
  intro hkk;repeat' ((with_reducible first|refine H4 (p:=IW _ _ u95_20 _ _) ?_|refine wr ?_|refine cpc hnk ?_|refine cpc hin ?_|refine wb2 ?_ ?_<;>(intro hb;try simp only [hb])|fail)<;>try simp only [go_sem,seval])
  all_goals refine IW.stage (L:=[(1,.ptr 0 0),(2,I64 0),(3,I64 0),(5,I64 (J1 k)),(7,.bool (A0h k n))]) ?_ (kB _ rfl hkk)
  all_goals simp_all [C1,tm,Tm.upd,A0h]
 show IW Tryz.prog 113 u95_1 ⟨B6 _,_,_⟩ (rt [.tmp 2,.tmp 3,.tmp 4] _);by_cases l6:B3 k=6
 ·have m6:(B3 k == 6)=true:=by simpa using l6
  repeat' ((with_reducible first|refine H4 (p:=IW _ _ u95_15 _ _) ?_|refine wr ?_|refine cpc hl ?_|fail)<;>try simp only [go_sem,seval,m6])
  refine IW.stage ?_ (kC (by simp [kOk];left;omega));simp [C1,tm,Tm.upd,J1,l6]
 have m6:(B3 k == 6)=false:=by simpa using l6
 by_cases l5:B3 k<6
 ·have m5:decide (B3 k<6)=true:=by simpa using l5
  repeat' ((with_reducible first|refine H4 (p:=IW _ _ u95_15 _ _) ?_|refine wr ?_|refine cpc hl ?_|fail)<;>try simp only [go_sem,seval,m6,m5])
  refine IW.stage ?_ (kC (by simp [kOk];left;omega));simp [C1,tm,Tm.upd,J1,l6,l5]
 have m5:decide (B3 k<6)=false:=by simpa using l5
 repeat' ((with_reducible first|refine H4 (p:=IW _ _ u95_15 _ _) ?_|refine wr ?_|refine cpc hl ?_|refine wb2 ?_ ?_<;>(intro hb;try simp only [hb])|fail)<;>try simp only [go_sem,seval,m6,m5])
 all_goals first
  | (refine IW.stage ?_ (kC (by simp_all [kOk]<;>omega));simp [C1,tm,Tm.upd,J1,l6,l5];done)
  | (refine A8 (none0 (.inl ?_)).symm;simp_all [kOk]<;>omega)
theorem c_ValidExpr (e:Ex) (hB:e.sz<=100000000):PC Tryz.prog 56 [e.v] (.bool (N2 e)):=by
 refine PC.of A9 isU56 (Nat.le_of_ble_eq_true rfl) (by simp [DV.nlL,DV.nl]) (by simp [DV.nlL,DV.nl]) ?_;show IW Tryz.prog 21 u56_1 ⟨B6 _,_,_⟩ (rt [.tmp 2] _);have hm:=c_measure _ e (Nat.lt_succ_self _) hB;unfold N2;rw [Ex.v_w] at hm ⊢;cases hq:msM e with
 | none =>
  rw [hq] at hm;dsimp only [msV] at hm;repeat' ((with_reducible first|apply wr|refine cpc hm ?_|fail)<;>try simp only [go_sem,seval])
  all_goals exact A8 rfl
 | some q =>
  obtain ⟨o,d⟩:=q;rw [hq] at hm;dsimp only [msV] at hm;repeat' ((with_reducible first|refine wr ?_|refine cpc hm ?_|refine wb2 ?_ ?_<;>(intro hb;try simp only [hb])|fail)<;>try simp only [go_sem,seval])
  all_goals (refine A8 (congrArg DV.bool ?_);by_cases h1:o<=32<;>by_cases h2:d<=16<;>simp_all<;>omega)
end Go.Proofs.YtnmkkggfgdfmeaaGreatDoor
namespace Go.Pb
open Go.Sym
def Shp.v (s:Shp):DV:=.agg [.bool s.name,.bool s.text,I64 s.args,.bool s.thn,.bool s.els]
end Go.Pb
namespace Go.Proofs.YtnmkkggfgdfmeaaGreatDoor
open Go.Eng (IC IOper DReg IFn A6)
open Go.Sym Go.Pb
def kndB (k:Int):Bool:=decide (1<=k) && decide (k<=19)
theorem c_shapeOf (k:Int):PC Tryz.prog 159 [I64 k] (.tup [(L6 k).v,.bool (kndB k)]):=by
 refine PC.of A9 isU159 (Nat.le_of_ble_eq_true rfl) (by simp [DV.nlL,DV.nl]) rfl ?_;show IW Tryz.prog 35 u159_1 ⟨B6 _,_,_⟩ (rt [.cell 2 5 true,.tmp 3] _);repeat' ((with_reducible first|refine wr ?_|refine wb2 ?_ ?_<;>(intro hb;try simp only [hb])|fail)<;>try simp only [go_sem,seval])
 all_goals refine A8 ?_
 all_goals simp_all [L6,kndB,Shp.v,tm,Tm.upd]
 all_goals omega
theorem c_isText (s:List UInt8) (hs:s.length<=1000000000):PC Tryz.prog 162 [.str s] (.bool (S2 s)):=by
 refine PC.of A9 isU162 (Nat.le_of_ble_eq_true rfl) (by simp [DV.nlL,DV.nl]) (by simp [DV.nlL,DV.nl]) ?_;show IW Tryz.prog 23 u162_1 ⟨B6 _,_,_⟩ (rt [.tmp 2] _);repeat' ((with_reducible apply wr)<;>try simp only [go_sem,seval])
 refine C2 (fun k:Nat=>[(0,.str s),(3,I64 k)]) (fun _=>Sym.nil) (fun k _=>k<=s.length/\(s.take k).all txB=true) (fun k=>s.length-k) 0 (by simp [C1,tm,Tm.upd]) (Sub.refl _) ⟨Nat.zero_le _,rfl⟩ ?_;rintro k cc ⟨hk,he⟩;by_cases hlt:k<s.length
 ·have hd:decide ((k:Int)<s.length)=true:=by simpa using hlt
  have hg:=List.getElem?_eq_getElem hlt;have hw:=w64 (n:=(k:Int)+1) (by omega) (by omega);generalize s[k]=x at hg;have hx:txB x=(decide (32<=x.toNat) && decide (x.toNat<=126)):=rfl;repeat' ((with_reducible first|refine wr ?_|refine wb2 ?_ ?_<;>(intro hb;try simp only [hb])|fail)<;>try simp only [go_sem,seval,hd,hg,hw])
  ·refine A8 (congrArg DV.bool ?_);have:=A3m txB s k _ hg (by simp_all<;>omega);simp [S2,this]
  ·refine A8 (congrArg DV.bool ?_);have:=A3m txB s k _ hg (by simp_all<;>omega);simp [S2,this]
  ·exact ⟨k+1,rfl,Sub.refl _,inv ⟨by omega,by rw [A1l txB s k _ hg,he];simp_all<;>omega⟩,by omega⟩
 have hd:decide ((k:Int)<s.length)=false:=by simpa using hlt
 have hall:=A7l txB s k (by omega) he;repeat' ((with_reducible apply wr)<;>try simp only [go_sem,seval,hd])
 refine A8 (congrArg DV.bool ?_);simp [S2,hall];omega
theorem c_validDecl (d:Dc) (hB:d.name.length<=1000000000):PC Tryz.prog 81 [d.v] (.bool (A0k d)):=by
 refine PC.of A9 isU81 (Nat.le_of_ble_eq_true rfl) (by simp [DV.nlL,DV.nl]) (by simp [DV.nlL,DV.nl]) ?_;show IW Tryz.prog 37 u81_1 ⟨B6 _,_,_⟩ (rt [.tmp 2] _);have hn:=c_IsName d.name hB;repeat' ((with_reducible first|refine wr ?_|refine cpc hn ?_|refine wb2 ?_ ?_<;>(intro hb;try simp only [hb])|fail)<;>try simp only [go_sem,seval])
 all_goals (refine A8 (congrArg DV.bool ?_);simp_all [A0k]<;>omega)
theorem c_vS1 (e:Ex) (hB:e.sz<=100000000):PC Tryz.prog 161 [e.v] (.bool (!N2 e)):=by
 refine PC.of A9 isU161 (Nat.le_of_ble_eq_true rfl) (by simp [DV.nlL,DV.nl]) (by simp [DV.nlL,DV.nl]) ?_;show IW Tryz.prog 6 u161_1 ⟨B6 _,_,_⟩ (rt [.tmp 2] _);have h:=c_ValidExpr e hB;rw [Ex.v_w] at h ⊢;repeat' ((with_reducible first|apply wr|refine cpc h ?_|fail)<;>try simp only [go_sem,seval])
 exact A8 rfl
theorem vlSt_e (d:Nat) (s:Pb.St):P9 d s=(kndB s.kind && (s.args.length == (L6 s.kind).args && s.args.all N2) &&
   ((if (L6 s.kind).name=true then D6 s.name else s.name == []) && (if (L6 s.kind).text=true then S2 s.text else s.text == [])) &&
   (((L6 s.kind).thn || s.thn.isEmpty) && ((L6 s.kind).els || s.els.isEmpty)) && (M3 s.thn (d+1) && M3 s.els (d+1))):=by
 cases s with|mk k n t a x y p=>rw [P9];rfl
theorem B0l {α : Type} (g : α -> Bool) (l:List α):l.any (fun x => !g x) = !l.all g:=by
 induction l with
 | nil=>rfl
 | cons x l ih=>rw [List.any_cons,List.all_cons,ih,Bool.not_and]
theorem c_vSt (s:Pb.St) (d:Nat) (hd:d<=1000000000) (hB:s.sz<=100000000) (hX:PC Tryz.prog 123 [F7 s.thn,I64 (d+1:Nat)] (.bool (M3 s.thn (d+1)))) (hY:PC Tryz.prog 123 [F7 s.els,I64 (d+1:Nat)] (.bool (M3 s.els (d+1)))) :
  PC Tryz.prog 150 [s.v,I64 d] (.bool (P9 d s)):=by
 rw [vlSt_e];have hsa:Ex.szs s.args<s.sz:=by cases s with|mk k n t a x y p=>rw [Pb.St.sz];show Ex.szs a<_;omega
 have hal:=Ex.szs_len s.args;have hxl:=Pb.St.szs_len s.thn;have hyl:=Pb.St.szs_len s.els;have hxs:=s.sz_thn;have hys:=s.sz_els;have hnl:=s.sz_name;have htl:=s.sz_text;have hn:=c_IsName s.name (by omega);have ht:=c_isText s.text (by omega);have hsh:=c_shapeOf s.kind;have hca:=c_CF_ex (f:=161) (a:=[]) (cs:=[]) (g:=fun e => !N2 e) s.args (by omega) rfl rfl (fun x hx=>c_vS1 x (by have:=Ex.szs_mem hx;omega));rw [B0l] at hca;have hw:=w64 (n:=(d:Int)+1) (by omega) (by omega);refine PC.of A9 isU150 (Nat.le_of_ble_eq_true rfl) (by rw [Pb.St.v_w];simp [DV.nlL,DV.nl,W1,Q9]) rfl ?_;cases s with|mk k n t a x y p =>
 dsimp only [Pb.St.kind,Pb.St.name,Pb.St.text,Pb.St.args,Pb.St.thn,Pb.St.els,Pb.St.pos] at *;have hX:PC Tryz.prog 123 [F7 x,I64 ((d:Int)+1)] (.bool (M3 x (d+1))):=hX;have hY:PC Tryz.prog 123 [F7 y,I64 ((d:Int)+1)] (.bool (M3 y (d+1))):=hY;have ev:(Pb.St.mk k n t a x y p).v=.agg [I64 k,.str n,.str t,F4 a,F7 x,F7 y,I64 p]:=Pb.St.v_w _;rw [ev];show IW Tryz.prog 86 u150_1 ⟨B6 _,_,_⟩ (rt [.tmp 4] _);generalize M3 x (d+1)=bx at *;generalize M3 y (d+1)=bY at *;generalize kndB k=kb at *;obtain ⟨nb,tb,ar,xb,yb,hs⟩:∃ nb tb ar xb yb,L6 k=⟨nb,tb,ar,xb,yb⟩:=⟨_,_,_,_,_,rfl⟩;simp only [hs,Shp.v] at hsh ⊢;have kA:∀ (cc:Nat) (nm tx:Bool),IW Tryz.prog 86 u150_16 ⟨tm [(1,I64 d),(2,.ptr 0 0),(5,.ptr 1 0),(7,.bool nm),(8,.bool tx)],(Sym.nil.upd 0 ⟨0,true,[I64 k,.str n,.str t,F4 a,F7 x,F7 y,I64 p]⟩).upd 1 ⟨0,true,[.bool nb,.bool tb,I64 ar,.bool xb,.bool yb]⟩,cc⟩ (rt [.tmp 4] fun v H' c => ∃ H2,GL H' [v] H2 [.bool ((nm && tx) && ((xb || x.isEmpty) && (yb || y.isEmpty)) && (bx && bY))]):=by
  intro cc nm tx;have ex:x.isEmpty = !decide ((x.length:Int)>0):=by cases x<;>simp
  have ey:y.isEmpty = !decide ((y.length:Int)>0):=by cases y<;>simp
  rw [ex,ey];cases nm with
  | false =>
   repeat' ((with_reducible apply wr)<;>try simp only [go_sem,seval])
   exact A8 (by simp)
  | true =>
  cases tx with
  | false =>
   repeat' ((with_reducible apply wr)<;>try simp only [go_sem,seval])
   exact A8 (by simp)
  | true =>
  generalize hlx:decide ((x.length:Int)>0)=lx at *;generalize hly:decide ((y.length:Int)>0)=ly at *;cases bx<;>cases bY<;>cases xb<;>cases lx<;>cases yb<;>cases ly;all_goals (repeat' ((with_reducible first|apply wr|refine cpc hX ?_|refine cpc hY ?_|fail)<;>try simp only [go_sem,seval,hlx,hly,hw,List.length_map]))
  all_goals exact A8 rfl
 have kB:∀ cc:Nat,IW Tryz.prog 86 u150_8 ⟨tm [(1,I64 d),(2,.ptr 0 0),(5,.ptr 1 0),(7,.bool (n == [])),(8,.bool (t == []))],(Sym.nil.upd 0 ⟨0,true,[I64 k,.str n,.str t,F4 a,F7 x,F7 y,I64 p]⟩).upd 1 ⟨0,true,[.bool nb,.bool tb,I64 ar,.bool xb,.bool yb]⟩,cc⟩ (rt [.tmp 4] fun v H' c => ∃ H2,GL H' [v] H2 [.bool (((if nb=true then D6 n else n == []) && (if tb=true then S2 t else t == [])) && ((xb || x.isEmpty) && (yb || y.isEmpty)) && (bx && bY))]):=by
  intro cc;cases nb<;>cases tb;all_goals (repeat' ((with_reducible first|refine H4 (p:=IW _ _ u150_16 _ _) ?_|refine wr ?_|refine cpc hn ?_|refine cpc ht ?_|fail)<;>try simp only [go_sem,seval]))
  all_goals (refine IW.stage ?_ (kA _ _ _);simp [C1,tm,Tm.upd])
 cases kb with
 | false =>
  repeat' ((with_reducible first|apply wr|refine cpc hsh ?_|fail)<;>try simp only [go_sem,seval])
  exact A8 (by simp)
 | true =>
 by_cases hal2:a.length=ar
 ·have d0:((a.length:Int) != (ar:Int))=false:=by simp [hal2]
  cases hall:a.all N2 with
  | false =>
   rw [hall] at hca;repeat' ((with_reducible first|apply wr|refine cpc hsh ?_|refine cpc hca ?_|fail)<;>try simp only [go_sem,seval,d0,List.length_map])
   exact A8 (by simp)
  | true =>
   rw [hall] at hca;have e1:(a.length == ar)=true:=by simpa using hal2
   rw [e1];simp only [Bool.true_and];repeat' ((with_reducible first|refine H4 (p:=IW _ _ u150_8 _ _) ?_|refine wr ?_|refine cpc hsh ?_|refine cpc hca ?_|fail)<;>try simp only [go_sem,seval,d0,List.length_map,A1])
   refine IW.stage (L:=[(1,I64 d),(2,.ptr 0 0),(5,.ptr 1 0),(7,.bool (n == [])),(8,.bool (t == []))]) ?_ (kB _);simp [C1,tm,Tm.upd]
 ·have d0:((a.length:Int) != (ar:Int))=true:=by simp;omega
  repeat' ((with_reducible first|apply wr|refine cpc hsh ?_|fail)<;>try simp only [go_sem,seval,d0,List.length_map])
  exact A8 (by simp;omega)
theorem c_vB1 (s:Pb.St) (d:Nat) (h:PC Tryz.prog 150 [s.v,I64 d] (.bool (P9 d s))):PC Tryz.prog 149 [s.v,.fptr [I64 d]] (.bool (!P9 d s)):=by
 rw [Pb.St.v_w] at h ⊢;refine PC.of A9 isU149 (Nat.le_of_ble_eq_true rfl) (by simp [DV.nlL,DV.nl]) (by simp [DV.nlL,DV.nl]) ?_;show IW Tryz.prog 8 u149_1 ⟨B6 _,_,_⟩ (rt [.tmp 3] _);repeat' ((with_reducible first|apply wr|refine cpc h ?_|fail)<;>try simp only [go_sem,seval])
 exact A8 rfl
theorem A7w (d:Nat):∀ l:List Pb.St,G6 d l=l.all (P9 d)
 | []=>by rw [G6];rfl
 | s :: l=>by rw [G6,A7w d l];rfl
theorem c_validBlock:∀ (m:Nat) (l:List Pb.St) (d:Nat),Pb.St.szs l<m->Pb.St.szs l<=100000000->d+Pb.St.szs l<=1000000000->PC Tryz.prog 123 [F7 l,I64 d] (.bool (M3 l d)):=by
 intro m
 induction m with
 | zero=>intro l d h;omega
 | succ m ih =>
 intro l d hm hB hd;have hl:=Pb.St.szs_len l;have hcf:=c_CF_st (f:=149) (a:=[]) (cs:=[.fptr [I64 d]]) (g:=fun s => !P9 d s) l (by omega) rfl rfl (fun s hs=>by
  have h1:=Pb.St.szs_mem hs;have h2:=s.sz_thn;have h3:=s.sz_els;exact c_vB1 s d (c_vSt s d (by omega) (by omega) (ih _ _ (by omega) (by omega) (by omega)) (ih _ _ (by omega) (by omega) (by omega))))
 rw [B0l, <- A7w] at hcf;refine PC.of A9 isU123 (Nat.le_of_ble_eq_true rfl) (by simp [DV.nlL,DV.nl,Q9]) rfl ?_;show IW Tryz.prog 21 u123_1 ⟨B6 _,_,_⟩ (rt [.tmp 4] _);have el:l.isEmpty = !decide ((l.length:Int)>0):=by cases l<;>simp
 have e64:decide (l.length<=64) = !decide ((l.length:Int)>64):=by rw [<- decide_not];exact decide_eq_decide.2 (by omega)
 have e8:decide (d<=8) = !decide ((d:Int)>8):=by rw [<- decide_not];exact decide_eq_decide.2 (by omega)
 unfold M3;rw [el,e64,e8];repeat' ((first|(with_reducible first|refine wr ?_)|(with_reducible refine wb2 ?_ ?_<;>(intro hb;try simp only [hb]))|(refine AC.call (hcf.lend rfl (GL.one (id:=0) (b:=⟨0,true,[I64 d]⟩) rfl rfl (.cons _ _ _ _ (.same _) (.cons _ _ _ _ (.func _ _ _ _ _ .nil (.cons _ _ _ _ (.ptr 0 _ (Nat.zero_le _) rfl) .nil)) .nil)))) ?_<;>rintro v H' c' ⟨rfl,rfl,rfl⟩ hcc)|fail)<;>try simp only [go_sem,seval,List.length_map])
 all_goals (refine A8 (congrArg DV.bool ?_);simp_all)
theorem c_validHd (h:Hd) (hB:Pb.St.szs h.body<=100000000):PC Tryz.prog 123 [F7 h.body,I64 1] (.bool (M3 h.body 1)) :=
 c_validBlock _ h.body 1 (Nat.lt_succ_self _) hB (by omega)
theorem hd_w (h:Hd):h.v=.agg [I64 h.trig,.str h.name,F7 h.body,I64 h.pos]:=rfl
theorem c_validMode (d:Md) (hB:d.sz<=100000000):PC Tryz.prog 84 [d.v] (.bool (U0 d)):=by
 have hsz:d.sz=1+d.name.length+(d.hds.map Hd.sz).sum:=rfl;have hhl:d.hds.length<=(d.hds.map Hd.sz).sum:=G9 fun x _=>by show 1<=1+_+_;omega
 have hn:=c_IsName d.name (by omega);refine PC.of A9 isU84 (Nat.le_of_ble_eq_true rfl) (by simp [Md.v,DV.nlL,DV.nl,A5r]) rfl ?_;have ev:d.v=.agg [.str d.name,I64 d.prio,T6 d.hds,I64 d.pos]:=rfl;rw [ev];show IW Tryz.prog 61 u84_1 ⟨B6 _,_,_⟩ (rt [.tmp 2] _);cases hnm:D6 d.name with
 | false =>
  rw [hnm] at hn;repeat' ((with_reducible first|apply wr|refine cpc hn ?_|fail)<;>try simp only [go_sem,seval])
  exact A8 (by simp [U0,hnm])
 | true =>
 rw [hnm] at hn;by_cases p0:d.prio<0
 ·have q0:decide (d.prio<0)=true:=by simpa using p0
  repeat' ((with_reducible first|apply wr|refine cpc hn ?_|fail)<;>try simp only [go_sem,seval,q0])
  exact A8 (by simp [U0,hnm];omega)
 have q0:decide (d.prio<0)=false:=by simpa using p0
 by_cases p1:d.prio>2147483647
 ·have q1:decide (d.prio>2147483647)=true:=by simpa using p1
  repeat' ((with_reducible first|apply wr|refine cpc hn ?_|fail)<;>try simp only [go_sem,seval,q0,q1])
  exact A8 (by simp [U0,hnm];omega)
 have q1:decide (d.prio>2147483647)=false:=by simpa using p1
 by_cases p2:d.hds.length>32
 ·have q2:decide ((d.hds.length:Int)>32)=true:=by simp;omega
  repeat' ((with_reducible first|apply wr|refine cpc hn ?_|fail)<;>try simp only [go_sem,seval,q0,q1,q2,List.length_map])
  exact A8 (by simp [U0,hnm];omega)
 have q2:decide ((d.hds.length:Int)>32)=false:=by simp;omega
 have er:U0 d=d.hds.all A0f:=by
  unfold U0;rw [hnm,show decide (0<=d.prio)=true by simp;omega,show decide (d.prio<=2147483647)=true by simp;omega,show decide (d.hds.length<=32)=true by simp;omega];rfl
 rw [er];repeat' ((with_reducible first|apply wr|refine cpc hn ?_|fail)<;>try simp only [go_sem,seval,q0,q1,q2,List.length_map])
 refine C2 (fun k:Nat=>[(27,T6 d.hds),(28,I64 d.hds.length),(29,I64 k)]) (fun _=>Sym.nil) (fun k _=>k<=d.hds.length/\(d.hds.take k).all A0f=true) (fun k=>d.hds.length-k) 0 (by simp [C1,tm,Tm.upd]) (Sub.nil _) ⟨Nat.zero_le _,rfl⟩ ?_;rintro k cc ⟨hk,he⟩;by_cases hlt:k<d.hds.length
 ·have hd:decide ((k:Int)<d.hds.length)=true:=by simpa using hlt
  have hg:=List.getElem?_eq_getElem hlt;have hw:=w64 (n:=(k:Int)+1) (by omega) (by omega);have hs:d.hds[k].sz<=(d.hds.map Hd.sz).sum:=I5 (List.getElem_mem hlt);generalize d.hds[k]=h at hg hs;have hhs:h.sz=1+h.name.length+Pb.St.szs h.body:=rfl;have hn2:=c_IsName h.name (by omega);have hb2:=c_validHd h (by omega);have hf:=A3m A0f d.hds k _ hg;have ht:=A1l A0f d.hds k _ hg;have eh:A0f h=(decide (1<=h.trig) && decide (h.trig<=6) && (if 3<=h.trig then D6 h.name else h.name == []) && M3 h.body 1):=rfl;by_cases t3:3<=h.trig
  ·have u3:decide (h.trig≥3)=true:=by simpa using t3
   rw [if_pos t3] at eh;repeat' ((with_reducible first|refine wr ?_|refine cpc hn2 ?_|refine cpc hb2 ?_|refine wb2 ?_ ?_<;>(intro hb;try simp only [hb])|fail)<;>try simp only [go_sem,seval,hd,hg,hw,u3,hd_w,A0,A1])
   all_goals first
    | (refine A8 (congrArg DV.bool (hf ?_).symm);rw [eh];clear hf ht eh er;simp_all<;>omega)
    | (refine ⟨k+1,rfl,Sub.nil _,inv ⟨by omega,?_⟩,by omega⟩;rw [ht,he,eh];clear hf ht eh er;simp_all<;>omega)
  ·have u3:decide (h.trig≥3)=false:=by simpa using t3
   rw [if_neg t3] at eh;repeat' ((with_reducible first|refine wr ?_|refine cpc hn2 ?_|refine cpc hb2 ?_|refine wb2 ?_ ?_<;>(intro hb;try simp only [hb])|fail)<;>try simp only [go_sem,seval,hd,hg,hw,u3,hd_w,A0,A1])
   all_goals first
    | (refine A8 (congrArg DV.bool (hf ?_).symm);rw [eh];clear hf ht eh er;simp_all<;>omega)
    | (refine ⟨k+1,rfl,Sub.nil _,inv ⟨by omega,?_⟩,by omega⟩;rw [ht,he,eh];clear hf ht eh er;simp_all<;>omega)
 have hd:decide ((k:Int)<d.hds.length)=false:=by simpa using hlt
 have hall:=A7l A0f d.hds k (by omega) he;repeat' ((with_reducible apply wr)<;>try simp only [go_sem,seval,hd])
 exact A8 (by rw [hall])
theorem c_V1 (d:Dc) (hB:d.name.length<=1000000000):PC Tryz.prog 80 [d.v] (.bool (!A0k d)):=by
 have h:=c_validDecl d hB;have ev:d.v=.agg [I64 d.kind,.str d.name,I64 d.value,I64 d.pos]:=rfl;rw [ev] at h ⊢;refine PC.of A9 isU80 (Nat.le_of_ble_eq_true rfl) (by simp [DV.nlL,DV.nl]) (by simp [DV.nlL,DV.nl]) ?_;show IW Tryz.prog 6 u80_1 ⟨B6 _,_,_⟩ (rt [.tmp 2] _);repeat' ((with_reducible first|apply wr|refine cpc h ?_|fail)<;>try simp only [go_sem,seval])
 exact A8 rfl
theorem c_V2 (d:Md) (hB:d.sz<=100000000):PC Tryz.prog 83 [d.v] (.bool (!U0 d)):=by
 have h:=c_validMode d hB;have ev:d.v=.agg [.str d.name,I64 d.prio,T6 d.hds,I64 d.pos]:=rfl;rw [ev] at h ⊢;refine PC.of A9 isU83 (Nat.le_of_ble_eq_true rfl) (by simp [DV.nlL,DV.nl]) (by simp [DV.nlL,DV.nl]) ?_;show IW Tryz.prog 6 u83_1 ⟨B6 _,_,_⟩ (rt [.tmp 2] _);repeat' ((with_reducible first|apply wr|refine cpc h ?_|fail)<;>try simp only [go_sem,seval])
 exact A8 rfl
theorem c_Valid (r:Ru) (hB:r.sz<=100000000):PC Tryz.prog 40 [r.v] (.bool (O4 r)):=by
 obtain ⟨D,M⟩:=r;have hDs:(D.map Dc.sz).sum+(M.map Md.sz).sum<=100000000:=hB;have hDl:D.length<=(D.map Dc.sz).sum:=G9 fun x _=>by show 1<=1+_;omega
 have hMl:M.length<=(M.map Md.sz).sum:=G9 fun x _=>by show 1<=1+_+_;omega
 have h1:=c_CF_dc (f:=80) (a:=[]) (cs:=[]) (g:=fun e => !A0k e) D (by omega) rfl rfl (fun x hx=>c_V1 x (by
  have:x.sz<=(D.map Dc.sz).sum:=I5 hx;have e:x.sz=1+x.name.length:=rfl;omega))
 have h2:=c_CF_md (f:=83) (a:=[]) (cs:=[]) (g:=fun e => !U0 e) M (by omega) rfl rfl (fun x hx=>c_V2 x (by
  have:x.sz<=(M.map Md.sz).sum:=I5 hx;omega))
 rw [B0l] at h1 h2;refine PC.of A9 isU40 (Nat.le_of_ble_eq_true rfl) (by simp [Ru.v,DV.nlL,DV.nl,H7,H6]) rfl ?_;dsimp only [Ru.v];show IW Tryz.prog 23 u40_1 ⟨B6 _,_,_⟩ (rt [.tmp 2] _);unfold O4;dsimp only;have e1:decide (D.length<=128) = !decide ((D.length:Int)>128):=by rw [<- decide_not];exact decide_eq_decide.2 (by omega)
 have e2:decide (M.length<=16) = !decide ((M.length:Int)>16):=by rw [<- decide_not];exact decide_eq_decide.2 (by omega)
 rw [e1,e2];generalize D.all A0k=bD at *;generalize M.all U0=bM at *;repeat' ((with_reducible first|refine wr ?_|refine cpc h1 ?_|refine cpc h2 ?_|refine wb2 ?_ ?_<;>(intro hb;try simp only [hb])|fail)<;>try simp only [go_sem,seval,List.length_map])
 all_goals (refine A8 (congrArg DV.bool ?_);simp_all)
end Go.Proofs.YtnmkkggfgdfmeaaGreatDoor
set_option maxHeartbeats 4000000
namespace Go.Proofs.YtnmkkggfgdfmeaaGreatDoor
open Go.Eng (IC IOper DReg IFn A6)
open Go.Sym
section
abbrev u63_5:=qS [oF 9 2 1,oL 10 9,oH 11 10,oM 4 11] .ret [2]
abbrev u63_4:=qK u63_5 .skip (.t 8) [1,2,8]
abbrev u63_3:=qS [oM 7 1,oK 8 7 .eql 9] u63_4 [1,2]
abbrev u63_12:=qK .skip (.exit 0) (.t 16) [1,2,5,6,16]
abbrev u63_11:=qS [oM 12 6,oF 13 2 0,oL 14 13,oH 15 14,oB 16 12 15 .lss] u63_12 [1,2,5,6]
abbrev u63_16:=qE [oM 27 5,oK 28 27 .add 1,oM 5 28] [1,2,5,6]
abbrev u63_15:=qK u63_16 .skip (.t 26) [1,2,5,6,26]
abbrev u63_14:=qS [oF 19 2 0,oL 20 19,oM 21 6,oA 22 20 21 4,oF 23 22 0,oL 24 23,oM 25 1,oB 26 24 25 .eql] u63_15 [1,2,5,6]
abbrev u63_17:=qE [oM 17 6,oK 18 17 .add 1,oM 6 18] [1,2,5,6]
abbrev u63_13:=qB u63_14 u63_17 1 [1,2,5,6]
abbrev u63_10:=qQ u63_11 u63_13 [1,2,5,6]
abbrev u63_9:=qJ (.loop u63_10) 0 [1,2,5,6]
abbrev u63_8:=qS [oI 6 0] u63_9 [1,2,5]
abbrev u63_18:=qS [oM 29 5,oM 4 29] .ret [5]
abbrev u63_7:=qQ u63_8 u63_18 [1,2,5]
abbrev u63_6:=qS [oI 5 0] u63_7 [1,2]
abbrev u63_2:=qQ u63_3 u63_6 [1,2]
abbrev u63_1:=qS [oX 2 0,oI 4 0] u63_2 [0,1]
def u63:IFn:=⟨30,u63_1,[.tmp 4]⟩
end
theorem isU63:A6 Tryz.prog 63 u63:=by unfold A6;kernel_rfl
section
abbrev u62_7:=qK .skip (.exit 0) (.t 13) [1,2,6,13]
abbrev u62_6:=qS [oM 9 6,oF 10 2 0,oL 11 10,oH 12 11,oB 13 9 12 .lss] u62_7 [1,2,6]
abbrev u62_12:=qK (.exit 1) .skip (.t 24) [1,2,6,7,24]
abbrev u62_11:=qS [oF 21 7 1,oL 22 21,oM 23 1,oB 24 22 23 .neq] u62_12 [1,2,6,7]
abbrev u62_16:=qD [oF 28 7 0,oL 29 28,oF 30 7 2,oL 31 30,oM 4 29,oM 5 31] .ret [(0,none),(1,none),(2,none),(3,none),(4,some [2,3]),(5,some [])] 6 [7]
abbrev u62_15:=qK u62_16 .skip (.t 27) [2,6,7,27]
abbrev u62_14:=qS [oF 25 7 0,oL 26 25,oK 27 26 .lss 6] u62_15 [2,6,7]
abbrev u62_17:=qD [oF 32 7 0,oL 33 32,oF 34 2 0,oL 35 34,oM 36 6,oP 37 (.slc 4 (.t 35) none (some (.t 36))),oP 38 (.bld #[.slice none 0 0,.slice none 0 0] [(0,1),(1,1)] [(0,.t 37)]),oF 39 7 0,oL 40 39,oC 41 63 [.t 38,.t 40],oM 4 33,oM 5 41] .ret [(0,none),(1,none),(2,none),(3,none),(4,none),(5,none),(6,none),(7,none),(8,none),(9,some [0,1]),(10,some []),(11,some [])] 12 [2,6,7]
abbrev u62_13:=qQ u62_14 u62_17 [2,6,7]
abbrev u62_10:=qQ u62_11 u62_13 [1,2,6,7]
abbrev u62_9:=qS [oF 16 2 0,oL 17 16,oM 18 6,oA 19 17 18 4,oD 20 19 4,oW 7 (.agg #[.int .i64 0,.string ⟨#[]⟩,.int .i64 0,.int .i64 0]),oS 7 20 4] u62_10 [1,2,6]
abbrev u62_18:=qE [oM 14 6,oK 15 14 .add 1,oM 6 15] [1,2,6]
abbrev u62_8:=qB u62_9 u62_18 1 [1,2,6]
abbrev u62_5:=qQ u62_6 u62_8 [1,2,6]
abbrev u62_4:=qJ (.loop u62_5) 0 [1,2,6]
abbrev u62_3:=qS [oI 6 0] u62_4 [1,2]
abbrev u62_24:=qK .skip (.exit 2) (.t 46) [1,2,8,46]
abbrev u62_23:=qS [oM 42 8,oF 43 2 1,oL 44 43,oH 45 44,oB 46 42 45 .lss] u62_24 [1,2,8]
abbrev u62_28:=qS [oM 57 8,oI 4 9,oM 5 57] .ret [8]
abbrev u62_27:=qK u62_28 .skip (.t 56) [1,2,8,56]
abbrev u62_26:=qS [oF 49 2 1,oL 50 49,oM 51 8,oA 52 50 51 4,oF 53 52 0,oL 54 53,oM 55 1,oB 56 54 55 .eql] u62_27 [1,2,8]
abbrev u62_29:=qE [oM 47 8,oK 48 47 .add 1,oM 8 48] [1,2,8]
abbrev u62_25:=qB u62_26 u62_29 3 [1,2,8]
abbrev u62_22:=qQ u62_23 u62_25 [1,2,8]
abbrev u62_21:=qJ (.loop u62_22) 2 [1,2,8]
abbrev u62_20:=qS [oI 8 0] u62_21 [1,2]
abbrev u62_30:=qS [oI 4 0,oI 5 0] .ret []
abbrev u62_19:=qQ u62_20 u62_30 [1,2]
abbrev u62_2:=qQ u62_3 u62_19 [1,2]
abbrev u62_1:=qS [oX 2 0,oI 4 0,oI 5 0] u62_2 [0,1]
def u62:IFn:=⟨58,u62_1,[.tmp 4,.tmp 5]⟩
end
theorem isU62:A6 Tryz.prog 62 u62:=by unfold A6;kernel_rfl
section
abbrev u66_6:=qS [oI 6 0] .ret []
abbrev u66_9:=qS [oI 6 8] .ret []
abbrev u66_8:=qK u66_9 .skip (.t 23) [23]
abbrev u66_7:=qS [oM 24 7,oK 25 24 .eql 0,oM 23 25] u66_8 [7]
abbrev u66_5:=qK u66_6 u66_7 (.t 15) [7,15]
abbrev u66_4:=qS [oM 16 2,oK 17 16 .eql 0,oM 18 17,hM 19 7 18,hM 20 2 18,oR 21 (.bin .eql (.t 19) (.t 20)) 18,oO 22 18 21,oM 15 22] u66_5 [2,7]
abbrev u66_10:=qS [oI 6 44] .ret []
abbrev u66_3:=qB u66_4 u66_10 0 [2,7]
abbrev u66_2:=qS [oD 10 3 2,oM 11 1,oC 12 62 [.t 10,.t 11],oM 9 12,oE 13 9 0,oE 14 9 1,oM 7 13,oM 8 14] u66_3 [1,2,3]
abbrev u66_1:=qS [oX 3 0,oI 6 0] u66_2 [0,1,2]
def u66:IFn:=⟨26,u66_1,[.tmp 6]⟩
end
theorem isU66:A6 Tryz.prog 66 u66:=by unfold A6;kernel_rfl
section
abbrev u103_2:=qS [oM 3 0,oK 4 3 .eql 3,oM 5 4,hM 6 0 5,hK 7 6 5 .eql 4,oO 8 5 7,oM 9 8,hM 10 0 9,hK 11 10 9 .eql 5,oO 12 9 11,oM 13 12,hM 14 0 13,hK 15 14 13 .eql 6,oO 16 13 15,oM 17 16,hM 18 0 17,hK 19 18 17 .eql 11,oO 20 17 19,oM 21 20,hM 22 0 21,hK 23 22 21 .geq 17,oO 24 21 23,oM 2 24] .ret [0]
abbrev u103_1:=qS [oV 2 (.bool false)] u103_2 [0]
def u103:IFn:=⟨25,u103_1,[.tmp 2]⟩
end
theorem isU103:A6 Tryz.prog 103 u103:=by unfold A6;kernel_rfl
section
abbrev u102_7:=qS [oI 2 6] .ret []
abbrev u102_10:=qS [oI 2 1] .ret []
abbrev u102_13:=qS [oI 2 9] .ret []
abbrev u102_16:=qS [oI 2 7] .ret []
abbrev u102_15:=qK u102_16 .skip (.t 10) [10]
abbrev u102_14:=qS [oK 11 3 .eql 7,oM 10 11] u102_15 [3]
abbrev u102_12:=qK u102_13 u102_14 (.t 8) [3,8]
abbrev u102_11:=qS [oK 9 3 .eql 6,oM 8 9] u102_12 [3]
abbrev u102_9:=qK u102_10 u102_11 (.t 6) [3,6]
abbrev u102_8:=qS [oK 7 3 .eql 5,oM 6 7] u102_9 [3]
abbrev u102_6:=qK u102_7 u102_8 (.t 4) [3,4]
abbrev u102_5:=qS [oK 5 3 .eql 2,oM 4 5] u102_6 [3]
abbrev u102_4:=qJ u102_5 0 [3]
abbrev u102_3:=qS [oM 3 0] u102_4 [0]
abbrev u102_17:=qS [oI 2 0] .ret []
abbrev u102_2:=qQ u102_3 u102_17 [0]
abbrev u102_1:=qS [oI 2 0] u102_2 [0]
def u102:IFn:=⟨12,u102_1,[.tmp 2]⟩
end
theorem isU102:A6 Tryz.prog 102 u102:=by unfold A6;kernel_rfl
section
abbrev u61_8:=qK .skip (.exit 0) (.t 19) [2,3,7,8,19]
abbrev u61_7:=qS [oM 15 8,oF 16 3 3,oL 17 16,oH 18 17,oB 19 15 18 .lss] u61_8 [2,3,7,8]
abbrev u61_14:=qS [oM 35 10,oM 36 11,oI 4 0,oM 5 35,oM 6 36] .ret [10,11]
abbrev u61_13:=qK u61_14 .skip (.t 34) [2,3,7,8,9,10,11,34]
abbrev u61_12:=qS [oM 33 11,oK 34 33 .neq 0] u61_13 [2,3,7,8,9,10,11]
abbrev u61_15:=qE [oM 37 7,oM 38 9,⟨some 39,.new (.bsl 1 1 #[.int .i64 0] [(0,.t 38)]),none⟩,oT 40 37 39 1 8,oM 7 40] [2,3,7,8,9]
abbrev u61_11:=qQ u61_12 u61_15 [2,3,7,8,9,10,11]
abbrev u61_10:=qD [oD 23 2 2,oF 24 3 3,oL 25 24,oM 26 8,oA 27 25 26 5,oD 28 27 5,oC 29 61 [.t 23,.t 28],oM 22 29,oE 30 22 0,oE 31 22 1,oE 32 22 2,oM 9 30,oM 10 31,oM 11 32] u61_11 [(0,none),(1,none),(2,none),(3,none),(4,none),(5,none),(6,some []),(7,none),(8,none),(9,none),(10,none),(11,some [9,10]),(12,some [10]),(13,some [])] 14 [2,3,7,8]
abbrev u61_16:=qE [oM 20 8,oK 21 20 .add 1,oM 8 21] [2,3,7,8]
abbrev u61_9:=qB u61_10 u61_16 1 [2,3,7,8]
abbrev u61_6:=qQ u61_7 u61_9 [2,3,7,8]
abbrev u61_5:=qJ (.loop u61_6) 0 [2,3,7,8]
abbrev u61_4:=qS [oI 8 0] u61_5 [2,3,7]
abbrev u61_21:=qD [oF 50 3 4,oL 51 50,oM 52 12,oI 4 0,oM 5 51,oM 6 52] .ret [(0,none),(1,none),(2,none),(3,some [0,1,2]),(4,some [2]),(5,some [])] 6 [3,12]
abbrev u61_20:=qK u61_21 .skip (.t 49) [3,7,12,49]
abbrev u61_19:=qS [oM 48 12,oK 49 48 .neq 0] u61_20 [3,7,12]
abbrev u61_18:=qD [oD 41 2 2,oF 42 3 2,oL 43 42,oF 44 3 0,oL 45 44,oC 46 102 [.t 45],oC 47 66 [.t 41,.t 43,.t 46],oM 12 47] u61_19 [(0,none),(1,none),(2,none),(3,none),(4,none),(5,some [0,1,2]),(6,some []),(7,some [])] 8 [2,3,7]
abbrev u61_26:=qE [oI 13 2] [3,7]
abbrev u61_25:=qK u61_26 .skip (.t 65) [3,7,13,65]
abbrev u61_24:=qS [oF 53 3 0,oL 54 53,oK 55 54 .eql 11,oM 56 55,hF 57 3 0 56,hL 58 57 56,hK 59 58 56 .eql 23,oO 60 56 59,oM 61 60,hF 62 3 0 61,hL 63 62 61,hK 64 63 61 .eql 24,oO 65 61 64] u61_25 [3,7,13]
abbrev u61_30:=qE [oM 74 7,oP 75 (.iad 1 (.t 74) (.k (.int .i64 0))),oL 76 75,oM 13 76] [3,7]
abbrev u61_29:=qK u61_30 .skip (.t 73) [3,7,13,73]
abbrev u61_28:=qS [oF 66 3 0,oL 67 66,oK 68 67 .eql 21,oM 69 68,hF 70 3 0 69,hL 71 70 69,hK 72 71 69 .eql 22,oO 73 69 72] u61_29 [3,7,13]
abbrev u61_36:=qK .skip (.exit 2) (.t 80) [3,7,13,14,80]
abbrev u61_35:=qS [oM 77 14,oM 78 7,oH 79 78,oB 80 77 79 .lss] u61_36 [3,7,13,14]
abbrev u61_40:=qD [oF 89 3 4,oL 90 89,oI 4 0,oM 5 90,oI 6 49] .ret [(0,none),(1,none),(2,some [0,1]),(3,some []),(4,some [])] 5 [3]
abbrev u61_39:=qK u61_40 .skip (.t 88) [3,7,13,14,88]
abbrev u61_38:=qS [oM 83 7,oM 84 14,oA 85 83 84 1,oL 86 85,oM 87 13,oB 88 86 87 .neq] u61_39 [3,7,13,14]
abbrev u61_41:=qE [oM 81 14,oK 82 81 .add 1,oM 14 82] [3,7,13,14]
abbrev u61_37:=qB u61_38 u61_41 3 [3,7,13,14]
abbrev u61_34:=qQ u61_35 u61_37 [3,7,13,14]
abbrev u61_33:=qJ (.loop u61_34) 2 [3,7,13,14]
abbrev u61_32:=qS [oI 14 0] u61_33 [3,7,13]
abbrev u61_45:=qS [oI 4 2,oI 5 0,oI 6 0] .ret []
abbrev u61_44:=qK u61_45 .skip (.t 93) [93]
abbrev u61_43:=qS [oF 91 3 0,oL 92 91,oC 93 103 [.t 92]] u61_44 [3]
abbrev u61_46:=qS [oI 4 1,oI 5 0,oI 6 0] .ret []
abbrev u61_42:=qQ u61_43 u61_46 [3]
abbrev u61_31:=qQ u61_32 u61_42 [3,7,13]
abbrev u61_27:=qQ u61_28 u61_31 [3,7,13]
abbrev u61_23:=qQ u61_24 u61_27 [3,7,13]
abbrev u61_22:=qS [oI 13 1] u61_23 [3,7]
abbrev u61_17:=qQ u61_18 u61_22 [2,3,7]
abbrev u61_3:=qQ u61_4 u61_17 [2,3,7]
abbrev u61_2:=qS [oV 7 (.slice none 0 0)] u61_3 [2,3]
abbrev u61_1:=qS [oX 2 0,oX 3 1,oI 4 0,oI 5 0,oI 6 0] u61_2 [0,1]
def u61:IFn:=⟨94,u61_1,[.tmp 4,.tmp 5,.tmp 6]⟩
end
theorem isU61:A6 Tryz.prog 61 u61:=by unfold A6;kernel_rfl
section
abbrev u27_5:=qS [oI 4 0,oI 5 0,oI 6 1] .ret []
abbrev u27_4:=qK u27_5 .skip (.t 14) [2,3,14]
abbrev u27_3:=qS [oD 7 2 2,oC 8 59 [.t 7],oY 9 8,oM 10 9,oR 11 (.ld 5 true (.t 3)) 10,⟨some 12,.call 60 [.t 11],some (10,false)⟩,oR 13 (.un .not (.t 12)) 10,oO 14 10 13] u27_4 [2,3]
abbrev u27_6:=qS [oD 15 2 2,oD 16 3 5,oC 17 61 [.t 15,.t 16],oE 18 17 0,oE 19 17 1,oE 20 17 2,oM 4 18,oM 5 19,oM 6 20] .ret [2,3]
abbrev u27_2:=qQ u27_3 u27_6 [2,3]
abbrev u27_1:=qS [oX 2 0,oX 3 1,oI 4 0,oI 5 0,oI 6 0] u27_2 [0,1]
def u27:IFn:=⟨21,u27_1,[.tmp 4,.tmp 5,.tmp 6]⟩
end
theorem isU27:A6 Tryz.prog 27 u27:=by unfold A6;kernel_rfl
section
abbrev u41_16:=qE [oM 39 4,oF 40 7 0,oL 41 40,⟨some 42,.eff (.lkp (.i .i64) (.int .i64 0) false (.t 39) (.t 41)),none⟩,oF 43 8 1,oS 43 42 1] [1,3,4,5,7,8,15,16,17]
abbrev u41_15:=qK u41_16 .skip (.t 38) [1,3,4,5,7,8,15,16,17,38]
abbrev u41_14:=qS [oF 26 7 0,oL 27 26,oK 28 27 .eql 6,oM 29 28,hF 30 7 0 29,hL 31 30 29,hK 32 31 29 .eql 7,oO 33 29 32,oM 34 33,hF 35 7 0 34,hL 36 35 34,hK 37 36 34 .eql 8,oO 38 34 37] u41_15 [1,3,4,5,7,8,15,16,17]
abbrev u41_18:=qE [oM 49 5,oF 50 7 1,oL 51 50,oD 52 8 2,⟨some 53,.callv (.t 49) [.t 51,.t 52],none⟩] [1,3,4,5,7,8,15,16,17]
abbrev u41_17:=qS [oM 44 4,oF 45 7 0,oL 46 45,⟨some 47,.eff (.lkp (.i .i64) (.int .i64 0) false (.t 44) (.t 46)),none⟩,oK 48 47 .add 1,⟨none,.eff (.mup (.i .i64) (.t 44) (.t 46) (.t 48)),none⟩] u41_18 [1,3,4,5,7,8,15,16,17]
abbrev u41_13:=qQ u41_14 u41_17 [1,3,4,5,7,8,15,16,17]
abbrev u41_12:=qS [oF 21 7 0,oL 22 21,oF 23 7 2,oL 24 23,oP 25 (.bld #[.int .i64 0,.int .i64 0] [(0,1),(1,1)] [(0,.t 22),(1,.t 24)]),oW 8 (.agg #[.int .i64 0,.int .i64 0]),oS 8 25 2] u41_13 [1,3,4,5,7,15,16,17]
abbrev u41_11:=qS [oA 19 15 17 4,oD 20 19 4,oW 7 (.agg #[.int .i64 0,.string ⟨#[]⟩,.int .i64 0,.int .i64 0]),oS 7 20 4] u41_12 [1,3,4,5,15,16,17]
abbrev u41_19:=qE [oK 54 17 .add 1,oM 17 54] [1,3,4,5,15,16,17]
abbrev u41_10:=qB u41_11 u41_19 1 [1,3,4,5,15,16,17]
abbrev u41_9:=qC .skip u41_10 (.exit 0) (.t 18) [1,3,4,5,15,16,17,18]
abbrev u41_8:=qS [oB 18 17 16 .lss] u41_9 [1,3,4,5,15,16,17]
abbrev u41_7:=qJ (.loop u41_8) 0 [1,3,4,5,15,16,17]
abbrev u41_6:=qS [oF 14 1 0,oL 15 14,oH 16 15,oI 17 0] u41_7 [1,3,4,5]
abbrev u41_27:=qE [oM 63 5,oF 64 10 0,oL 65 64,oM 66 9,oP 67 (.bld #[.int .i64 0,.int .i64 0] [(0,1),(1,1)] [(0,.k (.int .i64 9)),(1,.t 66)]),⟨some 68,.callv (.t 63) [.t 65,.t 67],none⟩] [3,5,9,10,56,57,58]
abbrev u41_26:=qS [oM 60 58,oA 61 56 58 4,oD 62 61 4,oW 10 (.agg #[.string ⟨#[]⟩,.int .i64 0,.slice none 0 0,.int .i64 0]),oM 9 60,oS 10 62 4] u41_27 [3,5,56,57,58]
abbrev u41_28:=qE [oK 69 58 .add 1,oM 58 69] [3,5,56,57,58]
abbrev u41_25:=qB u41_26 u41_28 3 [3,5,56,57,58]
abbrev u41_24:=qC .skip u41_25 (.exit 2) (.t 59) [3,5,56,57,58,59]
abbrev u41_23:=qS [oB 59 58 57 .lss] u41_24 [3,5,56,57,58]
abbrev u41_22:=qJ (.loop u41_23) 2 [3,5,56,57,58]
abbrev u41_21:=qS [oF 55 1 1,oL 56 55,oH 57 56,oI 58 0] u41_22 [1,3,5]
abbrev u41_29:=qS [oL 70 3,oM 2 70] .ret [3]
abbrev u41_20:=qQ u41_21 u41_29 [1,3,5]
abbrev u41_5:=qQ u41_6 u41_20 [1,3,4,5]
abbrev u41_4:=qS [oP 13 (.mkf 85 [] [.t 3]),oM 5 13] u41_5 [1,3,4]
abbrev u41_3:=qS [⟨some 12,.eff (.mkm (.i .i64)),none⟩,oM 4 12] u41_4 [1,3]
abbrev u41_2:=qS [⟨some 11,.eff (.mkm .s),none⟩,oW 3 (.map none),oS 3 11 1] u41_3 [1]
abbrev u41_1:=qS [oX 1 0,oV 2 (.map none)] u41_2 [0]
def u41:IFn:=⟨71,u41_1,[.tmp 2]⟩
end
theorem isU41:A6 Tryz.prog 41 u41:=by unfold A6;kernel_rfl
section
abbrev u85_5:=qE [oL 15 2,oM 16 0,oD 17 4 2,⟨none,.eff (.mup .s (.t 15) (.t 16) (.t 17)),none⟩] [0,2,4]
abbrev u85_4:=qK u85_5 .skip (.t 14) [0,2,4,14]
abbrev u85_3:=qS [oM 13 6,oY 14 13] u85_4 [0,2,4,6]
abbrev u85_2:=qS [oL 8 2,oM 9 0,⟨some 10,.eff (.lkp .s (.agg #[.int .i64 0,.int .i64 0]) true (.t 8) (.t 9)),none⟩,oM 7 10,oE 11 7 0,oE 12 7 1,oW 5 (.agg #[.int .i64 0,.int .i64 0]),oS 5 11 2,oM 6 12] u85_3 [0,2,4]
abbrev u85_1:=qS [oX 4 1] u85_2 [0,1,2]
def u85:IFn:=⟨18,u85_1,[]⟩
end
theorem isU85:A6 Tryz.prog 85 u85:=by unfold A6;kernel_rfl
section
abbrev u42_11:=qG [oM 19 5,oF 20 7 1,oL 21 20,oF 22 7 3,oL 23 22,oF 24 7 2,oL 25 24,oF 26 7 0,oL 27 26,oC 28 87 [.t 27],⟨some 29,.callv (.t 19) [.t 21,.t 23,.t 25,.t 28],none⟩] [(0,none),(1,none),(2,none),(3,none),(4,none),(5,none),(6,none),(7,none),(8,none),(9,some [0,1,2,3,4,5,6]),(10,some [])] 11 [3,5,7,13,14,15]
abbrev u42_10:=qS [oA 17 13 15 4,oD 18 17 4,oW 7 (.agg #[.int .i64 0,.string ⟨#[]⟩,.int .i64 0,.int .i64 0]),oS 7 18 4] u42_11 [3,5,13,14,15]
abbrev u42_12:=qE [oK 30 15 .add 1,oM 15 30] [3,5,13,14,15]
abbrev u42_9:=qB u42_10 u42_12 1 [3,5,13,14,15]
abbrev u42_8:=qC .skip u42_9 (.exit 0) (.t 16) [3,5,13,14,15,16]
abbrev u42_7:=qS [oB 16 15 14 .lss] u42_8 [3,5,13,14,15]
abbrev u42_6:=qJ (.loop u42_7) 0 [3,5,13,14,15]
abbrev u42_5:=qS [oF 12 3 0,oL 13 12,oH 14 13,oI 15 0] u42_6 [3,5]
abbrev u42_19:=qE [oM 38 5,oF 39 9 0,oL 40 39,oF 41 9 3,oL 42 41,oF 43 9 1,oL 44 43,⟨some 45,.callv (.t 38) [.t 40,.t 42,.t 44,.k (.int .i64 99)],none⟩] [5,9,32,33,34]
abbrev u42_18:=qS [oA 36 32 34 4,oD 37 36 4,oW 9 (.agg #[.string ⟨#[]⟩,.int .i64 0,.slice none 0 0,.int .i64 0]),oS 9 37 4] u42_19 [5,32,33,34]
abbrev u42_20:=qE [oK 46 34 .add 1,oM 34 46] [5,32,33,34]
abbrev u42_17:=qB u42_18 u42_20 3 [5,32,33,34]
abbrev u42_16:=qC .skip u42_17 (.exit 2) (.t 35) [5,32,33,34,35]
abbrev u42_15:=qS [oB 35 34 33 .lss] u42_16 [5,32,33,34]
abbrev u42_14:=qJ (.loop u42_15) 2 [5,32,33,34]
abbrev u42_13:=qS [oF 31 3 1,oL 32 31,oH 33 32,oI 34 0] u42_14 [3,5]
abbrev u42_4:=qQ u42_5 u42_13 [3,5]
abbrev u42_3:=qS [oP 11 (.mkf 86 [] [.t 2,.t 4]),oM 5 11] u42_4 [2,3,4]
abbrev u42_2:=qS [⟨some 10,.eff (.mkm .s),none⟩,oW 4 (.map none),oS 4 10 1] u42_3 [2,3]
abbrev u42_1:=qS [oX 2 0,oX 3 1] u42_2 [0,1]
def u42:IFn:=⟨47,u42_1,[]⟩
end
theorem isU42:A6 Tryz.prog 42 u42:=by unfold A6;kernel_rfl
section
abbrev u86_4:=qE [oL 13 4,oM 14 1,oC 15 47 [.t 13,.t 14,.k (.int .i64 5)]] [0,1,4,5]
abbrev u86_3:=qK u86_4 .skip (.t 12) [0,1,4,5,12]
abbrev u86_2:=qS [oM 10 2,oM 11 3,oB 12 10 11 .gtr] u86_3 [0,1,2,3,4,5]
abbrev u86_8:=qE [oL 19 4,oM 20 1,oC 21 47 [.t 19,.t 20,.k (.int .i64 7)]] [0,1,4,5]
abbrev u86_7:=qK u86_8 .skip (.t 18) [0,1,4,5,18]
abbrev u86_6:=qS [oL 16 5,oM 17 0,⟨some 18,.eff (.lkp .s (.bool false) false (.t 16) (.t 17)),none⟩] u86_7 [0,1,4,5]
abbrev u86_9:=qE [oL 22 5,oM 23 0,⟨none,.eff (.mup .s (.t 22) (.t 23) (.k (.bool true))),none⟩] [0,5]
abbrev u86_5:=qQ u86_6 u86_9 [0,1,4,5]
abbrev u86_1:=qQ u86_2 u86_5 [0,1,2,3,4,5]
def u86:IFn:=⟨24,u86_1,[]⟩
end
theorem isU86:A6 Tryz.prog 86 u86:=by unfold A6;kernel_rfl
section
abbrev u47_3:=qE [oM 11 0,oM 12 0,oM 13 1,oM 14 2,oN 15 11,oF 16 15 1,oS 16 13 1,oN 17 12,oF 18 17 2,oS 18 14 1] [0,1,2]
abbrev u47_2:=qK u47_3 .skip (.t 10) [0,1,2,10]
abbrev u47_1:=qS [oM 6 0,oN 7 6,oF 8 7 2,oL 9 8,oK 10 9 .eql 0] u47_2 [0,1,2]
def u47:IFn:=⟨19,u47_1,[]⟩
end
theorem isU47:A6 Tryz.prog 47 u47:=by unfold A6;kernel_rfl
section
abbrev u43_7:=qE [oM 25 0,oM 26 3,oC 27 47 [.t 25,.t 26,.k (.int .i64 8)]] [0,3]
abbrev u43_10:=qE [oM 33 0,oM 34 3,oC 35 47 [.t 33,.t 34,.k (.int .i64 44)]] [0,3]
abbrev u43_9:=qK u43_10 .skip (.t 28) [0,3,28]
abbrev u43_8:=qS [oF 29 8 0,oL 30 29,oM 31 2,oB 32 30 31 .neq,oM 28 32] u43_9 [0,2,3,8]
abbrev u43_6:=qK u43_7 u43_8 (.t 22) [0,2,3,8,22]
abbrev u43_5:=qS [oM 23 9,oY 24 23,oM 22 24] u43_6 [0,2,3,8,9]
abbrev u43_4:=qK .skip u43_5 (.t 19) [0,2,3,8,9,19]
abbrev u43_3:=qS [oM 20 2,oK 21 20 .eql 0,oM 19 21] u43_4 [0,2,3,8,9]
abbrev u43_2:=qJ u43_3 0 [0,2,3,8,9]
abbrev u43_1:=qS [oM 11 0,oN 12 11,oF 13 12 0,oL 14 13,oM 15 1,⟨some 16,.eff (.lkp .s (.agg #[.int .i64 0,.int .i64 0]) true (.t 14) (.t 15)),none⟩,oM 10 16,oE 17 10 0,oE 18 10 1,oW 8 (.agg #[.int .i64 0,.int .i64 0]),oS 8 17 2,oM 9 18] u43_2 [0,1,2,3]
def u43:IFn:=⟨36,u43_1,[]⟩
end
theorem isU43:A6 Tryz.prog 43 u43:=by unfold A6;kernel_rfl
section
abbrev u57_9:=qE [oM 16 0,oD 17 5 5,oC 18 57 [.t 16,.t 17]] [0,3,5,10,11,12]
abbrev u57_8:=qS [oA 14 10 12 5,oD 15 14 5,oW 5 (.agg #[.int .i64 0,.int .i64 0,.string ⟨#[]⟩,.slice none 0 0,.int .i64 0]),oS 5 15 5] u57_9 [0,3,10,11,12]
abbrev u57_10:=qE [oK 19 12 .add 1,oM 12 19] [0,3,10,11,12]
abbrev u57_7:=qB u57_8 u57_10 1 [0,3,10,11,12]
abbrev u57_6:=qC .skip u57_7 (.exit 0) (.t 13) [0,3,10,11,12,13]
abbrev u57_5:=qS [oB 13 12 11 .lss] u57_6 [0,3,10,11,12]
abbrev u57_4:=qJ (.loop u57_5) 0 [0,3,10,11,12]
abbrev u57_3:=qS [oF 9 3 3,oL 10 9,oH 11 10,oI 12 0] u57_4 [0,3]
abbrev u57_21:=qE [oK 34 30 .eql 24,oM 31 34] [0,3,6,30]
abbrev u57_20:=qK .skip u57_21 (.t 31) [0,3,6,30,31]
abbrev u57_19:=qS [oK 33 30 .eql 23,oM 31 33] u57_20 [0,3,6,30]
abbrev u57_18:=qK .skip u57_19 (.t 31) [0,3,6,30,31]
abbrev u57_17:=qS [oK 32 30 .eql 11,oM 31 32] u57_18 [0,3,6,30]
abbrev u57_23:=qE [oI 6 2] [0,3]
abbrev u57_27:=qE [oK 37 30 .eql 22,oM 35 37] [0,3,6,30]
abbrev u57_26:=qK .skip u57_27 (.t 35) [0,3,6,30,35]
abbrev u57_25:=qS [oK 36 30 .eql 21,oM 35 36] u57_26 [0,3,6,30]
abbrev u57_29:=qE [oF 38 3 3,oL 39 38,oP 40 (.iad 5 (.t 39) (.k (.int .i64 0))),oF 41 40 0,oL 42 41,oC 43 58 [.t 42],oM 6 43] [0,3]
abbrev u57_28:=qK u57_29 .skip (.t 35) [0,3,6,35]
abbrev u57_24:=qQ u57_25 u57_28 [0,3,6,30]
abbrev u57_22:=qK u57_23 u57_24 (.t 31) [0,3,6,30,31]
abbrev u57_16:=qQ u57_17 u57_22 [0,3,6,30]
abbrev u57_15:=qJ u57_16 2 [0,3,6,30]
abbrev u57_14:=qS [oF 29 3 0,oL 30 29] u57_15 [0,3,6]
abbrev u57_38:=qE [oM 56 0,oF 57 3 4,oL 58 57,oC 59 47 [.t 56,.t 58,.k (.int .i64 49)]] [0,3,6,45,46,47]
abbrev u57_37:=qK u57_38 .skip (.t 55) [0,3,6,45,46,47,55]
abbrev u57_36:=qS [oF 51 8 0,oL 52 51,oC 53 58 [.t 52],oM 54 6,oB 55 53 54 .neq] u57_37 [0,3,6,8,45,46,47]
abbrev u57_35:=qS [oA 49 45 47 5,oD 50 49 5,oW 8 (.agg #[.int .i64 0,.int .i64 0,.string ⟨#[]⟩,.slice none 0 0,.int .i64 0]),oS 8 50 5] u57_36 [0,3,6,45,46,47]
abbrev u57_39:=qE [oK 60 47 .add 1,oM 47 60] [0,3,6,45,46,47]
abbrev u57_34:=qB u57_35 u57_39 4 [0,3,6,45,46,47]
abbrev u57_33:=qC .skip u57_34 (.exit 3) (.t 48) [0,3,6,45,46,47,48]
abbrev u57_32:=qS [oB 48 47 46 .lss] u57_33 [0,3,6,45,46,47]
abbrev u57_31:=qJ (.loop u57_32) 3 [0,3,6,45,46,47]
abbrev u57_30:=qS [oF 44 3 3,oL 45 44,oH 46 45,oI 47 0] u57_31 [0,3,6]
abbrev u57_13:=qQ u57_14 u57_30 [0,3,6]
abbrev u57_12:=qS [oI 6 1] u57_13 [0,3]
abbrev u57_11:=qD [oM 20 0,oF 21 3 2,oL 22 21,oF 23 3 0,oL 24 23,oC 25 96 [.t 24],oF 26 3 4,oL 27 26,oC 28 43 [.t 20,.t 22,.t 25,.t 27]] u57_12 [(0,none),(1,none),(2,none),(3,none),(4,none),(6,none),(7,none),(5,some [0,1,2,6,7]),(8,some [])] 9 [0,3]
abbrev u57_2:=qQ u57_3 u57_11 [0,3]
abbrev u57_1:=qS [oX 3 1] u57_2 [0,1]
def u57:IFn:=⟨61,u57_1,[]⟩
end
theorem isU57:A6 Tryz.prog 57 u57:=by unfold A6;kernel_rfl
section
abbrev u48_12:=qE [oI 6 2] [0,5,9,10,11]
abbrev u48_11:=qK u48_12 .skip (.t 26) [0,5,6,9,10,11,26]
abbrev u48_10:=qS [oF 24 5 0,oL 25 24,oK 26 25 .eql 2] u48_11 [0,5,6,9,10,11]
abbrev u48_23:=qE [oM 42 0,oF 43 8 4,oL 44 43,oC 45 47 [.t 42,.t 44,.k (.int .i64 49)]] [0,5,6,8,9,10,11,28,29,30]
abbrev u48_22:=qK u48_23 .skip (.t 41) [0,5,6,8,9,10,11,28,29,30,41]
abbrev u48_21:=qS [oF 37 8 0,oL 38 37,oC 39 58 [.t 38],oM 40 6,oB 41 39 40 .neq] u48_22 [0,5,6,8,9,10,11,28,29,30]
abbrev u48_20:=qS [oM 34 0,oD 35 8 5,oC 36 57 [.t 34,.t 35]] u48_21 [0,5,6,8,9,10,11,28,29,30]
abbrev u48_19:=qS [oA 32 28 30 5,oD 33 32 5,oW 8 (.agg #[.int .i64 0,.int .i64 0,.string ⟨#[]⟩,.slice none 0 0,.int .i64 0]),oS 8 33 5] u48_20 [0,5,6,9,10,11,28,29,30]
abbrev u48_24:=qE [oK 46 30 .add 1,oM 30 46] [0,5,6,9,10,11,28,29,30]
abbrev u48_18:=qB u48_19 u48_24 3 [0,5,6,9,10,11,28,29,30]
abbrev u48_17:=qC .skip u48_18 (.exit 2) (.t 31) [0,5,6,9,10,11,28,29,30,31]
abbrev u48_16:=qS [oB 31 30 29 .lss] u48_17 [0,5,6,9,10,11,28,29,30]
abbrev u48_15:=qJ (.loop u48_16) 2 [0,5,6,9,10,11,28,29,30]
abbrev u48_14:=qS [oF 27 5 3,oL 28 27,oH 29 28,oI 30 0] u48_15 [0,5,6,9,10,11]
abbrev u48_26:=qE [oM 51 0,oF 52 5 5,oL 53 52,oC 54 48 [.t 51,.t 53]] [0,5,9,10,11]
abbrev u48_25:=qS [oM 47 0,oF 48 5 4,oL 49 48,oC 50 48 [.t 47,.t 49]] u48_26 [0,5,9,10,11]
abbrev u48_13:=qQ u48_14 u48_25 [0,5,6,9,10,11]
abbrev u48_9:=qQ u48_10 u48_13 [0,5,6,9,10,11]
abbrev u48_8:=qS [oI 6 1] u48_9 [0,5,9,10,11]
abbrev u48_7:=qD [oM 15 0,oF 16 5 1,oL 17 16,oF 18 5 0,oL 19 18,oC 20 89 [.t 19],oF 21 5 6,oL 22 21,oC 23 43 [.t 15,.t 17,.t 20,.t 22]] u48_8 [(0,none),(1,none),(2,none),(3,none),(4,none),(6,none),(7,none),(5,some [0,1,2,6,7]),(8,some [])] 9 [0,5,9,10,11]
abbrev u48_6:=qS [oA 13 9 11 7,oD 14 13 7,oW 5 (.agg #[.int .i64 0,.string ⟨#[]⟩,.string ⟨#[]⟩,.slice none 0 0,.slice none 0 0,.slice none 0 0,.int .i64 0]),oS 5 14 7] u48_7 [0,9,10,11]
abbrev u48_27:=qE [oK 55 11 .add 1,oM 11 55] [0,9,10,11]
abbrev u48_5:=qB u48_6 u48_27 1 [0,9,10,11]
abbrev u48_4:=qC .skip u48_5 (.exit 0) (.t 12) [0,9,10,11,12]
abbrev u48_3:=qS [oB 12 11 10 .lss] u48_4 [0,9,10,11]
abbrev u48_2:=qJ (.loop u48_3) 0 [0,9,10,11]
abbrev u48_1:=qS [oM 9 1,oH 10 9,oI 11 0] u48_2 [0,1]
def u48:IFn:=⟨56,u48_1,[]⟩
end
theorem isU48:A6 Tryz.prog 48 u48:=by unfold A6;kernel_rfl
section
abbrev u96_7:=qS [oI 2 6] .ret []
abbrev u96_10:=qS [oI 2 1] .ret []
abbrev u96_13:=qS [oI 2 9] .ret []
abbrev u96_16:=qS [oI 2 7] .ret []
abbrev u96_15:=qK u96_16 .skip (.t 10) [10]
abbrev u96_14:=qS [oK 11 3 .eql 7,oM 10 11] u96_15 [3]
abbrev u96_12:=qK u96_13 u96_14 (.t 8) [3,8]
abbrev u96_11:=qS [oK 9 3 .eql 6,oM 8 9] u96_12 [3]
abbrev u96_9:=qK u96_10 u96_11 (.t 6) [3,6]
abbrev u96_8:=qS [oK 7 3 .eql 5,oM 6 7] u96_9 [3]
abbrev u96_6:=qK u96_7 u96_8 (.t 4) [3,4]
abbrev u96_5:=qS [oK 5 3 .eql 2,oM 4 5] u96_6 [3]
abbrev u96_4:=qJ u96_5 0 [3]
abbrev u96_3:=qS [oM 3 0] u96_4 [0]
abbrev u96_17:=qS [oI 2 0] .ret []
abbrev u96_2:=qQ u96_3 u96_17 [0]
abbrev u96_1:=qS [oI 2 0] u96_2 [0]
def u96:IFn:=⟨12,u96_1,[.tmp 2]⟩
end
theorem isU96:A6 Tryz.prog 96 u96:=by unfold A6;kernel_rfl
section
abbrev u89_7:=qS [oI 2 6] .ret []
abbrev u89_13:=qE [oK 9 3 .eql 7,oM 6 9] [3]
abbrev u89_12:=qK .skip u89_13 (.t 6) [3,6]
abbrev u89_11:=qS [oK 8 3 .eql 6,oM 6 8] u89_12 [3]
abbrev u89_10:=qK .skip u89_11 (.t 6) [3,6]
abbrev u89_9:=qS [oK 7 3 .eql 5,oM 6 7] u89_10 [3]
abbrev u89_15:=qS [oI 2 2] .ret []
abbrev u89_19:=qE [oK 12 3 .eql 9,oM 10 12] [3]
abbrev u89_18:=qK .skip u89_19 (.t 10) [3,10]
abbrev u89_17:=qS [oK 11 3 .eql 8,oM 10 11] u89_18 [3]
abbrev u89_21:=qS [oI 2 3] .ret []
abbrev u89_25:=qE [oK 15 3 .eql 11,oM 13 15] [3]
abbrev u89_24:=qK .skip u89_25 (.t 13) [3,13]
abbrev u89_23:=qS [oK 14 3 .eql 10,oM 13 14] u89_24 [3]
abbrev u89_27:=qS [oI 2 7] .ret []
abbrev u89_31:=qE [oK 18 3 .eql 13,oM 16 18] [3]
abbrev u89_30:=qK .skip u89_31 (.t 16) [3,16]
abbrev u89_29:=qS [oK 17 3 .eql 12,oM 16 17] u89_30 [3]
abbrev u89_33:=qS [oI 2 9] .ret []
abbrev u89_36:=qS [oI 2 8] .ret []
abbrev u89_39:=qS [oI 2 4] .ret []
abbrev u89_43:=qE [oK 25 3 .eql 17,oM 23 25] [3]
abbrev u89_42:=qK .skip u89_43 (.t 23) [3,23]
abbrev u89_41:=qS [oK 24 3 .eql 16,oM 23 24] u89_42 [3]
abbrev u89_45:=qS [oI 2 5] .ret []
abbrev u89_44:=qK u89_45 .skip (.t 23) [23]
abbrev u89_40:=qQ u89_41 u89_44 [3]
abbrev u89_38:=qK u89_39 u89_40 (.t 21) [3,21]
abbrev u89_37:=qS [oK 22 3 .eql 15,oM 21 22] u89_38 [3]
abbrev u89_35:=qK u89_36 u89_37 (.t 19) [3,19]
abbrev u89_34:=qS [oK 20 3 .eql 14,oM 19 20] u89_35 [3]
abbrev u89_32:=qK u89_33 u89_34 (.t 16) [3,16]
abbrev u89_28:=qQ u89_29 u89_32 [3]
abbrev u89_26:=qK u89_27 u89_28 (.t 13) [3,13]
abbrev u89_22:=qQ u89_23 u89_26 [3]
abbrev u89_20:=qK u89_21 u89_22 (.t 10) [3,10]
abbrev u89_16:=qQ u89_17 u89_20 [3]
abbrev u89_14:=qK u89_15 u89_16 (.t 6) [3,6]
abbrev u89_8:=qQ u89_9 u89_14 [3]
abbrev u89_6:=qK u89_7 u89_8 (.t 4) [3,4]
abbrev u89_5:=qS [oK 5 3 .eql 1,oM 4 5] u89_6 [3]
abbrev u89_4:=qJ u89_5 0 [3]
abbrev u89_3:=qS [oM 3 0] u89_4 [0]
abbrev u89_46:=qS [oI 2 0] .ret []
abbrev u89_2:=qQ u89_3 u89_46 [0]
abbrev u89_1:=qS [oI 2 0] u89_2 [0]
def u89:IFn:=⟨26,u89_1,[.tmp 2]⟩
end
theorem isU89:A6 Tryz.prog 89 u89:=by unfold A6;kernel_rfl
section
abbrev u44_8:=qE [oK 6 3 .eql 4,oM 4 6] [3]
abbrev u44_7:=qK .skip u44_8 (.t 4) [3,4]
abbrev u44_6:=qS [oK 5 3 .eql 3,oM 4 5] u44_7 [3]
abbrev u44_10:=qS [oI 2 1] .ret []
abbrev u44_13:=qS [oI 2 7] .ret []
abbrev u44_16:=qS [oI 2 8] .ret []
abbrev u44_15:=qK u44_16 .skip (.t 9) [9]
abbrev u44_14:=qS [oK 10 3 .eql 6,oM 9 10] u44_15 [3]
abbrev u44_12:=qK u44_13 u44_14 (.t 7) [3,7]
abbrev u44_11:=qS [oK 8 3 .eql 5,oM 7 8] u44_12 [3]
abbrev u44_9:=qK u44_10 u44_11 (.t 4) [3,4]
abbrev u44_5:=qQ u44_6 u44_9 [3]
abbrev u44_4:=qJ u44_5 0 [3]
abbrev u44_3:=qS [oM 3 0] u44_4 [0]
abbrev u44_17:=qS [oI 2 0] .ret []
abbrev u44_2:=qQ u44_3 u44_17 [0]
abbrev u44_1:=qS [oI 2 0] u44_2 [0]
def u44:IFn:=⟨11,u44_1,[.tmp 2]⟩
end
theorem isU44:A6 Tryz.prog 44 u44:=by unfold A6;kernel_rfl
section
abbrev u97_18:=qE [oK 11 3 .eql 24,oM 4 11] [0,3]
abbrev u97_17:=qK .skip u97_18 (.t 4) [0,3,4]
abbrev u97_16:=qS [oK 10 3 .eql 23,oM 4 10] u97_17 [0,3]
abbrev u97_15:=qK .skip u97_16 (.t 4) [0,3,4]
abbrev u97_14:=qS [oK 9 3 .eql 11,oM 4 9] u97_15 [0,3]
abbrev u97_13:=qK .skip u97_14 (.t 4) [0,3,4]
abbrev u97_12:=qS [oK 8 3 .eql 6,oM 4 8] u97_13 [0,3]
abbrev u97_11:=qK .skip u97_12 (.t 4) [0,3,4]
abbrev u97_10:=qS [oK 7 3 .eql 5,oM 4 7] u97_11 [0,3]
abbrev u97_9:=qK .skip u97_10 (.t 4) [0,3,4]
abbrev u97_8:=qS [oK 6 3 .eql 4,oM 4 6] u97_9 [0,3]
abbrev u97_7:=qK .skip u97_8 (.t 4) [0,3,4]
abbrev u97_6:=qS [oK 5 3 .eql 3,oM 4 5] u97_7 [0,3]
abbrev u97_20:=qS [oV 2 (.bool true)] .ret []
abbrev u97_19:=qK u97_20 .skip (.t 4) [0,4]
abbrev u97_5:=qQ u97_6 u97_19 [0,3]
abbrev u97_4:=qJ u97_5 0 [0,3]
abbrev u97_3:=qS [oM 3 0] u97_4 [0]
abbrev u97_21:=qS [oM 12 0,oK 13 12 .geq 17,oM 14 13,gM 15 0 14,gK 16 15 14 .leq 22,oJ 17 14 16,oM 2 17] .ret [0]
abbrev u97_2:=qQ u97_3 u97_21 [0]
abbrev u97_1:=qS [oV 2 (.bool false)] u97_2 [0]
def u97:IFn:=⟨18,u97_1,[.tmp 2]⟩
end
theorem isU97:A6 Tryz.prog 97 u97:=by unfold A6;kernel_rfl
section
abbrev u58_5:=qS [oI 2 2] .ret []
abbrev u58_4:=qK u58_5 .skip (.t 4) [4]
abbrev u58_3:=qS [oM 3 0,oC 4 97 [.t 3]] u58_4 [0]
abbrev u58_6:=qS [oI 2 1] .ret []
abbrev u58_2:=qQ u58_3 u58_6 [0]
abbrev u58_1:=qS [oI 2 0] u58_2 [0]
def u58:IFn:=⟨5,u58_1,[.tmp 2]⟩
end
theorem isU58:A6 Tryz.prog 58 u58:=by unfold A6;kernel_rfl
section
abbrev u87_7:=qS [oI 2 63] .ret []
abbrev u87_10:=qS [oI 2 31] .ret []
abbrev u87_16:=qE [oK 11 3 .eql 5,oM 8 11] [3]
abbrev u87_15:=qK .skip u87_16 (.t 8) [3,8]
abbrev u87_14:=qS [oK 10 3 .eql 4,oM 8 10] u87_15 [3]
abbrev u87_13:=qK .skip u87_14 (.t 8) [3,8]
abbrev u87_12:=qS [oK 9 3 .eql 3,oM 8 9] u87_13 [3]
abbrev u87_18:=qS [oI 2 63] .ret []
abbrev u87_17:=qK u87_18 .skip (.t 8) [8]
abbrev u87_11:=qQ u87_12 u87_17 [3]
abbrev u87_9:=qK u87_10 u87_11 (.t 6) [3,6]
abbrev u87_8:=qS [oK 7 3 .eql 2,oM 6 7] u87_9 [3]
abbrev u87_6:=qK u87_7 u87_8 (.t 4) [3,4]
abbrev u87_5:=qS [oK 5 3 .eql 1,oM 4 5] u87_6 [3]
abbrev u87_4:=qJ u87_5 0 [3]
abbrev u87_3:=qS [oM 3 0] u87_4 [0]
abbrev u87_19:=qS [oI 2 2147483647] .ret []
abbrev u87_2:=qQ u87_3 u87_19 [0]
abbrev u87_1:=qS [oI 2 0] u87_2 [0]
def u87:IFn:=⟨12,u87_1,[.tmp 2]⟩
end
theorem isU87:A6 Tryz.prog 87 u87:=by unfold A6;kernel_rfl
section
abbrev u17_5:=qS [oI 2 0,oI 3 1] .ret []
abbrev u17_4:=qK u17_5 .skip (.t 11) [1,11]
abbrev u17_3:=qS [oD 9 1 2,oC 10 40 [.t 9],oY 11 10] u17_4 [1]
abbrev u17_25:=qE [oM 49 4,oF 50 8 3,oL 51 50,oC 52 47 [.t 49,.t 51,.k (.int .i64 7)]] [4,6,8,20,21,22,27,28,29]
abbrev u17_24:=qK u17_25 .skip (.t 48) [4,6,8,20,21,22,27,28,29,48]
abbrev u17_23:=qS [oF 43 6 2,oL 44 43,oM 45 7,oP 46 (.slc 4 (.t 44) none (some (.t 45))),oP 47 (.mkf 46 [] [.t 8]),oC 48 45 [.t 46,.t 47]] u17_24 [4,6,7,8,20,21,22,27,28,29]
abbrev u17_26:=qE [oM 53 4,oF 54 8 2,oL 55 54,oC 56 48 [.t 53,.t 55]] [4,6,8,20,21,22,27,28,29]
abbrev u17_22:=qQ u17_23 u17_26 [4,6,7,8,20,21,22,27,28,29]
abbrev u17_21:=qD [oM 34 4,oF 35 8 1,oL 36 35,oF 37 8 0,oL 38 37,oC 39 44 [.t 38],oF 40 8 3,oL 41 40,oC 42 43 [.t 34,.t 36,.t 39,.t 41]] u17_22 [(0,none),(1,none),(2,none),(3,none),(4,none),(6,none),(7,none),(5,some [0,1,2,6,7]),(8,some [])] 9 [4,6,7,8,20,21,22,27,28,29]
abbrev u17_20:=qS [oM 31 29,oA 32 27 29 4,oD 33 32 4,oW 8 (.agg #[.int .i64 0,.string ⟨#[]⟩,.slice none 0 0,.int .i64 0]),oM 7 31,oS 8 33 4] u17_21 [4,6,20,21,22,27,28,29]
abbrev u17_27:=qE [oK 57 29 .add 1,oM 29 57] [4,6,20,21,22,27,28,29]
abbrev u17_19:=qB u17_20 u17_27 3 [4,6,20,21,22,27,28,29]
abbrev u17_18:=qC .skip u17_19 (.exit 2) (.t 30) [4,6,20,21,22,27,28,29,30]
abbrev u17_17:=qS [oB 30 29 28 .lss] u17_18 [4,6,20,21,22,27,28,29]
abbrev u17_16:=qJ (.loop u17_17) 2 [4,6,20,21,22,27,28,29]
abbrev u17_15:=qS [oF 26 6 2,oL 27 26,oH 28 27,oI 29 0] u17_16 [4,6,20,21,22]
abbrev u17_14:=qS [oA 24 20 22 4,oD 25 24 4,oW 6 (.agg #[.string ⟨#[]⟩,.int .i64 0,.slice none 0 0,.int .i64 0]),oS 6 25 4] u17_15 [4,20,21,22]
abbrev u17_28:=qE [oK 58 22 .add 1,oM 22 58] [4,20,21,22]
abbrev u17_13:=qB u17_14 u17_28 1 [4,20,21,22]
abbrev u17_12:=qC .skip u17_13 (.exit 0) (.t 23) [4,20,21,22,23]
abbrev u17_11:=qS [oB 23 22 21 .lss] u17_12 [4,20,21,22]
abbrev u17_10:=qJ (.loop u17_11) 0 [4,20,21,22]
abbrev u17_9:=qS [oF 19 1 1,oL 20 19,oH 21 20,oI 22 0] u17_10 [1,4]
abbrev u17_29:=qD [oM 59 4,oN 60 59,oF 61 60 1,oL 62 61,oM 63 4,oN 64 63,oF 65 64 2,oL 66 65,oM 2 62,oM 3 66] .ret [(0,none),(1,none),(2,none),(3,none),(4,none),(5,none),(6,none),(7,none),(8,some [4,5,6,7]),(9,some [])] 10 [4]
abbrev u17_8:=qQ u17_9 u17_29 [1,4]
abbrev u17_7:=qS [oM 16 4,oD 17 1 2,oC 18 42 [.t 16,.t 17]] u17_8 [1,4]
abbrev u17_6:=qS [oD 12 1 2,oC 13 41 [.t 12],oP 14 (.bld #[.map none,.int .i64 0,.int .i64 0] [(0,1),(1,1),(2,1)] [(0,.t 13)]),oX 15 14,oM 4 15] u17_7 [1]
abbrev u17_2:=qQ u17_3 u17_6 [1]
abbrev u17_1:=qS [oX 1 0,oI 2 0,oI 3 0] u17_2 [0]
def u17:IFn:=⟨67,u17_1,[.tmp 2,.tmp 3]⟩
end
theorem isU17:A6 Tryz.prog 17 u17:=by unfold A6;kernel_rfl
section
abbrev u46_2:=qS [oF 4 2 0,oL 5 4,oF 6 1 0,oL 7 6,oB 8 5 7 .eql,oM 9 8,gF 10 2 1 9,gL 11 10 9,gF 12 1 1 9,gL 13 12 9,oG 14 (.bin .eql (.t 11) (.t 13)) 9,oJ 15 9 14,oM 3 15] .ret [1,2]
abbrev u46_1:=qS [oX 2 0,oV 3 (.bool false)] u46_2 [0,1]
def u46:IFn:=⟨16,u46_1,[.tmp 3]⟩
end
theorem isU46:A6 Tryz.prog 46 u46:=by unfold A6;kernel_rfl
section
abbrev u26_5:=qS [oI 4 0,oI 5 0,oI 6 1] .ret []
abbrev u26_4:=qK u26_5 .skip (.t 15) [2,3,15]
abbrev u26_3:=qS [oD 8 2 2,oC 9 40 [.t 8],oY 10 9,oM 11 10,oR 12 (.ld 5 true (.t 3)) 11,⟨some 13,.call 56 [.t 12],some (11,false)⟩,oR 14 (.un .not (.t 13)) 11,oO 15 11 14] u26_4 [2,3]
abbrev u26_11:=qD [oM 28 7,oN 29 28,oF 30 29 1,oL 31 30,oM 32 7,oN 33 32,oF 34 33 2,oL 35 34,oI 4 0,oM 5 31,oM 6 35] .ret [(0,none),(1,none),(2,none),(3,none),(4,none),(5,none),(6,none),(7,none),(8,some [0,1,2,3,4,5,6,7]),(9,some [4,5,6,7]),(10,some [])] 11 [7]
abbrev u26_10:=qK u26_11 .skip (.t 27) [3,7,27]
abbrev u26_9:=qS [oM 23 7,oN 24 23,oF 25 24 2,oL 26 25,oK 27 26 .neq 0] u26_10 [3,7]
abbrev u26_12:=qS [oF 36 3 0,oL 37 36,oC 38 58 [.t 37],oM 4 38,oI 5 0,oI 6 0] .ret [3]
abbrev u26_8:=qQ u26_9 u26_12 [3,7]
abbrev u26_7:=qS [oM 20 7,oD 21 3 5,oC 22 57 [.t 20,.t 21]] u26_8 [3,7]
abbrev u26_6:=qS [oD 16 2 2,oC 17 41 [.t 16],oP 18 (.bld #[.map none,.int .i64 0,.int .i64 0] [(0,1),(1,1),(2,1)] [(0,.t 17)]),oX 19 18,oM 7 19] u26_7 [2,3]
abbrev u26_2:=qQ u26_3 u26_6 [2,3]
abbrev u26_1:=qS [oX 2 0,oX 3 1,oI 4 0,oI 5 0,oI 6 0] u26_2 [0,1]
def u26:IFn:=⟨39,u26_1,[.tmp 4,.tmp 5,.tmp 6]⟩
end
theorem isU26:A6 Tryz.prog 26 u26:=by unfold A6;kernel_rfl
section
abbrev u28_5:=qS [oI 4 0,oI 5 0] .ret []
abbrev u28_4:=qK u28_5 .skip (.t 9) [1,2,9]
abbrev u28_3:=qS [oD 7 2 2,oC 8 40 [.t 7],oY 9 8] u28_4 [1,2]
abbrev u28_7:=qD [oF 14 6 0,oL 15 14,oF 16 6 1,oL 17 16,oM 4 15,oM 5 17] .ret [(0,none),(1,none),(2,none),(3,none),(4,some [2,3]),(5,some [])] 6 [6]
abbrev u28_6:=qS [oD 10 2 2,oC 11 41 [.t 10],oM 12 1,⟨some 13,.eff (.lkp .s (.agg #[.int .i64 0,.int .i64 0]) false (.t 11) (.t 12)),none⟩,oW 6 (.agg #[.int .i64 0,.int .i64 0]),oS 6 13 2] u28_7 [1,2]
abbrev u28_2:=qQ u28_3 u28_6 [1,2]
abbrev u28_1:=qS [oX 2 0,oI 4 0,oI 5 0] u28_2 [0,1]
def u28:IFn:=⟨18,u28_1,[.tmp 4,.tmp 5]⟩
end
theorem isU28:A6 Tryz.prog 28 u28:=by unfold A6;kernel_rfl
section
abbrev u91_8:=qE [oF 15 5 3,oL 16 15,oM 17 1,oC 18 91 [.t 16,.t 17]] [1,5,6,7,8]
abbrev u91_7:=qS [oM 12 1,oF 13 5 2,oL 14 13,⟨none,.eff (.mup .s (.t 12) (.t 14) (.k (.bool true))),none⟩] u91_8 [1,5,6,7,8]
abbrev u91_6:=qS [oA 10 6 8 5,oD 11 10 5,oW 5 (.agg #[.int .i64 0,.int .i64 0,.string ⟨#[]⟩,.slice none 0 0,.int .i64 0]),oS 5 11 5] u91_7 [1,6,7,8]
abbrev u91_9:=qE [oK 19 8 .add 1,oM 8 19] [1,6,7,8]
abbrev u91_5:=qB u91_6 u91_9 1 [1,6,7,8]
abbrev u91_4:=qC .skip u91_5 (.exit 0) (.t 9) [1,6,7,8,9]
abbrev u91_3:=qS [oB 9 8 7 .lss] u91_4 [1,6,7,8]
abbrev u91_2:=qJ (.loop u91_3) 0 [1,6,7,8]
abbrev u91_1:=qS [oM 6 0,oH 7 6,oI 8 0] u91_2 [0,1]
def u91:IFn:=⟨20,u91_1,[]⟩
end
theorem isU91:A6 Tryz.prog 91 u91:=by unfold A6;kernel_rfl
section
abbrev u50_10:=qE [oF 23 5 5,oL 24 23,oM 25 1,oC 26 50 [.t 24,.t 25]] [1,5,6,7,8]
abbrev u50_9:=qS [oF 19 5 4,oL 20 19,oM 21 1,oC 22 50 [.t 20,.t 21]] u50_10 [1,5,6,7,8]
abbrev u50_8:=qS [oF 15 5 3,oL 16 15,oM 17 1,oC 18 91 [.t 16,.t 17]] u50_9 [1,5,6,7,8]
abbrev u50_7:=qS [oM 12 1,oF 13 5 1,oL 14 13,⟨none,.eff (.mup .s (.t 12) (.t 14) (.k (.bool true))),none⟩] u50_8 [1,5,6,7,8]
abbrev u50_6:=qS [oA 10 6 8 7,oD 11 10 7,oW 5 (.agg #[.int .i64 0,.string ⟨#[]⟩,.string ⟨#[]⟩,.slice none 0 0,.slice none 0 0,.slice none 0 0,.int .i64 0]),oS 5 11 7] u50_7 [1,6,7,8]
abbrev u50_11:=qE [oK 27 8 .add 1,oM 8 27] [1,6,7,8]
abbrev u50_5:=qB u50_6 u50_11 1 [1,6,7,8]
abbrev u50_4:=qC .skip u50_5 (.exit 0) (.t 9) [1,6,7,8,9]
abbrev u50_3:=qS [oB 9 8 7 .lss] u50_4 [1,6,7,8]
abbrev u50_2:=qJ (.loop u50_3) 0 [1,6,7,8]
abbrev u50_1:=qS [oM 6 0,oH 7 6,oI 8 0] u50_2 [0,1]
def u50:IFn:=⟨28,u50_1,[]⟩
end
theorem isU50:A6 Tryz.prog 50 u50:=by unfold A6;kernel_rfl
section
abbrev u21_5:=qS [oV 2 (.slice none 0 0)] .ret []
abbrev u21_4:=qK u21_5 .skip (.t 13) [1,13]
abbrev u21_3:=qS [oD 11 1 2,oC 12 40 [.t 11],oY 13 12] u21_4 [1]
abbrev u21_21:=qE [oF 32 7 2,oL 33 32,oM 34 3,oC 35 50 [.t 33,.t 34]] [1,3,7,16,17,18,23,24,25]
abbrev u21_20:=qS [oM 29 3,oF 30 7 1,oL 31 30,⟨none,.eff (.mup .s (.t 29) (.t 31) (.k (.bool true))),none⟩] u21_21 [1,3,7,16,17,18,23,24,25]
abbrev u21_19:=qS [oA 27 23 25 4,oD 28 27 4,oW 7 (.agg #[.int .i64 0,.string ⟨#[]⟩,.slice none 0 0,.int .i64 0]),oS 7 28 4] u21_20 [1,3,16,17,18,23,24,25]
abbrev u21_22:=qE [oK 36 25 .add 1,oM 25 36] [1,3,16,17,18,23,24,25]
abbrev u21_18:=qB u21_19 u21_22 3 [1,3,16,17,18,23,24,25]
abbrev u21_17:=qC .skip u21_18 (.exit 2) (.t 26) [1,3,16,17,18,23,24,25,26]
abbrev u21_16:=qS [oB 26 25 24 .lss] u21_17 [1,3,16,17,18,23,24,25]
abbrev u21_15:=qJ (.loop u21_16) 2 [1,3,16,17,18,23,24,25]
abbrev u21_14:=qS [oF 22 5 2,oL 23 22,oH 24 23,oI 25 0] u21_15 [1,3,5,16,17,18]
abbrev u21_13:=qS [oA 20 16 18 4,oD 21 20 4,oW 5 (.agg #[.string ⟨#[]⟩,.int .i64 0,.slice none 0 0,.int .i64 0]),oS 5 21 4] u21_14 [1,3,16,17,18]
abbrev u21_23:=qE [oK 37 18 .add 1,oM 18 37] [1,3,16,17,18]
abbrev u21_12:=qB u21_13 u21_23 1 [1,3,16,17,18]
abbrev u21_11:=qC .skip u21_12 (.exit 0) (.t 19) [1,3,16,17,18,19]
abbrev u21_10:=qS [oB 19 18 17 .lss] u21_11 [1,3,16,17,18]
abbrev u21_9:=qJ (.loop u21_10) 0 [1,3,16,17,18]
abbrev u21_8:=qS [oF 15 1 1,oL 16 15,oH 17 16,oI 18 0] u21_9 [1,3]
abbrev u21_34:=qE [oM 50 8,oF 51 10 1,oL 52 51,⟨some 53,.new (.bsl 1 1 #[.string ⟨#[]⟩] [(0,.t 52)]),none⟩,oT 54 50 53 1 16,oM 8 54] [3,8,10,39,40,41]
abbrev u21_33:=qK u21_34 .skip (.t 49) [3,8,10,39,40,41,49]
abbrev u21_32:=qS [oM 45 3,oF 46 10 1,oL 47 46,⟨some 48,.eff (.lkp .s (.bool false) false (.t 45) (.t 47)),none⟩,oY 49 48] u21_33 [3,8,10,39,40,41]
abbrev u21_31:=qS [oA 43 39 41 4,oD 44 43 4,oW 10 (.agg #[.int .i64 0,.string ⟨#[]⟩,.int .i64 0,.int .i64 0]),oS 10 44 4] u21_32 [3,8,39,40,41]
abbrev u21_35:=qE [oK 55 41 .add 1,oM 41 55] [3,8,39,40,41]
abbrev u21_30:=qB u21_31 u21_35 5 [3,8,39,40,41]
abbrev u21_29:=qC .skip u21_30 (.exit 4) (.t 42) [3,8,39,40,41,42]
abbrev u21_28:=qS [oB 42 41 40 .lss] u21_29 [3,8,39,40,41]
abbrev u21_27:=qJ (.loop u21_28) 4 [3,8,39,40,41]
abbrev u21_26:=qS [oF 38 1 0,oL 39 38,oH 40 39,oI 41 0] u21_27 [1,3,8]
abbrev u21_36:=qS [oM 56 8,oM 2 56] .ret [8]
abbrev u21_25:=qQ u21_26 u21_36 [1,3,8]
abbrev u21_24:=qS [oV 8 (.slice none 0 0)] u21_25 [1,3]
abbrev u21_7:=qQ u21_8 u21_24 [1,3]
abbrev u21_6:=qS [⟨some 14,.eff (.mkm .s),none⟩,oM 3 14] u21_7 [1]
abbrev u21_2:=qQ u21_3 u21_6 [1]
abbrev u21_1:=qS [oX 1 0,oV 2 (.slice none 0 0)] u21_2 [0]
def u21:IFn:=⟨57,u21_1,[.tmp 2]⟩
end
theorem isU21:A6 Tryz.prog 21 u21:=by unfold A6;kernel_rfl
end Go.Proofs.YtnmkkggfgdfmeaaGreatDoor
namespace Go.Pb
variable [Go.Sym.Tab]
open Go.Sym
abbrev Er:=Option (Int × Int)
def cnD (l:List Dc) (k:Int):Nat:=l.countP (fun d=>d.kind == k)
def cnR (r:Ru) (k:Int):Nat:=if k=9 then r.modes.length else cnD r.decls k
def lkD (pre:List Dc):List Dc->List UInt8->Option (Int × Int)
 | [],_=>none
 | d :: l,n=>if d.name=n then some (d.kind,if d.kind<6 then d.value else (cnR ⟨pre,[]⟩ d.kind:Int)) else lkD (pre++[d]) l n
def lkM (i:Nat):List Md->List UInt8->Option (Int × Int)
 | [],_=>none
 | m :: l,n=>if m.name=n then some (9,(i:Int)) else lkM (i+1) l n
def R9 (r:Ru) (n:List UInt8):Int × Int:=match lkD [] r.decls n with
 | some q=>q
 | none=>match lkM 0 r.modes n with
  | some q=>q
  | none=>(0,0)
def dnM (r:Ru) (n:List UInt8) (k:Int):Int:=if k=0\/(R9 r n).1=k then 0 else if (R9 r n).1=0 then 8 else 44
def dnE (r:Ru) (n:List UInt8) (k p:Int):Er:=if dnM r n k=0 then none else some (p,dnM r n k)
def kdE (k:Int):Int:=if k=2 then 6 else if k=5 then 1 else if k=6 then 9 else if k=7 then 7 else 0
def kdS (k:Int):Int:=if k=1 then 6 else if k=5\/k=6\/k=7 then 2 else if k=8\/k=9 then 3 else if k=10\/k=11 then 7 else if k=12\/k=13 then 9 else if k=14 then 8 else if k=15 then 4 else if k=16\/k=17 then 5 else 0
def kdH (k:Int):Int:=if k=3\/k=4 then 1 else if k=5 then 7 else if k=6 then 8 else 0
def mstM (k:Int):Int:=if k=1 then 63 else if k=2 then 31 else if k=3\/k=4\/k=5 then 63 else 2147483647
def bolM (k:Int):Bool:=k == 3 || k == 4 || k == 5 || k == 6 || k == 11 || decide (17<=k)
def L3 (k:Int):Int:=if bolM k=true then 2 else 1
def X4 (k:Int) (a:List Ex):Int:=if k=11\/k=23\/k=24 then 2 else if k=21\/k=22 then (match a with
 | []=>1
 | x :: _=>L3 x.kind) else 1
mutual
def erE (r:Ru):Ex->Er
 | .mk k v n a p=>((T7 r a).or (dnE r n (kdE k) p)).or (if a.all (fun x=>L3 x.kind == X4 k a)=true then none else some (p,49))
def T7 (r:Ru):List Ex->Er
 | []=>none
 | x :: l=>(erE r x).or (T7 r l)
end
def tyV (r:Ru) (e:Ex):DV:=match erE r e with
 | some (p,c)=>.tup [I64 0,I64 p,I64 c]
 | none=>.tup [I64 (L3 e.kind),I64 0,I64 0]
def erA (r:Ru) (b:Bool):List Ex->Er
 | []=>none
 | x :: l=>((erE r x).or (if (L3 x.kind == 2)=b then none else some (x.pos,49))).or (erA r b l)
mutual
def erS (r:Ru):St->Er
 | .mk k n t a x y p=>(((dnE r n (kdS k) p).or (erA r (k == 2) a)).or (erB r x)).or (erB r y)
def erB (r:Ru):List St->Er
 | []=>none
 | s :: l=>(erS r s).or (erB r l)
end
def erD (pre:List Dc):List Dc->Er
 | []=>none
 | d :: l=>((if d.value>mstM d.kind then some (d.pos,5) else none:Er).or (if (R9 ⟨pre,[]⟩ d.name).1=0 then none else some (d.pos,7))).or (erD (pre++[d]) l)
def erP (D:List Dc) (pre:List Md):List Md->Er
 | []=>none
 | m :: l=>((if m.prio>99 then some (m.pos,5) else none:Er).or (if (R9 ⟨D,pre⟩ m.name).1=0 then none else some (m.pos,7))).or (erP D (pre++[m]) l)
def heaE (r:Ru):Er:=(erD [] r.decls).or (erP r.decls [] r.modes)
def erH (r:Ru) (pre:List Hd):List Hd->Er
 | []=>none
 | h :: l=>(((dnE r h.name (kdH h.trig) h.pos).or (if pre.any (fun x=>x.trig == h.trig && x.name == h.name)=true then some (h.pos,7) else none)).or (erB r h.body)).or (erH r (pre++[h]) l)
def erM (r:Ru):List Md->Er
 | []=>none
 | m :: l=>(erH r [] m.hds).or (erM r l)
def chkE (r:Ru):Er:=(heaE r).or (erM r r.modes)
def erV:Er->DV
 | some (p,c)=>.tup [I64 p,I64 c]
 | none=>.tup [I64 0,I64 0]
def chkV (r:Ru):DV:=if O4 r=true then erV (chkE r) else .tup [I64 0,I64 1]
def typV (r:Ru) (e:Ex):DV:=if (O4 r && N2 e)=true then tyV r e else .tup [I64 0,I64 0,I64 1]
mutual
def inE (n:List UInt8):Ex->Bool
 | .mk k v m a p=>(kdE k != 0 && m == n) || inEs n a
def inEs (n:List UInt8):List Ex->Bool
 | []=>false
 | x :: l=>inE n x || inEs n l
end
mutual
def inS (n:List UInt8):St->Bool
 | .mk k m t a x y p=>((m == n || inEs n a) || inB n x) || inB n y
def inB (n:List UInt8):List St->Bool
 | []=>false
 | s :: l=>inS n s || inB n l
end
def usdM (r:Ru) (n:List UInt8):Bool:=r.modes.any fun m=>m.hds.any fun h=>h.name == n || inB n h.body
def unuM (r:Ru):List (List UInt8):=(r.decls.filter fun d => !usdM r d.name).map Dc.name
theorem erV_nl (e:Er):(erV e).nl=true:=by cases e<;>rfl
theorem tyV_nl (r:Ru) (e:Ex):(tyV r e).nl=true:=by unfold tyV;split<;>rfl
theorem lkD_drop {D:List Dc} {i:Nat} {d:Dc} {n:List UInt8} (h:D[i]? = some d):lkD (D.take i) (D.drop i) n=if d.name=n then some (d.kind,if d.kind<6 then d.value else (cnR ⟨D.take i,[]⟩ d.kind:Int)) else lkD (D.take (i+1)) (D.drop (i+1)) n:=by
 have hlt:=(List.getElem?_eq_some_iff.1 h).1;rw [List.drop_eq_getElem_cons hlt,(List.getElem?_eq_some_iff.1 h).2,lkD,List.take_add_one,h];rfl
theorem lkM_drop {M:List Md} {i:Nat} {m:Md} {n:List UInt8} (h:M[i]? = some m):lkM i (M.drop i) n=if m.name=n then some (9,(i:Int)) else lkM (i+1) (M.drop (i+1)) n:=by
 have hlt:=(List.getElem?_eq_some_iff.1 h).1;rw [List.drop_eq_getElem_cons hlt,(List.getElem?_eq_some_iff.1 h).2,lkM]
theorem erEs_drop {r:Ru} {l:List Ex} {i:Nat} {x:Ex} (h:l[i]? = some x):T7 r (l.drop i)=(erE r x).or (T7 r (l.drop (i+1))):=by
 have hlt:=(List.getElem?_eq_some_iff.1 h).1;rw [List.drop_eq_getElem_cons hlt,(List.getElem?_eq_some_iff.1 h).2,T7]
theorem A1b {α : Type} {l:List α} {i:Nat} {x : α} (h:l[i]? = some x):l.take i++[x]=l.take (i+1):=by
 rw [List.take_add_one,h];rfl
def NzE (e:Er):Prop:=∀ p c,e=some (p,c)->c≠0
theorem NzE.or {a b:Er} (ha:NzE a) (hb:NzE b):NzE (a.or b):=by
 intro p c h;cases a with
 | none=>exact hb p c (by simpa using h)
 | some q=>exact ha p c (by simpa using h)
theorem Z3:NzE none:=fun p c h=>by cases h
theorem nz_if {b:Prop} [Decidable b] {p c:Int} (h:c≠0):NzE (if b then none else some (p,c)):=by
 intro p' c' e;split at e
 ·cases e
 ·cases e;exact h
theorem A9r {b:Prop} [Decidable b] {p c:Int} (h:c≠0):NzE (if b then some (p,c) else none):=by
 intro p' c' e;split at e
 ·cases e;exact h
 ·cases e
theorem A8e (r:Ru) (n:List UInt8) (k p:Int):NzE (dnE r n k p):=by
 intro p' c h;unfold dnE at h;split at h
 ·cases h
 ·cases h;assumption
mutual
theorem nz_E (r:Ru):∀ e:Ex,NzE (erE r e)
 | .mk k v n a p=>by rw [erE];exact ((nz_Es r a).or (A8e _ _ _ _)).or (nz_if (by decide))
theorem nz_Es (r:Ru):∀ l:List Ex,NzE (T7 r l)
 | []=>by rw [T7];exact Z3
 | x :: l=>by rw [T7];exact (nz_E r x).or (nz_Es r l)
end
theorem nz_A (r:Ru) (b:Bool):∀ l:List Ex,NzE (erA r b l)
 | []=>by rw [erA];exact Z3
 | x :: l=>by rw [erA];exact ((nz_E r x).or (nz_if (by decide))).or (nz_A r b l)
mutual
theorem nz_S (r:Ru):∀ e:St,NzE (erS r e)
 | .mk k n t a x y p=>by rw [erS];exact (((A8e _ _ _ _).or (nz_A _ _ _)).or (nz_B r x)).or (nz_B r y)
theorem nz_B (r:Ru):∀ l:List St,NzE (erB r l)
 | []=>by rw [erB];exact Z3
 | x :: l=>by rw [erB];exact (nz_S r x).or (nz_B r l)
end
theorem nz_D:∀ (l pre:List Dc),NzE (erD pre l)
 | [],pre=>by rw [erD];exact Z3
 | d :: l,pre=>by rw [erD];exact ((A9r (by decide)).or (nz_if (by decide))).or (nz_D l _)
theorem nz_P (D:List Dc):∀ (l pre:List Md),NzE (erP D pre l)
 | [],pre=>by rw [erP];exact Z3
 | d :: l,pre=>by rw [erP];exact ((A9r (by decide)).or (nz_if (by decide))).or (nz_P D l _)
theorem nz_hea (r:Ru):NzE (heaE r):=(nz_D _ _).or (nz_P _ _ _)
theorem nz_H (r:Ru):∀ (l pre:List Hd),NzE (erH r pre l)
 | [],pre=>by rw [erH];exact Z3
 | d :: l,pre=>by rw [erH];exact (((A8e _ _ _ _).or (A9r (by decide))).or (nz_B r _)).or (nz_H r l _)
theorem nz_M (r:Ru):∀ (l:List Md),NzE (erM r l)
 | []=>by rw [erM];exact Z3
 | d :: l=>by rw [erM];exact (nz_H r _ _).or (nz_M r l)
theorem msL_mem {k:Int}:∀ {i:Nat} {l:List Ex} {q:Nat × Nat},msL k i l=some q->∀ x∈l, ∃ q,msM x=some q
 | i,[],q,h,x,hx=>by cases hx
 | i,e :: l,q,h,x,hx=>by
  rw [msL] at h;cases he:msM e with
  | none=>rw [he] at h;cases h
  | some q1 =>
   rw [he] at h;dsimp only at h;cases hl:msL k (i+1) l with
   | none=>rw [hl] at h;cases h
   | some q2 =>
    rcases List.mem_cons.1 hx with rfl|hx
    ·exact ⟨_,he⟩
    ·exact msL_mem hl x hx
theorem A9w {e:Ex} {q:Nat × Nat} (h:msM e=some q):∀ x∈e.args, ∃ q,msM x=some q:=by
 cases e with|mk k v n a p =>
 obtain ⟨o,d⟩:=q;obtain ⟨m1,m2,m3,m4,m5,m6⟩:=A4c h;intro x hx;by_cases hc:J1 k=0
 ·have:a=[]:=List.eq_nil_of_length_eq_zero (by omega);subst this;cases hx
 ·obtain ⟨d',h1, -⟩:=m6 hc;exact msL_mem h1 x hx
theorem ms_two {e:Ex} {q:Nat × Nat} (h:msM e=some q) (hk:e.kind=21\/e.kind=22):e.args.length=2:=by
 cases e with|mk k v n a p =>
 obtain ⟨o,d⟩:=q;obtain ⟨m1,m2,m3,m4,m5,m6⟩:=A4c h;show a.length=2;rw [m2];rcases hk with hk|hk
 all_goals (have hk:k=_:=hk;subst hk;decide)
theorem erS_e (r:Ru) (s:St):erS r s=(((dnE r s.name (kdS s.kind) s.pos).or (erA r (s.kind == 2) s.args)).or (erB r s.thn)).or (erB r s.els):=by
 cases s with|mk k n t a x y p=>rw [erS];rfl
theorem A7v {d:Nat}:∀ {l:List St},G6 d l=true->∀ s∈l,P9 d s=true
 | s0 :: l,h,s,hs=>by
  rw [G6,Bool.and_eq_true] at h;rcases List.mem_cons.1 hs with rfl|hs
  ·exact h.1
  ·exact A7v h.2 s hs
theorem A6d {d:Nat} {s:St} (h:P9 d s=true):(∀ x∈s.args, ∃ q,msM x=some q)/\G6 (d+1) s.thn=true/\G6 (d+1) s.els=true:=by
 cases s with|mk k n t a x y p =>
 rw [P9] at h;simp only [Bool.and_eq_true] at h;refine ⟨fun e he=>?_,h.2.1.2,h.2.2.2⟩;have h1:=List.all_eq_true.1 h.1.1.1.2.2 e he;unfold N2 at h1;cases hm:msM e with
 | none=>rw [hm] at h1;cases h1
 | some q=>exact ⟨q,rfl⟩
theorem vld_body {r:Ru} (h:O4 r=true):∀ m∈r.modes, ∀ x∈m.hds,G6 1 x.body=true:=by
 intro m hm x hx;unfold O4 at h;simp only [Bool.and_eq_true] at h;have h1:=List.all_eq_true.1 h.2 m hm;unfold U0 at h1;simp only [Bool.and_eq_true] at h1;have h2:=List.all_eq_true.1 h1.2 x hx;unfold A0f at h2;simp only [Bool.and_eq_true] at h2;have h3:=h2.2;unfold M3 at h3;simp only [Bool.and_eq_true] at h3;exact h3.2
theorem sz_md {r:Ru} {m:Md} (h:m∈r.modes):m.sz<=r.sz:=by
 have:m.sz<=(r.modes.map Md.sz).sum:=I5 h;show _<=(r.decls.map Dc.sz).sum+(r.modes.map Md.sz).sum;omega
theorem sz_hd {m:Md} {x:Hd} (h:x∈m.hds):x.sz<=m.sz:=by
 have:x.sz<=(m.hds.map Hd.sz).sum:=I5 h;show _<=1+m.name.length+(m.hds.map Hd.sz).sum;omega
theorem sz_dl (r:Ru):r.decls.length<=r.sz:=by
 have:r.decls.length<=(r.decls.map Dc.sz).sum:=G9 fun x _=>by show 1<=1+_;omega
 show _<=(r.decls.map Dc.sz).sum+(r.modes.map Md.sz).sum;omega
theorem sz_ml (r:Ru):r.modes.length<=r.sz:=by
 have:r.modes.length<=(r.modes.map Md.sz).sum:=G9 fun x _=>by show 1<=1+_+_;omega
 show _<=(r.decls.map Dc.sz).sum+(r.modes.map Md.sz).sum;omega
theorem sz_hl (m:Md):m.hds.length<=m.sz:=by
 have:m.hds.length<=(m.hds.map Hd.sz).sum:=G9 fun x _=>by show 1<=1+_+_;omega
 show _<=1+m.name.length+(m.hds.map Hd.sz).sum;omega
theorem A8y {α : Type} (p : α -> Bool) (l:List α) (k:Nat) (x : α) (hx:l[k]? = some x):(l.take (k+1)).any p=((l.take k).any p || p x):=by
 rw [List.take_add_one,hx,List.any_append];simp
end Go.Pb
set_option maxHeartbeats 8000000
namespace Go.Proofs.YtnmkkggfgdfmeaaGreatDoor
open Go.Eng (IC IOper DReg IFn A6)
open Go.Sym Go.Pb
theorem c_expKR (k:Int):PC Tryz.prog 102 [I64 k] (I64 (kdE k)):=by
 refine PC.of A9 isU102 (Nat.le_of_ble_eq_true rfl) (by simp [DV.nlL,DV.nl]) (by simp [DV.nlL,DV.nl]) ?_;show IW Tryz.prog 12 u102_1 ⟨B6 _,_,_⟩ (rt [.tmp 2] _);repeat' ((with_reducible first|refine wr ?_|refine wb2 ?_ ?_<;>(intro hb;try simp only [hb])|fail)<;>try simp only [go_sem,seval])
 all_goals (refine A8 (congrArg I64 ?_);simp_all [kdE])
theorem c_boolR (k:Int):PC Tryz.prog 103 [I64 k] (.bool (bolM k)):=by
 refine PC.of A9 isU103 (Nat.le_of_ble_eq_true rfl) (by simp [DV.nlL,DV.nl]) (by simp [DV.nlL,DV.nl]) ?_;show IW Tryz.prog 25 u103_1 ⟨B6 _,_,_⟩ (rt [.tmp 2] _);repeat' ((with_reducible first|refine wr ?_|refine wb2 ?_ ?_<;>(intro hb;try simp only [hb])|fail)<;>try simp only [go_sem,seval])
 all_goals (refine A8 (congrArg DV.bool ?_);simp_all [bolM])
theorem A7h (d:Dc):d.v=.agg [I64 d.kind,.str d.name,I64 d.value,I64 d.pos]:=rfl
theorem md_w (d:Md):d.v=.agg [.str d.name,I64 d.prio,T6 d.hds,I64 d.pos]:=rfl
theorem c_cntR (r:Ru) (k:Int) (h1:r.decls.length<=1000000000) (h2:r.modes.length<=1000000000):PC Tryz.prog 63 [r.v,I64 k] (I64 (cnR r k)):=by
 refine PC.of A9 isU63 (Nat.le_of_ble_eq_true rfl) (by simp [Ru.v,DV.nlL,DV.nl,H7,H6]) rfl ?_;obtain ⟨D,M⟩:=r;dsimp only [Ru.v] at h1 h2 ⊢;show IW Tryz.prog 30 u63_1 ⟨B6 _,_,_⟩ (rt [.tmp 4] _);by_cases k9:k=9
 ·subst k9;repeat' ((with_reducible apply wr)<;>try simp only [go_sem,seval,List.length_map])
  exact A8 rfl
 have q9:(k == 9)=false:=by simpa using k9
 have er:cnR ⟨D,M⟩ k=cnD D k:=by rw [cnR,if_neg k9]
 rw [er];repeat' ((with_reducible apply wr)<;>try simp only [go_sem,seval,q9])
 refine C2 (fun i:Nat=>[(1,I64 k),(2,.ptr 0 0),(5,I64 (cnD (D.take i) k)),(6,I64 i)]) (fun _=>Sym.nil.upd 0 ⟨0,true,[D5 D,E1 M]⟩) (fun i c=>i<=D.length) (fun i=>D.length-i) 0 (by simp [C1,tm,Tm.upd,cnD]) (Sub.refl _) (Nat.zero_le _) ?_;rintro i c hk;by_cases hlt:i<D.length
 ·have hd:decide ((i:Int)<D.length)=true:=by simpa using hlt
  have hg:=List.getElem?_eq_getElem hlt;have hw:=w64 (n:=(i:Int)+1) (by omega) (by omega);have e0:cnD (D.take (i+1)) k=cnD (D.take i) k+(if D[i].kind == k then 1 else 0):=by
   unfold cnD;rw [List.take_add_one,hg,List.countP_append];simp [List.countP_cons]
  have hle:cnD (D.take i) k<=D.length:=by
   refine Nat.le_trans List.countP_le_length ?_;rw [List.length_take];omega
  have hw2:=w64 (n:=(cnD (D.take i) k:Int)+1) (by omega) (by omega);generalize D[i]=d at hg e0;repeat' ((with_reducible first|refine wr ?_|refine wb2 ?_ ?_<;>(intro hb;try simp only [hb])|fail)<;>try simp only [go_sem,seval,hd,hg,hw,hw2,A7h,List.length_map])
  all_goals (refine ⟨i+1,?_,Sub.refl _,inv (by omega),by omega⟩;simp_all)
 have hd:decide ((i:Int)<D.length)=false:=by simpa using hlt
 repeat' ((with_reducible apply wr)<;>try simp only [go_sem,seval,hd,List.length_map])
 rw [List.take_of_length_le (by omega)];exact A8 rfl
theorem v_ruN {ρ : Ren} {v:Value} {a:DV} (h:VRel ρ (.agg [a,.snil]) v):VRel ρ (.agg [a,.lst []]) v:=by
 obtain ⟨b,rfl,k1,k2⟩:=h.agg_inv;refine .agg _ _ k1 fun i x y hx hy=>?_
 match i with
 | 0=>exact k2 0 _ y hx hy
 | 1=>cases hx;exact (k2 1 _ y rfl hy).snil_lst
 | i+2=>simp at hx
theorem pc_ruN {f:Nat} {a x r:DV} (h:PC Tryz.prog f [.agg [a,.lst []],x] r):PC Tryz.prog f [.agg [a,.snil],x] r:=by
 have hn:DV.nlL [.agg [a,.snil],x]=true:=by have:=h.na;simpa [DV.nlL,DV.nl] using this
 have g:GL Sym.nil [.agg [a,.snil],x] Sym.nil [.agg [a,.lst []],x]:=GL.view fun ρ vs hA=>⟨hA.1,fun i d v hd hv=>by
  match i with
  | 0=>cases hd;exact v_ruN (hA.2 0 _ v rfl hv)
  | 1=>exact hA.2 1 _ v hd hv
  | i+2=>simp at hd⟩
 exact ⟨hn,h.nr,AC.ghost g h.ac⟩
theorem r_slcl {xs:List DV} {h sz:Nat} (hh:h<=xs.length) (hu:∀ x∈xs,x.cells.length=sz) (H:Hp):A3q H sz (.lst xs) none (some (I64 (h:Int)))=some (.lst (xs.take h)):=by
 have e:unit sz xs=true:=List.all_eq_true.2 fun x hx=>by simpa using hu x hx
 simp only [A3q,boundOf,Int.natCast_nonneg,if_true,Int.toNat_natCast,hh,Nat.zero_le,and_self,e,Nat.sub_zero,List.drop_zero]
theorem sub_upd2' {b1 b2:Blk} {cc:Nat} (h:1<=cc):Sym.Sub (Sym.nil.upd 0 b1) ((Sym.nil.upd 0 b1).upd cc b2):=by
 intro j b hj;simp only [Hp.upd,Sym.nil] at hj ⊢;split at hj
 ·rename_i h0;rw [if_neg (by omega),if_pos h0];exact hj
 ·cases hj
theorem c_lkR (r:Ru) (n:List UInt8) (h1:r.decls.length<=1000000000) (h2:r.modes.length<=1000000000):PC Tryz.prog 62 [r.v,.str n] (.tup [I64 (R9 r n).1,I64 (R9 r n).2]):=by
 refine PC.of A9 isU62 (Nat.le_of_ble_eq_true rfl) (by simp [Ru.v,DV.nlL,DV.nl,H7,H6]) rfl ?_;obtain ⟨D,M⟩:=r;dsimp only at h1 h2;obtain ⟨R,hR⟩:∃ R:DV,R=.tup [I64 (R9 ⟨D,M⟩ n).1,I64 (R9 ⟨D,M⟩ n).2]:=⟨_,rfl⟩;rw [<- hR];unfold R9 at hR;dsimp only [Ru.v] at hR ⊢;show IW Tryz.prog 58 u62_1 ⟨B6 _,_,_⟩ (rt [.tmp 4,.tmp 5] _);repeat' ((with_reducible apply wr)<;>try simp only [go_sem,seval])
 refine C2 (fun i:Nat=>[(1,.str n),(2,.ptr 0 0),(6,I64 i)]) (fun _=>Sym.nil.upd 0 ⟨0,true,[D5 D,E1 M]⟩) (fun i c=>1<=c/\i<=D.length/\lkD [] D n=lkD (D.take i) (D.drop i) n) (fun i=>D.length-i) 0 (by simp [C1,tm,Tm.upd]) (Sub.refl _) ⟨Nat.le_refl _,Nat.zero_le _,rfl⟩ ?_;rintro i c ⟨h1c,hk,he⟩;by_cases hlt:i<D.length
 ·have hd:decide ((i:Int)<D.length)=true:=by simpa using hlt
  have hg:=List.getElem?_eq_getElem hlt;have hw:=w64 (n:=(i:Int)+1) (by omega) (by omega);rw [lkD_drop hg] at he;have hcn:=pc_ruN (c_cntR ⟨D.take i,[]⟩ D[i].kind (by rw [List.length_take];omega) (Nat.zero_le _));generalize D[i]=d at hg he hcn;have ne0:=M2 0 c (by omega);have hsl:=fun H=>r_slcl (xs:=D.map Dc.v) (h:=i) (sz:=4) (by rw [List.length_map];omega) (A3i _) H;rw [<- List.map_take] at hsl;by_cases hn:d.name=n
  ·have q0:(d.name == n)=true:=by simp [hn]
   rw [if_pos hn] at he;rw [he] at hR;by_cases h6:d.kind<6
   ·have q6:decide (d.kind<6)=true:=by simpa using h6
    rw [if_pos h6] at hR;repeat' ((with_reducible apply wr)<;>try simp only [go_sem,seval,hd,hg,hw,q0,q6,A7h,List.length_map,ne0,A0,A1])
    refine ⟨by and_intros<;>(repeat rw [A2 (by omega)])<;>rfl,?_⟩;repeat' ((with_reducible apply wr)<;>try simp only [go_sem,seval,ne0,A0,A1])
    exact A8 hR.symm
   ·have q6:decide (d.kind<6)=false:=by simpa using h6
    rw [if_neg h6] at hR;repeat' ((with_reducible first|apply wr|refine cpc hcn ?_|fail)<;>try simp only [go_sem,seval,hd,hg,hw,q0,q6,A7h,List.length_map,ne0,A0,A1,hsl])
    refine ⟨by and_intros<;>(repeat rw [A2 (by omega)])<;>rfl,?_⟩;repeat' ((with_reducible first|apply wr|refine cpc hcn ?_|fail)<;>try simp only [go_sem,seval,ne0,A0,A1])
    exact A8 hR.symm
  ·have q0:(d.name == n)=false:=by simp [hn]
   rw [if_neg hn] at he;repeat' ((with_reducible apply wr)<;>try simp only [go_sem,seval,hd,hg,hw,q0,A7h,List.length_map,ne0,A0,A1])
   exact ⟨i+1,by simp,sub_upd2' h1c,inv ⟨by omega,by omega,he⟩,by omega⟩
 have hd:decide ((i:Int)<D.length)=false:=by simpa using hlt
 rw [List.drop_of_length_le (by omega),lkD] at he;rw [he] at hR;repeat' ((with_reducible apply wr)<;>try simp only [go_sem,seval,hd,List.length_map])
 clear he hd hlt hk i;refine C2 (fun i:Nat=>[(1,.str n),(2,.ptr 0 0),(8,I64 i)]) (fun _=>Sym.nil.upd 0 ⟨0,true,[D5 D,E1 M]⟩) (fun i c=>i<=M.length/\lkM 0 M n=lkM i (M.drop i) n) (fun i=>M.length-i) 0 (by simp [C1,tm,Tm.upd]) (Sub.refl _) ⟨Nat.zero_le _,rfl⟩ ?_;rintro i c ⟨hk,he⟩;by_cases hlt:i<M.length
 ·have hd:decide ((i:Int)<M.length)=true:=by simpa using hlt
  have hg:=List.getElem?_eq_getElem hlt;have hw:=w64 (n:=(i:Int)+1) (by omega) (by omega);rw [lkM_drop hg] at he;generalize M[i]=d at hg he;by_cases hn:d.name=n
  ·have q0:(d.name == n)=true:=by simp [hn]
   rw [if_pos hn] at he;rw [he] at hR;repeat' ((with_reducible apply wr)<;>try simp only [go_sem,seval,hd,hg,hw,q0,md_w,List.length_map])
   exact A8 hR.symm
  ·have q0:(d.name == n)=false:=by simp [hn]
   rw [if_neg hn] at he;repeat' ((with_reducible apply wr)<;>try simp only [go_sem,seval,hd,hg,hw,q0,md_w,List.length_map])
   exact ⟨i+1,by simp,Sub.refl _,inv ⟨by omega,he⟩,by omega⟩
 have hd:decide ((i:Int)<M.length)=false:=by simpa using hlt
 rw [List.drop_of_length_le (by omega),lkM] at he;rw [he] at hR;repeat' ((with_reducible apply wr)<;>try simp only [go_sem,seval,hd,List.length_map])
 exact A8 hR.symm
theorem c_dnR (r:Ru) (n:List UInt8) (k:Int) (h1:r.decls.length<=1000000000) (h2:r.modes.length<=1000000000):PC Tryz.prog 66 [r.v,.str n,I64 k] (I64 (dnM r n k)):=by
 refine PC.of A9 isU66 (Nat.le_of_ble_eq_true rfl) (by simp [Ru.v,DV.nlL,DV.nl,H7,H6]) rfl ?_;have hl:=c_lkR r n h1 h2;dsimp only [Ru.v] at hl ⊢;unfold dnM;generalize R9 r n=q at hl ⊢;obtain ⟨a,b⟩:=q;dsimp only at hl ⊢;show IW Tryz.prog 26 u66_1 ⟨B6 _,_,_⟩ (rt [.tmp 6] _);repeat' ((with_reducible first|refine wr ?_|refine cpc hl ?_|refine wb2 ?_ ?_<;>(intro hb;try simp only [hb])|fail)<;>try simp only [go_sem,seval])
 all_goals (refine A8 (congrArg I64 ?_);simp_all)
theorem sub_todo {H0 HH:Hp} {o:Option Nat} {x id:Nat} {b1 bx b b':Blk} (hHH:C4 H0 o b1=HH) (hn:∀ j,2<=j->H0 j=none) (ho:∀ i,o=some i->2<=i) (hx:2<=x) (h:b=b') :
  Sym.Sub (C4 H0 (some id) b) ((I0 (HH.upd x bx) o).upd id b'):=by
 subst h;intro j q hj;simp only [C4] at hj;by_cases e:j=id
 ·subst e;rw [A0] at hj ⊢;exact hj
 ·rw [A2 e] at hj ⊢;have hj2:j<2:=Nat.lt_of_not_le fun h2=>by rw [hn j h2] at hj;cases hj
  have hHj:HH j=some q:=by rw [<- hHH,C9 (fun i hi=>by have:=ho i hi;omega)];exact hj
  cases o with
  | none=>simp only [I0];rw [A2 (by omega)];exact hHj
  | some i =>
   have:=ho i rfl;simp only [I0,Hp.del];rw [if_neg (by omega),A2 (by omega)];exact hHj
theorem c_tyR (r:Ru) (h1:r.decls.length<=1000000000) (h2:r.modes.length<=1000000000):∀ (m:Nat) (e:Ex),e.sz<m->e.sz<=100000000->(∃ q,msM e=some q)->PC Tryz.prog 61 [r.v,e.v] (tyV r e):=by
 intro m
 induction m with
 | zero=>intro e h;omega
 | succ m ih =>
 intro e hm hB ⟨q0,hq0⟩;have hal:Ex.szs e.args<e.sz:=by cases e with|mk k v n a p=>rw [Ex.sz];show Ex.szs a<_;omega
 have hargs:∀ x∈e.args,x.sz<=Ex.szs e.args:=fun x hx=>Ex.szs_mem hx;have hll:=Ex.szs_len e.args;have hms:=A9w hq0;have h22:=ms_two hq0;refine PC.of A9 isU61 (Nat.le_of_ble_eq_true rfl) (by simp [Ru.v,DV.nlL,DV.nl,H7,H6,Ex.nl]) (tyV_nl _ _) ?_;rw [Ex.v_w];obtain ⟨R,hR⟩:∃ R,R=tyV r e:=⟨_,rfl⟩;rw [<- hR];cases e with|mk k v n a p =>
 unfold tyV at hR;rw [erE] at hR;have hR:R=(match ((T7 r a).or (dnE r n (kdE k) p)).or (if a.all (fun x=>L3 x.kind == X4 k a)=true then none else some (p,49)) with
  | some (p,c)=>.tup [I64 0,I64 p,I64 c]
  | none=>.tup [I64 (L3 k),I64 0,I64 0]):=hR
 dsimp only [Ex.w,Ex.kind,Ex.value,Ex.name,Ex.args,Ex.pos] at hal hargs hll hms h22 ⊢;have hk1:=c_expKR k;have hdn:=c_dnR r n (kdE k) h1 h2;have hbo:=c_boolR k;have ih:∀ x∈a,PC Tryz.prog 61 [r.v,x.v] (tyV r x):=fun x hx=>ih x (by have:=hargs x hx;omega) (by have:=hargs x hx;omega) (hms x hx);obtain ⟨D,M⟩:=r;dsimp only [Ru.v] at hdn ih ⊢;show IW Tryz.prog 94 u61_1 ⟨B6 _,_,_⟩ (rt [.tmp 4,.tmp 5,.tmp 6] _);repeat' ((with_reducible apply wr)<;>try simp only [go_sem,seval])
 obtain ⟨H0,hH0⟩:∃ H0,H0=(Sym.nil.upd 0 ⟨0,true,[D5 D,E1 M]⟩).upd 1 ⟨0,true,[I64 k,I64 v,.str n,F4 a,I64 p]⟩:=⟨_,rfl⟩;have hz0:H0 0=some ⟨0,true,[D5 D,E1 M]⟩:=by rw [hH0];rfl
 have hz1:H0 1=some ⟨0,true,[I64 k,I64 v,.str n,F4 a,I64 p]⟩:=by rw [hH0];rfl
 have hzn:∀ j,2<=j->H0 j=none:=fun j hj=>by rw [hH0,A2 (by omega),A2 (by omega)];rfl
 rw [<- hH0];clear hH0;obtain ⟨T,hT⟩:∃ T:List DV,T=a.map (fun x=>I64 (L3 x.kind)):=⟨_,rfl⟩;have hTl:T.length=a.length:=by rw [hT,List.length_map]
 have hTg:∀ (i:Nat) (x:Ex),a[i]? = some x->T[i]? = some (I64 (L3 x.kind)):=fun i x h=>by rw [hT,List.getElem?_map,h];rfl
 refine C2 (fun q:Nat × Option Nat=>[(2,.ptr 0 0),(3,.ptr 1 0),(7,B5 q.2 q.1),(8,I64 q.1)]) (fun q=>C4 H0 q.2 ⟨1,true,T.take q.1⟩)
  (fun q c=>2<=c/\q.1<=a.length/\(q.2=none↔q.1=0)/\(∀ i,q.2=some i->2<=i/\i<c)/\T7 ⟨D,M⟩ a=T7 ⟨D,M⟩ (a.drop q.1)) (fun q=>a.length-q.1) (0,none)
  (by simp [C1,tm,Tm.upd,B5]) (Sub.refl _) ⟨Nat.le_refl _,Nat.zero_le _,by simp,(fun i hi=>by cases hi),rfl⟩ ?_
 rintro ⟨i,o⟩ c ⟨h2c,hk,hno,ho,he⟩;dsimp only at hk hno ho he ⊢;have hb0:C4 H0 o ⟨1,true,T.take i⟩ 0=some ⟨0,true,[D5 D,E1 M]⟩:=by rw [C9 (fun i hi=>by have:=ho i hi;omega)];exact hz0
 have hb1:C4 H0 o ⟨1,true,T.take i⟩ 1=some ⟨0,true,[I64 k,I64 v,.str n,F4 a,I64 p]⟩:=by rw [C9 (fun i hi=>by have:=ho i hi;omega)];exact hz1
 have hbn:∀ j:Nat,c<=j->C4 H0 o ⟨1,true,T.take i⟩ j=none:=fun j hj=>by rw [C9 (fun i hi=>by have:=ho i hi;omega)];exact hzn j (by omega)
 have hbo2:∀ j:Nat,o=some j->C4 H0 o ⟨1,true,T.take i⟩ j=some ⟨1,true,T.take i⟩:=fun j hj=>by subst hj;exact A0
 generalize hHH:C4 H0 o ⟨1,true,T.take i⟩=HH at hb0 hb1 hbn hbo2 ⊢;by_cases hlt:i<a.length
 ·have hd:decide ((i:Int)<a.length)=true:=by simpa using hlt
  have hg:=List.getElem?_eq_getElem hlt;have hw:=w64 (n:=(i:Int)+1) (by omega) (by omega);have hc:=ih _ (List.getElem_mem hlt);have hTi:=hTg _ _ hg;rw [erEs_drop hg] at he;generalize a[i]=x at hg hc hTi he;rw [Ex.v_w] at hc;unfold tyV at hc;cases hq:erE ⟨D,M⟩ x with
  | some q =>
   obtain ⟨px,cx⟩:=q;have hnz:(cx != 0)=true:=by simpa using nz_E _ x _ _ hq
   rw [hq] at hc he;rw [he] at hR;repeat' ((with_reducible first|apply wr|refine cpc hc ?_|fail)<;>try simp only [go_sem,seval,hb0,hb1,hd,hg,hw,Ex.v_w,List.length_map,hnz])
   refine ⟨by (try and_intros)<;>exact hbn _ (by omega),by (try and_intros)<;>exact hbn _ (by omega),?_⟩;repeat' ((with_reducible first|apply wr|refine cpc hc ?_|fail)<;>try simp only [go_sem,seval,hb0,hb1,hd,hg,hw,Ex.v_w,List.length_map,hnz])
   exact A8 hR.symm
  | none =>
   rw [hq] at hc he;repeat' ((with_reducible first|apply wr|refine cpc hc ?_|fail)<;>try simp only [go_sem,seval,hb0,hb1,hd,hg,hw,Ex.v_w,List.length_map])
   refine ⟨by (try and_intros)<;>exact hbn _ (by omega),by (try and_intros)<;>exact hbn _ (by omega),?_⟩;repeat' ((with_reducible first|apply wr|refine cpc hc ?_|fail)<;>try simp only [go_sem,seval,hb0,hb1,hd,hg,hw,Ex.v_w,List.length_map])
   refine F5 (F2 (cs:=T.take i) (fun e=>by have:=hno.1 e;subst this;exact ⟨rfl,rfl⟩) (fun j hj=>by have:=ho j hj;rw [A2 (by omega)];exact hbo2 j hj) (by rw [List.length_take];omega) (by omega) (by omega) (by omega)) ?_;simp only [go_sem,seval,hw];repeat' ((with_reducible apply wr)<;>try simp only [go_sem,seval,hw])
   refine ⟨(i+1,some (c+14+1)),by simp [C1,tm,Tm.upd,B5],?_,inv ⟨by omega,by omega,by simp,(fun j hj=>by cases hj;omega),he⟩,by simp only;omega⟩;exact sub_todo hHH hzn (fun i hi=>(ho i hi).1) (by omega) (by simp only;rw [List.take_add_one,hTi];rfl)
 have hd:decide ((i:Int)<a.length)=false:=by simpa using hlt
 rw [List.drop_of_length_le (by omega),T7] at he;rw [he,Option.none_or] at hR;have hi:i=a.length:=by omega
 subst hi;rw [List.take_of_length_le (by omega)] at hbo2;repeat' ((with_reducible first|apply wr|refine cpc hk1 ?_|refine cpc hdn ?_|fail)<;>try simp only [go_sem,seval,hb0,hb1,hd,List.length_map])
 refine ⟨by (try and_intros)<;>exact hbn _ (by omega),?_⟩;cases hdz:(dnM ⟨D,M⟩ n (kdE k) != 0) with
 | false =>
  have e0:dnE ⟨D,M⟩ n (kdE k) p=none:=by rw [dnE,if_pos (by simpa using hdz)]
  rw [e0,Option.none_or] at hR;have kL:∀ cc:Nat,c<=cc->IW Tryz.prog 94 (.loop u61_34) ⟨tm [(3,.ptr 1 0),(7,B5 o a.length),(13,I64 (X4 k a)),(14,I64 0)],HH,cc⟩ (bk 2 (sq Tryz.prog 94 u61_42 (rt [.tmp 4,.tmp 5,.tmp 6] fun v H' x => ∃ H2,GL H' [v] H2 [R]))):=by
   intro cc hcc;generalize X4 k a=wnt at hR ⊢;refine C2 (fun i:Nat=>[(3,.ptr 1 0),(7,B5 o a.length),(13,I64 wnt),(14,I64 i)]) (fun _=>HH) (fun i c2=>c<=c2/\i<=a.length/\(a.take i).all (fun x=>L3 x.kind == wnt)=true) (fun i=>a.length-i) 0 (by simp [C1,tm,Tm.upd]) (Sub.refl _) ⟨hcc,Nat.zero_le _,rfl⟩ ?_;rintro i cc ⟨hcc,hi,hall⟩;by_cases hlt:i<a.length
   ·have hd:decide ((i:Int)<a.length)=true:=by simpa using hlt
    have hg:=List.getElem?_eq_getElem hlt;have hw:=w64 (n:=(i:Int)+1) (by omega) (by omega);have hTi:=hTg _ _ hg;obtain ⟨j,hj⟩:∃ j,o=some j:=by
     cases o with
     | none=>have:=hno.1 rfl;omega
     | some j=>exact ⟨j,rfl⟩
    have hbj:=hbo2 j hj;subst hj;have hlen:A4x (B5 (some j) a.length)=some (I64 (a.length:Int)):=A3x (fun h=>by cases h);have hia:M4 1 (.slc j 0 a.length) (I64 (i:Int))=some (.ptr j i):=by simp [M4];omega
    generalize a[i]=x at hg hTi;by_cases hx:L3 x.kind=wnt
    ·have hxn:(L3 x.kind != wnt)=false:=by simp [hx]
     repeat' ((with_reducible apply wr)<;>try simp only [go_sem,seval,hb0,hb1,hd,hlen,hia,hbj,hTi,hw,hxn])
     exact ⟨i+1,by simp,Sub.refl _,inv ⟨by omega,by omega,by rw [A1l _ a i _ hg,hall];simp [hx]⟩,by omega⟩
    ·have hxn:(L3 x.kind != wnt)=true:=by simp [hx]
     repeat' ((with_reducible apply wr)<;>try simp only [go_sem,seval,hb0,hb1,hd,hlen,hia,hbj,hTi,hw,hxn])
     refine ⟨by (try and_intros)<;>exact hbn _ (by omega),?_⟩;repeat' ((with_reducible apply wr)<;>try simp only [go_sem,seval,hb0,hb1,hd,hlen,hia,hbj,hTi,hw,hxn])
     rw [A3m _ a i _ hg (by simp [hx]),if_neg (by decide)] at hR;exact A8 hR.symm
   have hd:decide ((i:Int)<a.length)=false:=by simpa using hlt
   have hlen:A4x (B5 o a.length)=some (I64 (a.length:Int)):=A3x (fun h=>by have:=hno.1 h;omega);have hall2:=A7l _ a i (by omega) hall;rw [if_pos hall2] at hR;repeat' ((with_reducible first|refine wr ?_|refine cpc hbo ?_|refine wb2 ?_ ?_<;>(intro hb;try simp only [hb])|fail)<;>try simp only [go_sem,seval,hb0,hb1,hd,hlen])
   all_goals (refine A8 ?_;rw [hR];simp_all [L3])
  by_cases ka:k=11\/k=23\/k=24
  ·have ew:X4 k a=2:=by unfold X4;rw [if_pos ka]
   rw [ew] at kL;rcases ka with rfl|rfl|rfl
   all_goals (repeat' ((with_reducible first|apply wr|refine cpc hk1 ?_|refine cpc hdn ?_|fail)<;>try simp only [go_sem,seval,hb0,hb1,hdz]))
   all_goals exact kL (c+8) (by omega)
  have ka1:(k == 11)=false:=by simp;omega
  have ka2:(k == 23)=false:=by simp;omega
  have ka3:(k == 24)=false:=by simp;omega
  by_cases kb:k=21\/k=22
  ·have hl2:=h22 kb;obtain ⟨j,hj⟩:∃ j,o=some j:=by
    cases o with
    | none=>have:=hno.1 rfl;omega
    | some j=>exact ⟨j,rfl⟩
   obtain ⟨x0,l0,rfl⟩:∃ x l,a=x :: l:=by
    cases a with
    | nil=>simp at hl2
    | cons x l=>exact ⟨x,l,rfl⟩
   have ew:X4 k (x0 :: l0)=L3 x0.kind:=by unfold X4;rw [if_neg ka,if_pos kb]
   rw [ew] at kL;have hbj:=hbo2 j hj;subst hj;have hT0:∃ T',T=I64 (L3 x0.kind) :: T':=⟨l0.map (fun x=>I64 (L3 x.kind)),by rw [hT];rfl⟩;obtain ⟨T',hT'⟩:=hT0;rw [hT'] at hbj;have hia:M4 1 (.slc j 0 (l0.length+1)) (.int .i64 0)=some (.ptr j 0):=by
    simp [M4]
   rcases kb with rfl|rfl
   all_goals (repeat' ((with_reducible first|apply wr|refine cpc hk1 ?_|refine cpc hdn ?_|fail)<;>try simp only [go_sem,seval,hb0,hb1,hdz,hia,hbj]))
   all_goals exact kL (c+8) (by omega)
  have ew:X4 k a=1:=by unfold X4;rw [if_neg ka,if_neg kb]
  rw [ew] at kL;have kb1:(k == 21)=false:=by simp;omega
  have kb2:(k == 22)=false:=by simp;omega
  repeat' ((with_reducible first|apply wr|refine cpc hk1 ?_|refine cpc hdn ?_|fail)<;>try simp only [go_sem,seval,hb0,hb1,hdz,ka1,ka2,ka3,kb1,kb2])
  all_goals exact kL (c+8) (by omega)
 | true =>
  have e0:dnE ⟨D,M⟩ n (kdE k) p=some (p,dnM ⟨D,M⟩ n (kdE k)):=by rw [dnE,if_neg (by simpa using hdz)]
  rw [e0] at hR;repeat' ((with_reducible first|apply wr|refine cpc hk1 ?_|refine cpc hdn ?_|fail)<;>try simp only [go_sem,seval,hb0,hb1,hdz])
  refine ⟨by (try and_intros)<;>exact hbn _ (by omega),by (try and_intros)<;>exact hbn _ (by omega),?_⟩;repeat' ((with_reducible first|apply wr|refine cpc hk1 ?_|refine cpc hdn ?_|fail)<;>try simp only [go_sem,seval,hb0,hb1,hdz])
  exact A8 hR.symm
theorem hdl_w (h:Hd):h.v=.agg [I64 h.trig,.str h.name,F7 h.body,I64 h.pos]:=rfl
theorem c_vdR (r:Ru) (hB:r.sz<4000000):PC Tryz.prog 59 [r.v] (.bool (O4 r)):=by
 have:=c_ValidR31 r hB
 rwa [vd31_eq] at this
theorem chkV_nl (r:Ru):(chkV r).nl=true:=by unfold chkV;split;exact erV_nl _;rfl
theorem typV_nl (r:Ru) (e:Ex):(typV r e).nl=true:=by unfold typV;split;exact tyV_nl _ _;rfl
theorem vlEx_ms {e:Ex} (h:N2 e=true):∃ q,msM e=some q:=by
 unfold N2 at h;cases hm:msM e with
 | none=>rw [hm] at h;cases h
 | some q=>exact ⟨q,rfl⟩
theorem c_veR (e:Ex) (hB:e.sz<4000000):PC Tryz.prog 60 [e.v] (.bool (N2 e)):=by
 have:=c_ValidE31 e hB
 rwa [vdE31_eq] at this
theorem tyV_3 (r:Ru) (e:Ex):∃ a b c:Int,tyV r e=.tup [I64 a,I64 b,I64 c]:=by
 unfold tyV;split
 ·exact ⟨_,_,_,rfl⟩
 ·exact ⟨_,_,_,rfl⟩
theorem c_TypeOfR (r:Ru) (e:Ex) (hB:r.sz<4000000) (hE:e.sz<4000000):PC Tryz.prog 27 [r.v,e.v] (typV r e):=by
 refine PC.of A9 isU27 (Nat.le_of_ble_eq_true rfl) (by simp [Ru.v,DV.nlL,DV.nl,H7,H6,Ex.nl]) (typV_nl _ _) ?_;have hv:=c_vdR r hB;have hve:=c_veR e hE;have hty:=c_tyR r (by have:=sz_dl r;omega) (by have:=sz_ml r;omega) (e.sz+1) e (Nat.lt_succ_self _) (by omega);have hx:N2 e=true->∃ q,msM e=some q:=vlEx_ms;unfold typV;obtain ⟨a,b,c,habc⟩:=tyV_3 r e;rw [habc] at hty ⊢;generalize O4 r=bv at *;generalize N2 e=be at *;obtain ⟨D,M⟩:=r;rw [Ex.v_w] at hve hty ⊢;dsimp only [Ru.v] at hv hty ⊢;show IW Tryz.prog 21 u27_1 ⟨B6 _,_,_⟩ (rt [.tmp 4,.tmp 5,.tmp 6] _);cases bv with
 | false =>
  repeat' ((with_reducible first|apply wr|refine cpc hv ?_|refine cpc hve ?_|fail)<;>try simp only [go_sem,seval])
  exact A8 rfl
 | true =>
  cases be with
  | false =>
   repeat' ((with_reducible first|apply wr|refine cpc hv ?_|refine cpc hve ?_|fail)<;>try simp only [go_sem,seval])
   exact A8 rfl
  | true =>
   have hty:=hty (hx rfl);repeat' ((with_reducible first|apply wr|refine cpc hv ?_|refine cpc hve ?_|refine cpc hty ?_|fail)<;>try simp only [go_sem,seval])
   exact A8 rfl
def lokV (r:Ru) (n:List UInt8):DV:=if O4 r=true then .tup [I64 (R9 r n).1,I64 (R9 r n).2] else .tup [I64 0,I64 0]
theorem lkV_nl (r:Ru) (n:List UInt8):(lokV r n).nl=true:=by unfold lokV;split<;>rfl
theorem sub_frs {H:Hp} {c:Nat} {b:Blk} (h:H c=none):Sym.Sub H (H.upd c b):=by
 intro j q hj;by_cases e:j=c
 ·subst e;rw [h] at hj;cases hj
 ·rw [A2 e];exact hj
def unuV (r:Ru):DV:=if O4 r=true then .lst ((unuM r).map DV.str) else .lst []
theorem unuV_nl (r:Ru):(unuV r).nl=true:=by unfold unuV;split<;>simp [DV.nl,DV.nlL,M7]
theorem J5 (l:List (List UInt8)):∀ x∈l.map DV.str,x.cells.length=1:=fun x hx=>by obtain ⟨y, -,rfl⟩:=List.mem_map.1 hx;rfl
end Go.Proofs.YtnmkkggfgdfmeaaGreatDoor
namespace Go.Pb
variable [Go.Sym.Tab]
open Go.Sym
open Go.Eng (KKey)
def mkK (l:List (List UInt8 × DV)):List DV:=l.map fun p=>.str p.1
def mvV (l:List (List UInt8 × DV)):List DV:=l.map fun p=>p.2
theorem X8 {n:List UInt8}:∀ (l:List (List UInt8 × DV)) (i:Nat),match E7 (.str n) (mkK l) i with
  | some j=>i<=j/\∃ x,(mvV l)[j-i]? = some x/\l.lookup n=some x
  | none=>l.lookup n=none
 | [],i=>rfl
 | p :: l,i=>by
  obtain ⟨a,x⟩:=p;show match E7 (.str n) (.str a :: mkK l) i with
   | some j=>_
   | none=>_
  rw [E7,A4f];cases h:n == a with
  | true =>
   refine ⟨Nat.le_refl _,x,by simp [mvV],?_⟩;rw [List.lookup_cons,h]
  | false =>
   have ih:=X8 (n:=n) l (i+1);dsimp only;cases hf:E7 (.str n) (mkK l) (i+1) with
   | none=>rw [hf] at ih;dsimp only at ih ⊢;rw [List.lookup_cons,h];exact ih
   | some j =>
    rw [hf] at ih;obtain ⟨h1,y,h2,h3⟩:=ih;refine ⟨by omega,y,?_,by rw [List.lookup_cons,h];exact h3⟩;have e:j-i=(j-(i+1))+1:=by omega
    rw [e];exact h2
theorem A5t {l:List (List UInt8 × DV)} {n:List UInt8} {x z:DV} {ok:Bool} (h:l.lookup n=some x):lkV z ok (mvV l) (E7 (.str n) (mkK l) 0)=some (match ok with
  | true=>.tup [x,.bool true]
  | false=>x):=by
 have:=X8 (n:=n) l 0;cases hf:E7 (.str n) (mkK l) 0 with
 | none=>rw [hf] at this;rw [this] at h;cases h
 | some j =>
  rw [hf] at this;obtain ⟨-,y,h2,h3⟩:=this;rw [h3] at h;cases h;simp only [lkV];rw [Nat.sub_zero] at h2;rw [h2];cases ok<;>rfl
theorem A5u {l:List (List UInt8 × DV)} {n:List UInt8} {z:DV} {ok:Bool} (h:l.lookup n=none):lkV z ok (mvV l) (E7 (.str n) (mkK l) 0)=some (match ok with
  | true=>.tup [z,.bool false]
  | false=>z):=by
 have:=X8 (n:=n) l 0;cases hf:E7 (.str n) (mkK l) 0 with
 | none=>simp only [lkV];cases ok<;>rfl
 | some j =>
  rw [hf] at this;obtain ⟨-,y,h2,h3⟩:=this;rw [h3] at h;cases h
theorem mf_none {l:List (List UInt8 × DV)} {n:List UInt8} (h:l.lookup n=none):E7 (.str n) (mkK l) 0=none:=by
 have:=X8 (n:=n) l 0;cases hf:E7 (.str n) (mkK l) 0 with
 | none=>rfl
 | some j =>
  rw [hf] at this;obtain ⟨-,y,h2,h3⟩:=this;rw [h3] at h;cases h
theorem A4r {α : Type} (n:List UInt8) (a:List UInt8) (x : α):∀ l:List (List UInt8 × α),(l++[(a,x)]).lookup n=(l.lookup n).or (if n == a then some x else none)
 | []=>by simp [List.lookup_cons];split<;>simp_all
 | (b,y) :: l=>by
  rw [List.cons_append,List.lookup_cons,List.lookup_cons,A4r n a x l];cases n == b<;>rfl
def A4e (q:Int × Int):DV:=.agg [I64 q.1,I64 q.2]
def A1m (l:List (List UInt8 × (Int × Int))) (n:List UInt8) (q:Int × Int):List (List UInt8 × (Int × Int)):=if (l.lookup n).isSome=true then l else l++[(n,q)]
def T5 (l:List (List UInt8 × (Int × Int))):List (List UInt8 × DV):=l.map fun p=>(p.1,A4e p.2)
theorem N4 (n:List UInt8):∀ l:List (List UInt8 × (Int × Int)),(T5 l).lookup n=(l.lookup n).map A4e
 | []=>rfl
 | (a,x) :: l=>by
  show ((a,A4e x) :: T5 l).lookup n=_;rw [List.lookup_cons,List.lookup_cons,N4 n l];cases n == a<;>rfl
def numM (pre:List Dc) (d:Dc):Int:=if d.kind=6\/d.kind=7\/d.kind=8 then (cnD pre d.kind:Int) else d.value
def nmD (pre:List Dc) (l:List (List UInt8 × (Int × Int))):List Dc->List (List UInt8 × (Int × Int))
 | []=>l
 | d :: r=>nmD (pre++[d]) (A1m l d.name (d.kind,numM pre d)) r
def nmX (i:Nat) (l:List (List UInt8 × (Int × Int))):List Md->List (List UInt8 × (Int × Int))
 | []=>l
 | m :: r=>nmX (i+1) (A1m l m.name (9,(i:Int))) r
def nmL (r:Ru):List (List UInt8 × (Int × Int)):=nmX 0 (nmD [] [] r.decls) r.modes
def nmV (r:Ru):DV:=.mp .s (mkK (T5 (nmL r))) (mvV (T5 (nmL r)))
def ahS:List (Int × Nat)->Int->List (Int × Nat)
 | [],k=>[(k,1)]
 | (a,n) :: l,k=>if a=k then (a,n+1) :: l else (a,n) :: ahS l k
def ahM (l:List Dc):List (Int × Nat):=l.foldl (fun a d=>ahS a d.kind) []
def ahK (l:List (Int × Nat)):List DV:=l.map fun p=>I64 p.1
def ahV (l:List (Int × Nat)):List DV:=l.map fun p=>I64 (p.2:Int)
def ahN (l:List (Int × Nat)) (k:Int):Nat:=match l with
 | []=>0
 | (a,n) :: r=>if a=k then n else ahN r k
theorem B0m (k:Int):∀ (l:List (Int × Nat)) (i:Nat),match E7 (I64 k) (ahK l) i with
  | some j=>i<=j/\∃ n:Nat,(ahV l)[j-i]? = some (I64 (n:Int))/\ahN l k=n/\(ahK l).set (j-i) (I64 k)=ahK (ahS l k)/\(ahV l).set (j-i) (I64 ((n:Int)+1))=ahV (ahS l k)
  | none=>ahN l k=0/\ahK l++[I64 k]=ahK (ahS l k)/\ahV l++[I64 1]=ahV (ahS l k)
 | [],i=>⟨rfl,rfl,rfl⟩
 | (a,n) :: l,i=>by
  have e:E7 (I64 k) (ahK ((a,n) :: l)) i=if k=a then some i else E7 (I64 k) (ahK l) (i+1):=by
   show E7 (I64 k) (I64 a :: ahK l) i=_;rw [E7];show (match k == a with
    | true=>some i
    | false=>E7 (I64 k) (ahK l) (i+1))=_
   by_cases h:k=a
   ·rw [if_pos h,beq_iff_eq.2 h]
   ·rw [if_neg h,beq_eq_false_iff_ne.2 h]
  rw [e];by_cases h:k=a
  ·rw [if_pos h];subst h;refine ⟨Nat.le_refl _,n,?_,?_,?_,?_⟩
   ·simp [ahV]
   ·simp [ahN]
   ·simp [ahK,ahS]
   ·simp [ahV,ahS]
  ·rw [if_neg h];have ih:=B0m k l (i+1);have h':¬ a=k:=fun e=>h e.symm;have es:ahS ((a,n) :: l) k=(a,n) :: ahS l k:=by rw [ahS,if_neg h']
   have en:ahN ((a,n) :: l) k=ahN l k:=by rw [ahN,if_neg h']
   rw [es,en];cases hf:E7 (I64 k) (ahK l) (i+1) with
   | none =>
    rw [hf] at ih;obtain ⟨i1,i2,i3⟩:=ih;exact ⟨i1,congrArg (I64 a :: ·) i2,congrArg (I64 (n:Int) :: ·) i3⟩
   | some j =>
    rw [hf] at ih;obtain ⟨i0,m,i1,i2,i3,i4⟩:=ih;have ej:j-i=(j-(i+1))+1:=by omega
    dsimp only;rw [ej];exact ⟨by omega,m,i1,i2,congrArg (I64 a :: ·) i3,congrArg (I64 (n:Int) :: ·) i4⟩
theorem ahN_S (k a:Int):∀ l:List (Int × Nat),ahN (ahS l a) k=ahN l k+(if a=k then 1 else 0)
 | []=>by simp [ahS,ahN]
 | (b,n) :: l=>by
  rw [ahS];by_cases h:b=a
  ·subst h;rw [if_pos rfl,ahN,ahN];by_cases h2:b=k
   ·simp [h2]
   ·simp [h2]
  ·rw [if_neg h,ahN,ahN,ahN_S k a l];by_cases h2:b=k
   ·have:¬ a=k:=fun e=>h (by rw [h2,e]);simp [h2,this]
   ·simp [h2]
theorem ahM_snoc (l:List Dc) (d:Dc):ahM (l++[d])=ahS (ahM l) d.kind:=by
 unfold ahM;rw [List.foldl_append];rfl
theorem cnD_snoc (l:List Dc) (d:Dc) (k:Int):cnD (l++[d]) k=cnD l k+(if d.kind=k then 1 else 0):=by
 unfold cnD;rw [List.countP_append];simp [List.countP_cons,List.countP_nil]
theorem ahN_fold:∀ (m:Nat) (l:List Dc),l.length<=m->∀ k,ahN (ahM l) k=cnD l k:=by
 intro m
 induction m with
 | zero =>
  intro l hl k;have:l=[]:=List.eq_nil_of_length_eq_zero (by omega);subst this;rfl
 | succ m ih =>
  intro l hl k;by_cases h:l=[]
  ·subst h;rfl
  ·obtain ⟨l',d,rfl⟩:∃ l' d,l=l'++[d]:=⟨l.dropLast,l.getLast h,(List.dropLast_concat_getLast h).symm⟩;rw [ahM_snoc,ahN_S,cnD_snoc,ih l' (by simp at hl;omega)]
theorem ahN_cn (l:List Dc) (k:Int):ahN (ahM l) k=cnD l k:=ahN_fold _ l (Nat.le_refl _) k
theorem nmD_drop {D:List Dc} {i:Nat} {d:Dc} {l:List (List UInt8 × (Int × Int))} (h:D[i]? = some d):nmD (D.take i) l (D.drop i)=nmD (D.take (i+1)) (A1m l d.name (d.kind,numM (D.take i) d)) (D.drop (i+1)):=by
 have hlt:=(List.getElem?_eq_some_iff.1 h).1;rw [List.drop_eq_getElem_cons hlt,(List.getElem?_eq_some_iff.1 h).2,nmD,A1b h]
theorem nmX_drop {M:List Md} {i:Nat} {m:Md} {l:List (List UInt8 × (Int × Int))} (h:M[i]? = some m):nmX i l (M.drop i)=nmX (i+1) (A1m l m.name (9,(i:Int))) (M.drop (i+1)):=by
 have hlt:=(List.getElem?_eq_some_iff.1 h).1;rw [List.drop_eq_getElem_cons hlt,(List.getElem?_eq_some_iff.1 h).2,nmX]
theorem cnD_le (l:List Dc) (k:Int):cnD l k<=l.length:=List.countP_le_length
theorem ah_lk (k:Int) (a:List (Int × Nat)):Sym.lkV (I64 0) false (ahV a) (E7 (I64 k) (ahK a) 0)=some (I64 (ahN a k:Int)):=by
 have:=B0m k a 0;cases hf:E7 (I64 k) (ahK a) 0 with
 | none =>
  rw [hf] at this;obtain ⟨h, -, -⟩:=this;rw [h];rfl
 | some j =>
  rw [hf] at this;obtain ⟨-,n,h1,h2, -, -⟩:=this;rw [h2];simp only [Sym.lkV];rw [Nat.sub_zero] at h1;rw [h1]
theorem ah_mu (k:Int) (a:List (Int × Nat)) (H:Hp) (c id u:Nat):muV H c id u (.i .i64) (ahK a) (ahV a) (I64 k) (I64 ((ahN a k:Int)+1)) (E7 (I64 k) (ahK a) 0)=some (.tup [],H.upd id ⟨u,true,[.mpc (.i .i64) (ahK (ahS a k)) (ahV (ahS a k))]⟩,c):=by
 have:=B0m k a 0;cases hf:E7 (I64 k) (ahK a) 0 with
 | none =>
  rw [hf] at this;obtain ⟨h,h1,h2⟩:=this;rw [h];simp only [muV];rw [h1];rw [show ((0:Nat):Int)+1=1 from rfl,h2]
 | some j =>
  rw [hf] at this;obtain ⟨-,n,h1,h2,h3,h4⟩:=this;rw [h2];simp only [muV];rw [Nat.sub_zero] at h3 h4;rw [h3,h4]
end Go.Pb
namespace Go.Proofs.YtnmkkggfgdfmeaaGreatDoor
open Go.Eng (IC IOper DReg IFn A6)
open Go.Sym Go.Pb
abbrev mapB (l:List (List UInt8 × (Int × Int))):Blk:=⟨0,true,[.mpc .s (mkK (T5 l)) (mvV (T5 l))]⟩
theorem c_set (n:List UInt8) (q:Int × Int) (l:List (List UInt8 × (Int × Int))) (H:Hp) (cc b t:Nat) (hb:H b=some ⟨0,true,[.mid t]⟩) (ht:H t=some (mapB l)) (hbc:b<cc) (htc:t<cc) :
  AC Tryz.prog 85 [.str n,A4e q,.ptr b 0] H cc (fun v H' c'=>v=.tup []/\H'=H.upd t (mapB (A1m l n q))):=by
 refine AC.body A9 isU85 (Nat.le_of_ble_eq_true rfl) fun hfr=>?_;show IW Tryz.prog 18 u85_1 ⟨B6 _,_,_⟩ (rt [] _);have hbt:b≠t:=fun e=>by rw [e,ht] at hb;cases hb
 cases hl:l.lookup n with
 | some y =>
  have hs:A1m l n q=l:=by rw [A1m,if_pos (by rw [hl];rfl)]
  have h1:Sym.lkV (.agg [I64 0,I64 0]) true (mvV (T5 l)) (E7 (.str n) (mkK (T5 l)) 0)=some (.tup [A4e y,.bool true]):=A5t (ok:=true) (by rw [N4,hl];rfl);unfold A4e at h1 ⊢;rw [hs,upd_same ht];have ne0:=R7 b t cc (cc+1) (by omega);repeat' ((with_reducible apply wr)<;>try simp only [go_sem,seval,hb,ht,h1,ne0,A0,A1])
  refine ⟨_,_,GL.less' fun j b hj=>?_,rfl,rfl⟩;have:=A9t hfr hj;have h2:j≠cc+1:=by rintro rfl;rw [hfr _ (by omega)] at hj;cases hj
  rw [A2 h2,A2 this];exact hj
 | none =>
  have hs:A1m l n q=l++[(n,q)]:=by rw [A1m,if_neg (by rw [hl];simp)]
  have hl':(T5 l).lookup n=none:=by rw [N4,hl];rfl
  have h1:Sym.lkV (.agg [I64 0,I64 0]) true (mvV (T5 l)) (E7 (.str n) (mkK (T5 l)) 0)=some (.tup [.agg [I64 0,I64 0],.bool false]):=A5u (ok:=true) hl';have h2:=mf_none hl';have e1:mkK (T5 (l++[(n,q)]))=mkK (T5 l)++[.str n]:=by simp [mkK,T5]
  have e2:mvV (T5 (l++[(n,q)]))=mvV (T5 l)++[A4e q]:=by simp [mvV,T5]
  unfold A4e at e2 ⊢;rw [hs];unfold mapB;rw [e1,e2];have ne0:=R7 b t cc (cc+1) (by omega);repeat' ((with_reducible apply wr)<;>try simp only [go_sem,seval,hb,ht,h1,h2,ne0,A0,A1])
  refine ⟨_,_,GL.less' fun j b hj=>?_,rfl,rfl⟩;by_cases e:j=t
  ·subst e;rw [A0] at hj ⊢;exact hj
  ·rw [A2 e] at hj ⊢;have:=A9t hfr hj;have h2:j≠cc+1:=by rintro rfl;rw [hfr _ (by omega)] at hj;cases hj
   rw [A2 h2,A2 this];exact hj
def nmH (D:List Dc) (M:List Md) (l:List (List UInt8 × (Int × Int))) (a:List (Int × Nat)):Hp:=(((Sym.nil.upd 0 ⟨0,true,[D5 D,E1 M]⟩).upd 1 (mapB l)).upd 2 ⟨0,true,[.mid 1]⟩).upd 3 ⟨0,true,[.mpc (.i .i64) (ahK a) (ahV a)]⟩
section
variable {D:List Dc} {M:List Md} {l:List (List UInt8 × (Int × Int))} {a:List (Int × Nat)}
theorem nmH0:nmH D M l a 0=some ⟨0,true,[D5 D,E1 M]⟩:=rfl
theorem nmH1:nmH D M l a 1=some (mapB l):=rfl
theorem nmH2:nmH D M l a 2=some ⟨0,true,[.mid 1]⟩:=rfl
theorem nmH3:nmH D M l a 3=some ⟨0,true,[.mpc (.i .i64) (ahK a) (ahV a)]⟩:=rfl
theorem nmHn (j:Nat) (h:4<=j):nmH D M l a j=none:=by
 unfold nmH;rw [A2 (by omega),A2 (by omega),A2 (by omega),A2 (by omega)];rfl
theorem A4b {H:Hp} (h0:H 0=some ⟨0,true,[D5 D,E1 M]⟩) (h1:H 1=some (mapB l)) (h2:H 2=some ⟨0,true,[.mid 1]⟩) (h3:H 3=some ⟨0,true,[.mpc (.i .i64) (ahK a) (ahV a)]⟩):Sym.Sub (nmH D M l a) H:=by
 intro j b hj;have hlt:j<4:=Nat.lt_of_not_le fun h=>by rw [nmHn j h] at hj;cases hj
 match j,hlt with
 | 0,_=>rw [h0];exact hj
 | 1,_=>rw [h1];exact hj
 | 2,_=>rw [h2];exact hj
 | 3,_=>rw [h3];exact hj
end
theorem nmV_nl (r:Ru):(nmV r).nl=true:=by
 unfold nmV mkK mvV T5;simp only [DV.nl];rw [List.map_map,List.map_map];rw [show ((fun p:List UInt8 × DV=>DV.str p.1)∘fun p:List UInt8 × (Int × Int)=>(p.1,A4e p.2))=fun p=>DV.str p.1 from rfl,show ((fun p:List UInt8 × DV=>p.2)∘fun p:List UInt8 × (Int × Int)=>(p.1,A4e p.2))=fun p=>A4e p.2 from rfl];rw [K9 (fun _=>rfl),K9 (fun _=>rfl)];rfl
theorem box_mnil:boxR (inj (Value.map none))=some (none,⟨0,true,[.mnil]⟩):=rfl
theorem c_names (r:Ru) (h1:r.decls.length<=1000000000) (h2:r.modes.length<=1000000000):PC Tryz.prog 41 [r.v] (nmV r):=by
 refine PC.of A9 isU41 (Nat.le_of_ble_eq_true rfl) (by simp [Ru.v,DV.nlL,DV.nl,H7,H6]) (nmV_nl _) ?_;obtain ⟨R,hR⟩:∃ R,R=nmL r:=⟨_,rfl⟩;unfold nmV;rw [<- hR];unfold nmL at hR;obtain ⟨D,M⟩:=r;dsimp only at h1 h2 hR;dsimp only [Ru.v];show IW Tryz.prog 71 u41_1 ⟨B6 _,_,_⟩ (rt [.tmp 2] _);repeat' ((with_reducible apply wr)<;>try simp only [go_sem,seval,box_mnil])
 refine C2 (fun q:Nat × List (List UInt8 × (Int × Int))=>[(1,.ptr 0 0),(3,.ptr 2 0),(4,.mid 3),(5,.func 85 [] [.ptr 2 0]),(15,D5 D),(16,I64 D.length),(17,I64 q.1)]) (fun q=>nmH D M q.2 (ahM (D.take q.1)))
  (fun q c=>4<=c/\q.1<=D.length/\nmD [] [] D=nmD (D.take q.1) q.2 (D.drop q.1)) (fun q=>D.length-q.1) (0,[])
  (by simp [C1,tm,Tm.upd]) (A4b rfl rfl rfl rfl) ⟨by omega,Nat.zero_le _,rfl⟩ ?_
 rintro ⟨i,l⟩ c ⟨h1c,hk,he⟩;dsimp only at hk he ⊢;by_cases hlt:i<D.length
 ·have hd:decide ((i:Int)<D.length)=true:=by simpa using hlt
  have hg:=List.getElem?_eq_getElem hlt;have hw:=w64 (n:=(i:Int)+1) (by omega) (by omega);rw [nmD_drop hg] at he;have hah:ahM (D.take (i+1))=ahS (ahM (D.take i)) D[i].kind:=by rw [List.take_add_one,hg];exact ahM_snoc _ _
  have hlk:=ah_lk D[i].kind (ahM (D.take i));have hmu:=ah_mu D[i].kind (ahM (D.take i));have hcn:=ahN_cn (D.take i) D[i].kind;have hcl:=cnD_le (D.take i) D[i].kind;rw [List.length_take] at hcl;generalize D[i]=d at hg he hah hlk hmu hcn hcl;rw [hcn] at hlk hmu;have hw2:=w64 (n:=(cnD (D.take i) d.kind:Int)+1) (by omega) (by omega);have hb0:nmH D M l (ahM (D.take i)) 0=_:=nmH0;have hb1:nmH D M l (ahM (D.take i)) 1=_:=nmH1;have hb2:nmH D M l (ahM (D.take i)) 2=_:=nmH2;have hb3:nmH D M l (ahM (D.take i)) 3=_:=nmH3;have hbn:∀ j,4<=j->nmH D M l (ahM (D.take i)) j=none:=fun j=>nmHn j;generalize nmH D M l (ahM (D.take i))=HH at hb0 hb1 hb2 hb3 hbn ⊢;have ne0:=A6r 0 1 2 3 c (c+1) (by omega);by_cases hkk:d.kind=6\/d.kind=7\/d.kind=8
  ·have hnum:numM (D.take i) d=(cnD (D.take i) d.kind:Int):=by rw [numM,if_pos hkk]
   rw [hnum] at he;by_cases k6:d.kind=6
   ·have k6:(d.kind == 6)=true:=by simpa using k6
    repeat' ((with_reducible apply wr)<;>try simp only [go_sem,seval,hb0,hb1,hb2,hb3,hd,hg,hw,hw2,hlk,hmu,k6,A7h,List.length_map,ne0,A0,A1])
    refine AC.call (c_set d.name (d.kind,(cnD (D.take i) d.kind:Int)) l _ _ 2 1 (by rw [A2 (by omega),A2 (by omega),A2 (by omega)];exact hb2) (by rw [A2 (by omega),A2 (by omega),A2 (by omega)];exact hb1) (by omega) (by omega)) ?_;rintro v H' c' ⟨rfl,rfl⟩ hcc;simp only [go_sem,seval,hw];repeat' ((with_reducible apply wr)<;>try simp only [go_sem,seval,hw])
    refine ⟨(i+1,A1m l d.name (d.kind,(cnD (D.take i) d.kind:Int))),by simp [C1,tm,Tm.upd],?_,inv ⟨by omega,by omega,he⟩,by simp only;omega⟩;dsimp only;rw [hah];refine A4b ?_ A0 ?_ ?_
    ·rw [A2 (by omega),A2 (by omega),A2 (by omega),A2 (by omega)];exact hb0
    ·rw [A2 (by omega),A2 (by omega),A2 (by omega),A2 (by omega)];exact hb2
    ·rw [A2 (by omega),A0]
   have k6:(d.kind == 6)=false:=by simpa using k6
   by_cases k7:d.kind=7
   ·have k7:(d.kind == 7)=true:=by simpa using k7
    repeat' ((with_reducible apply wr)<;>try simp only [go_sem,seval,hb0,hb1,hb2,hb3,hd,hg,hw,hw2,hlk,hmu,k6,k7,A7h,List.length_map,ne0,A0,A1])
    refine AC.call (c_set d.name (d.kind,(cnD (D.take i) d.kind:Int)) l _ _ 2 1 (by rw [A2 (by omega),A2 (by omega),A2 (by omega)];exact hb2) (by rw [A2 (by omega),A2 (by omega),A2 (by omega)];exact hb1) (by omega) (by omega)) ?_;rintro v H' c' ⟨rfl,rfl⟩ hcc;simp only [go_sem,seval,hw];repeat' ((with_reducible apply wr)<;>try simp only [go_sem,seval,hw])
    refine ⟨(i+1,A1m l d.name (d.kind,(cnD (D.take i) d.kind:Int))),by simp [C1,tm,Tm.upd],?_,inv ⟨by omega,by omega,he⟩,by simp only;omega⟩;dsimp only;rw [hah];refine A4b ?_ A0 ?_ ?_
    ·rw [A2 (by omega),A2 (by omega),A2 (by omega),A2 (by omega)];exact hb0
    ·rw [A2 (by omega),A2 (by omega),A2 (by omega),A2 (by omega)];exact hb2
    ·rw [A2 (by omega),A0]
   have k7:(d.kind == 7)=false:=by simpa using k7
   have k8:(d.kind == 8)=true:=by simp at k6 k7 ⊢;omega
   repeat' ((with_reducible apply wr)<;>try simp only [go_sem,seval,hb0,hb1,hb2,hb3,hd,hg,hw,hw2,hlk,hmu,k6,k7,k8,A7h,List.length_map,ne0,A0,A1])
   refine AC.call (c_set d.name (d.kind,(cnD (D.take i) d.kind:Int)) l _ _ 2 1 (by rw [A2 (by omega),A2 (by omega),A2 (by omega)];exact hb2) (by rw [A2 (by omega),A2 (by omega),A2 (by omega)];exact hb1) (by omega) (by omega)) ?_;rintro v H' c' ⟨rfl,rfl⟩ hcc;simp only [go_sem,seval,hw];repeat' ((with_reducible apply wr)<;>try simp only [go_sem,seval,hw])
   refine ⟨(i+1,A1m l d.name (d.kind,(cnD (D.take i) d.kind:Int))),by simp [C1,tm,Tm.upd],?_,inv ⟨by omega,by omega,he⟩,by simp only;omega⟩;dsimp only;rw [hah];refine A4b ?_ A0 ?_ ?_
   ·rw [A2 (by omega),A2 (by omega),A2 (by omega),A2 (by omega)];exact hb0
   ·rw [A2 (by omega),A2 (by omega),A2 (by omega),A2 (by omega)];exact hb2
   ·rw [A2 (by omega),A0]
  ·have hnum:numM (D.take i) d=d.value:=by rw [numM,if_neg hkk]
   rw [hnum] at he;have k6:(d.kind == 6)=false:=by simp;omega
   have k7:(d.kind == 7)=false:=by simp;omega
   have k8:(d.kind == 8)=false:=by simp;omega
   repeat' ((with_reducible apply wr)<;>try simp only [go_sem,seval,hb0,hb1,hb2,hb3,hd,hg,hw,hw2,hlk,hmu,k6,k7,k8,A7h,List.length_map,ne0,A0,A1])
   refine AC.call (c_set d.name (d.kind,d.value) l _ _ 2 1 (by rw [A2 (by omega),A2 (by omega),A2 (by omega)];exact hb2) (by rw [A2 (by omega),A2 (by omega),A2 (by omega)];exact hb1) (by omega) (by omega)) ?_;rintro v H' c' ⟨rfl,rfl⟩ hcc;simp only [go_sem,seval,hw];repeat' ((with_reducible apply wr)<;>try simp only [go_sem,seval,hw])
   refine ⟨(i+1,A1m l d.name (d.kind,d.value)),by simp [C1,tm,Tm.upd],?_,inv ⟨by omega,by omega,he⟩,by simp only;omega⟩;dsimp only;rw [hah];refine A4b ?_ A0 ?_ ?_
   ·rw [A2 (by omega),A2 (by omega),A2 (by omega),A2 (by omega)];exact hb0
   ·rw [A2 (by omega),A2 (by omega),A2 (by omega),A2 (by omega)];exact hb2
   ·rw [A2 (by omega),A0]
 have hd:decide ((i:Int)<D.length)=false:=by simpa using hlt
 rw [List.drop_of_length_le (by omega),nmD] at he;rw [he] at hR;repeat' ((with_reducible apply wr)<;>try simp only [go_sem,seval,hd,List.length_map,nmH0,nmH1,nmH2,nmH3])
 clear he hd hlt hk;generalize ahM (D.take i)=A;clear i;refine C2 (fun q:Nat × List (List UInt8 × (Int × Int))=>[(3,.ptr 2 0),(5,.func 85 [] [.ptr 2 0]),(56,E1 M),(57,I64 M.length),(58,I64 q.1)]) (fun q=>nmH D M q.2 A)
  (fun q c=>4<=c/\q.1<=M.length/\R=nmX q.1 q.2 (M.drop q.1)) (fun q=>M.length-q.1) (0,l)
  (by simp [C1,tm,Tm.upd]) (Sub.refl _) ⟨h1c,Nat.zero_le _,hR⟩ ?_
 clear hR h1c c l;rintro ⟨i,l⟩ c ⟨h1c,hk,he⟩;dsimp only at hk he ⊢;by_cases hlt:i<M.length
 ·have hd:decide ((i:Int)<M.length)=true:=by simpa using hlt
  have hg:=List.getElem?_eq_getElem hlt;have hw:=w64 (n:=(i:Int)+1) (by omega) (by omega);rw [nmX_drop hg] at he;generalize M[i]=d at hg he;have hb0:nmH D M l A 0=_:=nmH0;have hb1:nmH D M l A 1=_:=nmH1;have hb2:nmH D M l A 2=_:=nmH2;have hb3:nmH D M l A 3=_:=nmH3;have hbn:∀ j,4<=j->nmH D M l A j=none:=fun j=>nmHn j;generalize nmH D M l A=HH at hb0 hb1 hb2 hb3 hbn ⊢;have ne0:=A6r 0 1 2 3 c (c+1) (by omega);repeat' ((with_reducible apply wr)<;>try simp only [go_sem,seval,hb0,hb1,hb2,hb3,hd,hg,hw,md_w,List.length_map,ne0,A0,A1])
  refine AC.call (c_set d.name (9,(i:Int)) l _ _ 2 1 (by rw [A2 (by omega)];exact hb2) (by rw [A2 (by omega)];exact hb1) (by omega) (by omega)) ?_;rintro v H' c' ⟨rfl,rfl⟩ hcc;simp only [go_sem,seval,hw];repeat' ((with_reducible apply wr)<;>try simp only [go_sem,seval,hw])
  refine ⟨(i+1,A1m l d.name (9,(i:Int))),by simp [C1,tm,Tm.upd],?_,inv ⟨by omega,by omega,he⟩,by simp only;omega⟩;refine A4b ?_ A0 ?_ ?_
  ·rw [A2 (by omega),A2 (by omega)];exact hb0
  ·rw [A2 (by omega),A2 (by omega)];exact hb2
  ·rw [A2 (by omega),A2 (by omega)];exact hb3
 have hd:decide ((i:Int)<M.length)=false:=by simpa using hlt
 rw [List.drop_of_length_le (by omega),nmX] at he;subst he;have hb2:nmH D M R A 2=_:=nmH2;repeat' ((with_reducible apply wr)<;>try simp only [go_sem,seval,hd,List.length_map,hb2])
 exact pc_map nmH1
end Go.Proofs.YtnmkkggfgdfmeaaGreatDoor
namespace Go.Pb
variable [Go.Sym.Tab]
open Go.Sym
def A5d (l:List Dc):Prop:=∀ d∈l,1<=d.kind/\d.kind<=8
theorem vld_kd {r:Ru} (h:O4 r=true):A5d r.decls:=by
 intro d hd;unfold O4 at h;simp only [Bool.and_eq_true] at h;have h1:=List.all_eq_true.1 h.1.2 d hd;unfold A0k at h1;simp only [Bool.and_eq_true,decide_eq_true_eq] at h1;exact ⟨h1.1.1.1.1,h1.1.1.1.2⟩
theorem A6k (l:List (List UInt8 × (Int × Int))) (a n:List UInt8) (q:Int × Int):(A1m l a q).lookup n=(l.lookup n).or (if n == a then some q else none):=by
 unfold A1m;split
 ·rename_i h;cases hn:n == a with
  | false=>simp
  | true =>
   have e:n=a:=by simpa using hn
   subst e;cases hl:l.lookup n with
   | none=>rw [hl] at h;cases h
   | some x=>rfl
 ·exact A4r n a q l
theorem A6p (n:List UInt8):∀ (M:List Md) (i:Nat) (l:List (List UInt8 × (Int × Int))),(nmX i l M).lookup n=(l.lookup n).or (lkM i M n)
 | [],i,l=>by rw [nmX,lkM,Option.or_none]
 | m :: M,i,l=>by
  rw [nmX,A6p n M,A6k,lkM,Option.or_assoc];by_cases h:m.name=n
  ·rw [if_pos h,if_pos (by simp [h])];rfl
  ·rw [if_neg h,if_neg (by simp;exact fun e=>h e.symm)];rfl
theorem A6q (n:List UInt8):∀ (D pre:List Dc) (l:List (List UInt8 × (Int × Int))),A5d D->(nmD pre l D).lookup n=(l.lookup n).or (lkD pre D n)
 | [],pre,l,_=>by rw [nmD,lkD,Option.or_none]
 | d :: D,pre,l,hk=>by
  obtain ⟨k1,k2⟩:=hk d List.mem_cons_self;rw [nmD,A6q n D _ _ (fun x hx=>hk x (List.mem_cons_of_mem _ hx)),A6k,lkD,Option.or_assoc];by_cases h:d.name=n
  ·rw [if_pos h,if_pos (by simp [h])];have e:numM pre d=(if d.kind<6 then d.value else (cnR ⟨pre,[]⟩ d.kind:Int)):=by
    unfold numM cnR;by_cases h6:d.kind<6
    ·rw [if_pos h6,if_neg (by omega)]
    ·rw [if_neg h6,if_pos (by omega),if_neg (by omega)]
   rw [e];rfl
  ·rw [if_neg h,if_neg (by simp;exact fun e=>h e.symm)];rfl
theorem A8f {r:Ru} (hk:A5d r.decls) (n:List UInt8):(nmL r).lookup n=(lkD [] r.decls n).or (lkM 0 r.modes n):=by
 unfold nmL;rw [A6p,A6q n _ _ _ hk];simp
theorem lok_or (r:Ru) (n:List UInt8):R9 r n=((lkD [] r.decls n).or (lkM 0 r.modes n)).getD (0,0):=by
 unfold R9;cases lkD [] r.decls n with
 | some q=>rfl
 | none =>
  cases lkM 0 r.modes n with
  | some q=>rfl
  | none=>rfl
theorem lkD_nz {n:List UInt8}:∀ {D pre:List Dc} {q:Int × Int},A5d D->lkD pre D n=some q->q.1≠0
 | d :: D,pre,q,hk,h=>by
  rw [lkD] at h;split at h
  ·cases h;have:=hk d List.mem_cons_self;show d.kind≠0;omega
  ·exact lkD_nz (fun x hx=>hk x (List.mem_cons_of_mem _ hx)) h
theorem lkM_nz {n:List UInt8}:∀ {M:List Md} {i:Nat} {q:Int × Int},lkM i M n=some q->q.1≠0
 | m :: M,i,q,h=>by
  rw [lkM] at h;split at h
  ·cases h;show (9:Int)≠0;decide
  ·exact lkM_nz h
theorem nm_some {r:Ru} (hk:A5d r.decls) {n:List UInt8} {q:Int × Int} (h:(nmL r).lookup n=some q):R9 r n=q/\q.1≠0:=by
 rw [A8f hk] at h;rw [lok_or,h];refine ⟨rfl,?_⟩;cases hd:lkD [] r.decls n with
 | some p=>rw [hd] at h;cases h;exact lkD_nz hk hd
 | none=>rw [hd] at h;exact lkM_nz h
theorem nm_none {r:Ru} (hk:A5d r.decls) {n:List UInt8} (h:(nmL r).lookup n=none):R9 r n=(0,0):=by
 rw [A8f hk] at h;rw [lok_or,h];rfl
def upS (s:Int × Int) (o:Er):Int × Int:=if s.2=0 then o.getD s else s
theorem J3 {s:Int × Int} {a b:Er} (ha:NzE a):upS (upS s a) b=upS s (a.or b):=by
 unfold upS;by_cases h:s.2=0
 ·cases a with
  | none=>simp [h]
  | some q =>
   have:=ha q.1 q.2 rfl;simp [h,this]
 ·simp [h]
theorem J4 (s:Int × Int):upS s none=s:=by unfold upS;split<;>rfl
theorem upS_idem (s:Int × Int) (p e:Int) (h:e≠0):upS (upS s (some (p,e))) (some (p,e))=upS s (some (p,e)):=by
 rw [J3 (fun a b hq=>by cases hq;exact h)];rfl
def truM (k:Int):Bool:=(k == 3 || k == 4 || k == 5 || k == 6 || k == 11 || k == 23 || k == 24) || (decide (17<=k) && decide (k<=22))
theorem tru_bol {k:Int} (h:k<=24):truM k=bolM k:=by
 unfold truM bolM;rw [Bool.eq_iff_iff];simp only [Bool.or_eq_true,Bool.and_eq_true,beq_iff_eq,decide_eq_true_eq];omega
theorem A9v {e:Ex} {q:Nat × Nat} (h:msM e=some q):e.kind<=24:=by
 cases e with|mk k v n a p =>
 obtain ⟨o,d⟩:=q;obtain ⟨m1, -⟩:=A4c h;show k<=24;unfold kOk at m1;simp only [Bool.or_eq_true,Bool.and_eq_true,decide_eq_true_eq] at m1;rcases m1 with m1|m1
 ·have:=B0a m1;omega
 ·exact m1.2
theorem lok_pre (D:List Dc) (M:List Md) (n:List UInt8) (hk:A5d D):(R9 ⟨D,M⟩ n).1=0↔D.any (fun d=>d.name == n)=false/\M.any (fun d=>d.name == n)=false:=by
 have hD:∀ (D pre:List Dc),lkD pre D n=none↔D.any (fun d=>d.name == n)=false:=by
  intro D
  induction D with
  | nil=>intro pre;simp [lkD]
  | cons d D ih =>
   intro pre;rw [lkD];by_cases h:d.name=n
   ·rw [if_pos h];simp [h]
   ·rw [if_neg h,ih];simp [h]
 have hM:∀ (M:List Md) (i:Nat),lkM i M n=none↔M.any (fun d=>d.name == n)=false:=by
  intro M
  induction M with
  | nil=>intro pre;simp [lkM]
  | cons d D ih =>
   intro pre;rw [lkM];by_cases h:d.name=n
   ·rw [if_pos h];simp [h]
   ·rw [if_neg h,ih];simp [h]
 rw [lok_or, <- hD D [], <- hM M 0];dsimp only;cases h1:lkD [] D n with
 | some q =>
  have:=lkD_nz hk h1;simp [this]
 | none =>
  cases h2:lkM 0 M n with
  | some q =>
   have:=lkM_nz h2;simp [this]
  | none=>simp
theorem A8s {r:Ru} {x:Ex}:∀ {l:List Ex} {i:Nat},l[i]? = some x->T7 r (l.take (i+1))=(T7 r (l.take i)).or (erE r x)
 | y :: l,0,h=>by cases h;simp [T7]
 | y :: l,i+1,h=>by
  rw [List.take_succ_cons,List.take_succ_cons,T7,T7,A8s (by simpa using h),Option.or_assoc]
theorem erA_take {r:Ru} {b:Bool} {x:Ex}:∀ {l:List Ex} {i:Nat},l[i]? = some x->erA r b (l.take (i+1))=(erA r b (l.take i)).or ((erE r x).or (if (L3 x.kind == 2)=b then none else some (x.pos,49)))
 | y :: l,0,h=>by cases h;simp [erA]
 | y :: l,i+1,h=>by
  rw [List.take_succ_cons,List.take_succ_cons,erA,erA,erA_take (by simpa using h)];simp only [Option.or_assoc]
theorem erB_take {r:Ru} {x:St}:∀ {l:List St} {i:Nat},l[i]? = some x->erB r (l.take (i+1))=(erB r (l.take i)).or (erS r x)
 | y :: l,0,h=>by cases h;simp [erB]
 | y :: l,i+1,h=>by
  rw [List.take_succ_cons,List.take_succ_cons,erB,erB,erB_take (by simpa using h),Option.or_assoc]
theorem erE_e (r:Ru) (e:Ex):erE r e=((T7 r e.args).or (dnE r e.name (kdE e.kind) e.pos)).or (if e.args.all (fun x=>L3 x.kind == X4 e.kind e.args)=true then none else some (e.pos,49)):=by
 cases e with|mk k v n a p=>rw [erE];rfl
def stD (pre:List Dc) (d:Dc):Er:=(if d.value>mstM d.kind then some (d.pos,5) else none:Er).or (if (R9 ⟨pre,[]⟩ d.name).1=0 then none else some (d.pos,7))
def stP (D:List Dc) (pre:List Md) (m:Md):Er:=(if m.prio>99 then some (m.pos,5) else none:Er).or (if (R9 ⟨D,pre⟩ m.name).1=0 then none else some (m.pos,7))
theorem erD_snoc (d:Dc):∀ (l pre:List Dc),erD pre (l++[d])=(erD pre l).or (stD (pre++l) d)
 | [],pre=>by rw [List.nil_append,erD,erD,erD,List.append_nil,Option.or_none,Option.none_or];rfl
 | x :: l,pre=>by rw [List.cons_append,erD,erD,erD_snoc d l,List.append_assoc];simp only [Option.or_assoc];rfl
theorem erP_snoc (D:List Dc) (m:Md):∀ (l pre:List Md),erP D pre (l++[m])=(erP D pre l).or (stP D (pre++l) m)
 | [],pre=>by rw [List.nil_append,erP,erP,erP,List.append_nil,Option.or_none,Option.none_or];rfl
 | x :: l,pre=>by rw [List.cons_append,erP,erP,erP_snoc D m l,List.append_assoc];simp only [Option.or_assoc];rfl
theorem erD_take {D:List Dc} {i:Nat} {d:Dc} (h:D[i]? = some d):erD [] (D.take (i+1))=(erD [] (D.take i)).or (stD (D.take i) d):=by
 rw [<- A1b h,erD_snoc];rfl
theorem erP_take {D:List Dc} {M:List Md} {i:Nat} {m:Md} (h:M[i]? = some m):erP D [] (M.take (i+1))=(erP D [] (M.take i)).or (stP D (M.take i) m):=by
 rw [<- A1b h,erP_snoc];rfl
def S9 (l:List (List UInt8)):List (List UInt8 × DV):=l.map fun n=>(n,DV.bool true)
theorem Z1 (n:List UInt8):∀ l:List (List UInt8),(S9 l).lookup n=if l.contains n=true then some (DV.bool true) else none
 | []=>rfl
 | a :: l=>by
  show ((a,DV.bool true) :: S9 l).lookup n=_;rw [List.lookup_cons,Z1 n l,List.contains_cons];cases n == a<;>simp
def V4 (l:List (List UInt8)) (n:List UInt8):List (List UInt8):=if l.contains n=true then l else l++[n]
theorem A0m (l:List (List UInt8)) (n m:List UInt8):(V4 l n).contains m=(l.contains m || m == n):=by
 unfold V4;split
 ·rename_i h;cases hm:m == n with
  | false=>rw [Bool.or_false]
  | true =>
   have e:m=n:=by simpa using hm
   rw [e,h];rfl
 ·rw [Bool.eq_iff_iff];simp
theorem A8h {n:List UInt8}:∀ (l:List (List UInt8)) (i j:Nat),E7 (.str n) (mkK (S9 l)) i=some j->(mkK (S9 l)).set (j-i) (.str n)=mkK (S9 l)/\(mvV (S9 l)).set (j-i) (.bool true)=mvV (S9 l)
 | [],i,j,h=>by cases h
 | a :: l,i,j,h=>by
  have h:E7 (.str n) (.str a :: mkK (S9 l)) i=some j:=h;rw [E7,A4f] at h;cases ha:n == a with
  | true =>
   rw [ha] at h;cases h;have e:n=a:=by simpa using ha
   subst e;rw [Nat.sub_self];exact ⟨rfl,rfl⟩
  | false =>
   rw [ha] at h;dsimp only at h;have hlt:=A6t h;obtain ⟨h1,h2⟩:=A8h l (i+1) j h;have ej:j-i=(j-(i+1))+1:=by omega
   rw [ej];exact ⟨congrArg (DV.str a :: ·) h1,congrArg (DV.bool true :: ·) h2⟩
theorem A9j (n:List UInt8) (l:List (List UInt8)) (H:Hp) (c id u:Nat):muV H c id u .s (mkK (S9 l)) (mvV (S9 l)) (.str n) (.bool true) (E7 (.str n) (mkK (S9 l)) 0)=some (.tup [],H.upd id ⟨u,true,[.mpc .s (mkK (S9 (V4 l n))) (mvV (S9 (V4 l n)))]⟩,c):=by
 have hl:=Z1 n l;have hf:=X8 (n:=n) (S9 l) 0;cases hm:E7 (.str n) (mkK (S9 l)) 0 with
 | none =>
  rw [hm] at hf;rw [hf] at hl;have hc:l.contains n=false:=by
   cases h:l.contains n with
   | false=>rfl
   | true=>rw [h] at hl;cases hl
  have e:V4 l n=l++[n]:=by unfold V4;rw [if_neg (by rw [hc];decide)]
  rw [e];simp only [muV];have e1:mkK (S9 (l++[n]))=mkK (S9 l)++[.str n]:=by simp [mkK,S9]
  have e2:mvV (S9 (l++[n]))=mvV (S9 l)++[.bool true]:=by simp [mvV,S9]
  rw [e1,e2]
 | some j =>
  rw [hm] at hf;obtain ⟨-,x, -,h3⟩:=hf;rw [h3] at hl;have hc:l.contains n=true:=by
   cases h:l.contains n with
   | true=>rfl
   | false=>rw [h] at hl;simp at hl
  have e:V4 l n=l:=by unfold V4;rw [if_pos hc]
  rw [e];simp only [muV];obtain ⟨h1,h2⟩:=A8h l 0 j hm;rw [Nat.sub_zero] at h1 h2;rw [h1,h2]
theorem see_lk (n:List UInt8) (l:List (List UInt8)):Sym.lkV (.bool false) false (mvV (S9 l)) (E7 (.str n) (mkK (S9 l)) 0)=some (.bool (l.contains n)):=by
 cases h:l.contains n with
 | true=>exact A5t (ok:=false) (by rw [Z1,if_pos h])
 | false=>exact A5u (ok:=false) (by rw [Z1,if_neg (by rw [h];decide)])
def stH (r:Ru) (pre:List Hd) (h:Hd):Er:=((dnE r h.name (kdH h.trig) h.pos).or (if pre.any (fun x=>x.trig == h.trig && x.name == h.name)=true then some (h.pos,7) else none)).or (erB r h.body)
theorem erH_snoc (r:Ru) (h:Hd):∀ (l pre:List Hd),erH r pre (l++[h])=(erH r pre l).or (stH r (pre++l) h)
 | [],pre=>by rw [List.nil_append,erH,erH,erH,List.append_nil,Option.or_none,Option.none_or];rfl
 | x :: l,pre=>by rw [List.cons_append,erH,erH,erH_snoc r h l,List.append_assoc];simp only [Option.or_assoc];rfl
theorem erH_take {r:Ru} {l:List Hd} {i:Nat} {h:Hd} (hg:l[i]? = some h):erH r [] (l.take (i+1))=(erH r [] (l.take i)).or (stH r (l.take i) h):=by
 rw [<- A1b hg,erH_snoc];rfl
theorem erM_take {r:Ru} {x:Md}:∀ {l:List Md} {i:Nat},l[i]? = some x->erM r (l.take (i+1))=(erM r (l.take i)).or (erH r [] x.hds)
 | y :: l,0,h=>by cases h;simp [erM]
 | y :: l,i+1,h=>by
  rw [List.take_succ_cons,List.take_succ_cons,erM,erM,erM_take (by simpa using h),Option.or_assoc]
theorem erV_up (e:Er):erV e=.tup [I64 (upS (0,0) e).1,I64 (upS (0,0) e).2]:=by
 cases e<;>rfl
end Go.Pb
namespace Go.Proofs.YtnmkkggfgdfmeaaGreatDoor
open Go.Eng (IC IOper DReg IFn A6)
open Go.Sym Go.Pb
def ckB (r:Ru) (s:Int × Int):Blk:=⟨0,true,[nmV r,I64 s.1,I64 s.2]⟩
theorem dn_ok {r:Ru} {n:List UInt8} {k p:Int} (h:k=0\/(R9 r n).1=k):dnE r n k p=none:=by unfold dnE dnM;rw [if_pos h];rfl
theorem dn_ms {r:Ru} {n:List UInt8} {k p:Int} (h:¬ (k=0\/(R9 r n).1=k)) (h2:(R9 r n).1=0):dnE r n k p=some (p,8):=by unfold dnE dnM;rw [if_neg h,if_pos h2];rfl
theorem dn_kd {r:Ru} {n:List UInt8} {k p:Int} (h:¬ (k=0\/(R9 r n).1=k)) (h2:¬ (R9 r n).1=0):dnE r n k p=some (p,44):=by unfold dnE dnM;rw [if_neg h,if_neg h2];rfl
theorem B0b {H:Hp} {cc t:Nat} {b b':Blk} {ds:List DV} (hfr:∀ i,cc<=i->H i=none) (htc:t<cc):GL ((H.upd cc b).upd t b') ds (H.upd t b') ds:=GL.less' fun j q hj=>by
 by_cases e:j=t
 ·subst e;rw [A0] at hj ⊢;exact hj
 ·rw [A2 e] at hj ⊢;rw [A2 (A9t hfr hj)];exact hj
theorem c_inE32 (k:Int):PC Tryz.prog 96 [I64 k] (I64 (kdE k)):=by
 refine PC.of A9 isU96 (Nat.le_of_ble_eq_true rfl) (by simp [DV.nlL,DV.nl]) (by simp [DV.nlL,DV.nl]) ?_;show IW Tryz.prog 12 u96_1 ⟨B6 _,_,_⟩ (rt [.tmp 2] _);repeat' ((with_reducible first|refine wr ?_|refine wb2 ?_ ?_<;>(intro hb;try simp only [hb])|fail)<;>try simp only [go_sem,seval])
 all_goals (refine A8 (congrArg I64 ?_);simp_all [kdE])
theorem c_inS32 (k:Int):PC Tryz.prog 89 [I64 k] (I64 (kdS k)):=by
 refine PC.of A9 isU89 (Nat.le_of_ble_eq_true rfl) (by simp [DV.nlL,DV.nl]) (by simp [DV.nlL,DV.nl]) ?_;show IW Tryz.prog 26 u89_1 ⟨B6 _,_,_⟩ (rt [.tmp 2] _);repeat' ((with_reducible first|refine wr ?_|refine wb2 ?_ ?_<;>(intro hb;try simp only [hb])|fail)<;>try simp only [go_sem,seval])
 all_goals (refine A8 (congrArg I64 ?_);simp_all [kdS])
theorem c_inH32 (k:Int):PC Tryz.prog 44 [I64 k] (I64 (kdH k)):=by
 refine PC.of A9 isU44 (Nat.le_of_ble_eq_true rfl) (by simp [DV.nlL,DV.nl]) (by simp [DV.nlL,DV.nl]) ?_;show IW Tryz.prog 11 u44_1 ⟨B6 _,_,_⟩ (rt [.tmp 2] _);repeat' ((with_reducible first|refine wr ?_|refine wb2 ?_ ?_<;>(intro hb;try simp only [hb])|fail)<;>try simp only [go_sem,seval])
 all_goals (refine A8 (congrArg I64 ?_);simp_all [kdH])
theorem c_most32 (k:Int):PC Tryz.prog 87 [I64 k] (I64 (mstM k)):=by
 refine PC.of A9 isU87 (Nat.le_of_ble_eq_true rfl) (by simp [DV.nlL,DV.nl]) (by simp [DV.nlL,DV.nl]) ?_;show IW Tryz.prog 12 u87_1 ⟨B6 _,_,_⟩ (rt [.tmp 2] _);repeat' ((with_reducible first|refine wr ?_|refine wb2 ?_ ?_<;>(intro hb;try simp only [hb])|fail)<;>try simp only [go_sem,seval])
 all_goals (refine A8 (congrArg I64 ?_);simp_all [mstM])
theorem c_truth32 (k:Int):PC Tryz.prog 97 [I64 k] (.bool (truM k)):=by
 refine PC.of A9 isU97 (Nat.le_of_ble_eq_true rfl) (by simp [DV.nlL,DV.nl]) (by simp [DV.nlL,DV.nl]) ?_;show IW Tryz.prog 18 u97_1 ⟨B6 _,_,_⟩ (rt [.tmp 2] _);repeat' ((with_reducible first|refine wr ?_|refine wb2 ?_ ?_<;>(intro hb;try simp only [hb])|fail)<;>try simp only [go_sem,seval])
 all_goals (refine A8 (congrArg DV.bool ?_);simp_all [truM]<;>omega)
theorem c_typ32 (k:Int) (h:k<=24):PC Tryz.prog 58 [I64 k] (I64 (L3 k)):=by
 refine PC.of A9 isU58 (Nat.le_of_ble_eq_true rfl) (by simp [DV.nlL,DV.nl]) (by simp [DV.nlL,DV.nl]) ?_;show IW Tryz.prog 5 u58_1 ⟨B6 _,_,_⟩ (rt [.tmp 2] _);have ht:=c_truth32 k;rw [tru_bol h] at ht;repeat' ((with_reducible first|refine wr ?_|refine cpc ht ?_|refine wb2 ?_ ?_<;>(intro hb;try simp only [hb])|fail)<;>try simp only [go_sem,seval])
 all_goals (refine A8 (congrArg I64 ?_);simp_all [L3])
theorem c_fail32 (r:Ru) (s:Int × Int) (H:Hp) (cc t:Nat) (ht:H t=some (ckB r s)) (htc:t<cc) (p e:Int):AC Tryz.prog 47 [.ptr t 0,I64 p,I64 e] H cc (fun v H' c'=>v=.tup []/\H'=H.upd t (ckB r (upS s (some (p,e))))):=by
 refine AC.body A9 isU47 (Nat.le_of_ble_eq_true rfl) fun hfr=>?_;show IW Tryz.prog 19 u47_1 ⟨B6 _,_,_⟩ (rt [] _);unfold ckB at ht ⊢;cases h:(s.2 == 0) with
 | true =>
  have e0:upS s (some (p,e))=(p,e):=by unfold upS;rw [if_pos (by simpa using h)];rfl
  rw [e0];repeat' ((with_reducible apply wr)<;>try simp only [go_sem,seval,ht,h,A0,A1])
  exact ⟨_,_,GL.refl _ _,rfl,rfl⟩
 | false =>
  have e0:upS s (some (p,e))=s:=by unfold upS;rw [if_neg (by simpa using h)]
  rw [e0,upd_same ht];repeat' ((with_reducible apply wr)<;>try simp only [go_sem,seval,ht,h,A0,A1])
  exact ⟨_,_,GL.refl _ _,rfl,rfl⟩
theorem c_den32 (r:Ru) (hk:A5d r.decls) (s:Int × Int) (H:Hp) (cc t:Nat) (ht:H t=some (ckB r s)) (htc:t<cc) (n:List UInt8) (k p:Int):AC Tryz.prog 43 [.ptr t 0,.str n,I64 k,I64 p] H cc (fun v H' c'=>v=.tup []/\H'=H.upd t (ckB r (upS s (dnE r n k p)))):=by
 refine AC.body A9 isU43 (Nat.le_of_ble_eq_true rfl) fun hfr=>?_;show IW Tryz.prog 36 u43_1 ⟨B6 _,_,_⟩ (rt [] _);have ht':=ht;unfold ckB nmV at ht';have ne0:=M2 t cc (by omega);cases hl:(nmL r).lookup n with
 | some q =>
  obtain ⟨h1,h2⟩:=nm_some hk hl;have hlk:Sym.lkV (.agg [I64 0,I64 0]) true (mvV (T5 (nmL r))) (E7 (.str n) (mkK (T5 (nmL r))) 0)=some (.tup [A4e q,.bool true]):=A5t (ok:=true) (by rw [N4,hl];rfl);unfold A4e at hlk;by_cases hk0:k=0
  ·subst hk0;have e0:dnE r n 0 p=none:=dn_ok (.inl rfl);rw [e0,J4,upd_same ht];repeat' ((with_reducible apply wr)<;>try simp only [go_sem,seval,ht',hlk,ne0,A0,A1])
   exact ⟨_,_,A4g hfr,rfl,rfl⟩
  have q0:(k == 0)=false:=by simpa using hk0
  by_cases hq:q.1=k
  ·have e0:dnE r n k p=none:=dn_ok (.inr (by rw [h1];exact hq));rw [e0,J4,upd_same ht];have q1:(q.1 != k)=false:=by simp [hq]
   repeat' ((with_reducible apply wr)<;>try simp only [go_sem,seval,ht',hlk,q0,q1,ne0,A0,A1])
   exact ⟨_,_,A4g hfr,rfl,rfl⟩
  ·have e0:dnE r n k p=some (p,44):=dn_kd (by rw [h1];simp [hk0,hq]) (by rw [h1];exact h2);rw [e0];have q1:(q.1 != k)=true:=by simp [hq]
   repeat' ((with_reducible apply wr)<;>try simp only [go_sem,seval,ht',hlk,q0,q1,ne0,A0,A1])
   refine AC.call (c_fail32 r s _ _ t (by rw [A2 (by omega)];exact ht) (by omega) p 44) ?_;rintro v H' c' ⟨rfl,rfl⟩ hcc;simp only [go_sem,seval];repeat' ((with_reducible apply wr)<;>try simp only [go_sem,seval])
   exact ⟨_,_,B0b hfr htc,rfl,rfl⟩
 | none =>
  have h1:=nm_none hk hl;have hlk:Sym.lkV (.agg [I64 0,I64 0]) true (mvV (T5 (nmL r))) (E7 (.str n) (mkK (T5 (nmL r))) 0)=some (.tup [.agg [I64 0,I64 0],.bool false]):=A5u (ok:=true) (by rw [N4,hl];rfl);by_cases hk0:k=0
  ·subst hk0;have e0:dnE r n 0 p=none:=dn_ok (.inl rfl);rw [e0,J4,upd_same ht];repeat' ((with_reducible apply wr)<;>try simp only [go_sem,seval,ht',hlk,ne0,A0,A1])
   exact ⟨_,_,A4g hfr,rfl,rfl⟩
  have q0:(k == 0)=false:=by simpa using hk0
  have e0:dnE r n k p=some (p,8):=dn_ms (by rw [h1];simp;omega) (by rw [h1]);rw [e0];repeat' ((with_reducible apply wr)<;>try simp only [go_sem,seval,ht',hlk,q0,ne0,A0,A1])
  refine AC.call (c_fail32 r s _ _ t (by rw [A2 (by omega)];exact ht) (by omega) p 8) ?_;rintro v H' c' ⟨rfl,rfl⟩ hcc;simp only [go_sem,seval];repeat' ((with_reducible apply wr)<;>try simp only [go_sem,seval])
  exact ⟨_,_,B0b hfr htc,rfl,rfl⟩
theorem Y8 {G:Hp} {t c:Nat} {b0 b1 b:Blk} (hG:∀ j,c<=j->G j=none) (htc:t<c):Sym.Sub (G.upd t b) (((G.upd t b0).upd c b1).upd t b):=by
 intro j q hj;by_cases e:j=t
 ·subst e;rw [A0] at hj ⊢;exact hj
 ·rw [A2 e] at hj;have:j<c:=Nat.lt_of_not_le fun h=>by rw [hG j h] at hj;cases hj
  rw [A2 e,A2 (by omega),A2 e];exact hj
theorem sub_ck1 {G:Hp} {t c:Nat} {b0 b1:Blk} (hG:∀ j,c<=j->G j=none) (htc:t<c):Sym.Sub (G.upd t b0) ((G.upd t b0).upd c b1):=by
 intro j q hj;have:j<c:=Nat.lt_of_not_le fun h=>by rw [A2 (by omega),hG j h] at hj;cases hj
 rw [A2 (by omega)];exact hj
theorem c_exp32 (r:Ru) (hk:A5d r.decls):∀ (m:Nat) (e:Ex),e.sz<m->e.sz<=100000000->(∃ q,msM e=some q)->∀ (s:Int × Int) (H:Hp) (cc t:Nat) (ht:H t=some (ckB r s)) (htc:t<cc),
  AC Tryz.prog 57 [.ptr t 0,e.v] H cc (fun v H' c'=>v=.tup []/\H'=H.upd t (ckB r (upS s (erE r e)))):=by
 intro m
 induction m with
 | zero=>intro e h;omega
 | succ m ih =>
 intro e hm hB ⟨q0,hq0⟩ s H cc t ht htc;have hal:Ex.szs e.args<e.sz:=by cases e with|mk k v n a p=>rw [Ex.sz];show Ex.szs a<_;omega
 have hargs:∀ x∈e.args,x.sz<=Ex.szs e.args:=fun x hx=>Ex.szs_mem hx;have hll:=Ex.szs_len e.args;have hms:=A9w hq0;have h22:=ms_two hq0;have hknd:∀ x∈e.args,x.kind<=24:=fun x hx=>by obtain ⟨q,hq⟩:=hms x hx;exact A9v hq
 rw [erE_e,Ex.v_w];dsimp only [Ex.w];have ih:∀ x∈e.args, ∀ (s:Int × Int) (H:Hp) (cc t:Nat) (ht:H t=some (ckB r s)) (htc:t<cc),AC Tryz.prog 57 [.ptr t 0,x.v] H cc (fun v H' c'=>v=.tup []/\H'=H.upd t (ckB r (upS s (erE r x)))):=fun x hx=>ih x (by have:=hargs x hx;omega) (by have:=hargs x hx;omega) (hms x hx);have hk1:=c_inE32 e.kind;have hden:=fun (s:Int × Int) (H:Hp) (cc t:Nat) (ht:H t=some (ckB r s)) (htc:t<cc)=>c_den32 r hk s H cc t ht htc e.name (kdE e.kind) e.pos;generalize ek:e.kind=k at *;generalize e.value=v at *;generalize e.name=n at *;generalize e.args=a at *;generalize e.pos=p at *;refine AC.body A9 isU57 (Nat.le_of_ble_eq_true rfl) fun hfr=>?_;show IW Tryz.prog 61 u57_1 ⟨B6 _,_,_⟩ (rt [] _);repeat' ((with_reducible apply wr)<;>try simp only [go_sem,seval])
 obtain ⟨G,hG⟩:∃ G,G=H.upd cc ⟨0,true,[I64 k,I64 v,.str n,F4 a,I64 p]⟩:=⟨_,rfl⟩;have hGc:∀ b,(G.upd t b) cc=some ⟨0,true,[I64 k,I64 v,.str n,F4 a,I64 p]⟩:=fun b=>by rw [A2 (by omega),hG,A0]
 have hGn:∀ j,cc+1<=j->G j=none:=fun j hj=>by rw [hG,A2 (by omega)];exact hfr j (by omega)
 have hGt:G=G.upd t (ckB r s):=by rw [upd_same];rw [hG,A2 (by omega)];exact ht
 rw [<- hG,hGt];refine C2 (fun i:Nat=>[(0,.ptr t 0),(3,.ptr cc 0),(10,F4 a),(11,I64 a.length),(12,I64 i)]) (fun i=>G.upd t (ckB r (upS s (T7 r (a.take i))))) (fun i c=>cc+1<=c/\i<=a.length) (fun i=>a.length-i) 0 (by simp [C1,tm,Tm.upd]) (by rw [List.take_zero,T7,J4];exact Sub.refl _) ⟨by omega,Nat.zero_le _⟩ ?_;rintro i c ⟨h1c,hki⟩;by_cases hlt:i<a.length
 ·have hd:decide ((i:Int)<a.length)=true:=by simpa using hlt
  have hg:=List.getElem?_eq_getElem hlt;have hw:=w64 (n:=(i:Int)+1) (by omega) (by omega);have hc:=ih _ (List.getElem_mem hlt);have het:=A8s (r:=r) hg;generalize a[i]=x at hg hc het;rw [Ex.v_w] at hc;have ne0:=M2 t c (by omega);repeat' ((with_reducible apply wr)<;>try simp only [go_sem,seval,hd,hg,hw,Ex.v_w,ne0,A0,A1,hGc])
  refine AC.call (hc (upS s (T7 r (a.take i))) _ _ t (by rw [A2 (by omega),A0]) (by omega)) ?_;rintro v' H' c' ⟨rfl,rfl⟩ hcc;simp only [go_sem,seval,hw];repeat' ((with_reducible apply wr)<;>try simp only [go_sem,seval,hw])
  refine ⟨i+1,by simp,?_,inv ⟨by omega,by omega⟩,by omega⟩;rw [J3 (nz_Es _ _), <- het];exact Y8 (fun j hj=>hGn j (by omega)) (by omega)
 have hd:decide ((i:Int)<a.length)=false:=by simpa using hlt
 rw [List.take_of_length_le (by omega)];repeat' ((with_reducible first|apply wr|refine cpc hk1 ?_|fail)<;>try simp only [go_sem,seval,hd,hGc])
 refine ⟨by and_intros<;>(rw [A2 (by omega)];exact hGn _ (by omega)),?_⟩;refine AC.call (hden (upS s (T7 r a)) _ _ t A0 (by omega)) ?_;rintro v' H' c' ⟨rfl,rfl⟩ hcc;rw [A1,J3 (nz_Es _ _)];obtain ⟨s1,hs1⟩:∃ s1,s1=upS s ((T7 r a).or (dnE r n (kdE k) p)):=⟨_,rfl⟩;have nz1:NzE ((T7 r a).or (dnE r n (kdE k) p)):=(nz_Es _ _).or (A8e _ _ _ _);rw [<- hs1, <- J3 nz1, <- hs1];clear hs1;have kL:∀ c2:Nat,c+9<=c2->IW Tryz.prog 61 (.loop u57_32) ⟨tm [(0,.ptr t 0),(3,.ptr cc 0),(6,I64 (X4 k a)),(45,F4 a),(46,I64 a.length),(47,I64 0)],G.upd t (ckB r s1),c2⟩ (bk 3 (rt [] fun v H' c' => ∃ v2 H2,GL H' [v] H2 [v2]/\v2=.tup []/\H2=H.upd t (ckB r (upS s1 (if (a.all fun x=>L3 x.kind == X4 k a)=true then none else some (p,49)))))):=by
  intro c2 hc2;generalize X4 k a=wnt;refine C2 (fun i:Nat=>[(0,.ptr t 0),(3,.ptr cc 0),(6,I64 wnt),(45,F4 a),(46,I64 a.length),(47,I64 i)]) (fun i=>G.upd t (ckB r (upS s1 (if ((a.take i).all fun x=>L3 x.kind == wnt)=true then none else some (p,49))))) (fun i c=>cc+1<=c/\i<=a.length) (fun i=>a.length-i) 0 (by simp [C1,tm,Tm.upd]) (by rw [List.take_zero,List.all_nil,if_pos rfl,J4];exact Sub.refl _) ⟨by omega,Nat.zero_le _⟩ ?_;rintro i c3 ⟨h3c,hki3⟩;by_cases hlt3:i<a.length
  ·have hd3:decide ((i:Int)<a.length)=true:=by simpa using hlt3
   have hg3:=List.getElem?_eq_getElem hlt3;have hw3:=w64 (n:=(i:Int)+1) (by omega) (by omega);have hat:=A1l (fun x:Ex=>L3 x.kind == wnt) a i _ hg3;have hty:=c_typ32 _ (hknd _ (List.getElem_mem hlt3));generalize a[i]=x at hg3 hat hty;obtain ⟨o,ho⟩:∃ o:Er,o=if ((a.take i).all fun x=>L3 x.kind == wnt)=true then none else some (p,49):=⟨_,rfl⟩
   rw [<- ho];have ne0:=R8 t c3 cc (by omega);by_cases hx:L3 x.kind=wnt
   ·have hxn:(L3 x.kind != wnt)=false:=by simp [hx]
    repeat' ((with_reducible first|apply wr|refine cpc hty ?_|fail)<;>try simp only [go_sem,seval,hd3,hg3,hw3,Ex.v_w,ne0,A0,A1,hGc,hxn])
    refine ⟨i+1,by simp,?_,inv ⟨by omega,by omega⟩,by omega⟩;rw [hat,show (L3 x.kind == wnt)=true by simpa using hx,Bool.and_true, <- ho];exact sub_ck1 (fun j hj=>hGn j (by omega)) (by omega)
   ·have hxn:(L3 x.kind != wnt)=true:=by simp [hx]
    repeat' ((with_reducible first|apply wr|refine cpc hty ?_|fail)<;>try simp only [go_sem,seval,hd3,hg3,hw3,Ex.v_w,ne0,A0,A1,hGc,hxn])
    refine AC.call (c_fail32 r (upS s1 o) _ _ t (by rw [A2 (by omega),A0]) (by omega) p 49) ?_;rintro v' H' c4 ⟨rfl,rfl⟩ hcc4;simp only [go_sem,seval,hw3];repeat' ((with_reducible apply wr)<;>try simp only [go_sem,seval,hw3])
    refine ⟨i+1,by simp,?_,inv ⟨by omega,by omega⟩,by omega⟩;have eo:upS (upS s1 o) (some (p,49))=upS s1 (some (p,49)):=by
     rw [ho];split
     ·rw [J4]
     ·exact upS_idem s1 p 49 (by decide)
    rw [hat,show (L3 x.kind == wnt)=false by simpa using hx,Bool.and_false,if_neg (by decide),eo];exact Y8 (fun j hj=>hGn j (by omega)) (by omega)
  have hd3:decide ((i:Int)<a.length)=false:=by simpa using hlt3
  rw [List.take_of_length_le (by omega)];repeat' ((with_reducible apply wr)<;>try simp only [go_sem,seval,hd3])
  refine ⟨_,_,?_,rfl,rfl⟩;rw [hG];exact B0b hfr htc
 simp only [go_sem,seval];by_cases ka:k=11\/k=23\/k=24
 ·have ew:X4 k a=2:=by unfold X4;rw [if_pos ka]
  rw [ew] at kL ⊢;rcases ka with rfl|rfl|rfl
  all_goals (repeat' ((with_reducible apply wr)<;>try simp only [go_sem,seval,hGc]))
  all_goals exact kL _ hcc
 have ka1:(k == 11)=false:=by simp;omega
 have ka2:(k == 23)=false:=by simp;omega
 have ka3:(k == 24)=false:=by simp;omega
 by_cases kb:k=21\/k=22
 ·have hl2:=h22 kb;obtain ⟨x0,l0,ha⟩:∃ x l,a=x :: l:=by
   cases a with
   | nil=>simp at hl2
   | cons x l=>exact ⟨x,l,rfl⟩
  have ew:X4 k a=L3 x0.kind:=by rw [ha];unfold X4;rw [if_neg ka,if_pos kb]
  have hg0:a[0]? = some x0:=by rw [ha];rfl
  have hty:=c_typ32 _ (hknd x0 (by rw [ha];exact List.mem_cons_self));rw [ew] at kL ⊢;rcases kb with rfl|rfl
  all_goals (repeat' ((with_reducible first|apply wr|refine cpc hty ?_|fail)<;>try simp only [go_sem,seval,hGc,ka1,ka2,ka3,hg0,Ex.v_w]))
  all_goals exact kL _ hcc
 have ew:X4 k a=1:=by unfold X4;rw [if_neg ka,if_neg kb]
 rw [ew] at kL ⊢;have kb1:(k == 21)=false:=by simp;omega
 have kb2:(k == 22)=false:=by simp;omega
 repeat' ((with_reducible apply wr)<;>try simp only [go_sem,seval,hGc,ka1,ka2,ka3,kb1,kb2])
 exact kL _ hcc
theorem A6f {H:Hp} {i j:Nat} {a b:Blk} (h:i≠j):(H.upd i a).upd j b=(H.upd j b).upd i a:=by
 funext k
 by_cases e:k=j
 ·subst e;rw [A0,A2 (Ne.symm h),A0]
 ·rw [A2 e];by_cases e2:k=i
  ·subst e2;rw [A0,A0]
  ·rw [A2 e2,A2 e2,A2 e]
theorem A5k {H:Hp} {t c:Nat} {b1 b:Blk} (hG:∀ j,c<=j->H j=none) (htc:t<c):Sym.Sub (H.upd t b) ((H.upd c b1).upd t b):=by
 rw [<- A6f (Nat.ne_of_lt htc)];exact sub_ck1 hG htc
theorem typ_want (k:Int) (b:Bool):L3 k=(if b=true then 2 else 1)↔(L3 k == 2)=b:=by
 unfold L3;cases b<;>cases bolM k<;>simp
theorem c_blk32 (r:Ru) (hk:A5d r.decls):∀ (m:Nat) (l:List Pb.St) (d:Nat),Pb.St.szs l<m->Pb.St.szs l<=100000000->G6 d l=true->∀ (s:Int × Int) (H:Hp) (cc t:Nat) (ht:H t=some (ckB r s)) (htc:t<cc),
  AC Tryz.prog 48 [.ptr t 0,F7 l] H cc (fun v H' c'=>v=.tup []/\H'=H.upd t (ckB r (upS s (erB r l)))):=by
 intro m
 induction m with
 | zero=>intro l d h;omega
 | succ m ih =>
 intro l d hm hB hv s H cc t ht htc;have hl:=Pb.St.szs_len l;refine AC.body A9 isU48 (Nat.le_of_ble_eq_true rfl) fun hfr=>?_;show IW Tryz.prog 56 u48_1 ⟨B6 _,_,_⟩ (rt [] _);repeat' ((with_reducible apply wr)<;>try simp only [go_sem,seval])
 have hHt:H=H.upd t (ckB r s):=(upd_same ht).symm;refine C2 (fun i:Nat=>[(0,.ptr t 0),(9,F7 l),(10,I64 l.length),(11,I64 i)]) (fun i=>H.upd t (ckB r (upS s (erB r (l.take i))))) (fun i c=>cc<=c/\i<=l.length) (fun i=>l.length-i) 0 (by simp [C1,tm,Tm.upd]) (by rw [List.take_zero,erB,J4, <- hHt];exact Sub.refl _) ⟨by omega,Nat.zero_le _⟩ ?_;rintro i c ⟨h1c,hki⟩;by_cases hlt:i<l.length
 ·have hd:decide ((i:Int)<l.length)=true:=by simpa using hlt
  have hg:=List.getElem?_eq_getElem hlt;have hw:=w64 (n:=(i:Int)+1) (by omega) (by omega);have hsx:=Pb.St.szs_mem (List.getElem_mem hlt);obtain ⟨v1,v2,v3⟩:=A6d (A7v hv _ (List.getElem_mem hlt));have het:=erB_take (r:=r) hg;rw [erS_e] at het;generalize l[i]=x at hg hsx v1 v2 v3 het;have hsa:Ex.szs x.args<x.sz:=by cases x with|mk k n t a x y p=>rw [Pb.St.sz];show Ex.szs a<_;omega
  have hal:=Ex.szs_len x.args;have hX:=ih x.thn (d+1) (by have:=x.sz_thn;omega) (by have:=x.sz_thn;omega) v2;have hY:=ih x.els (d+1) (by have:=x.sz_els;omega) (by have:=x.sz_els;omega) v3;have hk1:=c_inS32 x.kind;obtain ⟨s0,hs0⟩:∃ s0,s0=upS s (erB r (l.take i)):=⟨_,rfl⟩;have hfin:upS s (erB r (l.take (i+1)))=upS s0 ((((dnE r x.name (kdS x.kind) x.pos).or (erA r (x.kind == 2) x.args)).or (erB r x.thn)).or (erB r x.els)):=by rw [het, <- J3 (nz_B _ _), <- hs0]
  rw [<- hs0];have ne0:=M2 t c (by omega);repeat' ((with_reducible first|apply wr|refine cpc hk1 ?_|fail)<;>try simp only [go_sem,seval,hd,hg,hw,Pb.St.v_w,ne0,A0,A1])
  obtain ⟨G,hG⟩:∃ G,G=H.upd c ⟨0,true,[I64 x.kind,.str x.name,.str x.text,F4 x.args,F7 x.thn,F7 x.els,I64 x.pos]⟩:=⟨_,rfl⟩;have hGc:∀ b,(G.upd t b) c=some ⟨0,true,[I64 x.kind,.str x.name,.str x.text,F4 x.args,F7 x.thn,F7 x.els,I64 x.pos]⟩:=fun b=>by rw [A2 (by omega),hG,A0]
  have hGn:∀ j,c+1<=j->G j=none:=fun j hj=>by rw [hG,A2 (by omega)];exact hfr j (by omega)
  rw [A6f (by omega), <- hG];refine ⟨by and_intros<;>(rw [A2 (by omega)];exact hGn _ (by omega)),?_⟩;refine AC.call (c_den32 r hk s0 _ _ t A0 (by omega) x.name (kdS x.kind) x.pos) ?_;rintro v' H' c2 ⟨rfl,rfl⟩ hc2;rw [A1];obtain ⟨s1,hs1⟩:∃ s1,s1=upS s0 (dnE r x.name (kdS x.kind) x.pos):=⟨_,rfl⟩;rw [Option.or_assoc,Option.or_assoc, <- J3 (A8e _ _ _ _), <- hs1] at hfin;rw [<- hs1];have kL:∀ c3:Nat,c+1<=c3->IW Tryz.prog 56 (.loop u48_16) ⟨tm [(0,.ptr t 0),(5,.ptr c 0),(6,I64 (if (x.kind == 2)=true then 2 else 1)),(9,F7 l),(10,I64 l.length),(11,I64 i),(28,F4 x.args),(29,I64 x.args.length),(30,I64 0)],G.upd t (ckB r s1),c3⟩ (bk 2 (sq Tryz.prog 56 u48_25 (bk 1 (sq Tryz.prog 56 u48_27
    (lp (fun i:Nat=>[(0,DV.ptr t 0),(9,F7 l),(10,I64 l.length),(11,I64 i)]) (fun i:Nat=>H.upd t (ckB r (upS s (erB r (l.take i))))) (fun (i c:Nat)=>cc<=c/\i<=l.length) (fun i:Nat=>l.length-i) (l.length-i) (bk 0 (rt [] fun v H' c' => ∃ v2 H2,GL H' [v] H2 [v2]/\v2=DV.tup []/\H2=H.upd t (ckB r (upS s (erB r l)))))))))):=by
   intro c3 hc3;obtain ⟨wnt,hwnt⟩:∃ wnt:Int,wnt=if (x.kind == 2)=true then 2 else 1:=⟨_,rfl⟩
   rw [<- hwnt];refine C2 (fun j:Nat=>[(0,.ptr t 0),(5,.ptr c 0),(6,I64 wnt),(9,F7 l),(10,I64 l.length),(11,I64 i),(28,F4 x.args),(29,I64 x.args.length),(30,I64 j)]) (fun j=>G.upd t (ckB r (upS s1 (erA r (x.kind == 2) (x.args.take j))))) (fun j c4=>c+1<=c4/\j<=x.args.length) (fun j=>x.args.length-j) 0 (by simp [C1,tm,Tm.upd]) (by rw [List.take_zero,erA,J4];exact Sub.refl _) ⟨by omega,Nat.zero_le _⟩ ?_;rintro j c4 ⟨h4c,hkj⟩;by_cases hlt2:j<x.args.length
   ·have hd2:decide ((j:Int)<x.args.length)=true:=by simpa using hlt2
    have hg2:=List.getElem?_eq_getElem hlt2;have hw2:=w64 (n:=(j:Int)+1) (by omega) (by omega);have hxs:=Ex.szs_mem (List.getElem_mem hlt2);have hmy:=v1 _ (List.getElem_mem hlt2);have heA:=erA_take (r:=r) (b:=x.kind == 2) hg2;generalize x.args[j]=y at hg2 hxs hmy heA;have hex:=c_exp32 r hk _ y (Nat.lt_succ_self _) (by omega) hmy;obtain ⟨qy,hqy⟩:=hmy;have hty:=c_typ32 _ (A9v hqy);rw [Ex.v_w] at hex;obtain ⟨o,ho⟩:∃ o,o=erA r (x.kind == 2) (x.args.take j):=⟨_,rfl⟩;have hno:NzE o:=by rw [ho];exact nz_A _ _ _
    have htw:=typ_want y.kind (x.kind == 2);rw [<- hwnt] at htw;rw [<- ho];rw [<- ho, <- Option.or_assoc] at heA;have ne0:=R8 t c c4 (by omega);repeat' ((with_reducible apply wr)<;>try simp only [go_sem,seval,hd2,hg2,hw2,Ex.v_w,ne0,A0,A1,hGc])
    refine AC.call (hex (upS s1 o) _ _ t (by rw [A2 (by omega),A0]) (by omega)) ?_;rintro v' H' c5 ⟨rfl,rfl⟩ hc5;rw [J3 hno];simp only [go_sem,seval,hw2,A1];by_cases hx:L3 y.kind=wnt
    ·have hxn:(L3 y.kind != wnt)=false:=by simp [hx]
     repeat' ((with_reducible first|apply wr|refine cpc hty ?_|fail)<;>try simp only [go_sem,seval,hw2,ne0,A0,A1,hxn])
     refine ⟨j+1,by simp,?_,inv ⟨by omega,by omega⟩,by omega⟩;rw [heA,if_pos (htw.1 hx),Option.or_none];exact Y8 (fun j hj=>hGn j (by omega)) (by omega)
    ·have hxn:(L3 y.kind != wnt)=true:=by simp [hx]
     repeat' ((with_reducible first|apply wr|refine cpc hty ?_|fail)<;>try simp only [go_sem,seval,hw2,ne0,A0,A1,hxn])
     refine AC.call (c_fail32 r (upS s1 (o.or (erE r y))) _ _ t A0 (by omega) y.pos 49) ?_;rintro v' H' c6 ⟨rfl,rfl⟩ hc6;simp only [go_sem,seval,hw2,A1];repeat' ((with_reducible apply wr)<;>try simp only [go_sem,seval,hw2])
     refine ⟨j+1,by simp,?_,inv ⟨by omega,by omega⟩,by omega⟩;rw [J3 (hno.or (nz_E _ _)),heA,if_neg (fun h=>hx (htw.2 h))];exact Y8 (fun j hj=>hGn j (by omega)) (by omega)
   have hd2:decide ((j:Int)<x.args.length)=false:=by simpa using hlt2
   rw [List.take_of_length_le (by omega)];repeat' ((with_reducible apply wr)<;>try simp only [go_sem,seval,hd2,hGc])
   refine AC.call (hX (upS s1 (erA r (x.kind == 2) x.args)) _ _ t A0 (by omega)) ?_;rintro v' H' c5 ⟨rfl,rfl⟩ hc5;rw [A1,J3 (nz_A _ _ _)];simp only [go_sem,seval,hGc];repeat' ((with_reducible apply wr)<;>try simp only [go_sem,seval,hGc])
   refine AC.call (hY (upS s1 ((erA r (x.kind == 2) x.args).or (erB r x.thn))) _ _ t A0 (by omega)) ?_;rintro v' H' c6 ⟨rfl,rfl⟩ hc6;rw [A1,J3 ((nz_A _ _ _).or (nz_B _ _))];simp only [go_sem,seval,hw];repeat' ((with_reducible apply wr)<;>try simp only [go_sem,seval,hw])
   refine ⟨i+1,by simp,?_,inv ⟨by omega,by omega⟩,by omega⟩;rw [hfin,Option.or_assoc,hG];exact A5k (fun j hj=>hfr j (by omega)) (by omega)
  simp only [go_sem,seval];cases hb2:(x.kind == 2) with
  | true =>
   rw [hb2] at kL;repeat' ((with_reducible apply wr)<;>try simp only [go_sem,seval,hGc,hw,hb2])
   exact kL _ (by omega)
  | false =>
   rw [hb2] at kL;repeat' ((with_reducible apply wr)<;>try simp only [go_sem,seval,hGc,hw,hb2])
   exact kL _ (by omega)
 have hd:decide ((i:Int)<l.length)=false:=by simpa using hlt
 rw [List.take_of_length_le (by omega)];repeat' ((with_reducible apply wr)<;>try simp only [go_sem,seval,hd])
 exact ⟨_,_,GL.refl _ _,rfl,rfl⟩
abbrev T3 (l:List (List UInt8)):Blk:=⟨0,true,[.mpc .s (mkK (S9 l)) (mvV (S9 l))]⟩
theorem c_head1 (r:Ru) (s:Int × Int) (l:List (List UInt8)) (nm:List UInt8) (p val most:Int) (H:Hp) (cc t a b mm:Nat) (ht:H t=some (ckB r s)) (ha:H a=some ⟨0,true,[.ptr t 0]⟩) (hb:H b=some ⟨0,true,[.mid mm]⟩) (hm:H mm=some (T3 l))
  (htc:t<cc) (hac:a<cc) (hbc:b<cc) (hmc:mm<cc) (hta:t≠a) (htb:t≠b) (htm:t≠mm) (hbm:b≠mm) (ham:a≠mm) (hab:a≠b) :
  AC Tryz.prog 86 [.str nm,I64 p,I64 val,I64 most,.ptr a 0,.ptr b 0] H cc (fun v H' c'=>v=.tup []/\H'=(H.upd t (ckB r (upS s ((if val>most then some (p,5) else none:Er).or (if l.contains nm=true then some (p,7) else none))))).upd mm (T3 (V4 l nm))):=by
 refine AC.body A9 isU86 (Nat.le_of_ble_eq_true rfl) fun hfr=>?_;show IW Tryz.prog 24 u86_1 ⟨B6 _,_,_⟩ (rt [] _);have hlk:=see_lk nm l;have hmu:=fun H c id u=>A9j nm l H c id u;obtain ⟨o1,ho1⟩:∃ o1:Er,o1=if val>most then some (p,5) else none:=⟨_,rfl⟩
 have n1:NzE o1:=by rw [ho1];exact A9r (by decide)
 rw [<- ho1];have hkB:∀ c0,cc<=c0->IW Tryz.prog 24 u86_5 ⟨tm [(0,.str nm),(1,I64 p),(4,.ptr a 0),(5,.ptr b 0)],H.upd t (ckB r (upS s o1)),c0⟩ (rt [] fun v H' c' => ∃ v2 H2,GL H' [v] H2 [v2]/\v2=.tup []/\H2=(H.upd t (ckB r (upS s (o1.or (if l.contains nm=true then some (p,7) else none))))).upd mm (T3 (V4 l nm))):=by
  intro c0 hc0;have ne0:=R7 t a b mm (by omega);cases hc:l.contains nm with
  | false =>
   rw [hc] at hlk;rw [if_neg (by decide),Option.or_none];repeat' ((with_reducible apply wr)<;>try simp only [go_sem,seval,ha,hb,hm,hlk,hmu,ne0,A0,A1])
   exact ⟨_,_,GL.refl _ _,rfl,rfl⟩
  | true =>
   rw [hc] at hlk;rw [if_pos rfl];repeat' ((with_reducible apply wr)<;>try simp only [go_sem,seval,ha,hb,hm,hlk,hmu,ne0,A0,A1])
   refine AC.call (c_fail32 r (upS s o1) _ _ t A0 (by omega) p 7) ?_;rintro v' H' c2 ⟨rfl,rfl⟩ hc2;rw [A1,J3 n1];simp only [go_sem,seval];repeat' ((with_reducible apply wr)<;>try simp only [go_sem,seval,ha,hb,hm,hlk,hmu,ne0,A0,A1])
   exact ⟨_,_,GL.refl _ _,rfl,rfl⟩
 have ne0:=R7 t a b mm (by omega);by_cases hv:val>most
 ·have qv:decide (val>most)=true:=by simpa using hv
  rw [if_pos hv] at ho1;rw [ho1] at hkB ⊢;repeat' ((with_reducible apply wr)<;>try simp only [go_sem,seval,ha,hb,hm,qv,ne0,A0,A1])
  refine AC.call (c_fail32 r s _ _ t ht (by omega) p 5) ?_;rintro v' H' c2 ⟨rfl,rfl⟩ hc2;simp only [go_sem,seval];repeat' ((with_reducible first|refine H4 (p:=IW _ _ u86_5 _ _) ?_|refine wr ?_|fail)<;>try simp only [go_sem,seval])
  exact IW.stage (by simp [C1,tm,Tm.upd]) (hkB _ hc2)
 ·have qv:decide (val>most)=false:=by simpa using hv
  rw [if_neg hv] at ho1;rw [ho1,J4,upd_same ht] at hkB;rw [ho1];repeat' ((with_reducible first|refine H4 (p:=IW _ _ u86_5 _ _) ?_|refine wr ?_|fail)<;>try simp only [go_sem,seval,ha,hb,hm,qv,ne0,A0,A1])
  exact IW.stage (by simp [C1,tm,Tm.upd]) (hkB _ (Nat.le_refl _))
def hdH (H:Hp) (r:Ru) (t cc:Nat) (s:Int × Int) (l:List (List UInt8)):Hp:=((((H.upd t (ckB r s)).upd cc ⟨0,true,[.ptr t 0]⟩).upd (cc+1) ⟨0,true,[D5 r.decls,E1 r.modes]⟩).upd (cc+2) (T3 l)).upd (cc+3) ⟨0,true,[.mid (cc+2)]⟩
theorem hdH_t {H:Hp} {r:Ru} {t cc:Nat} {s:Int × Int} {l:List (List UInt8)} (htc:t<cc):hdH H r t cc s l t=some (ckB r s):=by
 unfold hdH;rw [A2 (by omega),A2 (by omega),A2 (by omega),A2 (by omega),A0]
theorem hdH_0 {H:Hp} {r:Ru} {t cc:Nat} {s:Int × Int} {l:List (List UInt8)}:hdH H r t cc s l cc=some ⟨0,true,[.ptr t 0]⟩:=by
 unfold hdH;rw [A2 (by omega),A2 (by omega),A2 (by omega),A0]
theorem hdH_1 {H:Hp} {r:Ru} {t cc:Nat} {s:Int × Int} {l:List (List UInt8)}:hdH H r t cc s l (cc+1)=some ⟨0,true,[D5 r.decls,E1 r.modes]⟩:=by
 unfold hdH;rw [A2 (by omega),A2 (by omega),A0]
theorem hdH_2 {H:Hp} {r:Ru} {t cc:Nat} {s:Int × Int} {l:List (List UInt8)}:hdH H r t cc s l (cc+2)=some (T3 l):=by
 unfold hdH;rw [A2 (by omega),A0]
theorem hdH_3 {H:Hp} {r:Ru} {t cc:Nat} {s:Int × Int} {l:List (List UInt8)}:hdH H r t cc s l (cc+3)=some ⟨0,true,[.mid (cc+2)]⟩:=by
 unfold hdH;rw [A0]
theorem hdH_n {H:Hp} {r:Ru} {t cc:Nat} {s:Int × Int} {l:List (List UInt8)} (htc:t<cc) (hfr:∀ i,cc<=i->H i=none) (j:Nat) (hj:cc+4<=j):hdH H r t cc s l j=none:=by
 unfold hdH;rw [A2 (by omega),A2 (by omega),A2 (by omega),A2 (by omega),A2 (by omega)];exact hfr j (by omega)
theorem hdH_o {H:Hp} {r:Ru} {t cc:Nat} {s:Int × Int} {l:List (List UInt8)} (j:Nat) (hj:j<cc) (hjt:j≠t):hdH H r t cc s l j=H j:=by
 unfold hdH;rw [A2 (by omega),A2 (by omega),A2 (by omega),A2 (by omega),A2 hjt]
theorem hd_sub {H X:Hp} {r:Ru} {t cc:Nat} {s:Int × Int} {l:List (List UInt8)} (htc:t<cc) (hfr:∀ i,cc<=i->H i=none) (ht:X t=some (ckB r s)) (h0:X cc=some ⟨0,true,[.ptr t 0]⟩) (h1:X (cc+1)=some ⟨0,true,[D5 r.decls,E1 r.modes]⟩) (h2:X (cc+2)=some (T3 l)) (h3:X (cc+3)=some ⟨0,true,[.mid (cc+2)]⟩)
  (ho:∀ j,j<cc->j≠t->X j=H j):Sym.Sub (hdH H r t cc s l) X:=by
 intro j b hj;by_cases hlt:j<cc
 ·by_cases hjt:j=t
  ·subst hjt;rw [hdH_t htc] at hj;rw [ht];exact hj
  ·rw [hdH_o j hlt hjt] at hj;rw [ho j hlt hjt];exact hj
 ·have h4:j<cc+4:=Nat.lt_of_not_le fun h=>by rw [hdH_n htc hfr j h] at hj;cases hj
  have:j=cc\/j=cc+1\/j=cc+2\/j=cc+3:=by omega
  rcases this with rfl|rfl|rfl|rfl
  ·rw [hdH_0] at hj;rw [h0];exact hj
  ·rw [hdH_1] at hj;rw [h1];exact hj
  ·rw [hdH_2] at hj;rw [h2];exact hj
  ·rw [hdH_3] at hj;rw [h3];exact hj
theorem c_heads32 (r:Ru) (hk:A5d r.decls) (s:Int × Int) (H:Hp) (cc t:Nat) (ht:H t=some (ckB r s)) (htc:t<cc) (h1:r.decls.length<=1000000000) (h2:r.modes.length<=1000000000) :
  AC Tryz.prog 42 [.ptr t 0,r.v] H cc (fun v H' c'=>v=.tup []/\H'=H.upd t (ckB r (upS s (heaE r)))):=by
 have hrv:r.v=.agg [D5 r.decls,E1 r.modes]:=rfl;rw [hrv];have hkt:∀ i,A5d (r.decls.take i):=fun i d hd=>hk d (List.mem_of_mem_take hd);refine AC.body A9 isU42 (Nat.le_of_ble_eq_true rfl) fun hfr=>?_;show IW Tryz.prog 47 u42_1 ⟨B6 _,_,_⟩ (rt [] _);have ne0:=A0o t cc (cc+1) (cc+1+1) (cc+1+1+1) (by omega);repeat' ((with_reducible apply wr)<;>try simp only [go_sem,seval,box_mnil,ne0,A0,A1])
 refine C2 (fun q:Nat × List (List UInt8)=>[(3,.ptr (cc+1) 0),(5,.func 86 [] [.ptr cc 0,.ptr (cc+1+1+1) 0]),(13,D5 r.decls),(14,I64 r.decls.length),(15,I64 q.1)]) (fun q=>hdH H r t cc (upS s (erD [] (r.decls.take q.1))) q.2)
  (fun q c=>cc+4<=c/\q.1<=r.decls.length/\∀ n,q.2.contains n=(r.decls.take q.1).any (fun d=>d.name == n)) (fun q=>r.decls.length-q.1) (0,[]) (by simp [C1,tm,Tm.upd])
  (by
   dsimp only;rw [List.take_zero,erD,J4];refine hd_sub htc hfr ?_ ?_ ?_ ?_ A0 ?_
   ·repeat rw [A2 (by omega)]
    exact ht
   ·repeat rw [A2 (by omega)]
    exact A0
   ·repeat rw [A2 (by omega)]
    exact A0
   ·rw [A2 (by omega)];exact A0
   ·intro j hj hjt
    repeat rw [A2 (by omega)]) ⟨by omega,Nat.zero_le _,fun n=>rfl⟩ ?_
 rintro ⟨i,l⟩ c ⟨h1c,hki,hsn⟩;dsimp only at hki hsn ⊢;by_cases hlt:i<r.decls.length
 ·have hd:decide ((i:Int)<r.decls.length)=true:=by simpa using hlt
  have hg:=List.getElem?_eq_getElem hlt;have hw:=w64 (n:=(i:Int)+1) (by omega) (by omega);have het:=erD_take hg;have hnx:=fun n=>A8y (fun d:Dc=>d.name == n) r.decls i _ hg;have hlo:=fun n=>lok_pre (r.decls.take i) [] n (hkt i);generalize r.decls[i]=d at hg het hnx;have hmo:=c_most32 d.kind;obtain ⟨o,ho⟩:∃ o,o=erD [] (r.decls.take i):=⟨_,rfl⟩;have hno:NzE o:=by rw [ho];exact nz_D _ _
  rw [<- ho] at het ⊢;have hb0:hdH H r t cc (upS s o) l cc=_:=hdH_0;have hb1:hdH H r t cc (upS s o) l (cc+1)=_:=hdH_1;have hb2:hdH H r t cc (upS s o) l (cc+2)=_:=hdH_2;have hb3:hdH H r t cc (upS s o) l (cc+1+1+1)=_:=hdH_3;have hbt:hdH H r t cc (upS s o) l t=_:=hdH_t htc;have hbn:=hdH_n (s:=upS s o) (l:=l) (r:=r) htc hfr;have hbo:=hdH_o (H:=H) (cc:=cc) (t:=t) (s:=upS s o) (l:=l) (r:=r);generalize hdH H r t cc (upS s o) l=HH at hb0 hb1 hb2 hb3 hbt hbn hbo ⊢;have ne0:=R7 c t cc (cc+1) (by omega);repeat' ((with_reducible first|apply wr|refine cpc hmo ?_|fail)<;>try simp only [go_sem,seval,hd,hg,A7h,hb0,hb1,hb2,hb3,hbt,ne0,A0,A1])
  refine ⟨by and_intros<;>(rw [A2 (by omega)];exact hbn _ (by omega)),?_⟩;refine AC.call (c_head1 r (upS s o) l d.name d.pos d.value (mstM d.kind) _ _ t cc (cc+1+1+1) (cc+2) (by rw [A2 (by omega)];exact hbt) (by rw [A2 (by omega)];exact hb0) (by rw [A2 (by omega)];exact hb3) (by rw [A2 (by omega)];exact hb2) (by omega) (by omega) (by omega) (by omega) (by omega) (by omega) (by omega) (by omega) (by omega) (by omega)) ?_;rintro v' H' c2 ⟨rfl,rfl⟩ hc2;have est:((if d.value>mstM d.kind then some (d.pos,5) else none:Er).or (if l.contains d.name=true then some (d.pos,7) else none))=stD (r.decls.take i) d:=by
   unfold stD
   congr 1
   rw [hsn];have:=hlo d.name;cases ha:(r.decls.take i).any (fun x=>x.name == d.name) with
   | true=>rw [ha] at this;rw [if_pos rfl,if_neg (fun h=>by simpa using (this.1 h).1)]
   | false=>rw [ha] at this;rw [if_neg (by decide),if_pos (this.2 ⟨rfl,rfl⟩)]
  rw [est,J3 hno, <- het];simp only [go_sem,seval,hw];repeat' ((with_reducible apply wr)<;>try simp only [go_sem,seval,hw])
  refine ⟨(i+1,V4 l d.name),by simp [C1,tm,Tm.upd],?_,inv ⟨by omega,by omega,fun n=>?_⟩,by simp only;omega⟩
  ·refine hd_sub htc hfr ?_ ?_ ?_ A0 ?_ ?_
   ·rw [A2 (by omega),A0]
   ·repeat rw [A2 (by omega)]
    exact hb0
   ·repeat rw [A2 (by omega)]
    exact hb1
   ·repeat rw [A2 (by omega)]
    exact hb3
   ·intro j hj hjt;rw [A2 (by omega),A2 hjt,A2 (by omega)];exact hbo j hj hjt
  ·simp only;rw [A0m,hsn,hnx]
   congr 1
   rw [Bool.eq_iff_iff];simp;exact eq_comm
 have hd:decide ((i:Int)<r.decls.length)=false:=by simpa using hlt
 rw [List.take_of_length_le (by omega)] at hsn ⊢;have hb1:hdH H r t cc (upS s (erD [] r.decls)) l (cc+1)=_:=hdH_1;repeat' ((with_reducible apply wr)<;>try simp only [go_sem,seval,hd,hb1])
 clear hd hlt hki i hb1;have hrp:heaE r=(erD [] r.decls).or (erP r.decls [] r.modes):=rfl;rw [hrp, <- J3 (nz_D _ _)];obtain ⟨s1,hs1⟩:∃ s1,s1=upS s (erD [] r.decls):=⟨_,rfl⟩;rw [<- hs1];refine C2 (fun q:Nat × List (List UInt8)=>[(5,.func 86 [] [.ptr cc 0,.ptr (cc+1+1+1) 0]),(32,E1 r.modes),(33,I64 r.modes.length),(34,I64 q.1)]) (fun q=>hdH H r t cc (upS s1 (erP r.decls [] (r.modes.take q.1))) q.2)
  (fun q c=>cc+4<=c/\q.1<=r.modes.length/\∀ n,q.2.contains n=(r.decls.any (fun d=>d.name == n) || (r.modes.take q.1).any (fun d=>d.name == n))) (fun q=>r.modes.length-q.1) (0,l) (by simp [C1,tm,Tm.upd])
  (by
   dsimp only;rw [List.take_zero,erP,J4];exact Sub.refl _) ⟨h1c,Nat.zero_le _,fun n=>by rw [hsn];simp⟩ ?_
 clear hsn h1c c l hs1;rintro ⟨i,l⟩ c ⟨h1c,hki,hsn⟩;dsimp only at hki hsn ⊢;by_cases hlt:i<r.modes.length
 ·have hd:decide ((i:Int)<r.modes.length)=true:=by simpa using hlt
  have hg:=List.getElem?_eq_getElem hlt;have hw:=w64 (n:=(i:Int)+1) (by omega) (by omega);have het:=erP_take (D:=r.decls) hg;have hnx:=fun n=>A8y (fun d:Md=>d.name == n) r.modes i _ hg;have hlo:=fun n=>lok_pre r.decls (r.modes.take i) n hk;generalize r.modes[i]=d at hg het hnx;obtain ⟨o,ho⟩:∃ o,o=erP r.decls [] (r.modes.take i):=⟨_,rfl⟩;have hno:NzE o:=by rw [ho];exact nz_P _ _ _
  rw [<- ho] at het ⊢;have hb0:hdH H r t cc (upS s1 o) l cc=_:=hdH_0;have hb1:hdH H r t cc (upS s1 o) l (cc+1)=_:=hdH_1;have hb2:hdH H r t cc (upS s1 o) l (cc+2)=_:=hdH_2;have hb3:hdH H r t cc (upS s1 o) l (cc+1+1+1)=_:=hdH_3;have hbt:hdH H r t cc (upS s1 o) l t=_:=hdH_t htc;have hbn:=hdH_n (s:=upS s1 o) (l:=l) (r:=r) htc hfr;have hbo:=hdH_o (H:=H) (cc:=cc) (t:=t) (s:=upS s1 o) (l:=l) (r:=r);generalize hdH H r t cc (upS s1 o) l=HH at hb0 hb1 hb2 hb3 hbt hbn hbo ⊢;have ne0:=R7 c t cc (cc+1) (by omega);repeat' ((with_reducible apply wr)<;>try simp only [go_sem,seval,hd,hg,md_w,hb0,hb1,hb2,hb3,hbt,ne0,A0,A1])
  refine AC.call (c_head1 r (upS s1 o) l d.name d.pos d.prio 99 _ _ t cc (cc+1+1+1) (cc+2) (by rw [A2 (by omega)];exact hbt) (by rw [A2 (by omega)];exact hb0) (by rw [A2 (by omega)];exact hb3) (by rw [A2 (by omega)];exact hb2) (by omega) (by omega) (by omega) (by omega) (by omega) (by omega) (by omega) (by omega) (by omega) (by omega)) ?_;rintro v' H' c2 ⟨rfl,rfl⟩ hc2;have est:((if d.prio>99 then some (d.pos,5) else none:Er).or (if l.contains d.name=true then some (d.pos,7) else none))=stP r.decls (r.modes.take i) d:=by
   unfold stP
   congr 1
   rw [hsn];have:=hlo d.name;cases ha:r.decls.any (fun x=>x.name == d.name) with
   | true=>rw [ha] at this;rw [Bool.true_or,if_pos rfl,if_neg (fun h=>by simpa using (this.1 h).1)]
   | false =>
    rw [ha] at this;cases ha2:(r.modes.take i).any (fun x=>x.name == d.name) with
    | true=>rw [ha2] at this;rw [Bool.false_or,if_pos rfl,if_neg (fun h=>by simpa using (this.1 h).2)]
    | false=>rw [ha2] at this;rw [Bool.false_or,if_neg (by decide),if_pos (this.2 ⟨rfl,rfl⟩)]
  rw [est,J3 hno, <- het];simp only [go_sem,seval,hw];repeat' ((with_reducible apply wr)<;>try simp only [go_sem,seval,hw])
  refine ⟨(i+1,V4 l d.name),by simp [C1,tm,Tm.upd],?_,inv ⟨by omega,by omega,fun n=>?_⟩,by simp only;omega⟩
  ·refine hd_sub htc hfr ?_ ?_ ?_ A0 ?_ ?_
   ·rw [A2 (by omega),A0]
   ·repeat rw [A2 (by omega)]
    exact hb0
   ·repeat rw [A2 (by omega)]
    exact hb1
   ·repeat rw [A2 (by omega)]
    exact hb3
   ·intro j hj hjt;rw [A2 (by omega),A2 hjt,A2 (by omega)];exact hbo j hj hjt
  ·simp only;rw [A0m,hsn,hnx,Bool.or_assoc]
   congr 2
   rw [Bool.eq_iff_iff];simp;exact eq_comm
 have hd:decide ((i:Int)<r.modes.length)=false:=by simpa using hlt
 rw [List.take_of_length_le (by omega)];repeat' ((with_reducible apply wr)<;>try simp only [go_sem,seval,hd])
 refine ⟨_,_,GL.less' (fun j b hj=>?_),rfl,rfl⟩;by_cases e:j=t
 ·subst e;rw [A0] at hj;rw [hdH_t htc];exact hj
 ·rw [A2 e] at hj;have:j<cc:=Nat.lt_of_not_le fun h=>by rw [hfr _ h] at hj;cases hj
  rw [hdH_o j this e];exact hj
theorem c_chk1 (x h:Hd):PC Tryz.prog 46 [x.v,.fptr [I64 h.trig,.str h.name,F7 h.body,I64 h.pos]] (.bool (x.trig == h.trig && x.name == h.name)):=by
 rw [hdl_w];refine PC.of A9 isU46 (Nat.le_of_ble_eq_true rfl) (by simp [DV.nlL,DV.nl]) (by simp [DV.nlL,DV.nl]) ?_;show IW Tryz.prog 16 u46_1 ⟨B6 _,_,_⟩ (rt [.tmp 3] _);cases h1:(x.trig == h.trig) with
 | false =>
  repeat' ((with_reducible apply wr)<;>try simp only [go_sem,seval,h1])
  exact A8 rfl
 | true =>
  cases h2:(x.name == h.name) with
  | false =>
   repeat' ((with_reducible apply wr)<;>try simp only [go_sem,seval,h1,h2])
   exact A8 rfl
  | true =>
   repeat' ((with_reducible apply wr)<;>try simp only [go_sem,seval,h1,h2])
   exact A8 rfl
theorem c_Check32 (r:Ru) (hB:r.sz<4000000):PC Tryz.prog 17 [r.v] (chkV r):=by
 have hv:=c_Valid r (by omega);have hdl:=sz_dl r;have hml:=sz_ml r;have hnm:=c_names r (by omega) (by omega);have hch:chkV r=if O4 r=true then erV (chkE r) else .tup [I64 0,I64 1]:=rfl
 refine PC.of A9 isU17 (Nat.le_of_ble_eq_true rfl) (by simp [Ru.v,DV.nlL,DV.nl,H7,H6]) (chkV_nl _) ?_;have hrv:r.v=.agg [D5 r.decls,E1 r.modes]:=rfl;cases hvd:O4 r with
 | false =>
  rw [hvd] at hv hch;rw [hch];rw [hrv] at hv ⊢;show IW Tryz.prog 67 u17_1 ⟨B6 _,_,_⟩ (rt [.tmp 2,.tmp 3] _);repeat' ((with_reducible first|apply wr|refine cpc hv ?_|fail)<;>try simp only [go_sem,seval])
  exact A8 rfl
 | true =>
 have hk:=vld_kd hvd;have hbv:=@vld_body _ r hvd;have hms:∀ m∈r.modes,m.sz<=r.sz:=fun m h=>sz_md h;rw [hvd] at hv hch;rw [if_pos rfl] at hch;rw [hch,erV_up];unfold chkE;rw [<- J3 (nz_hea r)];have hhd:=fun H cc t ht htc=>c_heads32 r hk (0,0) H cc t ht htc (by omega) (by omega);obtain ⟨K,V,hKV⟩:∃ K V,nmV r=.mp .s K V:=⟨_,_,rfl⟩;have hck:∀ s:Int × Int,(⟨0,true,[.mp .s K V,I64 s.1,I64 s.2]⟩:Blk)=ckB r s:=fun s=>by unfold ckB;rw [hKV]
 rw [hKV] at hnm;rw [hrv] at hv hnm hhd ⊢;show IW Tryz.prog 67 u17_1 ⟨B6 _,_,_⟩ (rt [.tmp 2,.tmp 3] _);repeat' ((with_reducible first|apply wr|refine cpc hv ?_|refine cpc hnm ?_|fail)<;>try simp only [go_sem,seval])
 refine AC.call (hhd _ _ 1 (by rw [A0];exact congrArg some (hck (0,0))) (by omega)) ?_;rintro v' H' c' ⟨rfl,rfl⟩ hcc;rw [A1];obtain ⟨s0,hs0⟩:∃ s0,s0=upS (0,0) (heaE r):=⟨_,rfl⟩;rw [<- hs0];have hb0:∀ b,((Sym.nil.upd 0 ⟨0,true,[D5 r.decls,E1 r.modes]⟩).upd 1 b) 0=some ⟨0,true,[D5 r.decls,E1 r.modes]⟩:=fun b=>rfl;simp only [go_sem,seval];repeat' ((with_reducible apply wr)<;>try simp only [go_sem,seval,hb0])
 have hG0:∀ j,1<=j->(Sym.nil.upd 0 ⟨0,true,[D5 r.decls,E1 r.modes]⟩) j=none:=fun j hj=>by rw [A2 (by omega)];rfl
 generalize Sym.nil.upd 0 ⟨0,true,[D5 r.decls,E1 r.modes]⟩=G0 at hG0 ⊢;clear hb0 hs0 hhd;refine C2 (fun i:Nat=>[(4,.ptr 1 0),(20,E1 r.modes),(21,I64 r.modes.length),(22,I64 i)]) (fun i=>G0.upd 1 (ckB r (upS s0 (erM r (r.modes.take i))))) (fun i c=>2<=c/\i<=r.modes.length) (fun i=>r.modes.length-i) 0 (by simp [C1,tm,Tm.upd]) (by rw [List.take_zero,erM,J4];exact Sub.refl _) ⟨by omega,Nat.zero_le _⟩ ?_;rintro i c ⟨h1c,hki⟩;by_cases hlt:i<r.modes.length
 ·have hd:decide ((i:Int)<r.modes.length)=true:=by simpa using hlt
  have hg:=List.getElem?_eq_getElem hlt;have hw:=w64 (n:=(i:Int)+1) (by omega) (by omega);have hms:=hms _ (List.getElem_mem hlt);have hbv:=hbv _ (List.getElem_mem hlt);have het:=erM_take (r:=r) hg;generalize r.modes[i]=d at hg hms hbv het;have hhl:=sz_hl d;obtain ⟨s1,hs1⟩:∃ s1,s1=upS s0 (erM r (r.modes.take i)):=⟨_,rfl⟩;rw [<- hs1];have hfin:upS s0 (erM r (r.modes.take (i+1)))=upS s1 (erH r [] d.hds):=by rw [het, <- J3 (nz_M _ _), <- hs1]
  have ne0:=M2 1 c (by omega);repeat' ((with_reducible apply wr)<;>try simp only [go_sem,seval,hd,hg,md_w,ne0,A0,A1])
  obtain ⟨G,hG⟩:∃ G,G=G0.upd c ⟨0,true,[.str d.name,I64 d.prio,T6 d.hds,I64 d.pos]⟩:=⟨_,rfl⟩;have hGc:∀ b,(G.upd 1 b) c=some ⟨0,true,[.str d.name,I64 d.prio,T6 d.hds,I64 d.pos]⟩:=fun b=>by rw [A2 (by omega),hG,A0]
  have hGn:∀ j,c+1<=j->G j=none:=fun j hj=>by rw [hG,A2 (by omega)];exact hG0 j (by omega)
  rw [A6f (by omega), <- hG];refine C2 (fun j:Nat=>[(4,.ptr 1 0),(6,.ptr c 0),(20,E1 r.modes),(21,I64 r.modes.length),(22,I64 i),(27,T6 d.hds),(28,I64 d.hds.length),(29,I64 j)]) (fun j=>G.upd 1 (ckB r (upS s1 (erH r [] (d.hds.take j))))) (fun j c2=>c+1<=c2/\j<=d.hds.length) (fun j=>d.hds.length-j) 0 (by simp [C1,tm,Tm.upd]) (by rw [List.take_zero,erH,J4];exact Sub.refl _) ⟨by omega,Nat.zero_le _⟩ ?_;rintro j c2 ⟨h2c,hkj⟩;by_cases hlt2:j<d.hds.length
  ·have hd2:decide ((j:Int)<d.hds.length)=true:=by simpa using hlt2
   have hg2:=List.getElem?_eq_getElem hlt2;have hw2:=w64 (n:=(j:Int)+1) (by omega) (by omega);have hxs:=sz_hd (List.getElem_mem hlt2);have hbv:=hbv _ (List.getElem_mem hlt2);have heH:=erH_take (r:=r) hg2;generalize d.hds[j]=x at hg2 hxs hbv heH;have hxe:x.sz=1+x.name.length+Pb.St.szs x.body:=rfl;have hbl:=c_blk32 r hk _ x.body 1 (Nat.lt_succ_self _) (by omega) hbv;have hik:=c_inH32 x.trig;have hcf:=c_CF_hd (f:=46) (a:=[]) (cs:=[.fptr [I64 x.trig,.str x.name,F7 x.body,I64 x.pos]]) (g:=fun y=>y.trig == x.trig && y.name == x.name) (d.hds.take j) (by rw [List.length_take];omega) rfl (by simp [DV.nlL,DV.nl,Q9]) (fun y _=>c_chk1 y x);obtain ⟨o,ho⟩:∃ o,o=erH r [] (d.hds.take j):=⟨_,rfl⟩;have hno:NzE o:=by rw [ho];exact nz_H _ _ _
   rw [<- ho] at heH ⊢;have hsl:=fun H=>r_slcl (xs:=d.hds.map Hd.v) (h:=j) (sz:=4) (by rw [List.length_map];omega) (A1h _) H;rw [<- List.map_take] at hsl;have ne0:=R8 1 c c2 (by omega);repeat' ((with_reducible first|apply wr|refine cpc hik ?_|fail)<;>try simp only [go_sem,seval,hd2,hg2,hdl_w,ne0,A0,A1,hGc])
   obtain ⟨G2,hG2⟩:∃ G2,G2=G.upd c2 ⟨0,true,[I64 x.trig,.str x.name,F7 x.body,I64 x.pos]⟩:=⟨_,rfl⟩;have h2c2:∀ b,(G2.upd 1 b) c2=some ⟨0,true,[I64 x.trig,.str x.name,F7 x.body,I64 x.pos]⟩:=fun b=>by rw [A2 (by omega),hG2,A0]
   have h2c:∀ b,(G2.upd 1 b) c=some ⟨0,true,[.str d.name,I64 d.prio,T6 d.hds,I64 d.pos]⟩:=fun b=>by rw [A2 (by omega),hG2,A2 (by omega),hG,A0]
   have h2n:∀ j,c2+1<=j->G2 j=none:=fun j hj=>by rw [hG2,A2 (by omega)];exact hGn j (by omega)
   rw [A6f (by omega), <- hG2];refine ⟨by and_intros<;>(rw [A2 (by omega)];exact h2n _ (by omega)),?_⟩;refine AC.call (c_den32 r hk (upS s1 o) _ _ 1 A0 (by omega) x.name (kdH x.trig) x.pos) ?_;rintro v' H' c3 ⟨rfl,rfl⟩ hc3;rw [A1,J3 hno];obtain ⟨o2,ho2⟩:∃ o2,o2=o.or (dnE r x.name (kdH x.trig) x.pos):=⟨_,rfl⟩;have hno2:NzE o2:=by rw [ho2];exact hno.or (A8e _ _ _ _)
   have heH2:erH r [] (d.hds.take (j+1))=(o2.or (if (d.hds.take j).any (fun y=>y.trig == x.trig && y.name == x.name)=true then some (x.pos,7) else none)).or (erB r x.body):=by
    rw [heH,ho2];unfold stH;simp only [Option.or_assoc]
   rw [<- ho2];simp only [go_sem,seval];generalize (d.hds.take j).any (fun y=>y.trig == x.trig && y.name == x.name)=bq at hcf heH2;have kE:∀ (s2:Int × Int) (c4:Nat),c2+1<=c4->upS s1 (erH r [] (d.hds.take (j+1)))=upS s2 (erB r x.body)->IW Tryz.prog 67 u17_26 ⟨tm [(4,.ptr 1 0),(6,.ptr c 0),(8,.ptr c2 0),(20,E1 r.modes),(21,I64 r.modes.length),(22,I64 i),(27,T6 d.hds),(28,I64 d.hds.length),(29,I64 j)],G2.upd 1 (ckB r s2),c4⟩ (bk 3
      (sq Tryz.prog 67 u17_27
       (lp (fun j:Nat=>[(4,DV.ptr 1 0),(6,DV.ptr c 0),(20,E1 r.modes),(21,I64 r.modes.length),(22,I64 i),(27,T6 d.hds),(28,I64 d.hds.length),(29,I64 j)])
        (fun j:Nat=>G.upd 1 (ckB r (upS s1 (erH r [] (d.hds.take j)))))
        (fun j c2=>c+1<=c2/\j<=d.hds.length) (fun j=>d.hds.length-j) (d.hds.length-j)
        (bk 2
         (bk 1
          (sq Tryz.prog 67 u17_28
           (lp (fun i:Nat=>[(4,DV.ptr 1 0),(20,E1 r.modes),(21,I64 r.modes.length),(22,I64 i)])
            (fun i:Nat=>G0.upd 1 (ckB r (upS s0 (erM r (r.modes.take i)))))
            (fun i c=>2<=c/\i<=r.modes.length) (fun i=>r.modes.length-i) (r.modes.length-i)
            (bk 0
             (sq Tryz.prog 67 u17_29
              (rt [Eng.RV.tmp 2,Eng.RV.tmp 3] fun v H' x =>
               ∃ H2,GL H' [v] H2 [DV.tup [I64 (upS s0 (erM r r.modes)).1,I64 (upS s0 (erM r r.modes)).2]])))))))))):=by
    intro s2 c4 hc4 hs2;repeat' ((with_reducible apply wr)<;>try simp only [go_sem,seval,h2c2,h2c])
    refine AC.call (hbl s2 _ _ 1 A0 (by omega)) ?_;rintro v' H' c5 ⟨rfl,rfl⟩ hc5;rw [A1, <- hs2];simp only [go_sem,seval,hw2];repeat' ((with_reducible apply wr)<;>try simp only [go_sem,seval,hw2])
    refine ⟨j+1,by simp,?_,inv ⟨by omega,by omega⟩,by omega⟩;rw [hG2];exact A5k (fun j hj=>hGn j (by omega)) (by omega)
   cases bq with
   | true =>
    rw [if_pos rfl] at heH2;repeat' ((first|(with_reducible first|refine wr ?_)|(refine AC.call (hcf.lend rfl (GL.one (id:=c2) (b:=⟨0,true,[I64 x.trig,.str x.name,F7 x.body,I64 x.pos]⟩) (h2c2 _) rfl (.cons _ _ _ _ (.same _) (.cons _ _ _ _ (.func _ _ _ _ _ .nil (.cons _ _ _ _ (.ptr 0 _ (Nat.zero_le _) rfl) .nil)) .nil)))) ?_<;>rintro v' H' c' ⟨rfl,rfl,rfl⟩ hcc)|fail)<;>try simp only [go_sem,seval,h2c2,h2c,hsl])
    refine AC.call (c_fail32 r (upS s1 o2) _ _ 1 A0 (by omega) x.pos 7) ?_;rintro v' H' c5 ⟨rfl,rfl⟩ hc5;rw [A1,J3 hno2];simp only [go_sem,seval];repeat' ((with_reducible first|refine H4 (p:=IW _ _ u17_26 _ _) ?_|refine wr ?_|fail)<;>try simp only [go_sem,seval])
    refine IW.stage (by simp [C1,tm,Tm.upd]) (kE _ _ (by omega) ?_);rw [heH2,J3 (hno2.or (fun a b h=>by cases h;decide))]
   | false =>
    rw [if_neg (by decide),Option.or_none] at heH2;repeat' ((first|(with_reducible first|refine H4 (p:=IW _ _ u17_26 _ _) ?_|refine wr ?_)|(refine AC.call (hcf.lend rfl (GL.one (id:=c2) (b:=⟨0,true,[I64 x.trig,.str x.name,F7 x.body,I64 x.pos]⟩) (h2c2 _) rfl (.cons _ _ _ _ (.same _) (.cons _ _ _ _ (.func _ _ _ _ _ .nil (.cons _ _ _ _ (.ptr 0 _ (Nat.zero_le _) rfl) .nil)) .nil)))) ?_<;>rintro v' H' c' ⟨rfl,rfl,rfl⟩ hcc)|fail)<;>try simp only [go_sem,seval,h2c2,h2c,hsl])
    refine IW.stage (by simp [C1,tm,Tm.upd]) (kE _ _ (by omega) ?_);rw [heH2,J3 hno2]
  have hd2:decide ((j:Int)<d.hds.length)=false:=by simpa using hlt2
  rw [List.take_of_length_le (by omega)];repeat' ((with_reducible apply wr)<;>try simp only [go_sem,seval,hd2,hw])
  refine ⟨i+1,by simp,?_,inv ⟨by omega,by omega⟩,by omega⟩;rw [hfin,hG];exact A5k (fun j hj=>hG0 j (by omega)) (by omega)
 have hd:decide ((i:Int)<r.modes.length)=false:=by simpa using hlt
 rw [List.take_of_length_le (by omega)];have hb1:(G0.upd 1 (ckB r (upS s0 (erM r r.modes)))) 1=some (ckB r (upS s0 (erM r r.modes))):=A0;have hcs:=(hck (upS s0 (erM r r.modes))).symm;have hbn:∀ j,c<=j->(G0.upd 1 (ckB r (upS s0 (erM r r.modes)))) j=none:=fun j hj=>by rw [A2 (by omega)];exact hG0 j (by omega)
 rw [hcs] at hb1 hbn ⊢;repeat' ((with_reducible apply wr)<;>try simp only [go_sem,seval,hd,hb1])
 refine ⟨by and_intros<;>exact hG0 _ (by omega),?_⟩;repeat' ((with_reducible apply wr)<;>try simp only [go_sem,seval,hb1])
 exact A8 rfl
theorem c_TypeOf32 (r:Ru) (e:Ex) (hB:r.sz<4000000) (hE:e.sz<4000000):PC Tryz.prog 26 [r.v,e.v] (typV r e):=by
 have hv:=c_Valid r (by omega);have hve:=c_ValidExpr e (by omega);have hdl:=sz_dl r;have hml:=sz_ml r;have hnm:=c_names r (by omega) (by omega);refine PC.of A9 isU26 (Nat.le_of_ble_eq_true rfl) (by simp [Ru.v,DV.nlL,DV.nl,H7,H6,Ex.nl]) (typV_nl _ _) ?_;have hrv:r.v=.agg [D5 r.decls,E1 r.modes]:=rfl;unfold typV;cases hvd:O4 r with
 | false =>
  rw [hvd] at hv;rw [hrv] at hv ⊢;rw [Ex.v_w] at hve ⊢;show IW Tryz.prog 39 u26_1 ⟨B6 _,_,_⟩ (rt [.tmp 4,.tmp 5,.tmp 6] _);repeat' ((with_reducible first|apply wr|refine cpc hv ?_|refine cpc hve ?_|fail)<;>try simp only [go_sem,seval])
  exact A8 rfl
 | true =>
 have hk:=vld_kd hvd;rw [hvd] at hv;cases hev:N2 e with
 | false =>
  rw [hev] at hve;rw [hrv] at hv ⊢;rw [Ex.v_w] at hve ⊢;show IW Tryz.prog 39 u26_1 ⟨B6 _,_,_⟩ (rt [.tmp 4,.tmp 5,.tmp 6] _);repeat' ((with_reducible first|apply wr|refine cpc hv ?_|refine cpc hve ?_|fail)<;>try simp only [go_sem,seval])
  exact A8 rfl
 | true =>
 rw [hev] at hve;obtain ⟨q,hq⟩:=vlEx_ms hev;have hex:=c_exp32 r hk _ e (Nat.lt_succ_self _) (by omega) ⟨q,hq⟩ (0,0);have hty:=c_typ32 e.kind (A9v hq);rw [show (true && true)=true from rfl,if_pos rfl];have hnz:=nz_E r e;unfold tyV;obtain ⟨K,V,hKV⟩:∃ K V,nmV r=.mp .s K V:=⟨_,_,rfl⟩;have hck:∀ s:Int × Int,(⟨0,true,[.mp .s K V,I64 s.1,I64 s.2]⟩:Blk)=ckB r s:=fun s=>by unfold ckB;rw [hKV]
 rw [hKV] at hnm;rw [hrv] at hv hnm ⊢;rw [Ex.v_w] at hve hex ⊢;show IW Tryz.prog 39 u26_1 ⟨B6 _,_,_⟩ (rt [.tmp 4,.tmp 5,.tmp 6] _);repeat' ((with_reducible first|apply wr|refine cpc hv ?_|refine cpc hve ?_|refine cpc hnm ?_|fail)<;>try simp only [go_sem,seval])
 refine AC.call (hex _ _ 2 (by rw [A0];exact congrArg some (hck (0,0))) (by omega)) ?_;rintro v' H' c' ⟨rfl,rfl⟩ hcc;rw [A1, <- hck];cases her:erE r e with
 | some q =>
  obtain ⟨p,c⟩:=q;have hnc:(c != 0)=true:=by simpa using hnz _ _ her
  have hup:upS (0,0) (some (p,c))=(p,c):=rfl;rw [hup];dsimp only;simp only [go_sem,seval,hnc];repeat' ((with_reducible first|apply wr|refine cpc hty ?_|fail)<;>try simp only [go_sem,seval,hnc])
  refine ⟨by (try and_intros)<;>(repeat rw [A2 (by omega)])<;>rfl,?_⟩;repeat' ((with_reducible first|apply wr|refine cpc hty ?_|fail)<;>try simp only [go_sem,seval,hnc])
  exact A8 rfl
 | none =>
  have hup:upS (0,0) none=(0,0):=rfl;rw [hup];dsimp only;simp only [go_sem,seval];repeat' ((with_reducible first|apply wr|refine cpc hty ?_|fail)<;>try simp only [go_sem,seval])
  exact A8 rfl
theorem c_Lookup32 (r:Ru) (n:List UInt8) (hB:r.sz<4000000):PC Tryz.prog 28 [r.v,.str n] (lokV r n):=by
 have hv:=c_Valid r (by omega);have hdl:=sz_dl r;have hml:=sz_ml r;have hnm:=c_names r (by omega) (by omega);refine PC.of A9 isU28 (Nat.le_of_ble_eq_true rfl) (by simp [Ru.v,DV.nlL,DV.nl,H7,H6]) (lkV_nl _ _) ?_;have hrv:r.v=.agg [D5 r.decls,E1 r.modes]:=rfl;unfold lokV;cases hvd:O4 r with
 | false =>
  rw [hvd] at hv;rw [hrv] at hv ⊢;show IW Tryz.prog 18 u28_1 ⟨B6 _,_,_⟩ (rt [.tmp 4,.tmp 5] _);repeat' ((with_reducible first|apply wr|refine cpc hv ?_|fail)<;>try simp only [go_sem,seval])
  exact A8 rfl
 | true =>
 have hk:=vld_kd hvd;rw [hvd] at hv;rw [if_pos rfl];unfold nmV at hnm;have hlk:Sym.lkV (.agg [I64 0,I64 0]) false (mvV (T5 (nmL r))) (E7 (.str n) (mkK (T5 (nmL r))) 0)=some (.agg [I64 (R9 r n).1,I64 (R9 r n).2]):=by
  cases hl:(nmL r).lookup n with
  | some q =>
   obtain ⟨h1,h2⟩:=nm_some hk hl;rw [h1];exact A5t (ok:=false) (by rw [N4,hl];rfl)
  | none =>
   rw [nm_none hk hl];exact A5u (ok:=false) (by rw [N4,hl];rfl)
 rw [hrv] at hv hnm ⊢;show IW Tryz.prog 18 u28_1 ⟨B6 _,_,_⟩ (rt [.tmp 4,.tmp 5] _);repeat' ((with_reducible first|apply wr|refine cpc hv ?_|refine cpc hnm ?_|fail)<;>try simp only [go_sem,seval,hlk])
 exact A8 rfl
end Go.Proofs.YtnmkkggfgdfmeaaGreatDoor
namespace Go.Pb
variable [Go.Sym.Tab]
open Go.Sym
mutual
def exN (sn:List (List UInt8)):Ex->List (List UInt8)
 | .mk k v n a p=>A0i (V4 sn n) a
def A0i (sn:List (List UInt8)):List Ex->List (List UInt8)
 | []=>sn
 | x :: l=>A0i (exN sn x) l
end
mutual
def stN (sn:List (List UInt8)):St->List (List UInt8)
 | .mk k n t a x y p=>Y9 (Y9 (A0i (V4 sn n) a) x) y
def Y9 (sn:List (List UInt8)):List St->List (List UInt8)
 | []=>sn
 | s :: l=>Y9 (stN sn s) l
end
theorem exN_e (sn:List (List UInt8)) (e:Ex):exN sn e=A0i (V4 sn e.name) e.args:=by
 cases e with|mk k v n a p=>rw [exN];rfl
theorem stN_e (sn:List (List UInt8)) (s:St):stN sn s=Y9 (Y9 (A0i (V4 sn s.name) s.args) s.thn) s.els:=by
 cases s with|mk k n t a x y p=>rw [stN];rfl
theorem A8r {x:Ex}:∀ {l:List Ex} {i:Nat} {sn:List (List UInt8)},l[i]? = some x->A0i sn (l.take (i+1))=exN (A0i sn (l.take i)) x
 | y :: l,0,sn,h=>by cases h;simp [A0i]
 | y :: l,i+1,sn,h=>by rw [List.take_succ_cons,List.take_succ_cons,A0i,A0i,A8r (by simpa using h)]
theorem A7z {x:St}:∀ {l:List St} {i:Nat} {sn:List (List UInt8)},l[i]? = some x->Y9 sn (l.take (i+1))=stN (Y9 sn (l.take i)) x
 | y :: l,0,sn,h=>by cases h;simp [Y9]
 | y :: l,i+1,sn,h=>by rw [List.take_succ_cons,List.take_succ_cons,Y9,Y9,A7z (by simpa using h)]
def hdN (sn:List (List UInt8)) (h:Hd):List (List UInt8):=Y9 (V4 sn h.name) h.body
def mdN (sn:List (List UInt8)) (m:Md):List (List UInt8):=m.hds.foldl hdN sn
def ruN (r:Ru):List (List UInt8):=r.modes.foldl mdN []
theorem A8o {α β : Type} {f : β -> α -> β} {b : β} {l:List α} {i:Nat} {x : α} (h:l[i]? = some x):(l.take (i+1)).foldl f b=f ((l.take i).foldl f b) x:=by
 rw [List.take_add_one,h,List.foldl_append];rfl
mutual
theorem exN_has (m:List UInt8) (h0:m≠[]):∀ (e:Ex) (sn:List (List UInt8)),(∃ q,msM e=some q)->(exN sn e).contains m=(sn.contains m || inE m e)
 | .mk k v n a p,sn,⟨q,hq⟩=>by
  rw [exN,A7e m h0 a _ (A9w hq),A0m,inE,Bool.or_assoc]
  congr 2
  obtain ⟨o,d⟩:=q;obtain ⟨-, -,m3, -⟩:=A4c hq;by_cases hk:k=2\/k=5\/k=6\/k=7
  ·have:(kdE k != 0)=true:=by unfold kdE;rcases hk with rfl|rfl|rfl|rfl<;>decide
   rw [this,Bool.true_and,Bool.eq_iff_iff];simp;exact eq_comm
  ·have e0:(kdE k != 0)=false:=by
    unfold kdE;rw [if_neg (by omega),if_neg (by omega),if_neg (by omega),if_neg (by omega)];rfl
   rw [e0,Bool.false_and];unfold A0h at m3;rw [if_neg (by unfold A9u;simp;omega)] at m3;have hn:n=[]:=by simpa using m3
   rw [hn];simpa using h0
theorem A7e (m:List UInt8) (h0:m≠[]):∀ (l:List Ex) (sn:List (List UInt8)),(∀ e∈l, ∃ q,msM e=some q)->(A0i sn l).contains m=(sn.contains m || inEs m l)
 | [],sn,_=>by rw [A0i,inEs,Bool.or_false]
 | x :: l,sn,h=>by
  rw [A0i,A7e m h0 l _ (fun e he=>h e (List.mem_cons_of_mem _ he)),exN_has m h0 x _ (h x List.mem_cons_self),inEs,Bool.or_assoc]
end
mutual
theorem stN_has (m:List UInt8) (h0:m≠[]):∀ (s:St) (sn:List (List UInt8)) (d:Nat),P9 d s=true->(stN sn s).contains m=(sn.contains m || inS m s)
 | .mk k n t a x y p,sn,d,hv=>by
  obtain ⟨v1,v2,v3⟩:=A6d hv;rw [stN,A2q m h0 y _ _ v3,A2q m h0 x _ _ v2,A7e m h0 a _ v1,A0m,inS];have:(m == n)=(n == m):=by rw [Bool.eq_iff_iff];simp;exact eq_comm
  rw [this];simp only [Bool.or_assoc]
theorem A2q (m:List UInt8) (h0:m≠[]):∀ (l:List St) (sn:List (List UInt8)) (d:Nat),G6 d l=true->(Y9 sn l).contains m=(sn.contains m || inB m l)
 | [],sn,d,_=>by rw [Y9,inB,Bool.or_false]
 | s :: l,sn,d,h=>by
  rw [G6,Bool.and_eq_true] at h;rw [Y9,A2q m h0 l _ _ h.2,stN_has m h0 s _ _ h.1,inB,Bool.or_assoc]
end
theorem mdN_has (m:List UInt8) (h0:m≠[]):∀ (l:List Hd) (sn:List (List UInt8)),(∀ h∈l,G6 1 h.body=true)->(l.foldl hdN sn).contains m=(sn.contains m || l.any fun h=>h.name == m || inB m h.body)
 | [],sn,_=>by simp
 | h :: l,sn,hv=>by
  rw [List.foldl_cons,mdN_has m h0 l _ (fun x hx=>hv x (List.mem_cons_of_mem _ hx)),hdN,A2q m h0 _ _ _ (hv h List.mem_cons_self),A0m,List.any_cons];have:(m == h.name)=(h.name == m):=by rw [Bool.eq_iff_iff];simp;exact eq_comm
  rw [this];simp only [Bool.or_assoc]
theorem ruN_has {r:Ru} (hv:O4 r=true) (m:List UInt8) (h0:m≠[]):(ruN r).contains m=usdM r m:=by
 have hb:=vld_body hv;unfold ruN usdM;have go:∀ (l:List Md) (sn:List (List UInt8)),(∀ x∈l, ∀ h∈x.hds,G6 1 h.body=true)->(l.foldl mdN sn).contains m=(sn.contains m || l.any fun x=>x.hds.any fun h=>h.name == m || inB m h.body):=by
  intro l
  induction l with
  | nil=>intro sn _;simp
  | cons x l ih =>
   intro sn h;rw [List.foldl_cons,ih _ (fun y hy=>h y (List.mem_cons_of_mem _ hy)),mdN,mdN_has m h0 _ _ (h x List.mem_cons_self),List.any_cons,Bool.or_assoc]
 rw [go _ _ hb];rfl
theorem vld_dn {r:Ru} (h:O4 r=true):∀ d∈r.decls,d.name≠[]:=by
 intro d hd e;unfold O4 at h;simp only [Bool.and_eq_true] at h;have h1:=List.all_eq_true.1 h.1.2 d hd;unfold A0k at h1;simp only [Bool.and_eq_true] at h1;have h2:=h1.1.1.2;rw [e] at h2;exact absurd h2 (by decide)
end Go.Pb
namespace Go.Proofs.YtnmkkggfgdfmeaaGreatDoor
open Go.Eng (IC IOper DReg IFn A6)
open Go.Sym Go.Pb
theorem sub_todoM {H0 HH HH':Hp} {o:Option Nat} {n id:Nat} {b1 b b':Blk} (hHH:C4 H0 o b1=HH) (hn:∀ j,n<=j->H0 j=none) (ho:∀ i,o=some i->n<=i) (hx:∀ j,j<n->HH' j=HH j) (h:b=b') :
  Sym.Sub (C4 H0 (some id) b) ((I0 HH' o).upd id b'):=by
 subst h;intro j q hj;simp only [C4] at hj;by_cases e:j=id
 ·subst e;rw [A0] at hj ⊢;exact hj
 ·rw [A2 e] at hj ⊢;have hj2:j<n:=Nat.lt_of_not_le fun h2=>by rw [hn j h2] at hj;cases hj
  have hHj:HH' j=some q:=by rw [hx j hj2, <- hHH,C9 (fun i hi=>by have:=ho i hi;omega)];exact hj
  cases o with
  | none=>simp only [I0];exact hHj
  | some i =>
   have:=ho i rfl;simp only [I0,Hp.del];rw [if_neg (by omega)];exact hHj
theorem c_exN:∀ (m:Nat) (l:List Ex),Ex.szs l<m->Ex.szs l<=100000000->∀ (sn:List (List UInt8)) (H:Hp) (cc mm:Nat) (hm:H mm=some (T3 sn)) (hmc:mm<cc),
  AC Tryz.prog 91 [F4 l,.mid mm] H cc (fun v H' c'=>v=.tup []/\H'=H.upd mm (T3 (A0i sn l))):=by
 intro m
 induction m with
 | zero=>intro l h;omega
 | succ m ih =>
 intro l hm hB sn H cc mm hmm hmc;have hl:=Ex.szs_len l;refine AC.body A9 isU91 (Nat.le_of_ble_eq_true rfl) fun hfr=>?_;show IW Tryz.prog 20 u91_1 ⟨B6 _,_,_⟩ (rt [] _);repeat' ((with_reducible apply wr)<;>try simp only [go_sem,seval])
 have hHt:H=H.upd mm (T3 sn):=(upd_same hmm).symm;refine C2 (fun i:Nat=>[(1,.mid mm),(6,F4 l),(7,I64 l.length),(8,I64 i)]) (fun i=>H.upd mm (T3 (A0i sn (l.take i)))) (fun i c=>cc<=c/\i<=l.length) (fun i=>l.length-i) 0 (by simp [C1,tm,Tm.upd]) (by rw [List.take_zero,A0i, <- hHt];exact Sub.refl _) ⟨by omega,Nat.zero_le _⟩ ?_;rintro i c ⟨h1c,hki⟩;by_cases hlt:i<l.length
 ·have hd:decide ((i:Int)<l.length)=true:=by simpa using hlt
  have hg:=List.getElem?_eq_getElem hlt;have hw:=w64 (n:=(i:Int)+1) (by omega) (by omega);have hsx:=Ex.szs_mem (List.getElem_mem hlt);have het:=A8r (sn:=sn) hg;generalize l[i]=x at hg hsx het;have hax:Ex.szs x.args<x.sz:=by cases x with|mk k v n a p=>rw [Ex.sz];show Ex.szs a<_;omega
  have hc:=ih x.args (by omega) (by omega);rw [exN_e] at het;generalize A0i sn (l.take i)=s0 at het ⊢;have hmu:=fun H c id u=>A9j x.name s0 H c id u;have hmB:(H.upd mm (T3 s0)) mm=some (T3 s0):=A0;have ne0:=M2 mm c (by omega);repeat' ((with_reducible apply wr)<;>try simp only [go_sem,seval,hd,hg,Ex.v_w,ne0,A0,A1,hmu])
  refine AC.call (hc (V4 s0 x.name) _ _ mm A0 (by omega)) ?_;rintro v' H' c2 ⟨rfl,rfl⟩ hc2;rw [<- het];simp only [go_sem,seval,hw];repeat' ((with_reducible apply wr)<;>try simp only [go_sem,seval,hw])
  refine ⟨i+1,by simp,?_,inv ⟨by omega,by omega⟩,by omega⟩;rw [A1];exact Y8 (fun j hj=>hfr j (by omega)) (by omega)
 have hd:decide ((i:Int)<l.length)=false:=by simpa using hlt
 rw [List.take_of_length_le (by omega)];repeat' ((with_reducible apply wr)<;>try simp only [go_sem,seval,hd])
 exact ⟨_,_,GL.refl _ _,rfl,rfl⟩
theorem c_stN:∀ (m:Nat) (l:List Pb.St),Pb.St.szs l<m->Pb.St.szs l<=100000000->∀ (sn:List (List UInt8)) (H:Hp) (cc mm:Nat) (hm:H mm=some (T3 sn)) (hmc:mm<cc),
  AC Tryz.prog 50 [F7 l,.mid mm] H cc (fun v H' c'=>v=.tup []/\H'=H.upd mm (T3 (Y9 sn l))):=by
 intro m
 induction m with
 | zero=>intro l h;omega
 | succ m ih =>
 intro l hm hB sn H cc mm hmm hmc;have hl:=Pb.St.szs_len l;refine AC.body A9 isU50 (Nat.le_of_ble_eq_true rfl) fun hfr=>?_;show IW Tryz.prog 28 u50_1 ⟨B6 _,_,_⟩ (rt [] _);repeat' ((with_reducible apply wr)<;>try simp only [go_sem,seval])
 have hHt:H=H.upd mm (T3 sn):=(upd_same hmm).symm;refine C2 (fun i:Nat=>[(1,.mid mm),(6,F7 l),(7,I64 l.length),(8,I64 i)]) (fun i=>H.upd mm (T3 (Y9 sn (l.take i)))) (fun i c=>cc<=c/\i<=l.length) (fun i=>l.length-i) 0 (by simp [C1,tm,Tm.upd]) (by rw [List.take_zero,Y9, <- hHt];exact Sub.refl _) ⟨by omega,Nat.zero_le _⟩ ?_;rintro i c ⟨h1c,hki⟩;by_cases hlt:i<l.length
 ·have hd:decide ((i:Int)<l.length)=true:=by simpa using hlt
  have hg:=List.getElem?_eq_getElem hlt;have hw:=w64 (n:=(i:Int)+1) (by omega) (by omega);have hsx:=Pb.St.szs_mem (List.getElem_mem hlt);have het:=A7z (sn:=sn) hg;generalize l[i]=x at hg hsx het;have hax:Ex.szs x.args<x.sz:=by cases x with|mk k n t a x y p=>rw [Pb.St.sz];show Ex.szs a<_;omega
  have hc:=c_exN _ x.args (Nat.lt_succ_self _) (by omega);have hX:=ih x.thn (by have:=x.sz_thn;omega) (by have:=x.sz_thn;omega);have hY:=ih x.els (by have:=x.sz_els;omega) (by have:=x.sz_els;omega);rw [stN_e] at het;generalize Y9 sn (l.take i)=s0 at het ⊢;have hmu:=fun H c id u=>A9j x.name s0 H c id u;have ne0:=M2 mm c (by omega);repeat' ((with_reducible apply wr)<;>try simp only [go_sem,seval,hd,hg,Pb.St.v_w,ne0,A0,A1,hmu])
  refine AC.call (hc (V4 s0 x.name) _ _ mm A0 (by omega)) ?_;rintro v' H' c2 ⟨rfl,rfl⟩ hc2;rw [A1];simp only [go_sem,seval,ne0,A0,A1];repeat' ((with_reducible apply wr)<;>try simp only [go_sem,seval,hd,hg,Pb.St.v_w,ne0,A0,A1])
  refine AC.call (hX (A0i (V4 s0 x.name) x.args) _ _ mm A0 (by omega)) ?_;rintro v' H' c3 ⟨rfl,rfl⟩ hc3;rw [A1];simp only [go_sem,seval,ne0,A0,A1];repeat' ((with_reducible apply wr)<;>try simp only [go_sem,seval,hd,hg,Pb.St.v_w,ne0,A0,A1])
  refine AC.call (hY _ _ _ mm A0 (by omega)) ?_;rintro v' H' c4 ⟨rfl,rfl⟩ hc4;rw [A1, <- het];simp only [go_sem,seval,hw];repeat' ((with_reducible apply wr)<;>try simp only [go_sem,seval,hw])
  refine ⟨i+1,by simp,?_,inv ⟨by omega,by omega⟩,by omega⟩;exact Y8 (fun j hj=>hfr j (by omega)) (by omega)
 have hd:decide ((i:Int)<l.length)=false:=by simpa using hlt
 rw [List.take_of_length_le (by omega)];repeat' ((with_reducible apply wr)<;>try simp only [go_sem,seval,hd])
 exact ⟨_,_,GL.refl _ _,rfl,rfl⟩
theorem c_Unused32 (r:Ru) (hB:r.sz<4000000):PC Tryz.prog 21 [r.v] (unuV r):=by
 refine PC.of A9 isU21 (Nat.le_of_ble_eq_true rfl) (by simp [Ru.v,DV.nlL,DV.nl,H7,H6]) (unuV_nl _) ?_;have hv:=c_Valid r (by omega);have hdl:=sz_dl r;have hml:=sz_ml r;have hms:∀ m∈r.modes,m.sz<=r.sz:=fun m h=>sz_md h;have hrv:r.v=.agg [D5 r.decls,E1 r.modes]:=rfl;unfold unuV;cases hvd:O4 r with
 | false =>
  rw [hvd] at hv;rw [hrv] at hv ⊢;show IW Tryz.prog 57 u21_1 ⟨B6 _,_,_⟩ (rt [.tmp 2] _);repeat' ((with_reducible first|apply wr|refine cpc hv ?_|fail)<;>try simp only [go_sem,seval])
  exact A9n
 | true =>
 rw [if_pos rfl];rw [hvd] at hv;obtain ⟨F,hF⟩:∃ F:Nat->List (List UInt8), ∀ k,F k=((r.decls.take k).filter fun d => !usdM r d.name).map Dc.name:=⟨_,fun _=>rfl⟩;have hF0:F 0=[]:=by rw [hF];rfl
 have hFe:unuM r=F r.decls.length:=by rw [hF,List.take_length];rfl
 have hFl:∀ k,(F k).length<=r.decls.length:=fun k=>by
  rw [hF,List.length_map];refine Nat.le_trans (List.length_filter_le _ _) ?_;rw [List.length_take];omega
 have hFs:∀ k d,r.decls[k]? = some d->F (k+1)=if (ruN r).contains d.name=true then F k else F k++[d.name]:=fun k d h=>by
  have hd0:=vld_dn hvd d (List.mem_of_getElem? h);rw [ruN_has hvd _ hd0,hF,hF,List.take_add_one,h,List.filter_append,List.map_append];show _++List.map Dc.name (List.filter _ [d])=_;rw [List.filter_cons];cases usdM r d.name<;>simp
 rw [hFe];rw [hrv] at hv ⊢;show IW Tryz.prog 57 u21_1 ⟨B6 _,_,_⟩ (rt [.tmp 2] _);repeat' ((with_reducible first|apply wr|refine cpc hv ?_|fail)<;>try simp only [go_sem,seval])
 obtain ⟨G0,hG0⟩:∃ G0,G0=Sym.nil.upd 0 ⟨0,true,[D5 r.decls,E1 r.modes]⟩:=⟨_,rfl⟩;have hz0:∀ b,(G0.upd 1 b) 0=some ⟨0,true,[D5 r.decls,E1 r.modes]⟩:=fun b=>by rw [A2 (by omega),hG0];exact A0
 have hzn:∀ j,1<=j->G0 j=none:=fun j hj=>by rw [hG0,A2 (by omega)];rfl
 rw [<- hG0];refine C2 (fun i:Nat=>[(1,.ptr 0 0),(3,.mid 1),(16,E1 r.modes),(17,I64 r.modes.length),(18,I64 i)]) (fun i=>G0.upd 1 (T3 ((r.modes.take i).foldl mdN []))) (fun i c=>2<=c/\i<=r.modes.length) (fun i=>r.modes.length-i) 0 (by simp [C1,tm,Tm.upd]) (Sub.refl _) ⟨by omega,Nat.zero_le _⟩ ?_;rintro i c ⟨h1c,hki⟩;by_cases hlt:i<r.modes.length
 ·have hd:decide ((i:Int)<r.modes.length)=true:=by simpa using hlt
  have hg:=List.getElem?_eq_getElem hlt;have hw:=w64 (n:=(i:Int)+1) (by omega) (by omega);have hms:=hms _ (List.getElem_mem hlt);have het:=A8o (f:=mdN) (b:=[]) hg;generalize r.modes[i]=d at hg hms het;have hhl:=sz_hl d;generalize (r.modes.take i).foldl mdN []=s0 at het ⊢;have ne0:=M2 1 c (by omega);repeat' ((with_reducible apply wr)<;>try simp only [go_sem,seval,hd,hg,md_w,ne0,A0,A1])
  obtain ⟨G,hG⟩:∃ G,G=G0.upd c ⟨0,true,[.str d.name,I64 d.prio,T6 d.hds,I64 d.pos]⟩:=⟨_,rfl⟩;have hGn:∀ j,c+1<=j->G j=none:=fun j hj=>by rw [hG,A2 (by omega)];exact hzn j (by omega)
  rw [A6f (by omega), <- hG];refine C2 (fun j:Nat=>[(1,.ptr 0 0),(3,.mid 1),(16,E1 r.modes),(17,I64 r.modes.length),(18,I64 i),(23,T6 d.hds),(24,I64 d.hds.length),(25,I64 j)]) (fun j=>G.upd 1 (T3 ((d.hds.take j).foldl hdN s0))) (fun j c2=>c+1<=c2/\j<=d.hds.length) (fun j=>d.hds.length-j) 0 (by simp [C1,tm,Tm.upd]) (Sub.refl _) ⟨by omega,Nat.zero_le _⟩ ?_;rintro j c2 ⟨h2c,hkj⟩;by_cases hlt2:j<d.hds.length
  ·have hd2:decide ((j:Int)<d.hds.length)=true:=by simpa using hlt2
   have hg2:=List.getElem?_eq_getElem hlt2;have hw2:=w64 (n:=(j:Int)+1) (by omega) (by omega);have hxs:=sz_hd (List.getElem_mem hlt2);have heH:=A8o (f:=hdN) (b:=s0) hg2;generalize d.hds[j]=x at hg2 hxs heH;have hxe:x.sz=1+x.name.length+Pb.St.szs x.body:=rfl;have hst:=c_stN _ x.body (Nat.lt_succ_self _) (by omega);generalize (d.hds.take j).foldl hdN s0=s1 at heH ⊢;have hmu:=fun H c id u=>A9j x.name s1 H c id u;have ne0:=M2 1 c2 (by omega);repeat' ((with_reducible apply wr)<;>try simp only [go_sem,seval,hd2,hg2,hdl_w,ne0,A0,A1,hmu])
   refine AC.call (hst (V4 s1 x.name) _ _ 1 A0 (by omega)) ?_;rintro v' H' c3 ⟨rfl,rfl⟩ hc3;rw [A1];have:Y9 (V4 s1 x.name) x.body=hdN s1 x:=rfl;rw [this, <- heH];simp only [go_sem,seval,hw2];repeat' ((with_reducible apply wr)<;>try simp only [go_sem,seval,hw2])
   refine ⟨j+1,by simp,?_,inv ⟨by omega,by omega⟩,by omega⟩;exact Y8 (fun j hj=>hGn j (by omega)) (by omega)
  have hd2:decide ((j:Int)<d.hds.length)=false:=by simpa using hlt2
  rw [List.take_of_length_le (by omega)];repeat' ((with_reducible apply wr)<;>try simp only [go_sem,seval,hd2,hw])
  refine ⟨i+1,by simp,?_,inv ⟨by omega,by omega⟩,by omega⟩;rw [het,hG];exact A5k (fun j hj=>hzn j (by omega)) (by omega)
 have hd:decide ((i:Int)<r.modes.length)=false:=by simpa using hlt
 rw [List.take_of_length_le (by omega)];have hru:r.modes.foldl mdN []=ruN r:=rfl;rw [hru];generalize ruN r=N at hFs ⊢;repeat' ((with_reducible apply wr)<;>try simp only [go_sem,seval,hd,hz0])
 clear hd hlt hki i;refine C2 (fun q:Nat × Option Nat=>[(3,.mid 1),(8,B5 q.2 (F q.1).length),(39,D5 r.decls),(40,I64 r.decls.length),(41,I64 q.1)]) (fun q=>C4 (G0.upd 1 (T3 N)) q.2 ⟨1,true,A5 ((F q.1).map DV.str)⟩)
  (fun q c=>2<=c/\q.1<=r.decls.length/\(q.2=none->F q.1=[])/\(∀ i,q.2=some i->2<=i/\i<c)) (fun q=>r.decls.length-q.1) (0,none)
  (by simp [C1,tm,Tm.upd,B5]) (Sub.refl _) ⟨h1c,Nat.zero_le _,fun _=>hF0,(fun i hi=>by cases hi)⟩ ?_
 clear h1c c;rintro ⟨i,o⟩ c ⟨h1c,hk,hno,ho⟩;dsimp only at hk hno ho ⊢;have hb1:C4 (G0.upd 1 (T3 N)) o ⟨1,true,A5 ((F i).map DV.str)⟩ 1=some (T3 N):=by rw [C9 (fun i hi=>by have:=ho i hi;omega)];exact A0
 have hbn:∀ j:Nat,c<=j->C4 (G0.upd 1 (T3 N)) o ⟨1,true,A5 ((F i).map DV.str)⟩ j=none:=fun j hj=>by rw [C9 (fun i hi=>by have:=ho i hi;omega),A2 (by omega)];exact hzn j (by omega)
 have hbo2:∀ j:Nat,o=some j->C4 (G0.upd 1 (T3 N)) o ⟨1,true,A5 ((F i).map DV.str)⟩ j=some ⟨1,true,A5 ((F i).map DV.str)⟩:=fun j hj=>by subst hj;exact A0
 generalize hHH:C4 (G0.upd 1 (T3 N)) o ⟨1,true,A5 ((F i).map DV.str)⟩=HH at hb1 hbn hbo2 ⊢;by_cases hlt:i<r.decls.length
 ·have hd:decide ((i:Int)<r.decls.length)=true:=by simpa using hlt
  have hg:=List.getElem?_eq_getElem hlt;have hw:=w64 (n:=(i:Int)+1) (by omega) (by omega);have hFs:=hFs i _ hg;generalize r.decls[i]=d at hg hFs;have hlk:=see_lk d.name N;generalize N.contains d.name=ub at hFs hlk;have ne0:=M2 1 c (by omega);cases ub with
  | true =>
   rw [if_pos rfl] at hFs;repeat' ((with_reducible apply wr)<;>try simp only [go_sem,seval,hb1,hd,hg,hw,A7h,hlk,ne0,A0,A1])
   refine ⟨(i+1,o),by simp [C1,tm,Tm.upd,hFs],?_,inv ⟨by omega,by omega,by rw [hFs];exact hno,(fun j hj=>by have:=ho j hj;omega)⟩,by simp only;omega⟩;simp only [hFs];rw [hHH];exact sub_frs (hbn c (Nat.le_refl _))
  | false =>
   rw [if_neg (by decide)] at hFs;repeat' ((with_reducible apply wr)<;>try simp only [go_sem,seval,hb1,hd,hg,hw,A7h,hlk,ne0,A0,A1])
   have hln:(A5 ((F i).map DV.str)).length=(F i).length * 1:=(B8 (u:=1) (J5 _)).trans (by simp);have hFk:=hFl i;refine F5 (F2 (cs:=A5 ((F i).map DV.str)) (fun e=>by rw [hno e];exact ⟨rfl,rfl⟩) (fun j hj=>by have:=ho j hj;rw [A2 (by omega),A2 (by omega)];exact hbo2 j hj) hln (by omega) (by omega) (by omega)) ?_;simp only [go_sem,seval,hw];repeat' ((with_reducible apply wr)<;>try simp only [go_sem,seval,hw])
   refine ⟨(i+1,some (c+1+1)),by simp [C1,tm,Tm.upd,B5,hFs],?_,inv ⟨by omega,by omega,(fun h=>by cases h),(fun j hj=>by cases hj;omega)⟩,by simp only;omega⟩;refine sub_todoM (n:=2) hHH (fun j hj=>by rw [A2 (by omega)];exact hzn j (by omega)) (fun i hi=>(ho i hi).1) (fun j hj=>by rw [A2 (by omega),A2 (by omega)]) ?_;simp only [hFs,List.map_append,C3];rfl
 have hd:decide ((i:Int)<r.decls.length)=false:=by simpa using hlt
 have hi:i=r.decls.length:=by omega
 subst hi;repeat' ((with_reducible apply wr)<;>try simp only [go_sem,seval,hd])
 rw [<- hHH];exact pc_todoX (fun h=>by rw [hno h];rfl) (by simp) (J5 _)
end Go.Proofs.YtnmkkggfgdfmeaaGreatDoor
end
