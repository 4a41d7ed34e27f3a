/-
  HELPERS of the claim: part 5 of its texts.
-/
import Derived.Test.YtnkkfehegdplgaaGreatDoorCcdd
noncomputable section
set_option linter.unusedVariables false
set_option linter.unusedSectionVars false
set_option linter.unusedSimpArgs false
namespace Go.Pb
variable [Go.Sym.Tab]
open Go.Sym
section
variable {L:List Tok} {E:Int}
theorem F1h:∀j:Nat,j<8->amT (A2 (F0.getD j [])) F0=(j:Int):=l9
theorem E6s:∀j:Nat,j<6->amT (A2 (F8.getD j [])) F8=(j:Int):=l9
theorem D2z:A0b (A2 [109,111,100,101])=true/\amT (A2 [109,111,100,101]) F0 = -1:=l9
theorem won:A0b (A2 [111,110])=true/\(A2 [111,110]).text≠[125]:=l9
theorem F7i:A0b (A2 [45])=true:=by rfl
theorem C5w{d:Dc}{k v:Int}{n:List UInt8}(h1:k=d.kind)(h2:n=d.name)(h3:v=d.value){p:Int}:Dc.plain ⟨k,n,v,p⟩=d.plain:=by
 subst h1 h2 h3;rfl
theorem B9f{d:Dc}(hv:A2j d=true){s:Rd}{post:List Tok}(h:L.drop s.i=dcT d++post)(hok:okR s=true):
  B8 L E s F0=d.kind-1/\(Z3 L E (d.kind-1) s).1.plain=d.plain/\(Z3 L E (d.kind-1) s).2.i=s.i+(dcT d).length/\okR (Z3 L E (d.kind-1) s).2=true:=by
 unfold A2j at hv;simp only[A0G,A0L]at hv;obtain⟨⟨⟨⟨k1,k8⟩,hn⟩,v0⟩,v1⟩:=hv;obtain⟨j,hj⟩:∃j:Nat,d.kind=1+(j:Int):=⟨(d.kind-1).toNat,by omega⟩;have hj8:j<8:=a8
 have hjn:(d.kind-1).toNat=j:=a8
 have a1:=F1h j hj8;have hT:dcT d=[A2 (F0.getD j [])]++F1 d.name++(if 6<d.kind then [] else if d.value<0 then [A2 [45]]++A0s (-d.value) else A0s d.value)++[A2 [59]]:=by
  unfold dcT
  grind
 rw[hT]at h ⊢;have h0:L.drop s.i=A2 (F0.getD j [])::(F1 d.name++((if 6<d.kind then [] else if d.value<0 then [A2 [45]]++A0s (-d.value) else A0s d.value)++(A2 [59]::post))):=j8
 have hpk:=D5 (E:=E) h0;have h1:=H7 h0;have htk:=A7i (E:=E) (s:=A5 s) h1 hok hn;have h2:=A2h (s:=A5 s) h1 (B6 d.name);refine⟨by grind[A1b],?_⟩;unfold Z3;dsimp only;rw[htk];dsimp only;by_cases h6:6<d.kind
 ·rw[if_pos h6]at h2 ⊢;rw[if_neg (by omega)];have h2:L.drop (A5 (A5 s)).i=A2 [59]::post:=h2;rw[Z1 h2 hok w59.1];refine⟨C5w (by omega) rfl ?_,?_,hok⟩
  ·omega
  ·simp only[A0A,A0I,B6,A0M];rfl
 ·rw[if_neg h6]at h2 ⊢;rw[if_pos (by omega)];rw[if_neg (by omega)]at v1;by_cases hneg:d.value<0
  ·have hk6:d.kind=6:=by
    by_cases hz:d.kind=6
    ·exact hz
    ·rw[if_neg hz]at v0;omega
   rw[if_pos hk6]at v0;rw[if_pos hneg]at h2 ⊢;have h3:L.drop (A5 (A5 s)).i=A2 [45]::(A0s (-d.value)++(A2 [59]::post)):=by rw[show L.drop (A5 (A5 s)).i=_ from h2];simp
   have hm:(d.kind-1+1==6&&isR L E (A5 (A5 s)) [45])=true:=by
    rw[A6v (show okR (A5 (A5 s))=true from hok),D5 h3,F7i,hk6];rfl
   rw[if_pos hm,if_pos hm];have h4:=H7 h3;have htk2:=B7x (E:=E) (s:=A5 (A5 (A5 s))) h4 hok (by omega) (by omega);rw[htk2];have h5:=A2h (s:=A5 (A5 (A5 s))) h4 (F7 _);have h5:L.drop (A5 (A5 (A5 (A5 s)))).i=A2 [59]::post:=h5;dsimp only;rw[Z1 h5 hok w59.1];refine⟨C5w (by omega) rfl (by omega),?_,hok⟩;simp only[A0A,A0I,B6,F7];rfl
  ·rw[if_neg hneg]at h2 ⊢;have h3:L.drop (A5 (A5 s)).i=A0s d.value++(A2 [59]::post):=h2;have hp3:B1 L E (A5 (A5 s))=⟨3,[],d.value,0⟩:=D5 (ts:=A2 [59]::post) (by rw[h3];unfold A0s;rw[if_neg (by omega)];rfl);have hm:(d.kind-1+1==6&&isR L E (A5 (A5 s)) [45])=false:=by
    rw[A6v (show okR (A5 (A5 s))=true from hok),hp3];simp[A0b]
   rw[hm];simp only[A1M,if_false];have htk2:=B7x (E:=E) (s:=A5 (A5 s)) h3 hok (by omega) (by omega);rw[htk2];have h5:=A2h (s:=A5 (A5 s)) h3 (F7 _);have h5:L.drop (A5 (A5 (A5 s))).i=A2 [59]::post:=h5;dsimp only;rw[Z1 h5 hok w59.1];refine⟨C5w (by omega) rfl rfl,?_,hok⟩;simp only[A0A,A0I,B6,F7];rfl
theorem A8j:∀(l acc:List Dc) (s:Rd) (post:List Tok),l.all A2j=true->acc.length+l.length<=128->amT (hd0 E post) F0<0->L.drop s.i=l.flatMap dcT++post->okR s=true ->
  ∃l' s',l'.map Dc.plain=l.map Dc.plain/\Evt (λf=>A1d L E f acc s) (acc++l',s')/\L.drop s'.i=post/\okR s'=true
 |[],acc,s,post,hv,hl,hp,h,hok=>by
  have h:L.drop s.i=post:=h;refine⟨[],s,rfl,Evt.one λf=>?_,h,hok⟩
  simp_all[A1d,A1b,B2r]
 |d::l,acc,s,post,hv,hl,hp,h,hok=>by
  simp only[A2Q,A0G]at hv;have h0:L.drop s.i=dcT d++(l.flatMap dcT++post):=by rw[h,A2B,A0K]
  obtain⟨e1,e2,e3,e4⟩:=B9f (E:=E) hv.1 h0 hok;have hk1:1<=d.kind:=by
   have:=hv.1;unfold A2j at this;simp only[A0G,A0L]at this;omega
  obtain⟨l',s',q1,q2,q3,q4⟩:=A8j l (acc++[(Z3 L E (d.kind-1) s).1]) (Z3 L E (d.kind-1) s).2 post hv.2 (by simp only[A0A,A0C,A0M]at hl ⊢;omega) hp (by rw[e3];exact J7 h0) e4;refine⟨(Z3 L E (d.kind-1) s).1::l',s',by rw[A0P,A0P,e2,q1],?_,q3,q4⟩;rw[A0K]at q2;refine q2.ext λf hf=>?_;rw[A1d];dsimp only;rw[e1,if_neg (by omega),A7w (by simp only[A0C]at hl;omega),if_pos hok]
  grind
theorem hdp{h:Hd}{b:List St}(hb:St.plains b=St.plains h.body){k:Int}{n:List UInt8}{p:Int}(hk:k=h.trig)(hn:n=h.name):Hd.plain ⟨k,n,b,p⟩=h.plain:=by
 grind[Hd.plain]
theorem A8t:∀(l acc:List Hd) (s:Rd) (post:List Tok),l.all A4c=true->acc.length+l.length<=32->L.drop s.i=l.flatMap hdT++([A2 [125]]++post)->okR s=true ->
  ∃l' s',l'.map Hd.plain=l.map Hd.plain/\Evt (λf=>A2a L E f acc s) (acc++l',s')/\L.drop s'.i=post/\okR s'=true
 |[],acc,s,post,hv,hl,h,hok=>by
  have h:L.drop s.i=A2 [125]::post:=h;have hi:isR L E s [125]=true:=by rw[A6v hok,D5 h,w125.1];rfl
  refine⟨[],A5 s,rfl,Evt.one λf=>?_,H7 h,hok⟩
  simp_all[A2a,Z1,w125]
 |x::l,acc,s,post,hv,hl,h,hok=>by
  simp only[A2Q,A0G]at hv;have hx:=hv.1;unfold A4c at hx;simp only[A0G,A0L]at hx;obtain⟨⟨⟨t1,t6⟩,hn⟩,hb⟩:=hx;obtain⟨j,hj⟩:∃j:Nat,x.trig=1+(j:Int):=⟨(x.trig-1).toNat,by omega⟩;have hj6:j<6:=a8
  have hjn:(x.trig-1).toNat=j:=a8
  have h0:L.drop s.i=A2 [111,110]::(A2 (F8.getD j [])::((if 2<x.trig then F1 x.name else [])++(blT x.body++(l.flatMap hdT++([A2 [125]]++post))))):=by
   rw[h,A2B];unfold hdT;rw[hjn];simp
  have hpk:=D5 (E:=E) h0;have hi:isR L E s [125]=false:=by rw[A6v hok,hpk,won.1,A2D];simpa using won.2
  have hon:isR L E s [111,110]=true:=by rw[A6v hok,hpk,won.1];rfl
  have he:=Z1 (E:=E) h0 hok won.1;have h1:=H7 h0;have h1:L.drop (A5 s).i=_:=h1;have ham:B8 L E (A5 s) F8=(j:Int):=by rw[A1b (show okR (A5 s)=true from hok),D5 h1];exact E6s j hj6
  have h2:=H7 h1;have h2:L.drop (A5 (A5 s)).i=_:=h2;have key:∃s4,s4=(if 2<=(j:Int) then(A8 L E (A5 (A5 s)) 1).2 else A5 (A5 s))/\okR s4=true/\(if 2<=(j:Int) then(A8 L E (A5 (A5 s)) 1).1.text else [])=x.name/\L.drop s4.i=blT x.body++(l.flatMap hdT++([A2 [125]]++post)):=by
   refine⟨_,rfl,?_⟩;by_cases h2j:2<=(j:Int)
   ·rw[if_pos h2j,if_pos h2j];rw[if_pos (by omega)]at hn h2;rw[A7i (E:=E) h2 hok hn];exact⟨hok,rfl,A2h (s:=A5 (A5 s)) h2 (B6 _)⟩
   ·rw[if_neg h2j,if_neg h2j];rw[if_neg (by omega)]at hn h2;exact⟨hok,by have:x.name=[]:=(by simpa using hn);rw[this],h2⟩
  obtain⟨s4,k1,k2,k3,k4⟩:=key;obtain⟨b',s5,b1,b2,b3,b4⟩:=B9i (L:=L) (E:=E) (d:=1) hb k4 k2;obtain⟨l',s',q1,q2,q3,q4⟩:=A8t l (acc++[⟨1+(j:Int),x.name,b',(B1 L E s).pos⟩]) s5 post hv.2 (by simp only[A0A,A0C,A0M]at hl ⊢;omega) (by rw[b3];exact J7 k4) b4;refine⟨⟨1+(j:Int),x.name,b',(B1 L E s).pos⟩::l',s',by rw[A0P,A0P,hdp b1 hj.symm rfl,q1],?_,q3,q4⟩;rw[A0K]at q2;refine Evt.ext2 b2 q2 λf hf hf2=>?_;rw[A2a,if_pos ⟨hok,hi⟩,if_neg (by rw[hon];decide)];dsimp only;rw[A7w (by simp only[A0C]at hl;omega),he,ham,if_neg (by omega), <- k1,k3]
  grind
theorem B8l{m:Md}(hv:X4 m=true){s:Rd}{post:List Tok}(h:L.drop s.i=mdT m++post)(hok:okR s=true):
  isR L E s [109,111,100,101]=true/\∃m' s',m'.plain=m.plain/\Evt (λf=>A6u L E f s) (m',s')/\L.drop s'.i=post/\okR s'=true:=by
 unfold X4 at hv;simp only[A0G,A0L]at hv;obtain⟨⟨⟨⟨hn,p0⟩,p1⟩,hl⟩,hh⟩:=hv;have h0:L.drop s.i=A2 [109,111,100,101]::(F1 m.name++(A0s m.prio++(A2 [123]::(m.hds.flatMap hdT++([A2 [125]]++post))))):=by
  rw[h];unfold mdT;simp
 have hpk:=D5 (E:=E) h0;have he:=Z1 (E:=E) h0 hok D2z.1;have h1:L.drop (A5 s).i=_:=H7 h0;have htk:=A7i (E:=E) h1 hok hn;have h2:L.drop (A5 (A5 s)).i=_:=A2h (s:=A5 s) h1 (B6 _);have htk2:=B7x (E:=E) h2 hok p0 p1;have h3:L.drop (A5 (A5 (A5 s))).i=_:=A2h (s:=A5 (A5 s)) h2 (F7 _);have he3:=Z1 (E:=E) h3 hok w123.1;have h4:L.drop (A5 (A5 (A5 (A5 s)))).i=_:=H7 h3;obtain⟨l',s',q1,q2,q3,q4⟩:=A8t (L:=L) (E:=E) m.hds [] _ post hh (by simp only[A0M];omega) h4 hok;refine⟨by rw[A6v hok,hpk,D2z.1];rfl,⟨m.name,m.prio,l',(B1 L E s).pos⟩,s',?_,q2.map λf hf=>?_,q3,q4⟩
 ·unfold Md.plain;dsimp only;rw[q1]
 grind[A6u]
theorem A8i:∀(l acc:List Md) (s:Rd),l.all X4=true->acc.length+l.length<=16->L.drop s.i=l.flatMap mdT->okR s=true ->
  ∃l' s',l'.map Md.plain=l.map Md.plain/\Evt (λf=>A0r L E f acc s) (acc++l',s')/\okR s'=true
 |[],acc,s,hv,hl,h,hok=>by
  have hi:¬s.i<L.length:=λhlt=>by
   have:=List.drop_eq_nil_iff.1 (show L.drop s.i=[] from h);omega
  refine⟨[],s,rfl,Evt.one λf=>?_,hok⟩
  simp_all[A0r,if_neg]
 |m::l,acc,s,hv,hl,h,hok=>by
  simp only[A2Q,A0G]at hv;have h0:L.drop s.i=mdT m++l.flatMap mdT:=by rw[h,A2B]
  obtain⟨hm,m',s1,e1,e2,e3,e4⟩:=B8l (E:=E) hv.1 h0 hok;obtain⟨l',s',q1,q2,q4⟩:=A8i l (acc++[m']) s1 hv.2 (by simp only[A0A,A0C,A0M]at hl ⊢;omega) e3 e4;refine⟨m'::l',s',by rw[A0P,A0P,e1,q1],?_,q4⟩;rw[A0K]at q2;refine Evt.ext2 e2 q2 λf hf hf2=>?_;rw[A0r,if_pos ⟨hok,(A4w hm).2⟩,if_neg (by rw[hm];decide)];dsimp only;rw[A7w (by simp only[A0C]at hl;omega),if_pos hok,hf]
  grind
end
theorem E2n{h:Hd}(hv:A4c h=true):A0w h=false:=by
 simp_all[A4c,A0w]
theorem C0o{r:Ru}(hv:X3 r=true)(E:Int):okR (A2l (ruT r) E).2=true/\(A2l (ruT r) E).1.plain=r.plain:=by
 unfold X3 at hv;simp only[A0G,A0L]at hv;obtain⟨⟨⟨h1,h2⟩,h3⟩,h4⟩:=hv;have hbad:(r.modes.any λm=>m.hds.any A0w)=false:=by
  rw[List.any_eq_false];intro m hm;have:=A0R.1 h4 m hm;unfold X4 at this;simp only[A0G]at this;rw[Bool.not_eq_true,List.any_eq_false];intro h hh;rw[E2n (A0R.1 this.2 h hh)];decide
 have hT:ruT r=r.decls.flatMap dcT++r.modes.flatMap mdT:=by unfold ruT;rw[if_neg (by rw[hbad];decide)]
 have hp:amT (hd0 E (r.modes.flatMap mdT)) F0<0:=by
  cases hm:r.modes with
  |nil=>exact(by decide:(-1:Int)<0)
  |cons m l =>
   have:hd0 E ((m::l).flatMap mdT)=A2 [109,111,100,101]:=by rw[A2B];unfold mdT;rfl
   rw[this,D2z.2];decide
 obtain⟨ld,s1,a1,a2,a3,a4⟩:=A8j (L:=ruT r) (E:=E) r.decls [] rd0 (r.modes.flatMap mdT) h3 (by simpa using h1) hp (by rw[hT];rfl) rfl;obtain⟨lm,s2,b1,b2,b4⟩:=A8i (L:=ruT r) (E:=E) r.modes [] s1 h4 (by simpa using h2) a3 a4;have hr:Evt (λf=>B1r (ruT r) E f rd0) (⟨ld,lm⟩,s2):=a2.map2 b2 λf h1 h2=>by
  unfold B1r;rw[h1];dsimp only;rw[h2];rfl
 rw[(A7l (ruT r) E).uniq hr]
 grind[Ru.plain]
mutual
theorem B6o:∀e:Ex,msM e.plain=msM e
 |.mk k v n a p=>by
  rw[Ex.plain,msM,msM,B6q k 0 a,Ex.plains_map,A0N]
theorem B6q:∀(k:Int) (i:Nat) (l:List Ex),msL k i (Ex.plains l)=msL k i l
 |k,i,[]=>rfl
 |k,i,e::l=>by
  have hk:e.plain.kind=e.kind:=by cases e;rfl
  rw[Ex.plains,msL,msL,B6o e,B6q k (i+1) l,hk]
end
theorem C3s(e:Ex):Z9 e.plain=Z9 e:=by grind[Z9,B6o]
theorem B3w{l:List St}:(St.plains l).isEmpty=l.isEmpty:=by cases l<;>rfl
theorem A7q(l:List St):(St.plains l).length=l.length:=by grind[St.plains_map]
mutual
theorem C3o:∀(d:Nat) (s:St),V5 d s.plain=V5 d s
 |d,.mk k n t a x y p=>by
  have ha:(Ex.plains a).all Z9=a.all Z9:=by
   grind[Ex.plains_map,List.all_map,C3s]
  rw[St.plain,V5,V5,A2n (d+1) x,A2n (d+1) y,ha,Ex.plains_map,A0N,B3w,B3w,A7q,A7q]
theorem A2n:∀(d:Nat) (l:List St),I8 d (St.plains l)=I8 d l
 |d,[]=>rfl
 |d,s::l=>by rw[St.plains,I8,I8,C3o d s,A2n d l]
end
theorem C3r(h:Hd):A4c h.plain=A4c h:=by
 grind[A4c,Hd.plain,T4,A2n,A7q]
theorem C3q(m:Md):X4 m.plain=X4 m:=by
 grind[X4,Md.plain,List.all_map,C3r]
theorem C3n(r:Ru):X3 r.plain=X3 r:=by
 unfold X3 Ru.plain;dsimp only;rw[A0N,A0N,List.all_map,List.all_map]
 congr 2
 grind[C3q]
theorem D9v(r:Ru):D0e r=X3 r:=by
 cases hv:X3 r with
 |true =>
  simp_all[C0o,D0e]
 |false =>
  cases hd:D0e r with
  |false=>rfl
  |true =>
   unfold D0e at hd;rw[A0G]at hd;have h2:=@of_decide_eq_true _ (_) hd.2;obtain⟨f,hf⟩:=(A7l (ruT r) 0).get;have h3:=B6g (λt ht=>(D7o r t ht).1) hf hd.1
   grind[C3n]
mutual
theorem E4y:∀(e:Ex) (o d:Nat),msM e=some (o,d)->o<=e.sz/\d+1<=2*e.sz
 |.mk k v n a p,o,d,h=>by
  have hs:(Ex.mk k v n a p).sz=1+n.length+Ex.szs a:=by rfl
  obtain⟨h1,h2,h3,h4,h5,h6⟩:=B4d h;by_cases hc:N5 k=0
  ·grind
  ·obtain⟨d',hl,hd⟩:=h6 hc;have:=C4w k 0 a o d' hl
   grind
theorem C4w:∀(k:Int) (i:Nat) (l:List Ex) (o d:Nat),msL k i l=some (o,d)->o<=Ex.szs l/\d<=2*Ex.szs l
 |k,i,[],o,d,h=>by grind[msL]
 |k,i,e::l,o,d,h=>by
  rw[msL]at h;have hs:Ex.szs (e::l)=e.sz+Ex.szs l:=by rfl
  have hp:=e.sz_pos;cases he:msM e with
  |none=>grind
  |some q =>
   obtain⟨o1,d1⟩:=q;have h1:=E4y e o1 d1 he;rw[he]at h;dsimp only at h;cases hl:msL k (i+1) l with
   |none=>grind
   |some q2 =>
    obtain⟨o2,d2⟩:=q2;have h2:=C4w k (i+1) l o2 d2 hl
    grind
end
def msV:Option (Nat × Nat)->DV
 |none=>.tup [I64 0,I64 0,.bool false]
 |some (o,d)=>.tup [I64 o,I64 d,.bool true]
theorem E9j(q:Option (Nat × Nat)):(msV q).nl=true:=by cases q<;>rfl
theorem D6k{k:Int}{a:List Ex}{i:Nat}{x:Ex}(h:a[i]? = some x):msL k i (a.drop i)=match msM x with
  |none=>none
  |some (o,d)=>match msL k (i+1) (a.drop (i+1)) with
   |none=>none
   |some (o2,d2)=>some (o+o2,max (if A3b k x.kind i=true then d+1 else d) d2):=by
 grind[List.drop_eq_getElem_cons,msL]
abbrev Er:=Option (Int × Int)
def cnD(l:List Dc)(k:Int):Nat:=l.countP (λd=>d.kind==k)
def cnR(r:Ru)(k:Int):Nat:=if k=9 then r.modes.length else cnD r.decls k
def lkD(pre:List Dc):List Dc->List UInt8->Option (Int × Int)
 |[],_=>none
 |d::l,n=>if d.name=n then some (d.kind,if d.kind<6 then d.value else(cnR ⟨pre,[]⟩ d.kind:Int)) else lkD (pre++[d]) l n
def lkM(i:Nat):List Md->List UInt8->Option (Int × Int)
 |[],_=>none
 |m::l,n=>if m.name=n then some (9,(i:Int)) else lkM (i+1) l n
def H5(r:Ru)(n:List UInt8):Int × Int:=match lkD [] r.decls n with
 |some q=>q
 |none=>match lkM 0 r.modes n with
  |some q=>q
  |none=>(0,0)
def dnM(r:Ru)(n:List UInt8)(k:Int):Int:=if k=0\/(H5 r n).1=k then 0 else if(H5 r n).1=0 then 8 else 44
def dnE(r:Ru)(n:List UInt8)(k p:Int):Er:=if dnM r n k=0 then none else some (p,dnM r n k)
def kdE(k:Int):Int:=if k=2 then 6 else if k=5 then 1 else if k=6 then 9 else if k=7 then 7 else 0
def kdS(k:Int):Int:=if k=1 then 6 else if k=5\/k=6\/k=7 then 2 else if k=8\/k=9 then 3 else if k=10\/k=11 then 7 else if k=12\/k=13 then 9 else if k=14 then 8 else if k=15 then 4 else if k=16\/k=17 then 5 else 0
def kdH(k:Int):Int:=if k=3\/k=4 then 1 else if k=5 then 7 else if k=6 then 8 else 0
def B4c(k:Int):Int:=if k=1 then 63 else if k=2 then 31 else if k=3\/k=4\/k=5 then 63 else 2147483647
def E3r(k:Int):Bool:=k==3||k==4||k==5||k==6||k==11||decide (17<=k)
def A0a(k:Int):Int:=if E3r k=true then 2 else 1
def A4a(k:Int)(a:List Ex):Int:=if k=11\/k=23\/k=24 then 2 else if k=21\/k=22 then(match a with
 |[]=>1
 |x::_=>A0a x.kind) else 1
mutual
def erE(r:Ru):Ex->Er
 |.mk k v n a p=>((Z2 r a).or (dnE r n (kdE k) p)).or (if a.all (λx=>A0a x.kind==A4a k a)=true then none else some (p,49))
def Z2(r:Ru):List Ex->Er
 |[]=>none
 |x::l=>(erE r x).or (Z2 r l)
end
def erA(r:Ru)(b:Bool):List Ex->Er
 |[]=>none
 |x::l=>((erE r x).or (if(A0a x.kind==2)=b then none else some (x.pos,49))).or (erA r b l)
mutual
def erS(r:Ru):St->Er
 |.mk k n t a x y p=>(((dnE r n (kdS k) p).or (erA r (k==2) a)).or (erB r x)).or (erB r y)
def erB(r:Ru):List St->Er
 |[]=>none
 |s::l=>(erS r s).or (erB r l)
end
def erD(pre:List Dc):List Dc->Er
 |[]=>none
 |d::l=>((if d.value>B4c d.kind then some (d.pos,5) else none:Er).or (if(H5 ⟨pre,[]⟩ d.name).1=0 then none else some (d.pos,7))).or (erD (pre++[d]) l)
def erP(D:List Dc)(pre:List Md):List Md->Er
 |[]=>none
 |m::l=>((if m.prio>99 then some (m.pos,5) else none:Er).or (if(H5 ⟨D,pre⟩ m.name).1=0 then none else some (m.pos,7))).or (erP D (pre++[m]) l)
def B8s(r:Ru):Er:=(erD [] r.decls).or (erP r.decls [] r.modes)
def erH(r:Ru)(pre:List Hd):List Hd->Er
 |[]=>none
 |h::l=>(((dnE r h.name (kdH h.trig) h.pos).or (if pre.any (λx=>x.trig==h.trig&&x.name==h.name)=true then some (h.pos,7) else none)).or (erB r h.body)).or (erH r (pre++[h]) l)
def erM(r:Ru):List Md->Er
 |[]=>none
 |m::l=>(erH r [] m.hds).or (erM r l)
def B1y(r:Ru):Er:=(B8s r).or (erM r r.modes)
def erV:Er->DV
 |some (p,c)=>.tup [I64 p,I64 c]
 |none=>.tup [I64 0,I64 0]
def D8w(r:Ru):DV:=if X3 r=true then erV (B1y r) else .tup [I64 0,I64 1]
theorem F0v(e:Er):(erV e).nl=true:=by cases e<;>rfl
theorem D6s{D:List Dc}{i:Nat}{d:Dc}{n:List UInt8}(h:D[i]? = some d):lkD (D.take i) (D.drop i) n=if d.name=n then some (d.kind,if d.kind<6 then d.value else(cnR ⟨D.take i,[]⟩ d.kind:Int)) else lkD (D.take (i+1)) (D.drop (i+1)) n:=by
 grind[List.drop_eq_getElem_cons,lkD]
theorem D6q{M:List Md}{i:Nat}{m:Md}{n:List UInt8}(h:M[i]? = some m):lkM i (M.drop i) n=if m.name=n then some (9,(i:Int)) else lkM (i+1) (M.drop (i+1)) n:=by
 grind[List.drop_eq_getElem_cons,lkM]
theorem A9z{α:Type}{l:List α}{i:Nat}{x : α}(h:l[i]? = some x):l.take i++[x]=l.take (i+1):=by
 grind[List.take_add_one]
def NzE(e:Er):Prop:=∀p c,e=some (p,c)->c≠0
theorem NzE.or{a b:Er}(ha:NzE a)(hb:NzE b):NzE (a.or b):=by
 intro p c h;cases a with
 |none=>exact hb p c (by grind)
 |some q=>exact ha p c (by grind)
theorem A4m:NzE none:=λp c h=>j8
theorem C8a{b:Prop}[Decidable b]{p c:Int}(h:c≠0):NzE (if b then none else some (p,c)):=by
 intro p' c' e<;>simp_all
theorem B8j{b:Prop}[Decidable b]{p c:Int}(h:c≠0):NzE (if b then some (p,c) else none):=by
 intro p' c' e<;>simp_all
theorem B6j(r:Ru)(n:List UInt8)(k p:Int):NzE (dnE r n k p):=by
 intro p' c h<;>grind[dnE]
mutual
theorem E8w(r:Ru):∀e:Ex,NzE (erE r e)
 |.mk k v n a p=>by rw[erE];exact((C0z r a).or (B6j _ _ _ _)).or (C8a (by simp))
theorem C0z(r:Ru):∀l:List Ex,NzE (Z2 r l)
 |[]=>by grind[Z2,A4m]
 |x::l=>by rw[Z2];exact(E8w r x).or (C0z r l)
end
theorem D5z(r:Ru)(b:Bool):∀l:List Ex,NzE (erA r b l)
 |[]=>by grind[erA,A4m]
 |x::l=>by rw[erA];exact((E8w r x).or (C8a (by simp))).or (D5z r b l)
mutual
theorem F8e(r:Ru):∀e:St,NzE (erS r e)
 |.mk k n t a x y p=>by rw[erS];exact(((B6j _ _ _ _).or (D5z _ _ _)).or (D0w r x)).or (D0w r y)
theorem D0w(r:Ru):∀l:List St,NzE (erB r l)
 |[]=>by grind[erB,A4m]
 |x::l=>by rw[erB];exact(F8e r x).or (D0w r l)
end
theorem D5y:∀(l pre:List Dc),NzE (erD pre l)
 |[],pre=>by grind[erD,A4m]
 |d::l,pre=>by rw[erD];exact((B8j (by simp)).or (C8a (by simp))).or (D5y l _)
theorem E1c(D:List Dc):∀(l pre:List Md),NzE (erP D pre l)
 |[],pre=>by grind[erP,A4m]
 |d::l,pre=>by rw[erP];exact((B8j (by simp)).or (C8a (by simp))).or (E1c D l _)
theorem E8t(r:Ru):NzE (B8s r):=(D5y _ _).or (E1c _ _ _)
theorem E8v(r:Ru):∀(l pre:List Hd),NzE (erH r pre l)
 |[],pre=>by grind[erH,A4m]
 |d::l,pre=>by rw[erH];exact(((B6j _ _ _ _).or (B8j (by simp))).or (D0w r _)).or (E8v r l _)
theorem E8u(r:Ru):∀(l:List Md),NzE (erM r l)
 |[]=>by grind[erM,A4m]
 |d::l=>by rw[erM];exact(E8v r _ _).or (E8u r l)
theorem C8n{k:Int}:∀ {i:Nat} {l:List Ex} {q:Nat × Nat},msL k i l=some q->∀x∈l, ∃q,msM x=some q
 |i,[],q,h,x,hx=>j8
 |i,e::l,q,h,x,hx=>by
  rw[msL]at h;cases he:msM e with
  |none=>grind
  |some q1 =>
   rw[he]at h;dsimp only at h;cases hl:msL k (i+1) l with
   |none=>grind
   |some q2 =>
    rcases A0U.1 hx with rfl|hx
    ·grind
    ·exact C8n hl x hx
theorem E1o{e:Ex}{q:Nat × Nat}(h:msM e=some q):∀x∈e.args, ∃q,msM x=some q:=by
 cases e with|mk k v n a p =>
 obtain⟨o,d⟩:=q;obtain⟨m1,m2,m3,m4,m5,m6⟩:=B4d h;intro x hx;by_cases hc:N5 k=0
 ·have:a=[]:=A1Y (by omega);subst this;cases hx
 ·obtain⟨d',h1, -⟩:=m6 hc;exact C8n h1 x hx
theorem E9h{e:Ex}{q:Nat × Nat}(h:msM e=some q)(hk:e.kind=21\/e.kind=22):e.args.length=2:=by
 cases e with|mk k v n a p =>
 obtain⟨o,d⟩:=q;obtain⟨m1,m2,m3,m4,m5,m6⟩:=B4d h;show a.length=2;rw[m2];rcases hk with hk|hk
 all_goals(have hk:k=_:=hk;subst hk;decide)
theorem F6c(r:Ru)(s:St):erS r s=(((dnE r s.name (kdS s.kind) s.pos).or (erA r (s.kind==2) s.args)).or (erB r s.thn)).or (erB r s.els):=by
 cases s with|mk k n t a x y p=>rfl
theorem B5z{d:Nat}:∀ {l:List St},I8 d l=true->∀s∈l,V5 d s=true
 |s0::l,h,s,hs=>by
  rw[I8,A0G]at h;rcases A0U.1 hs with rfl|hs
  ·grind
  ·exact B5z h.2 s hs
theorem C3p{d:Nat}{s:St}(h:V5 d s=true):(∀x∈s.args, ∃q,msM x=some q)/\I8 (d+1) s.thn=true/\I8 (d+1) s.els=true:=by
 cases s with|mk k n t a x y p =>
 rw[V5]at h;simp only[A0G]at h;refine⟨λe he=>?_,h.2.1.2,h.2.2.2⟩;have h1:=A0R.1 h.1.1.1.2.2 e he
 grind[Z9]
theorem D3d{r:Ru}(h:X3 r=true):∀m∈r.modes, ∀x∈m.hds,I8 1 x.body=true:=by
 intro m hm x hx;unfold X3 at h;simp only[A0G]at h;have h1:=A0R.1 h.2 m hm
 simp_all[X4,A4c,T4]
theorem F2r{r:Ru}{m:Md}(h:m∈r.modes):m.sz<=r.sz:=by
 have:m.sz<=(r.modes.map Md.sz).sum:=O1 h;show _<=(r.decls.map Dc.sz).sum+(r.modes.map Md.sz).sum;omega
theorem F2t{m:Md}{x:Hd}(h:x∈m.hds):x.sz<=m.sz:=by
 have:x.sz<=(m.hds.map Hd.sz).sum:=O1 h;show _<=1+m.name.length+(m.hds.map Hd.sz).sum;omega
theorem E4l(r:Ru):r.decls.length<=r.sz:=by
 have:r.decls.length<=(r.decls.map Dc.sz).sum:=K5 λx _=>zac
 show _<=(r.decls.map Dc.sz).sum+(r.modes.map Md.sz).sum;omega
theorem E4k(r:Ru):r.modes.length<=r.sz:=by
 have:r.modes.length<=(r.modes.map Md.sz).sum:=K5 λx _=>r8
 show _<=(r.decls.map Dc.sz).sum+(r.modes.map Md.sz).sum;omega
theorem F2s(m:Md):m.hds.length<=m.sz:=by
 have:m.hds.length<=(m.hds.map Hd.sz).sum:=K5 λx _=>r8
 show _<=1+m.name.length+(m.hds.map Hd.sz).sum;omega
theorem B7m{α:Type}(p : α->Bool)(l:List α)(k:Nat)(x : α)(hx:l[k]? = some x):(l.take (k+1)).any p=((l.take k).any p||p x):=by
 grind[List.take_add_one]
def A9j(nm:List UInt8->Int)(k v:Int)(n:List UInt8):Ins :=
 if k=1 then⟨1,v⟩ else if k=3 then⟨1,1⟩ else if k=4 then⟨1,0⟩ else if k=2 then⟨2,nm n⟩ else if k=5 then⟨4,nm n⟩ else if k=6 then⟨5,nm n⟩ else if k=7 then⟨6,nm n⟩
 else if k=8 then⟨7,0⟩ else if k=9 then⟨8,0⟩ else if k=10 then⟨9,0⟩ else if k=11 then⟨10,0⟩ else⟨11,k⟩
mutual
def cgE(nm:List UInt8->Int):Ex->List Ins
 |.mk k v n a p=>C7 nm a++[A9j nm k v n]
def C7(nm:List UInt8->Int):List Ex->List Ins
 |[]=>[]
 |x::l=>cgE nm x++C7 nm l
end
theorem F6s(nm:List UInt8->Int)(e:Ex):cgE nm e=C7 nm e.args++[A9j nm e.kind e.value e.name]:=by cases e;rfl
def stOp(k:Int):Int:=if k=1 then 3 else if k=4 then 15 else if 5<=k/\k<=18 then k+11 else 30
def txS(S:List (List UInt8))(t:List UInt8):Nat × List (List UInt8):=if t∈S then(S.idxOf t,S) else(S.length,S++[t])
abbrev Cg:=List Ins × List (List UInt8)
mutual
def cgS(nm:List UInt8->Int)(p:Nat)(S:List (List UInt8)):St->Cg
 |.mk k n t a x y _ =>
  if k=2 then
   (if y.length=0 then
    (C7 nm a++(⟨13,((p+(C7 nm a).length+1+(cgB nm (p+(C7 nm a).length+1) S x).1.length:Nat):Int)⟩::(cgB nm (p+(C7 nm a).length+1) S x).1),(cgB nm (p+(C7 nm a).length+1) S x).2)
   else
    (C7 nm a++(⟨13,((p+(C7 nm a).length+1+(cgB nm (p+(C7 nm a).length+1) S x).1.length+1:Nat):Int)⟩::((cgB nm (p+(C7 nm a).length+1) S x).1 ++
      (⟨12,((p+(C7 nm a).length+1+(cgB nm (p+(C7 nm a).length+1) S x).1.length+1+(cgB nm (p+(C7 nm a).length+1+(cgB nm (p+(C7 nm a).length+1) S x).1.length+1) (cgB nm (p+(C7 nm a).length+1) S x).2 y).1.length:Nat):Int)⟩ ::
       (cgB nm (p+(C7 nm a).length+1+(cgB nm (p+(C7 nm a).length+1) S x).1.length+1) (cgB nm (p+(C7 nm a).length+1) S x).2 y).1))),
     (cgB nm (p+(C7 nm a).length+1+(cgB nm (p+(C7 nm a).length+1) S x).1.length+1) (cgB nm (p+(C7 nm a).length+1) S x).2 y).2))
  else if k=3 then
   (C7 nm a++(⟨14,((p+(C7 nm a).length+1+(cgB nm (p+(C7 nm a).length+1) S x).1.length+1:Nat):Int)⟩::((cgB nm (p+(C7 nm a).length+1) S x).1++[⟨12,((p+(C7 nm a).length:Nat):Int)⟩])),(cgB nm (p+(C7 nm a).length+1) S x).2)
  else if k=18 then(C7 nm a++[⟨29,((txS S t).1:Int)⟩],(txS S t).2)
  else(C7 nm a++[⟨stOp k,nm n⟩],S)
def cgB(nm:List UInt8->Int)(p:Nat)(S:List (List UInt8)):List St->Cg
 |[]=>([],S)
 |s::l=>((cgS nm p S s).1++(cgB nm (p+(cgS nm p S s).1.length) (cgS nm p S s).2 l).1,(cgB nm (p+(cgS nm p S s).1.length) (cgS nm p S s).2 l).2)
end
structure Ky where
 mode:Int
 trig:Int
 ix:Int
deriving DecidableEq
def Ky.lt(a b:Ky):Prop:=a.mode<b.mode\/(a.mode=b.mode/\(a.trig<b.trig\/(a.trig=b.trig/\a.ix<b.ix)))
theorem Ky.lt_trans{a b c:Ky}(h:a.lt b)(g:b.lt c):a.lt c:=by grind[Ky.lt]
theorem Ky.lt_irrefl(a:Ky):¬a.lt a:=by grind[Ky.lt]
theorem Ky.tri(a b:Ky):a.lt b\/a=b\/b.lt a:=by
 obtain⟨a1,a2,a3⟩:=a;obtain⟨b1,b2,b3⟩:=b<;>grind[Ky.lt]
abbrev D6:=Ky × List (List St)
def bod(l:List D6)(k:Ky):Option (List (List St)):=(l.find? λp=>p.1=k).map (·.2)
theorem P7(p:D6)(l:List D6)(k:Ky):bod (p::l) k=if p.1=k then some p.2 else bod l k:=by
 grind[bod]
def Srt(l:List D6):Prop:=l.Pairwise λa b=>a.1.lt b.1
theorem B5h{l:List D6}{k:Ky}(h:∀p∈l,p.1≠k):bod l k=none:=by
 induction l with
 |nil=>rfl
 |cons p l ih =>
  simp_all[P7]
theorem D4f:∀ {l m:List D6},Srt l->Srt m->(∀k,bod l k=bod m k)->l=m
 |[],[],_,_,_=>rfl
 |[],q::m,_,_,h=>by have:=h q.1;rw[P7,if_pos rfl]at this;trivial
 |p::l,[],_,_,h=>by have:=h p.1;rw[P7,if_pos rfl]at this;trivial
 |p::l,q::m,h1,h2,h=>by
  obtain⟨p1,l1⟩:=A4C.1 h1;obtain⟨q1,m1⟩:=A4C.1 h2;have hpq:p.1=q.1:=by
   rcases Ky.tri p.1 q.1 with g|g|g
   ·exfalso;have:=h p.1;rw[P7,if_pos rfl,B5h (l:=q::m) (k:=p.1) (λx hx e=>by
     rcases A0U.1 hx with rfl|hx
     ·rw[e]at g;exact Ky.lt_irrefl _ g
     ·have:=Ky.lt_trans g (q1 x hx);rw[e]at this;exact Ky.lt_irrefl _ this)]at this
    grind
   ·omega
   ·exfalso;have:=h q.1;rw[P7 (p:=q),if_pos rfl,B5h (l:=p::l) (k:=q.1) (λx hx e=>by
     rcases A0U.1 hx with rfl|hx
     ·rw[e]at g;exact Ky.lt_irrefl _ g
     ·have:=Ky.lt_trans g (p1 x hx);rw[e]at this;exact Ky.lt_irrefl _ this)]at this
    grind
  have hb:=h p.1;rw[P7,if_pos rfl,P7,if_pos hpq.symm]at hb;have e:p=q:=Prod.ext hpq (Option.some.inj hb);subst e
  congr 1
  refine D4f l1 m1 λk=>?_;by_cases hk:p.1=k
  ·grind[B5h,Ky.lt_irrefl]
  ·have:=h k
   simp_all[P7]
theorem D9f{l m:List D6}(hp:l.Perm m)(hn:(l.map (·.1)).Nodup)(k:Ky):bod l k=bod m k:=by
 induction hp<;>grind[P7]
def P9(k:Ky)(b:List St):List D6->List D6
 |[]=>[(k,[b])]
 |p::l=>if p.1=k then(p.1,p.2++[b])::l else p::P9 k b l
theorem D9p(k:Ky)(b:List St)(l:List D6)(q:Ky):bod (P9 k b l) q=if k=q then some ((bod l q).getD []++[b]) else bod l q:=by
 induction l with
 |nil =>
  grind[P9,bod]
 |cons p l ih =>
  rw[P9];by_cases h:p.1=k
  ·simp_all[P7]
  ·rw[if_neg h,P7,P7,ih]
   grind
theorem D2s(k:Ky)(b:List St)(l:List D6):∀q,q∈(P9 k b l).map (·.1)↔q=k\/q∈l.map (·.1):=by
 intro q
 induction l with
 |nil=>simp[P9]
 |cons p l ih =>
  rw[P9]
  grind
theorem C6n(k:Ky)(b:List St):∀ {l:List D6},(l.map (·.1)).Nodup->((P9 k b l).map (·.1)).Nodup:=by
 intro l
 induction l with
 |nil=>grind[P9]
 |cons p l ih =>
  intro h;rw[P9];obtain⟨h1,h2⟩:=A3P.1 h;by_cases e:p.1=k
  ·rw[if_pos e];exact h
  simp_all[D2s]
abbrev KB:=Ky × List St
def hdK(nm:List UInt8->Int)(i:Nat)(h:Hd):KB:=(⟨i,h.trig,nm h.name⟩,h.body)
def hkM(nm:List UInt8->Int)(i:Nat):List Md->List KB
 |[]=>[]
 |m::l=>m.hds.map (hdK nm i)++hkM nm (i+1) l
def J8(l:List D6)(q:List KB):List D6:=q.foldl (λl x=>P9 x.1 x.2 l) l
def U5(q:List KB)(k:Ky):List (List St):=(q.filter λx=>x.1=k).map (·.2)
theorem D9g(a b:List KB)(k:Ky):U5 (a++b) k=U5 a k++U5 b k:=by simp[U5]
theorem B7k(x:KB)(b:List KB)(k:Ky):U5 (x::b) k=if x.1=k then x.2::U5 b k else U5 b k:=by
 grind[U5]
theorem C3h:∀(q:List KB) (l:List D6) (k:Ky),bod (J8 l q) k=if U5 q k=[] then bod l k else some ((bod l k).getD []++U5 q k)
 |[],l,k=>by rfl
 |x::q,l,k=>by
  have h:=C3h q (P9 x.1 x.2 l) k;have e:J8 l (x::q)=J8 (P9 x.1 x.2 l) q:=rfl;rw[e,h,D9p,B7k]
  grind
theorem A8b:∀(q:List KB) {l:List D6},(l.map (·.1)).Nodup->((J8 l q).map (·.1)).Nodup
 |[],_,h=>h
 |x::q,_,h=>A8b q (C6n x.1 x.2 h)
def ptK(q:List KB)(ks:List Ky):List D6:=ks.filterMap λk=>if U5 q k=[] then none else some (k,U5 q k)
theorem C7s(q:List KB):∀(ks:List Ky) (k:Ky),bod (ptK q ks) k=if k∈ks/\U5 q k≠[] then some (U5 q k) else none
 |[],k=>by rfl
 |a::ks,k=>by
  have ih:=C7s q ks k;unfold ptK at ih ⊢;rw[A4O];by_cases h:U5 q a=[]
  ·grind
  ·simp only[h,if_false];rw[P7]
   grind
theorem E0s(q:List KB){ks:List Ky}(h:ks.Pairwise Ky.lt):Srt (ptK q ks):=by
 induction ks with
 |nil=>exact List.Pairwise.nil
 |cons a ks ih =>
  obtain⟨h1,h2⟩:=A4C.1 h;unfold ptK;rw[A4O];by_cases e:U5 q a=[]
  ·simp only[e,if_true];exact ih h2
  ·simp only[e,if_false];refine A4C.2 ⟨λp hp=>?_,ih h2⟩
   grind
def C2b(i:Nat)(t:Nat):List Ky:=(List.range 128).map λ(n:Nat)=>(⟨i,(t:Int)+1,(n:Int)⟩:Ky)
def D7m(i:Nat):List Ky:=(List.range 6).flatMap (C2b i)
theorem B0n{i t:Nat}{k:Ky}:k∈C2b i t↔k.mode=i/\k.trig=(t:Int)+1/\0<=k.ix/\k.ix<128:=by
 unfold C2b;rw[A0X];constructor
 ·grind
 ·rintro⟨h1,h2,h3,h4⟩;refine⟨k.ix.toNat,A4G.2 (by omega),?_⟩;obtain⟨a,b,c⟩:=k<;>grind
theorem A8u{i:Nat}{k:Ky}:k∈D7m i↔k.mode=i/\1<=k.trig/\k.trig<=6/\0<=k.ix/\k.ix<128:=by
 unfold D7m;rw[List.mem_flatMap];constructor
 ·grind[B0n]
 ·rintro⟨h1,h2,h3,h4,h5⟩;exact⟨(k.trig-1).toNat,A4G.2 (by omega),B0n.2 ⟨h1,a8,h4,h5⟩⟩
theorem D1t(i t:Nat):(C2b i t).Pairwise Ky.lt:=by
 unfold C2b;rw[A4U];exact List.Pairwise.imp (λh=>Or.inr ⟨rfl,Or.inr ⟨rfl,Int.ofNat_lt.2 h⟩⟩) List.pairwise_lt_range
theorem C2d{f:Nat->List Ky}(h1:∀t,(f t).Pairwise Ky.lt)(h2:∀t u,t<u->∀a∈f t, ∀b∈f u,a.lt b):∀ {l:List Nat},l.Pairwise (· < ·)->(l.flatMap f).Pairwise Ky.lt:=by
 grind
theorem B4n(i:Nat):(D7m i).Pairwise Ky.lt :=
 C2d (D1t i) (λt u htu a ha b hb=>by
  grind[B0n,Ky.lt]) List.pairwise_lt_range
def rfP(nm:List UInt8->Int)(i:Nat)(l:List Hd):List D6:=ptK (l.map (hdK nm i)) (D7m i)
def V7(nm:List UInt8->Int)(i:Nat):List Md->List D6
 |[]=>[]
 |m::l=>rfP nm i m.hds++V7 nm (i+1) l
def HOk(nm:List UInt8->Int)(h:Hd):Prop:=1<=h.trig/\h.trig<=6/\0<=nm h.name/\nm h.name<128
theorem E3s(a b:List D6)(k:Ky):bod (a++b) k=(bod a k).or (bod b k):=by
 grind[bod]
theorem C8z{nm:List UInt8->Int}:∀ {l:List Md} {i:Nat} {x:KB},x∈hkM nm i l->(i:Int)<=x.1.mode
 |[],_,_,h=>y8
 |m::l,i,x,h=>by
  rw[hkM]at h;rcases A1A.1 h with h|h
  ·obtain⟨y, -,rfl⟩:=A0X.1 h;exact A2U _
  ·have:=C8z h;omega
theorem A9o{q:List KB}{k:Ky}(h:∀x∈q,x.1≠k):U5 q k=[]:=by
 grind[U5,List.filter_eq_nil_iff]
theorem E0q{nm:List UInt8->Int}{i:Nat}{l:List Hd}(h:∀x∈l,HOk nm x)(k:Ky):bod (rfP nm i l) k=if U5 (l.map (hdK nm i)) k=[] then none else some (U5 (l.map (hdK nm i)) k):=by
 unfold rfP;rw[C7s];by_cases e:U5 (l.map (hdK nm i)) k=[]
 ·grind
 ·rw[if_neg e,if_pos];refine⟨?_,e⟩;have:∃x∈l.map (hdK nm i),x.1=k:=Classical.byContradiction λhn=>e (A9o λx hx he=>hn ⟨x,hx,he⟩);obtain⟨x,hx,rfl⟩:=this;obtain⟨y,hy,rfl⟩:=A0X.1 hx;obtain⟨h1,h2,h3,h4⟩:=h y hy;exact A8u.2 ⟨rfl,h1,h2,h3,h4⟩
theorem C0r{nm:List UInt8->Int}:∀ {l:List Md} {i:Nat},(∀m∈l, ∀x∈m.hds,HOk nm x)->∀k:Ky,bod (V7 nm i l) k=if U5 (hkM nm i l) k=[] then none else some (U5 (hkM nm i l) k)
 |[],i,_,k=>by rfl
 |m::l,i,h,k=>by
  rw[V7,E3s,E0q (h m A0H),C0r (λm hm=>h m (A0D _ hm)),hkM,D9g];by_cases e:U5 (m.hds.map (hdK nm i)) k=[]
  ·grind
  ·have hk:k.mode=i:=by
    have:∃x∈m.hds.map (hdK nm i),x.1=k:=Classical.byContradiction λhn=>e (A9o λx hx he=>hn ⟨x,hx,he⟩);obtain⟨x,hx,rfl⟩:=this;obtain⟨y,hy,rfl⟩:=A0X.1 hx;rfl
   have e2:U5 (hkM nm (i+1) l) k=[]:=A9o λx hx he=>by have:=C8z hx;rw[he,hk]at this;omega
   grind
theorem C7r{q:List KB}{ks:List Ky}{p:D6}(h:p∈ptK q ks):p.1∈ks:=by
 obtain⟨k,hk,e⟩:=A4T.1 h<;>grind
theorem B6h{nm:List UInt8->Int}:∀ {l:List Md} {i:Nat} {p:D6},p∈V7 nm i l->(i:Int)<=p.1.mode
 |[],_,_,h=>y8
 |m::l,i,p,h=>by
  rw[V7]at h;rcases A1A.1 h with h|h
  ·have:=(A8u.1 (C7r h)).1;omega
  ·have:=B6h h;omega
theorem B3o{nm:List UInt8->Int}:∀(l:List Md) (i:Nat),Srt (V7 nm i l)
 |[],_=>List.Pairwise.nil
 |m::l,i=>by
  rw[V7];refine List.pairwise_append.2 ⟨E0s _ (B4n i),B3o l (i+1),λa ha b hb=>?_⟩;have h1:=(A8u.1 (C7r ha)).1;have h2:=B6h hb
  grind[Ky.lt]
theorem D5w{nm:List UInt8->Int}{l:List Md}{s:List D6}(h:∀m∈l, ∀x∈m.hds,HOk nm x)(hp:s.Perm (J8 [] (hkM nm 0 l)))(hs:Srt s):s=V7 nm 0 l:=by
 refine D4f hs (B3o l 0) λk=>?_;have hn:((J8 [] (hkM nm 0 l)).map (·.1)).Nodup:=A8b _ (by simp);rw[<- D9f hp.symm hn,C3h,C0r h];rfl
mutual
def hE(h:Int):Ex->List Int
 |.mk k v n a p=>hEs h a++[h+(a.length:Int)]
def hEs(h:Int):List Ex->List Int
 |[]=>[]
 |x::l=>hE h x++hEs (h+1) l
end
mutual
def hS(h:Int):St->List Int
 |.mk k n t a x y _ =>
  if k=2 then(if y.length=0 then hEs h a++((h+1)::hB h x) else hEs h a++((h+1)::(hB h x++(h::hB h y))))
  else if k=3 then hEs h a++((h+1)::(hB (h+1) x++[h+1]))
  else hEs h a++[h+(a.length:Int)]
def hB(h:Int):List St->List Int
 |[]=>[]
 |s::l=>hS h s++hB h l
end
section
variable (nm:List UInt8->Int)
mutual
theorem C5l:∀(e:Ex) (h:Int),(hE h e).length=(cgE nm e).length
 |.mk k v n a p,h=>by rw[hE,cgE,A0A,A0A,S7 a];rfl
theorem S7:∀(l:List Ex) (h:Int),(hEs h l).length=(C7 nm l).length
 |[],_=>rfl
 |x::l,h=>by rw[hEs,C7,A0A,A0A,C5l x,S7 l]
end
mutual
theorem D7j:∀(s:St) (h:Int) (p:Nat) (S:List (List UInt8)),(hS h s).length=(cgS nm p S s).1.length
 |.mk k n t a x y q,h,p,S=>by
  rw[hS,cgS];by_cases h2:k=2
  ·rw[if_pos h2,if_pos h2];by_cases hy:y.length=0
   ·rw[if_pos hy,if_pos hy];simp only[A0A,A0C,S7 nm a,A4o x h (p+(C7 nm a).length+1) S]
   ·rw[if_neg hy,if_neg hy];simp only[A0A,A0C,S7 nm a];rw[A4o x h (p+(C7 nm a).length+1) S];rw[A4o y h (p+(C7 nm a).length+1+(cgB nm (p+(C7 nm a).length+1) S x).1.length+1) (cgB nm (p+(C7 nm a).length+1) S x).2]
  ·rw[if_neg h2,if_neg h2];by_cases h3:k=3
   ·rw[if_pos h3,if_pos h3];simp only[A0A,A0C,S7 nm a,A4o x (h+1) (p+(C7 nm a).length+1) S,A0M]
   ·rw[if_neg h3,if_neg h3];by_cases h4:k=18
    ·rw[if_pos h4]
     grind[S7]
    ·rw[if_neg h4]
     grind[S7]
theorem A4o:∀(l:List St) (h:Int) (p:Nat) (S:List (List UInt8)),(hB h l).length=(cgB nm p S l).1.length
 |[],_,_,_=>rfl
 |s::l,h,p,S=>by
  rw[hB,cgB];simp only[A0A];rw[D7j s h p S,A4o l h (p+(cgS nm p S s).1.length) (cgS nm p S s).2]
end
end
def Plc(I:List Ins)(Hs:List Int)(p:Nat)(C:List Ins)(H:List Int):Prop:=∀i,i<C.length->I[p+i]? = C[i]? /\ Hs[p+i]? = H[i]?
theorem Plc.split{I:List Ins}{Hs:List Int}{p:Nat}{C D:List Ins}{H K:List Int}(h:Plc I Hs p (C++D) (H++K))(hl:H.length=C.length):Plc I Hs p C H/\Plc I Hs (p+C.length) D K:=by
 constructor
 ·intro i hi;obtain⟨h1,h2⟩:=h i (by rw[A0A];omega)<;>simp_all[A2K]
 ·intro i hi;obtain⟨h1,h2⟩:=h (C.length+i) (by rw[A0A];omega)<;>simp_all[A1W,A2P]
theorem Plc.one{I:List Ins}{Hs:List Int}{p:Nat}{i:Ins}{x:Int}{D:List Ins}{K:List Int}(h:Plc I Hs p (i::D) (x::K)):I[p]? = some i/\Hs[p]? = some x/\Plc I Hs (p+1) D K:=by
 refine⟨(h 0 (by simp)).1,(h 0 (by simp)).2,λj hj=>?_⟩;obtain⟨h1,h2⟩:=h (j+1) (by simpa using hj)<;>grind
def Gd(I:List Ins)(Hs:List Int)(p:Nat):Prop:=∀i x,I[p]? = some i->Hs[p]? = some x ->
 (D4 i.op).1<=x/\x<=48/\¬(i.op=31/\x≠0)/\((D4 i.op).2.2=7->0<=i.A)/\∀s∈I2 i p x,Hs[s.1]? = some s.2
theorem Gd.mk'{I:List Ins}{Hs:List Int}{p:Nat}{i:Ins}{x:Int}(h1:I[p]? = some i)(h2:Hs[p]? = some x)
  (h:(D4 i.op).1<=x/\x<=48/\¬(i.op=31/\x≠0)/\((D4 i.op).2.2=7->0<=i.A)/\∀s∈I2 i p x,Hs[s.1]? = some s.2):Gd I Hs p:=by
 intro j y e1 e2<;>grind
theorem Gd.next{I:List Ins}{Hs:List Int}{p:Nat}{i:Ins}{x:Int}(h1:I[p]? = some i)(h2:Hs[p]? = some x)(hk:¬(D4 i.op).2.2=7)(hr:¬i.op=31)(ht:(D4 i.op).1<=x)(hx:x<=48)
  (hn:Hs[p+1]? = some (x-(D4 i.op).1+(D4 i.op).2.1)):Gd I Hs p:=by
 refine Gd.mk' h1 h2 ⟨ht,hx,λh=>hr h.1,λh=>absurd h hk,λs hs=>?_⟩;have e12:¬i.op=12:=λe=>hk (by rw[e];decide);have e13:¬i.op=13:=λe=>hk (by rw[e];decide);have e14:¬i.op=14:=λe=>hk (by rw[e];decide)
 simp_all[I2]
def exO(k:Int):Int:=if k=1 then 1 else if k=3 then 1 else if k=4 then 1 else if k=2 then 2 else if k=5 then 4 else if k=6 then 5 else if k=7 then 6 else if k=8 then 7 else if k=9 then 8 else if k=10 then 9 else if k=11 then 10 else 11
theorem E2w(nm:List UInt8->Int)(k v:Int)(n:List UInt8):(A9j nm k v n).op=exO k:=by
 unfold A9j exO;simp only[apply_ite Ins.op]
theorem D8a(nm:List UInt8->Int){k:Int}(hk:kOk k=true)(v:Int)(n:List UInt8):
  (D4 (A9j nm k v n).op).1=(N5 k:Int)/\(D4 (A9j nm k v n).op).2.1=1/\¬(D4 (A9j nm k v n).op).2.2=7/\¬(A9j nm k v n).op=31:=by
 have h24:1<=k/\k<=24:=by
  unfold kOk at hk;rw[A1H,A0G,A0L,A0L,A0L]at hk
  grind[B0]
 have hm:k=1\/k=2\/k=3\/k=4\/k=5\/k=6\/k=7\/k=8\/k=9\/k=10\/k=11\/k=12\/k=13\/k=14\/k=15\/k=16\/k=17\/k=18\/k=19\/k=20\/k=21\/k=22\/k=23\/k=24:=a8
 rw[E2w];rcases hm with rfl|rfl|rfl|rfl|rfl|rfl|rfl|rfl|rfl|rfl|rfl|rfl|rfl|rfl|rfl|rfl|rfl|rfl|rfl|rfl|rfl|rfl|rfl|rfl<;>exact⟨n7,n7,n7,by decide⟩
theorem B6p{k v:Int}{n:List UInt8}{a:List Ex}{p:Int}{o d:Nat}(h:msM (.mk k v n a p)=some (o,d)):
  kOk k=true/\a.length=N5 k/\((N5 k=0/\o=1)\/(¬N5 k=0/\∃d',msL k 0 a=some (o,d'))):=by
 rw[msM]at h
 grind
mutual
theorem C8m:∀ {e:Ex} {o d:Nat},msM e=some (o,d)->1<=o
 |.mk k v n a p,o,d,h=>by
  obtain⟨h1,h2,⟨-,rfl⟩|⟨h3,d',h4⟩⟩:=B6p h
  ·omega
  ·have:=C4x h4;omega
theorem C4x:∀ {l:List Ex} {k:Int} {i o d:Nat},msL k i l=some (o,d)->l.length<=o
 |[],_,_,_,_,_=>A0Q _
 |e::l,k,i,o,d,h=>by
  rw[msL]at h;split at h
  ·grind
  ·rename_i o1 d1 g1;split at h
   ·grind
   ·rename_i o2 d2 g2;have h1:=C8m g1;have h2:=C4x g2
    grind
end
section
variable {nm:List UInt8->Int} {I:List Ins} {Hs:List Int}
mutual
theorem gdE:∀ {e:Ex} {o d p:Nat} {x:Int},msM e=some (o,d)->0<=x->x+o<=48->Plc I Hs p (cgE nm e) (hE x e)->Hs[p+(cgE nm e).length]? = some (x+1) ->
  (∀i,i<(cgE nm e).length->Gd I Hs (p+i))/\Hs[p]? = some x
 |.mk k v n a q,o,d,p,x,h,h0,hx,hp,hn=>by
  obtain⟨h1,h2,h3⟩:=B6p h;rw[cgE,hE]at hp;rw[cgE,A0A]at hn;obtain⟨pa,pb⟩:=hp.split (S7 nm a x);obtain⟨b1,b2, -⟩:=pb.one;obtain⟨e1,e2,e3,e4⟩:=D8a nm h1 v n;have hao:a.length<=o:=by
   rcases h3 with ⟨h3,rfl⟩|⟨-,d',h3⟩
   ·omega
   ·exact C4x h3
  have hargs:(∀i,i<(C7 nm a).length->Gd I Hs (p+i))/\Hs[p]? = some x:=by
   rcases h3 with ⟨h3, -⟩|⟨-,d',h3⟩
   ·have:a=[]:=A3K.1 (by omega);subst this;refine⟨λi hi=>by simp[C7]at hi,?_⟩;simpa[C7] using b2
   ·exact F4x h3 h0 hx pa b2
  refine⟨λi hi=>?_,hargs.2⟩;rw[cgE,A0A,A0I]at hi
  grind[Gd.next,List.length_singleton]
theorem F4x:∀ {l:List Ex} {k:Int} {i o d p:Nat} {x:Int},msL k i l=some (o,d)->0<=x->x+o<=48->Plc I Hs p (C7 nm l) (hEs x l)->Hs[p+(C7 nm l).length]? = some (x+(l.length:Int)) ->
  (∀i,i<(C7 nm l).length->Gd I Hs (p+i))/\Hs[p]? = some x
 |[],_,_,_,_,p,x,h,h0,hx,hp,hn=>⟨λi hi=>l9,by grind[C7]⟩
 |e::l,k,j,o,d,p,x,h,h0,hx,hp,hn=>by
  rw[msL]at h;split at h
  ·grind
  ·rename_i o1 d1 g1;split at h
   ·grind
   ·rename_i o2 d2 g2;have hpos:=C8m g1;cases h;rw[C7,hEs]at hp;rw[C7,A0A, <- A2P]at hn;obtain⟨pa,pb⟩:=hp.split (C5l nm e x);obtain⟨r1,r2⟩:=F4x g2 (by omega) (by omega) pb (by grind);obtain⟨s1,s2⟩:=gdE g1 h0 (by omega) pa r2;refine⟨λi hi=>?_,s2⟩;rw[C7,A0A]at hi;by_cases hi2:i<(cgE nm e).length
    ·grind
    ·have:=r1 (i-(cgE nm e).length) (by omega)
     grind
end
theorem gdA:∀ {l:List Ex} {p:Nat} {x:Int},(∀e∈l,Z9 e=true)->0<=x->x+(l.length:Int)+32<=49->Plc I Hs p (C7 nm l) (hEs x l)->Hs[p+(C7 nm l).length]? = some (x+(l.length:Int)) ->
  (∀i,i<(C7 nm l).length->Gd I Hs (p+i))/\Hs[p]? = some x
 |[],p,x,h,h0,hx,hp,hn=>⟨λi hi=>l9,by grind[C7]⟩
 |e::l,p,x,h,h0,hx,hp,hn=>by
  rw[A0C]at hx hn;have he:=h e A0H;unfold Z9 at he;split at he
  ·rename_i o d g;rw[A0G,A0L,A0L]at he;rw[C7,hEs]at hp;rw[C7,A0A, <- A2P]at hn;obtain⟨pa,pb⟩:=hp.split (C5l nm e x);obtain⟨r1,r2⟩:=gdA (λe he=>h e (A0D _ he)) (by omega) (by push_cast at hx;omega) pb (by rw[hn];congr 1;push_cast;omega);obtain⟨s1,s2⟩:=gdE g h0 (by push_cast at hx;omega) pa r2;refine⟨λi hi=>?_,s2⟩;rw[C7,A0A]at hi;by_cases hi2:i<(cgE nm e).length
   ·exact s1 i hi2
   ·have:=r1 (i-(cgE nm e).length) (by omega)
    rwa [show p+(cgE nm e).length+(i-(cgE nm e).length)=p+i by omega]at this
  grind
theorem D4d{k:Int}(h1:1<=k)(h2:k<=19)(n2:¬k=2)(n3:¬k=3):
  (D4 (stOp k)).1=((O6 k).args:Int)/\(D4 (stOp k)).2.1=0/\¬(D4 (stOp k)).2.2=7/\¬stOp k=31:=by
 have hm:k=1\/k=4\/k=5\/k=6\/k=7\/k=8\/k=9\/k=10\/k=11\/k=12\/k=13\/k=14\/k=15\/k=16\/k=17\/k=18\/k=19:=a8
 rcases hm with rfl|rfl|rfl|rfl|rfl|rfl|rfl|rfl|rfl|rfl|rfl|rfl|rfl|rfl|rfl|rfl|rfl<;>exact⟨n7,n7,n7,by decide⟩
theorem D4m(k:Int):(O6 k).args<=2:=by
 grind[O6]
theorem B3e{d:Nat}{k:Int}{n t:List UInt8}{a:List Ex}{x y:List St}{q:Int}(h:V5 d (.mk k n t a x y q)=true):
  1<=k/\k<=19/\a.length=(O6 k).args/\(∀e∈a,Z9 e=true)/\(x=[]\/d+1<=8)/\I8 (d+1) x=true/\(y=[]\/d+1<=8)/\I8 (d+1) y=true/\((O6 k).thn=true\/x=[])/\((O6 k).els=true\/y=[]) /\
   (if(O6 k).name=true then D8 n=true else n=[])/\(if(O6 k).text=true then Y7 t=true else t=[]):=by
 simp_all[V5]
theorem A5p{p m n:Nat}(h1:∀i,i<m->Gd I Hs (p+i))(h2:∀i,i<n->Gd I Hs (p+m+i)):∀i,i<m+n->Gd I Hs (p+i):=λi hi=>by
 by_cases h:i<m
 ·grind
 ·have:=h2 (i-m) (by omega)
  grind
theorem A4p{p n:Nat}(h1:Gd I Hs p)(h2:∀i,i<n->Gd I Hs (p+1+i)):∀i,i<n+1->Gd I Hs (p+i):=λi hi=>by
 cases i<;>grind
mutual
theorem gdS:∀ {s:St} {d p:Nat} {S:List (List UInt8)} {x:Int},V5 d s=true->d<=8->0<=x->x+1<=d->Plc I Hs p (cgS nm p S s).1 (hS x s)->Hs[p+(cgS nm p S s).1.length]? = some x ->
  (∀i,i<(cgS nm p S s).1.length->Gd I Hs (p+i))/\Hs[p]? = some x
 |.mk k n t a b c q,d,p,S,x,h,hd,h0,hx,hp,hn=>by
  obtain⟨k1,k2,ha,hv,hb,hvb,hc,hvc, -⟩:=B3e h;have hal:=D4m k;by_cases h2:k=2
  ·subst h2;have ha1:a.length=1:=ha;rw[cgS,if_pos rfl]at hp hn ⊢;rw[hS,if_pos rfl]at hp;by_cases hy:c.length=0
   ·rw[if_pos hy]at hp hn ⊢;rw[if_pos hy]at hp;obtain⟨pa,pb⟩:=hp.split (S7 nm a x);obtain⟨i1,i2,pc⟩:=pb.one;simp only[A0A,A0C]at hn ⊢;have hn1:Hs[p+(C7 nm a).length+1+(cgB nm (p+(C7 nm a).length+1) S b).1.length]? = some x:=by rw[<- hn];congr 1;omega
    obtain⟨t1,t2⟩:=gdB hvb (λhne=>by rcases hb with hb|hb;exact absurd hb hne;exact hb) h0 (by push_cast;omega) pc hn1;obtain⟨s1,s2⟩:=gdA hv h0 (by omega) pa (by rw[i2,ha1];rfl);refine⟨A5p s1 (A4p (Gd.mk' i1 i2 ⟨by show(1:Int)<=x+1;omega,a8,λh=>absurd h.1 (by simp),λ_=>A2H _,λs hs=>?_⟩) t1),s2⟩;simp only[I2]at hs
    grind
   ·rw[if_neg hy]at hp hn ⊢;rw[if_neg hy]at hp;have hcne:¬c=[]:=λe=>hy (by grind);obtain⟨pa,pb⟩:=hp.split (S7 nm a x);obtain⟨i1,i2,pc⟩:=pb.one;obtain⟨pd,pe⟩:=pc.split (A4o nm b x _ S);obtain⟨j1,j2,pf⟩:=pe.one;simp only[A0A,A0C]at hn ⊢;generalize hq1:p+(C7 nm a).length+1=q1 at *;generalize hTT:cgB nm q1 S b=TT at *;generalize hq2:q1+TT.1.length+1=q2 at *;have hn1:Hs[q2+(cgB nm q2 TT.2 c).1.length]? = some x:=by grind
    obtain⟨u1,u2⟩:=gdB hvc (λhne=>by grind) h0 (by omega) pf hn1;obtain⟨t1,t2⟩:=gdB (p:=q1) (S:=S) hvb (λhne=>by grind) h0 (by omega) (by grind) (by grind);rw[hTT]at t1;obtain⟨s1,s2⟩:=gdA hv h0 (by omega) pa (by grind);refine⟨?_,s2⟩;refine A5p s1 (A4p (Gd.mk' i1 i2 ⟨by show(1:Int)<=x+1;omega,a8,λh=>absurd h.1 (by simp),λ_=>A2H _,λs hs=>?_⟩) ?_)
    ·simp only[I2]at hs
     grind
    ·rw[hq1];refine A5p t1 (A4p (Gd.mk' j1 j2 ⟨by show(0:Int)<=x;omega,a8,λh=>absurd h.1 (by simp),λ_=>A2H _,λs hs=>?_⟩) ?_)
     ·simp only[I2]at hs;rw[if_neg (by decide),if_pos trivial]at hs;simp only[A0U,A1R,or_false]at hs;subst hs;show Hs[((q2+(cgB nm q2 TT.2 c).1.length:Nat):Int).toNat]? = some x;rw[A1U,hn1]
     grind
  ·by_cases h3:k=3
   ·subst h3;have ha1:a.length=1:=ha;rw[cgS,if_neg (by decide),if_pos rfl]at hp hn ⊢;rw[hS,if_neg (by simp),if_pos rfl]at hp;obtain⟨pa,pb⟩:=hp.split (S7 nm a x);obtain⟨i1,i2,pc⟩:=pb.one;obtain⟨pd,pe⟩:=pc.split (A4o nm b (x+1) _ S);obtain⟨j1,j2, -⟩:=pe.one;simp only[A0A,A0C,A0M]at hn ⊢;generalize hq1:p+(C7 nm a).length+1=q1 at *;generalize hTT:cgB nm q1 S b=TT at *;have hn1:Hs[q1+TT.1.length+1]? = some x:=by grind
    obtain⟨t1,t2⟩:=gdB (p:=q1) (S:=S) hvb (λhne=>by grind) (by omega:(0:Int)<=x+1) (by omega) (by grind) (by grind);rw[hTT]at t1;obtain⟨s1,s2⟩:=gdA hv h0 (by omega) pa (by grind);refine⟨?_,s2⟩;refine A5p s1 (A4p (Gd.mk' i1 i2 ⟨by show(1:Int)<=x+1;omega,a8,λh=>absurd h.1 (by simp),λ_=>A2H _,λs hs=>?_⟩) ?_)
    ·simp only[I2]at hs
     grind
    ·rw[hq1];refine A5p t1 (A4p (Gd.mk' j1 j2 ⟨by show(0:Int)<=x+1;omega,a8,λh=>absurd h.1 (by simp),λ_=>A2H _,λs hs=>?_⟩) (λi hi=>absurd hi (by omega)));simp only[I2]at hs
     grind
   ·obtain⟨e1,e2,e3,e4⟩:=D4d k1 k2 h2 h3;rw[hS,if_neg h2,if_neg h3]at hp;rw[cgS,if_neg h2,if_neg h3]at hp hn ⊢;have key:∀A:Int,Plc I Hs p (C7 nm a++[⟨stOp k,A⟩]) (hEs x a++[x+(a.length:Int)])->Hs[p+(C7 nm a++[(⟨stOp k,A⟩:Ins)]).length]? = some x ->
      (∀i,i<(C7 nm a++[(⟨stOp k,A⟩:Ins)]).length->Gd I Hs (p+i))/\Hs[p]? = some x:=λA hp hn=>by
     obtain⟨pa,pb⟩:=hp.split (S7 nm a x);obtain⟨i1,i2, -⟩:=pb.one;simp only[A0A,A0C,A0M]at hn ⊢;obtain⟨s1,s2⟩:=gdA hv h0 (by omega) pa i2;refine⟨A5p s1 (A4p (Gd.next i1 i2 e3 e4 (by show(D4 (stOp k)).1<=_;rw[e1];omega) (by omega) ?_) (λi hi=>absurd hi (by omega))),s2⟩;show Hs[p+(C7 nm a).length+1]? = some (x+(a.length:Int)-(D4 (stOp k)).1+(D4 (stOp k)).2.1);rw[e1,e2, <- ha];rw[show p+(C7 nm a).length+1=p+((C7 nm a).length+(0+1)) by omega,hn]
     congr 1
     omega
    by_cases h4:k=18
    ·subst h4;rw[if_pos rfl]at hp hn ⊢;exact key _ hp hn
    grind
theorem gdB:∀ {l:List St} {d p:Nat} {S:List (List UInt8)} {x:Int},I8 d l=true->(l≠[]->d<=8)->0<=x->x+1<=d->Plc I Hs p (cgB nm p S l).1 (hB x l)->Hs[p+(cgB nm p S l).1.length]? = some x ->
  (∀i,i<(cgB nm p S l).1.length->Gd I Hs (p+i))/\Hs[p]? = some x
 |[],d,p,S,x,h,hd,h0,hx,hp,hn=>⟨λi hi=>l9,by assumption⟩
 |s::l,d,p,S,x,h,hd,h0,hx,hp,hn=>by
  rw[I8,A0G]at h;rw[cgB]at hp hn ⊢;rw[hB]at hp;simp only[A0A, <- A2P]at hn ⊢;obtain⟨pa,pb⟩:=hp.split (D7j nm s x p S);have hd8:=hd (by simp);obtain⟨r1,r2⟩:=gdB h.2 (λ_=>hd8) h0 hx pb hn;obtain⟨s1,s2⟩:=gdS h.1 hd8 h0 hx pa r2;exact⟨A5p s1 r1,s2⟩
end
end
def cgL(nm:List UInt8->Int)(p:Nat)(S:List (List UInt8)):List D6->List Ins × List Ent × List (List UInt8)
 |[]=>([],[],S)
 |q::l=>((cgB nm p S q.2.flatten).1++(⟨31,0⟩::(cgL nm (p+(cgB nm p S q.2.flatten).1.length+1) (cgB nm p S q.2.flatten).2 l).1),
   ⟨q.1.mode,q.1.trig,q.1.ix,(p:Int)⟩::(cgL nm (p+(cgB nm p S q.2.flatten).1.length+1) (cgB nm p S q.2.flatten).2 l).2.1,
   (cgL nm (p+(cgB nm p S q.2.flatten).1.length+1) (cgB nm p S q.2.flatten).2 l).2.2)
def hL:List D6->List Int
 |[]=>[]
 |q::l=>hB 0 q.2.flatten++(0::hL l)
theorem D7k(nm:List UInt8->Int):∀(l:List D6) (p:Nat) (S:List (List UInt8)),(hL l).length=(cgL nm p S l).1.length
 |[],_,_=>rfl
 |q::l,p,S=>by
  rw[hL,cgL];simp only[A0A,A0C];rw[A4o nm q.2.flatten 0 p S,D7k nm l (p+(cgB nm p S q.2.flatten).1.length+1) (cgB nm p S q.2.flatten).2]
theorem A3n{d:Nat}:∀ {l:List St},I8 d l=true↔∀s∈l,V5 d s=true
 |[]=>by simp[I8]
 |s::l=>by rw[I8,A0G,A3n];simp
def E4e(q:D6):Prop:=∀b∈q.2,T4 b 1=true
theorem E4e.sts{q:D6}(h:E4e q):I8 1 q.2.flatten=true:=by
 rw[A3n];intro s hs;obtain⟨b,hb,hs⟩:=A4J.1 hs;have:=h b hb
 simp_all[T4,A3n]
section
variable {nm:List UInt8->Int} {I:List Ins} {Hs:List Int}
theorem gdL:∀ {l:List D6} {p:Nat} {S:List (List UInt8)},(∀q∈l,E4e q)->Plc I Hs p (cgL nm p S l).1 (hL l) ->
  (∀i,i<(cgL nm p S l).1.length->Gd I Hs (p+i))/\(∀e∈(cgL nm p S l).2.1,0<=e.pos/\Hs[e.pos.toNat]? = some 0)
 |[],_,_,_,_=>⟨λi hi=>absurd hi (by trivial),λe he=>by trivial⟩
 |q::l,p,S,h,hp=>by
  rw[cgL,hL]at hp;rw[cgL];obtain⟨pa,pb⟩:=hp.split (A4o nm q.2.flatten 0 p S);obtain⟨i1,i2,pc⟩:=pb.one;obtain⟨r1,r2⟩:=gdL (λq hq=>h q (A0D _ hq)) pc;obtain⟨s1,s2⟩:=gdB (h q A0H).sts (λ_=>by decide) (A2U 0) (by decide) pa i2;refine⟨?_,λe he=>?_⟩
  ·simp only[A0A,A0C];refine A5p s1 (A4p (Gd.mk' i1 i2 ⟨n7,n7,λh=>h.2 rfl,λh=>absurd h (by decide),λs hs=>?_⟩) r1);simp only[I2]at hs;rw[if_pos trivial]at hs;cases hs
  grind
end
theorem D4h{c:Prg}{Hs:List Int}(hl:Hs.length=c.instrs.length)(hg:∀i,i<c.instrs.length->Gd c.instrs Hs i)(he:∀e∈c.entries,0<=e.pos/\Hs[e.pos.toNat]? = some 0):
  K9 c=true/\(c.instrs.length<=4000->(hR c).isNone=false):=by
 have lt:∀ {p:Nat} {x:Int},Hs[p]? = some x->p<c.instrs.length:=λh=>by
  grind
 have hj:K9 c=true:=by
  unfold K9;rw[A0G,A0R,A0R];constructor
  ·intro i hi;obtain⟨p,hp,rfl⟩:=List.mem_iff_getElem.1 hi;have h1:=A0B hp;have h2:=A0B (l:=Hs) (i:=p) (by omega);obtain⟨-, -, -,g4,g5⟩:=hg p hp _ _ h1 h2;generalize c.instrs[p]=i at *;unfold A7e;by_cases hk:(D4 i.op).2.2=7
   ·have hA:=g4 hk;have hop:isJ i.op=true:=by rw[A5k];exact decide_eq_true hk
    have ht:i.A.toNat<c.instrs.length:=by
     unfold isJ at hop;simp only[A1H,A0L]at hop;rcases hop with e|e|e
     ·exact lt (g5 (i.A.toNat,Hs[p]) (by unfold I2;rw[if_neg (by omega),if_pos e];exact A0H))
     ·exact lt (g5 (i.A.toNat,Hs[p]-1) (by unfold I2;rw[if_neg (by omega),if_neg (by omega),if_pos e];exact A0D _ A0H))
     ·exact lt (g5 (i.A.toNat,Hs[p]-1) (by unfold I2;rw[if_neg (by omega),if_neg (by omega),if_neg (by omega),if_pos e];exact A0D _ A0H))
    have:inM i.A 0 (c.instrs.length-1)=true:=by unfold inM;rw[A0G,A0L,A0L];omega
    rw[this];simp
   grind
  ·intro e h;obtain⟨h1,h2⟩:=he e h;have:=lt h2;simp[C1p,inM];omega
 refine⟨hj,λh4=>?_⟩;have hr:∀p x,Rch c p x->Hs[p]? = some x:=by
  intro p x h
  induction h with
  |ent h=>grind
  | @step p x s h1 h2 h3 ih =>
   have h4:c.instrs[p]? = some (c.ins p):=by
    grind
   exact(hg p (lt ih) _ _ h4 ih).2.2.2.2 s h3
 have hs:=C9g h4 hj;cases hc:hR c with
 |some _=>rfl
 |none =>
  rw[hc]at hs;obtain⟨p,x,h1,h2|⟨y,h2,h3⟩⟩:=hs
  ·have e1:=hr p x h1;have h4:c.instrs[p]? = some (c.ins p):=by
    show _=some (c.instrs.getD p ⟨0,0⟩);rw[A1L,A0B (lt e1)];rfl
   obtain⟨g1,g2,g3, -⟩:=hg p (lt e1) _ _ h4 e1;exact absurd ⟨lt e1,g2,g1,g3⟩ h2
  grind
theorem B5b(nm:List UInt8->Int):∀(l:List D6) (p:Nat) (S:List (List UInt8)),(cgL nm p S l).2.1.map (λe=>(⟨e.mode,e.trigger,e.index⟩:Ky))=l.map (·.1)
 |[],_,_=>rfl
 |q::l,p,S=>by rw[cgL];simp only[A0P,B5b nm l]
theorem C2v:∀ {l:List Ent},(l.map (λe=>(⟨e.mode,e.trigger,e.index⟩:Ky))).Pairwise Ky.lt->Z4 l=true
 |[],_=>rfl
 |[_],_=>rfl
 |a::b::l,h=>by
  rw[A0P,A4C]at h;rw[Z4,C2v h.2,A3I];have:=h.1 ⟨b.mode,b.trigger,b.index⟩ (by simp)
  grind[Ky.lt,B6u]
theorem D2k{nm:List UInt8->Int}{l:List D6}(h:Srt l)(p:Nat)(S:List (List UInt8)):Z4 (cgL nm p S l).2.1=true:=by
 refine C2v ?_;rw[B5b];exact A4U.2 h
end Go.Pb
namespace Go.Sym
variable [Go.Sym.Tab]
open Go.Eng (KKey)
inductive Mz (id:Nat) (r:DV):DV->DV->Prop where
 |same (d:DV):Mz id r d d
 |mid:Mz id r (.mid id) r
 |agg (a a':List DV) (hl:a.length=a'.length) (h:∀(i:Nat) x y,a[i]? = some x->a'[i]? = some y->Mz id r x y):Mz id r (.agg a) (.agg a')
 |tup (a a':List DV) (hl:a.length=a'.length) (h:∀(i:Nat) x y,a[i]? = some x->a'[i]? = some y->Mz id r x y):Mz id r (.tup a) (.tup a')
theorem Mz.rel{ρ ρ':Ren}{id:Nat}{r:DV}(hl : ρ.le ρ')(hr:∀v,VRel ρ (.mid id) v->VRel ρ' r v){d d':DV}(h:Mz id r d d'):∀v,VRel ρ d v->VRel ρ' d' v:=by
 induction h with
 |same d=>exact λv hv=>hv.mono hl
 |mid=>omega
 |agg a a' hl' _ ih =>
  intro v hv;obtain⟨b,rfl,h1,h2⟩:=hv.agg_inv;refine .agg _ _ (hl'▸h1) λi x y hx hy=>?_
  grind
 |tup a a' hl' _ ih =>
  intro v hv;obtain⟨b,rfl,h1,h2⟩:=hv.tup_inv;refine .tup _ _ (hl'▸h1) λi x y hx hy=>?_
  grind
theorem GL.frzm{H H':Hp}{ds ds':List DV}{id u:Nat}{kd:KKey}{ks vs:List DV}(hb:H id=some ⟨u,true,[.mpc kd ks vs]⟩)(hH:∀j,H' j=none\/(j≠id/\H' j=H j))
  (hl:ds.length=ds'.length) (hd:∀(i:Nat) x y,ds[i]? = some x->ds'[i]? = some y->Mz id (.mp kd ks vs) x y):GL H ds H' ds':=by
 refine⟨λj hj=>?_,fun ρ w a2 hR hA=>?_⟩
 ·grind
 have back:∀j bj,H' j=some bj->j≠id/\H j=some bj:=by
  grind
 obtain⟨t,ht,hB⟩:=hR.blk id _ hb;rcases hB with ⟨hm,c,e,fr, -, -, -, -,g5, -⟩|⟨hm, -,hs,es,cl,kd',ks',vs',g1,g2,g3,g6⟩
 ·have:=(g5 0 _ rfl).1
  trivial
 cases g2;have hnone : ρ.fm t.block=none:=by
  cases hf : ρ.fm t.block with
  |none=>rfl
  |some es'=>exact absurd rfl ((hR.frm _ _ hf).2 id _ t hb rfl ht)
 obtain⟨ρ2,hρ⟩:∃ ρ2:Ren, ρ2=⟨ρ.nm, ρ.fz, ρ.tab,λk=>if k=t.block then some es else ρ.fm k⟩:=⟨_,rfl⟩;have n1 : ρ2.nm = ρ.nm:=j8
 have n2 : ρ2.fz = ρ.fz:=j8
 have n3:∀k r, ρ2.fm k=some r->(k=t.block/\r=es) \/ ρ.fm k=some r:=by
  intro k r hk;rw[hρ]at hk
  grind
 have n4 : ρ2.fm t.block=some es:=zae
 have hle : ρ.le ρ2:=⟨λi x h=>j8,λb r h=>j8,λb r h=>by
  rw[hρ]
  grind⟩
 have hval:∀v,VRel ρ (.mid id) v->VRel ρ2 (.mp kd ks vs) v:=by
  intro v hv;obtain⟨t',ht', -,rfl⟩:=hv.mid_inv;rw[ht]at ht';cases ht';obtain⟨a1,a2,a3,a4,a5⟩:=g3;exact .mp kd ks vs t.block es n4 a1 a2 a3 (λi x e hx he=>(a4 i x e hx he).mono hle) (λi x e hx he=>(a5 i x e hx he).mono hle)
 refine⟨ρ2,n1,⟨λj bj hj=>?_,λi j bi bj ti tj hi hj hij h1 h2 ho=>?_,λk r hk=>?_,λj bj tj hj ho hjt=>?_,λk r hk=>?_⟩,⟨hl▸hA.1,λi x y hx hy=>?_⟩,?_⟩
 ·rw[n1];obtain⟨-,h1⟩:=back j bj hj;obtain⟨tj,q1,q2⟩:=hR.blk j bj h1;exact⟨tj,q1,q2.mono hle⟩
 ·rw[n1]at h1 h2;exact hR.sep i j bi bj ti tj (back i bi hi).2 (back j bj hj).2 hij h1 h2 ho
 ·rw[n2]at hk;exact hR.frz k r hk
 ·rw[n1]at hjt;rw[n2];exact hR.dis j bj tj (back j bj hj).2 ho hjt
 ·rcases n3 k r hk with ⟨rfl,rfl⟩|h1
  ·refine⟨⟨cl,g1,g6⟩,λj bj tj hj ho hjt=>?_⟩;rw[n1]at hjt;obtain⟨hne,h2⟩:=back j bj hj;exact hR.sep j id bj _ tj t h2 hb hne hjt ht ho
  ·refine⟨(hR.frm k r h1).1,λj bj tj hj ho hjt=>?_⟩;rw[n1]at hjt;exact(hR.frm k r h1).2 j bj tj (back j bj hj).2 ho hjt
 ·have hi:i<ds.length:=by grind
  exact(hd i ds[i] x (A0B hi) hx).rel hle hval y (hA.2 i _ y (A0B hi) hy)
 ·refine⟨hle,rfl,rfl,rfl,A0E _,λ_ _ _=>rfl,λj bj tj hj hjt=>?_,λk r hk=>.inl (by rw[<- n2];exact hk),λk r hk=>?_⟩
  ·rw[n1]at hjt;exact .inr ⟨j,bj,tj,(back j bj hj).2,λh=>h,hjt,rfl⟩
  grind
theorem D5u{H:Hp}{id u:Nat}{kd:KKey}{ks vs:List DV}(hb:H id=some ⟨u,true,[.mpc kd ks vs]⟩):∃H2,GL H [.mid id] H2 [.mp kd ks vs] :=
 ⟨nil,GL.frzm hb (λj=>.inl rfl) rfl (λi x y hx hy=>by
  match i with
  |0=>cases hx;cases hy;exact .mid
  |_+1=>grind)⟩
theorem B0r{a b:List UInt8}:B4k (.str a) (.str b)=(a==b):=id rfl
theorem B0m{s:List UInt8}:∀(l:List (List UInt8)) (i:Nat),(G5 (.str s) (l.map DV.str) i).isSome=l.contains s
 |[],i=>rfl
 |x::r,i=>by
  simp only[A0P,G5,B0r,List.contains_cons];cases h:s==x with
  |true=>simp
  |false=>simp[B0m r (i+1)]
theorem B4f{s:List UInt8}{l:List (List UInt8)}(h:l.contains s=false)(i:Nat):G5 (.str s) (l.map DV.str) i=none:=by
 have:=B0m (s:=s) l i
 simp_all
theorem C4z{s:List UInt8}{l:List (List UInt8)}(h:l.contains s=true)(i:Nat):∃j,G5 (.str s) (l.map DV.str) i=some j:=by
 have:=B0m (s:=s) l i;rw[h]at this;cases hm:G5 (.str s) (l.map DV.str) i with
 |none=>grind
 |some j=>simp
theorem B4g{k:DV}:∀ {ks:List DV} {i j:Nat},G5 k ks i=some j->i<=j/\j<i+ks.length
 |[],i,j,h=>y8
 |x::r,i,j,h=>by
  simp only[G5]at h;split at h
  ·grind
  ·have:=B4g h
   grind
end Go.Sym
namespace Go.Pb
variable [Go.Sym.Tab]
open Go.Sym
open Go.Eng (KKey)
def mkK(l:List (List UInt8 × DV)):List DV:=l.map λp=>.str p.1
def mvV(l:List (List UInt8 × DV)):List DV:=l.map λp=>p.2
theorem A3s{n:List UInt8}:∀(l:List (List UInt8 × DV)) (i:Nat),match G5 (.str n) (mkK l) i with
  |some j=>i<=j/\∃x,(mvV l)[j-i]? = some x/\l.lookup n=some x
  |none=>l.lookup n=none
 |[],i=>rfl
 |p::l,i=>by
  obtain⟨a,x⟩:=p;show match G5 (.str n) (.str a::mkK l) i with
   |some j=>_
   |none=>_
  rw[G5,B0r];cases h:n==a with
  |true =>
   simp_all[mvV]
  |false =>
   have ih:=A3s (n:=n) l (i+1);dsimp only;cases hf:G5 (.str n) (mkK l) (i+1) with
   |none=>grind
   |some j =>
    rw[hf]at ih;obtain⟨h1,y,h2,h3⟩:=ih;refine⟨a8,y,?_,by grind⟩;have e:j-i=(j-(i+1))+1:=a8
    rw[e];exact h2
theorem A8w{l:List (List UInt8 × DV)}{n:List UInt8}{x z:DV}{ok:Bool}(h:l.lookup n=some x):lkV z ok (mvV l) (G5 (.str n) (mkK l) 0)=some (match ok with
  |true=>.tup [x,.bool true]
  |false=>x):=by
 have:=A3s (n:=n) l 0;cases hf:G5 (.str n) (mkK l) 0 with
 |none=>grind
 |some j =>
  rw[hf]at this;obtain⟨-,y,h2,h3⟩:=this;rw[h3]at h;cases h;simp only[lkV]
  grind
theorem A8x{l:List (List UInt8 × DV)}{n:List UInt8}{z:DV}{ok:Bool}(h:l.lookup n=none):lkV z ok (mvV l) (G5 (.str n) (mkK l) 0)=some (match ok with
  |true=>.tup [z,.bool false]
  |false=>z):=by
 grind[A3s,lkV]
theorem C8o{l:List (List UInt8 × DV)}{n:List UInt8}(h:l.lookup n=none):G5 (.str n) (mkK l) 0=none:=by
 grind[A3s]
theorem E5c{α:Type}(n:List UInt8)(a:List UInt8)(x : α):∀l:List (List UInt8 × α),(l++[(a,x)]).lookup n=(l.lookup n).or (if n==a then some x else none)
 |[]=>j8
 |(b,y)::l=>by
  grind
def B0o(q:Int × Int):DV:=.agg [I64 q.1,I64 q.2]
def A1m(l:List (List UInt8 × (Int × Int)))(n:List UInt8)(q:Int × Int):List (List UInt8 × (Int × Int)):=if(l.lookup n).isSome=true then l else l++[(n,q)]
def A2m(l:List (List UInt8 × (Int × Int))):List (List UInt8 × DV):=l.map λp=>(p.1,B0o p.2)
theorem A2b(n:List UInt8):∀l:List (List UInt8 × (Int × Int)),(A2m l).lookup n=(l.lookup n).map B0o
 |[]=>rfl
 |(a,x)::l=>by
  show((a,B0o x)::A2m l).lookup n=_;rw[List.lookup_cons,List.lookup_cons,A2b n l]
  grind
def A0e(pre:List Dc)(d:Dc):Int:=if d.kind=6\/d.kind=7\/d.kind=8 then(cnD pre d.kind:Int) else d.value
def nmD(pre:List Dc)(l:List (List UInt8 × (Int × Int))):List Dc->List (List UInt8 × (Int × Int))
 |[]=>l
 |d::r=>nmD (pre++[d]) (A1m l d.name (d.kind,A0e pre d)) r
def nmX(i:Nat)(l:List (List UInt8 × (Int × Int))):List Md->List (List UInt8 × (Int × Int))
 |[]=>l
 |m::r=>nmX (i+1) (A1m l m.name (9,(i:Int))) r
def nmL(r:Ru):List (List UInt8 × (Int × Int)):=nmX 0 (nmD [] [] r.decls) r.modes
def nmV(r:Ru):DV:=.mp .s (mkK (A2m (nmL r))) (mvV (A2m (nmL r)))
def ahS:List (Int × Nat)->Int->List (Int × Nat)
 |[],k=>[(k,1)]
 |(a,n)::l,k=>if a=k then(a,n+1)::l else(a,n)::ahS l k
def ahM(l:List Dc):List (Int × Nat):=l.foldl (λa d=>ahS a d.kind) []
def ahK(l:List (Int × Nat)):List DV:=l.map λp=>I64 p.1
def ahV(l:List (Int × Nat)):List DV:=l.map λp=>I64 (p.2:Int)
def ahN(l:List (Int × Nat))(k:Int):Nat:=match l with
 |[]=>0
 |(a,n)::r=>if a=k then n else ahN r k
theorem B9l(k:Int):∀(l:List (Int × Nat)) (i:Nat),match G5 (I64 k) (ahK l) i with
  |some j=>i<=j/\∃n:Nat,(ahV l)[j-i]? = some (I64 (n:Int))/\ahN l k=n/\(ahK l).set (j-i) (I64 k)=ahK (ahS l k)/\(ahV l).set (j-i) (I64 ((n:Int)+1))=ahV (ahS l k)
  |none=>ahN l k=0/\ahK l++[I64 k]=ahK (ahS l k)/\ahV l++[I64 1]=ahV (ahS l k)
 |[],i=>⟨rfl,rfl,rfl⟩
 |(a,n)::l,i=>by
  have e:G5 (I64 k) (ahK ((a,n)::l)) i=if k=a then some i else G5 (I64 k) (ahK l) (i+1):=by
   show G5 (I64 k) (I64 a::ahK l) i=_;rw[G5];show(match k==a with
    |true=>some i
    |false=>G5 (I64 k) (ahK l) (i+1))=_
   grind
  rw[e];by_cases h:k=a
  ·rw[if_pos h];subst h;refine⟨A0E _,n,?_,?_,?_,?_⟩
   ·simp[ahV]
   ·simp[ahN]
   ·simp[ahK,ahS]
   grind[ahV,ahS]
  ·rw[if_neg h];have ih:=B9l k l (i+1);have h':¬a=k:=λe=>h e.symm;have es:ahS ((a,n)::l) k=(a,n)::ahS l k:=by simp_all[ahS]
   have en:ahN ((a,n)::l) k=ahN l k:=by simp_all[ahN]
   rw[es,en];cases hf:G5 (I64 k) (ahK l) (i+1) with
   |none =>
    rw[hf]at ih;obtain⟨i1,i2,i3⟩:=ih;exact⟨i1,congrArg (I64 a :: ·) i2,congrArg (I64 (n:Int) :: ·) i3⟩
   |some j =>
    rw[hf]at ih;obtain⟨i0,m,i1,i2,i3,i4⟩:=ih;have ej:j-i=(j-(i+1))+1:=a8
    dsimp only;rw[ej];exact⟨a8,m,i1,i2,congrArg (I64 a :: ·) i3,congrArg (I64 (n:Int) :: ·) i4⟩
theorem E5w(k a:Int):∀l:List (Int × Nat),ahN (ahS l a) k=ahN l k+(if a=k then 1 else 0)
 |[]=>by simp[ahS,ahN]
 |(b,n)::l=>by
  rw[ahS];by_cases h:b=a
  ·subst h;rw[if_pos rfl,ahN,ahN]
   grind
  ·rw[if_neg h,ahN,ahN,E5w k a l]
   grind
theorem B5m(l:List Dc)(d:Dc):ahM (l++[d])=ahS (ahM l) d.kind:=by
 grind[ahM]
theorem D8u(l:List Dc)(d:Dc)(k:Int):cnD (l++[d]) k=cnD l k+(if d.kind=k then 1 else 0):=by
 grind[cnD]
theorem D9m:∀(m:Nat) (l:List Dc),l.length<=m->∀k,ahN (ahM l) k=cnD l k:=by
 intro m
 induction m with
 |zero =>
  intro l hl k;have:l=[]:=A1Y (by omega);subst this;rfl
 |succ m ih =>
  intro l hl k;by_cases h:l=[]
  ·grind
  ·obtain⟨l',d,rfl⟩:∃l' d,l=l'++[d]:=⟨l.dropLast,l.getLast h,(List.dropLast_concat_getLast h).symm⟩<;>simp_all[B5m,E5w,D8u]
theorem C6l(l:List Dc)(k:Int):ahN (ahM l) k=cnD l k:=D9m _ l (A0E _) k
theorem C1g{D:List Dc}{i:Nat}{d:Dc}{l:List (List UInt8 × (Int × Int))}(h:D[i]? = some d):nmD (D.take i) l (D.drop i)=nmD (D.take (i+1)) (A1m l d.name (d.kind,A0e (D.take i) d)) (D.drop (i+1)):=by
 grind[List.drop_eq_getElem_cons,nmD]
theorem C1f{M:List Md}{i:Nat}{m:Md}{l:List (List UInt8 × (Int × Int))}(h:M[i]? = some m):nmX i l (M.drop i)=nmX (i+1) (A1m l m.name (9,(i:Int))) (M.drop (i+1)):=by
 grind[List.drop_eq_getElem_cons,nmX]
theorem C5z(l:List Dc)(k:Int):cnD l k<=l.length:=List.countP_le_length
theorem C9y(k:Int)(a:List (Int × Nat)):Sym.lkV (I64 0) false (ahV a) (G5 (I64 k) (ahK a) 0)=some (I64 (ahN a k:Int)):=by
 have:=B9l k a 0;cases hf:G5 (I64 k) (ahK a) 0 with
 |none =>
  rw[hf]at this;obtain⟨h, -, -⟩:=this;rw[h];rfl
 |some j =>
  rw[hf]at this;obtain⟨-,n,h1,h2, -, -⟩:=this<;>simp_all[Sym.lkV]
theorem E5v(k:Int)(a:List (Int × Nat))(H:Hp)(c id u:Nat):muV H c id u (.i .i64) (ahK a) (ahV a) (I64 k) (I64 ((ahN a k:Int)+1)) (G5 (I64 k) (ahK a) 0)=some (.tup [],H.upd id ⟨u,true,[.mpc (.i .i64) (ahK (ahS a k)) (ahV (ahS a k))]⟩,c):=by
 have:=B9l k a 0;cases hf:G5 (I64 k) (ahK a) 0 with
 |none =>
  grind[muV]
 |some j =>
  rw[hf]at this;obtain⟨-,n,h1,h2,h3,h4⟩:=this<;>simp_all[muV]
def A1e(l:List Dc):Prop:=∀d∈l,1<=d.kind/\d.kind<=8
theorem E6e{r:Ru}(h:X3 r=true):A1e r.decls:=by
 intro d hd<;>simp_all[X3,A2j]
theorem B3k(l:List (List UInt8 × (Int × Int)))(a n:List UInt8)(q:Int × Int):(A1m l a q).lookup n=(l.lookup n).or (if n==a then some q else none):=by
 unfold A1m;split
 ·rename_i h;cases hn:n==a with
  |false=>simp
  |true =>
   have e:n=a:=zab
   subst e;cases hl:l.lookup n with
   |none=>rw[hl]at h;cases h
   |some x=>rfl
 grind
theorem B4a(n:List UInt8):∀(M:List Md) (i:Nat) (l:List (List UInt8 × (Int × Int))),(nmX i l M).lookup n=(l.lookup n).or (lkM i M n)
 |[],i,l=>by grind[nmX,lkM]
 |m::M,i,l=>by
  rw[nmX,B4a n M,B3k,lkM,A2T]
  grind
theorem B4b(n:List UInt8):∀(D pre:List Dc) (l:List (List UInt8 × (Int × Int))),A1e D->(nmD pre l D).lookup n=(l.lookup n).or (lkD pre D n)
 |[],pre,l,_=>by grind[nmD,lkD]
 |d::D,pre,l,hk=>by
  obtain⟨k1,k2⟩:=hk d A0H;rw[nmD,B4b n D _ _ (λx hx=>hk x (A0D _ hx)),B3k,lkD,A2T];by_cases h:d.name=n
  ·rw[if_pos h,if_pos (by simp[h])];have e:A0e pre d=(if d.kind<6 then d.value else(cnR ⟨pre,[]⟩ d.kind:Int)):=by
    unfold A0e cnR;by_cases h6:d.kind<6
    ·rw[if_pos h6,if_neg (by omega)]
    ·rw[if_neg h6,if_pos (by omega),if_neg (by omega)]
   rw[e];rfl
  grind
theorem B6l{r:Ru}(hk:A1e r.decls)(n:List UInt8):(nmL r).lookup n=(lkD [] r.decls n).or (lkM 0 r.modes n):=by
 grind[nmL,B4a,B4b]
theorem B8n(r:Ru)(n:List UInt8):H5 r n=((lkD [] r.decls n).or (lkM 0 r.modes n)).getD (0,0):=by
 grind[H5]
theorem C5f{n:List UInt8}:∀ {D pre:List Dc} {q:Int × Int},A1e D->lkD pre D n=some q->q.1≠0
 |d::D,pre,q,hk,h=>by
  rw[lkD]at h;split at h
  ·cases h;have:=hk d A0H;omega
  ·exact C5f (λx hx=>hk x (A0D _ hx)) h
theorem C5e{n:List UInt8}:∀ {M:List Md} {i:Nat} {q:Int × Int},lkM i M n=some q->q.1≠0
 |m::M,i,q,h=>by
  rw[lkM]at h;split at h
  ·grind
  ·exact C5e h
theorem C8c{r:Ru}(hk:A1e r.decls){n:List UInt8}{q:Int × Int}(h:(nmL r).lookup n=some q):H5 r n=q/\q.1≠0:=by
 rw[B6l hk]at h;rw[B8n,h];refine⟨rfl,?_⟩;cases hd:lkD [] r.decls n<;>grind[C5f,C5e]
theorem C8d{r:Ru}(hk:A1e r.decls){n:List UInt8}(h:(nmL r).lookup n=none):H5 r n=(0,0):=by
 grind[B6l,B8n]
def upS(s:Int × Int)(o:Er):Int × Int:=if s.2=0 then o.getD s else s
theorem P3{s:Int × Int}{a b:Er}(ha:NzE a):upS (upS s a) b=upS s (a.or b):=by
 unfold upS;by_cases h:s.2=0
 ·cases a with
  |none=>simp[h]
  |some q =>
   have:=ha q.1 q.2 rfl;simp[h,this]
 grind
theorem P4(s:Int × Int):upS s none=s:=by grind[upS]
theorem D3h(s:Int × Int)(p e:Int)(h:e≠0):upS (upS s (some (p,e))) (some (p,e))=upS s (some (p,e)):=by
 rw[P3 (λa b hq=>by grind)];rfl
def E0a(k:Int):Bool:=(k==3||k==4||k==5||k==6||k==11||k==23||k==24)||(decide (17<=k)&&decide (k<=22))
theorem D9z{k:Int}(h:k<=24):E0a k=E3r k:=by
 unfold E0a E3r
 grind
theorem C8l{e:Ex}{q:Nat × Nat}(h:msM e=some q):e.kind<=24:=by
 cases e with|mk k v n a p =>
 obtain⟨o,d⟩:=q;obtain⟨m1, -⟩:=B4d h;show k<=24;unfold kOk at m1;simp only[A1H,A0G,A0L]at m1;rcases m1 with m1|m1<;>simp_all[B8p]
theorem B2v(D:List Dc)(M:List Md)(n:List UInt8)(hk:A1e D):(H5 ⟨D,M⟩ n).1=0↔D.any (λd=>d.name==n)=false/\M.any (λd=>d.name==n)=false:=by
 have hD:∀(D pre:List Dc),lkD pre D n=none↔D.any (λd=>d.name==n)=false:=by
  intro D
  induction D with
  |nil=>grind[lkD]
  |cons d D ih =>
   intro pre;rw[lkD]
   grind
 have hM:∀(M:List Md) (i:Nat),lkM i M n=none↔M.any (λd=>d.name==n)=false:=by
  intro M
  induction M with
  |nil=>grind[lkM]
  |cons d D ih =>
   intro pre;rw[lkM]
   grind
 rw[B8n, <- hD D [], <- hM M 0];dsimp only;cases h1:lkD [] D n with
 |some q =>
  grind[C5f]
 |none =>
  cases h2:lkM 0 M n<;>grind[C5e]
theorem B7c{r:Ru}{x:Ex}:∀ {l:List Ex} {i:Nat},l[i]? = some x->Z2 r (l.take (i+1))=(Z2 r (l.take i)).or (erE r x)
 |y::l,0,h=>by grind[Z2]
 |y::l,i+1,h=>by
  rw[A0Y,A0Y,Z2,Z2,B7c (by simpa using h),A2T]
theorem C2n{r:Ru}{b:Bool}{x:Ex}:∀ {l:List Ex} {i:Nat},l[i]? = some x->erA r b (l.take (i+1))=(erA r b (l.take i)).or ((erE r x).or (if(A0a x.kind==2)=b then none else some (x.pos,49)))
 |y::l,0,h=>by grind[erA]
 |y::l,i+1,h=>by
  rw[A0Y,A0Y,erA,erA,C2n (by simpa using h)];grind
theorem C2m{r:Ru}{x:St}:∀ {l:List St} {i:Nat},l[i]? = some x->erB r (l.take (i+1))=(erB r (l.take i)).or (erS r x)
 |y::l,0,h=>by grind[erB]
 |y::l,i+1,h=>by
  rw[A0Y,A0Y,erB,erB,C2m (by simpa using h),A2T]
theorem F6d(r:Ru)(e:Ex):erE r e=((Z2 r e.args).or (dnE r e.name (kdE e.kind) e.pos)).or (if e.args.all (λx=>A0a x.kind==A4a e.kind e.args)=true then none else some (e.pos,49)):=by
 cases e with|mk k v n a p=>rfl
def stD(pre:List Dc)(d:Dc):Er:=(if d.value>B4c d.kind then some (d.pos,5) else none:Er).or (if(H5 ⟨pre,[]⟩ d.name).1=0 then none else some (d.pos,7))
def stP(D:List Dc)(pre:List Md)(m:Md):Er:=(if m.prio>99 then some (m.pos,5) else none:Er).or (if(H5 ⟨D,pre⟩ m.name).1=0 then none else some (m.pos,7))
theorem C2k(d:Dc):∀(l pre:List Dc),erD pre (l++[d])=(erD pre l).or (stD (pre++l) d)
 |[],pre=>by rw[List.nil_append,erD,erD,erD,A1D,A4E,Option.none_or];rfl
 |x::l,pre=>by rw[List.cons_append,erD,erD,C2k d l,A0K];grind
theorem C2g(D:List Dc)(m:Md):∀(l pre:List Md),erP D pre (l++[m])=(erP D pre l).or (stP D (pre++l) m)
 |[],pre=>by rw[List.nil_append,erP,erP,erP,A1D,A4E,Option.none_or];rfl
 |x::l,pre=>by rw[List.cons_append,erP,erP,C2g D m l,A0K];grind
theorem D8g{D:List Dc}{i:Nat}{d:Dc}(h:D[i]? = some d):erD [] (D.take (i+1))=(erD [] (D.take i)).or (stD (D.take i) d):=by
 rw[<- A9z h,C2k];rfl
theorem D8d{D:List Dc}{M:List Md}{i:Nat}{m:Md}(h:M[i]? = some m):erP D [] (M.take (i+1))=(erP D [] (M.take i)).or (stP D (M.take i) m):=by
 rw[<- A9z h,C2g];rfl
def A3p(l:List (List UInt8)):List (List UInt8 × DV):=l.map λn=>(n,DV.bool true)
theorem A7k(n:List UInt8):∀l:List (List UInt8),(A3p l).lookup n=if l.contains n=true then some (DV.bool true) else none
 |[]=>rfl
 |a::l=>by
  show((a,DV.bool true)::A3p l).lookup n=_;rw[List.lookup_cons,A7k n l,List.contains_cons]
  grind
def B3l(l:List (List UInt8))(n:List UInt8):List (List UInt8):=if l.contains n=true then l else l++[n]
theorem C0i(l:List (List UInt8))(n m:List UInt8):(B3l l n).contains m=(l.contains m||m==n):=by
 unfold B3l
 grind
theorem B6n{n:List UInt8}:∀(l:List (List UInt8)) (i j:Nat),G5 (.str n) (mkK (A3p l)) i=some j->(mkK (A3p l)).set (j-i) (.str n)=mkK (A3p l)/\(mvV (A3p l)).set (j-i) (.bool true)=mvV (A3p l)
 |[],i,j,h=>y8
 |a::l,i,j,h=>by
  have h:G5 (.str n) (.str a::mkK (A3p l)) i=some j:=h;rw[G5,B0r]at h;cases ha:n==a with
  |true =>
   rw[ha]at h;cases h;have e:n=a:=by simpa using ha
   subst e;rw[A4P]
   trivial
  |false =>
   rw[ha]at h;dsimp only at h;have hlt:=B4g h;obtain⟨h1,h2⟩:=B6n l (i+1) j h;have ej:j-i=(j-(i+1))+1:=a8
   rw[ej];exact⟨congrArg (DV.str a :: ·) h1,congrArg (DV.bool true :: ·) h2⟩
theorem E7h(n:List UInt8)(l:List (List UInt8))(H:Hp)(c id u:Nat):muV H c id u .s (mkK (A3p l)) (mvV (A3p l)) (.str n) (.bool true) (G5 (.str n) (mkK (A3p l)) 0)=some (.tup [],H.upd id ⟨u,true,[.mpc .s (mkK (A3p (B3l l n))) (mvV (A3p (B3l l n)))]⟩,c):=by
 have hl:=A7k n l;have hf:=A3s (n:=n) (A3p l) 0;cases hm:G5 (.str n) (mkK (A3p l)) 0 with
 |none =>
  simp_all[B3l,muV,mkK,A3p,mvV]
 |some j =>
  rw[hm]at hf;obtain⟨-,x, -,h3⟩:=hf;rw[h3]at hl;have hc:l.contains n=true:=by
   cases h:l.contains n with
   |true=>rfl
   |false=>rw[h]at hl;simp at hl
  have e:B3l l n=l:=by unfold B3l;rw[if_pos hc]
  rw[e];simp only[muV];obtain⟨h1,h2⟩:=B6n l 0 j hm<;>simp_all
theorem E7i(n:List UInt8)(l:List (List UInt8)):Sym.lkV (.bool false) false (mvV (A3p l)) (G5 (.str n) (mkK (A3p l)) 0)=some (.bool (l.contains n)):=by
 cases h:l.contains n<;>simp_all[A8w,A7k,A8x]
def stH(r:Ru)(pre:List Hd)(h:Hd):Er:=((dnE r h.name (kdH h.trig) h.pos).or (if pre.any (λx=>x.trig==h.trig&&x.name==h.name)=true then some (h.pos,7) else none)).or (erB r h.body)
theorem C2j(r:Ru)(h:Hd):∀(l pre:List Hd),erH r pre (l++[h])=(erH r pre l).or (stH r (pre++l) h)
 |[],pre=>by rw[List.nil_append,erH,erH,erH,A1D,A4E,Option.none_or];rfl
 |x::l,pre=>by rw[List.cons_append,erH,erH,C2j r h l,A0K];grind
theorem D8e{r:Ru}{l:List Hd}{i:Nat}{h:Hd}(hg:l[i]? = some h):erH r [] (l.take (i+1))=(erH r [] (l.take i)).or (stH r (l.take i) h):=by
 rw[<- A9z hg,C2j];rfl
theorem C2i{r:Ru}{x:Md}:∀ {l:List Md} {i:Nat},l[i]? = some x->erM r (l.take (i+1))=(erM r (l.take i)).or (erH r [] x.hds)
 |y::l,0,h=>by grind[erM]
 |y::l,i+1,h=>by
  rw[A0Y,A0Y,erM,erM,C2i (by simpa using h),A2T]
theorem F0u(e:Er):erV e=.tup [I64 (upS (0,0) e).1,I64 (upS (0,0) e).2]:=by
 cases e<;>rfl
theorem C8h{α:Type}[DecidableEq α]{l:List α}{x : α}:(l++[x]).Nodup↔l.Nodup/\x ∉ l:=by
 grind
theorem C3e{D:List Dc}{n:List UInt8}:D.any (λd=>d.name==n)=false↔n ∉ D.map Dc.name:=by
 simp
theorem D2p{D:List Md}{n:List UInt8}:D.any (λd=>d.name==n)=false↔n ∉ D.map Md.name:=by
 simp
theorem A1e.app{a b:List Dc}:A1e (a++b)↔A1e a/\A1e b :=
 ⟨λh=>⟨λd hd=>h d (A3G _ hd),λd hd=>h d (A4H _ hd)⟩,λh d hd=>(A1A.1 hd).elim (h.1 d) (h.2 d)⟩
theorem C8y{b:Prop}[Decidable b]{q:Int × Int}:((if b then some q else none):Er)=none↔¬b:=by
 simp
theorem C1s{b:Prop}[Decidable b]{q:Int × Int}:((if b then none else some q):Er)=none↔b:=by
 simp
theorem C2l:∀(D pre:List Dc),A1e (pre++D)->(pre.map Dc.name).Nodup->(erD pre D=none↔(∀d∈D,¬d.value>B4c d.kind)/\((pre++D).map Dc.name).Nodup)
 |[],pre,hk,hn=>by grind[erD]
 |d::l,pre,hk,hn=>by
  have hk':A1e ((pre++[d])++l):=j8
  have hkp:A1e pre:=(A1e.app.1 hk).1;have hl:=B2v pre [] d.name hkp;rw[C3e]at hl;rw[erD,A1E,A1E,C8y,C1s,hl];have e:pre++d::l=(pre++[d])++l:=by simp
  by_cases hm:d.name∈pre.map Dc.name
  ·grind
  ·have hn':((pre++[d]).map Dc.name).Nodup:=by rw[A0S];exact C8h.2 ⟨hn,hm⟩
   rw[C2l l (pre++[d]) hk' hn',e]
   grind
theorem C2h{D:List Dc}(hk:A1e D):∀(M pre:List Md),(D.map Dc.name++pre.map Md.name).Nodup->(erP D pre M=none↔(∀m∈M,¬m.prio>99)/\(D.map Dc.name++(pre++M).map Md.name).Nodup)
 |[],pre,hn=>by grind[erP]
 |m::l,pre,hn=>by
  have hl:=B2v D pre m.name hk;rw[C3e,D2p]at hl;rw[erP,A1E,A1E,C8y,C1s,hl];have e:pre++m::l=(pre++[m])++l:=by simp
  have e2:D.map Dc.name++(pre++[m]).map Md.name=(D.map Dc.name++pre.map Md.name)++[m.name]:=by simp
  by_cases hm:m.name∈D.map Dc.name++pre.map Md.name
  ·grind
  ·have hn':(D.map Dc.name++(pre++[m]).map Md.name).Nodup:=by rw[e2];exact C8h.2 ⟨hn,hm⟩
   rw[C2h hk l (pre++[m]) hn',e]
   grind
def E2p(D:List Dc)(M:List Md):Prop:=(∀d∈D,¬d.value>B4c d.kind)/\(∀m∈M,¬m.prio>99)/\(D.map Dc.name++M.map Md.name).Nodup
theorem C1z{D:List Dc}{M:List Md}(hk:A1e D):B8s ⟨D,M⟩=none↔E2p D M:=by
 unfold B8s E2p;rw[A1E,C2l D [] hk List.nodup_nil];show(_/\(D.map Dc.name).Nodup)/\erP D [] M=none↔_;constructor<;>simp_all[C2h,A4V]
theorem C1n(n:List UInt8):∀(D pre:List Dc),(lkD pre D n).map (·.1)=(D.find? λd=>d.name==n).map Dc.kind
 |[],pre=>rfl
 |d::l,pre=>by
  rw[lkD,List.find?_cons];by_cases h:d.name=n
  ·grind
  ·have hb:(d.name==n)=false:=by simpa using h
   rw[if_neg h,C1n n l];grind
theorem C1l(n:List UInt8):∀(M:List Md) (i:Nat),(lkM i M n).map (·.1)=if M.any (λm=>m.name==n)=true then some 9 else none
 |[],i=>rfl
 |m::l,i=>by
  rw[lkM,List.any_cons];by_cases h:m.name=n
  ·grind
  ·rw[if_neg h,C1l n l];grind
theorem D6n(D:List Dc)(M:List Md)(n:List UInt8):(H5 ⟨D,M⟩ n).1=(((D.find? λd=>d.name==n).map Dc.kind).or (if M.any (λm=>m.name==n)=true then some 9 else none)).getD 0:=by
 rw[B8n, <- C1n n D [], <- C1l n M 0, <- Option.map_or];show(((lkD [] D n).or (lkM 0 M n)).getD (0,0)).1=_;cases (lkD [] D n).or (lkM 0 M n)<;>rfl
def SmK(r r':Ru):Prop:=∀n,(H5 r n).1=(H5 r' n).1
section
variable {r r':Ru} (h:SmK r r')
include h
end
theorem B4v{r:Ru}:∀ {l:List Md},erM r l=none↔∀m∈l,erH r [] m.hds=none
 |[]=>by rw[erM];simp
 |x::l=>by
  rw[erM,A1E,B4v];simp
def z0(q:Int × Int):Int × Int:=(0,q.2)
section
variable {r r':Ru} (h:SmK r' r)
include h
end
def NmR(r:Ru)(q:Int × Int):Prop:=0<=q.2/\(q.1<6->1<=q.1/\q.2<=B4c q.1)/\(6<=q.1->q.2<(cnR r q.1:Int)/\q.1<=9)
theorem F7e(a b:List Dc)(k:Int):cnD (a++b) k=cnD a k+cnD b k:=by grind[cnD]
theorem F1j{r:Ru}{pre l:List Dc}{d:Dc}(h:r.decls=pre++d::l)(hk:¬d.kind=9):cnR ⟨pre,[]⟩ d.kind<cnR r d.kind:=by
 simp_all[cnR,cnD]
theorem C8u{r:Ru}{n:List UInt8}:∀ {l pre:List Dc} {q:Int × Int},r.decls=pre++l->(∀d∈l,A2j d=true/\¬d.value>B4c d.kind)->lkD pre l n=some q->NmR r q
 |[],_,_,_,_,h=>y8
 |d::l,pre,q,e,hd,h=>by
  rw[lkD]at h;split at h
  ·cases h;obtain⟨h1,h2⟩:=hd d A0H;unfold A2j at h1;simp only[A0G,A0L]at h1;obtain⟨⟨⟨⟨k1,k2⟩, -⟩,k3⟩,k4⟩:=h1;by_cases h6:d.kind<6
   ·refine⟨?_,λ_=>⟨k1,?_⟩,λh=>absurd h6 (by simp only at h;omega)⟩
    ·simp only[h6,if_true];rw[if_neg (by omega)]at k3;exact k3
    grind
   ·refine⟨?_,λh=>absurd h h6,λ_=>⟨?_,by omega⟩⟩
    ·omega
    ·simp only[h6,if_false];have:=F1j (r:=r) e (by omega:¬d.kind=9);omega
  ·exact C8u (pre:=pre++[d]) (by grind) (λx hx=>hd x (A0D _ hx)) h
theorem C8t{r:Ru}{n:List UInt8}:∀ {l:List Md} {i:Nat} {q:Int × Int},i+l.length=r.modes.length->lkM i l n=some q->NmR r q
 |[],_,_,_,h=>y8
 |m::l,i,q,e,h=>by
  rw[lkM]at h;split at h
  ·cases h;refine⟨A2H _,λh=>absurd h (by show ¬(9:Int)<6;decide),λ_=>⟨?_,by show(9:Int)<=9;decide⟩⟩
   simp_all[cnR];omega
  ·exact C8t (by grind) h
structure ChkR (r:Ru):Prop where
 vl:X3 r=true
 ck:B1y r=none
theorem ChkR.decl{r:Ru}(h:ChkR r):∀d∈r.decls,A2j d=true:=by
 have:=h.vl
 simp_all[X3]
theorem ChkR.mode{r:Ru}(h:ChkR r):∀d∈r.modes,X4 d=true:=by
 have:=h.vl
 simp_all[X3]
theorem ChkR.lens{r:Ru}(h:ChkR r):r.decls.length<=128/\r.modes.length<=16:=by
 have:=h.vl
 simp_all[X3]
theorem ChkR.kd{r:Ru}(h:ChkR r):A1e r.decls:=by
 intro d hd;have:=h.decl d hd
 simp_all[A2j]
theorem ChkR.hea{r:Ru}(h:ChkR r):E2p r.decls r.modes:=by
 have:=h.ck;unfold B1y at this;rw[A1E]at this;exact(C1z h.kd).1 this.1
theorem ChkR.erm{r:Ru}(h:ChkR r):∀m∈r.modes,erH r [] m.hds=none:=by
 have:=h.ck
 grind[B1y,B4v]
theorem ChkR.num{r:Ru}(h:ChkR r){n:List UInt8}(hn:¬(H5 r n).1=0):NmR r (H5 r n):=by
 unfold H5 at hn ⊢;cases h1:lkD [] r.decls n with
 |some q=>exact C8u (r:=r) (pre:=[]) rfl (λd hd=>⟨h.decl d hd,h.hea.1 d hd⟩) h1
 |none =>
  rw[h1]at hn;cases h2:lkM 0 r.modes n with
  |some q=>exact C8t (r:=r) (by simp) h2
  |none=>grind
theorem ChkR.den{r:Ru}(h:ChkR r){n:List UInt8}{k:Int}(hk:¬k=0)(hd:dnM r n k=0):(H5 r n).1=k:=by
 grind[dnM]
theorem B4l{n:List UInt8}(h:D8 n=true):n≠[]:=by
 grind[D8]
theorem C1m{n:List UInt8}:∀ {l pre:List Dc},(∀d∈l,d.name≠n)->lkD pre l n=none
 |[],_,_=>rfl
 |d::l,pre,h=>by rw[lkD,if_neg (h d A0H)];exact C1m λx hx=>h x (A0D _ hx)
theorem C1k{n:List UInt8}:∀ {l:List Md} {i:Nat},(∀d∈l,d.name≠n)->lkM i l n=none
 |[],_,_=>rfl
 |d::l,i,h=>by rw[lkM,if_neg (h d A0H)];exact C1k λx hx=>h x (A0D _ hx)
theorem ChkR.nil{r:Ru}(h:ChkR r):H5 r []=(0,0):=by
 unfold H5;rw[C1m (λd hd=>by
  have:=h.decl d hd
  simp_all[A2j,B4l]),C1k (λd hd=>by
  have:=h.mode d hd
  simp_all[X4,B4l])]
structure Hdr (r:Ru) (m:Nat) (c:Prg):Prop where
 va:c.vars.length=cnR r 6
 pr:c.prios.length=r.modes.length
 ti:c.timers=(cnR r 7:Int)
 ev:c.events=(cnR r 8:Int)
 st:m<=c.strings.length
theorem Hdr.le{r:Ru}{m n:Nat}{c:Prg}(h:Hdr r n c)(hm:m<=n):Hdr r m c:=⟨h.va,h.pr,h.ti,h.ev,A1B hm h.st⟩
def NI(r:Ru)(m:Nat)(i:Ins):Prop:=∀c:Prg,Hdr r m c->D2 c i=true
theorem NI.le{r:Ru}{m n:Nat}{i:Ins}(h:NI r m i)(hm:m<=n):NI r n i:=λc hc=>h c (hc.le hm)
theorem Q3{a lo hi:Int}(h1:lo<=a)(h2:a<=hi):inM a lo hi=true:=by grind[inM]
theorem NmR.ni{r:Ru}{q:Int × Int}(h:NmR r q){m:Nat}{op:Int}(hq:(q.1=1/\(D4 op).2.2=3)\/(q.1=2/\(D4 op).2.2=8)\/((q.1=3\/q.1=4\/q.1=5)/\(D4 op).2.2=9)\/(q.1=6/\(D4 op).2.2=2) \/
  (q.1=7/\(D4 op).2.2=5)\/(q.1=8/\(D4 op).2.2=10)\/(q.1=9/\(D4 op).2.2=4)):NI r m ⟨op,q.2⟩:=by
 obtain⟨q1,q2⟩:=q;obtain⟨h0,h1,h2⟩:=h;simp only at hq h0 h1 h2;intro c hc;unfold D2;rcases hq with ⟨rfl,e⟩|⟨rfl,e⟩|⟨hh,e⟩|⟨rfl,e⟩|⟨rfl,e⟩|⟨rfl,e⟩|⟨rfl,e⟩
 ·have:=(h1 (by simp)).2;simp only[e,I1];exact Q3 h0 this
 ·have:=(h1 (by simp)).2;simp only[e,I1];exact Q3 h0 this
 ·have h63:q2<=63:=by
   rcases hh with rfl|rfl|rfl
   ·exact(h1 (by decide)).2
   ·exact(h1 (by decide)).2
   ·exact(h1 (by decide)).2
  grind[I1,Q3]
 ·have:=(h2 (by simp)).1;simp only[e,I1];exact Q3 h0 (by rw[hc.va];omega)
 ·have:=(h2 (by simp)).1;simp only[e,I1];exact Q3 h0 (by rw[hc.ti];omega)
 ·have:=(h2 (by simp)).1;simp only[e,I1];exact Q3 h0 (by rw[hc.ev];omega)
 ·have:=(h2 (by simp)).1;have e9:cnR r 9=r.modes.length:=by rfl
  simp only[e,I1];exact Q3 h0 (by rw[hc.pr];omega)
theorem A6g{r:Ru}{m:Nat}{op:Int}(h:(D4 op).2.2=0):NI r m ⟨op,0⟩:=λc hc=>by
 grind[D2,I1]
theorem A8r{r:Ru}{m:Nat}{op a:Int}(h:(D4 op).2.2=7):NI r m ⟨op,a⟩:=λc hc=>by
 grind[D2,I1]
def NdE(r:Ru)(k v:Int)(n:List UInt8):Prop:=kOk k=true/\A5f k v=true/\dnM r n (kdE k)=0
theorem F3v{r:Ru}(h:ChkR r){k v:Int}{n:List UInt8}(hn:NdE r k v n)(m:Nat):NI r m (A9j (λn=>(H5 r n).2) k v n):=by
 obtain⟨h1,h2,h3⟩:=hn;have h24:1<=k/\k<=24:=by
  unfold kOk at h1;rw[A1H,A0G,A0L,A0L,A0L]at h1
  grind[B0]
 have hd:∀ {q:Int},¬q=0->kdE k=q->(H5 r n).1=q/\NmR r (H5 r n):=λhq e=>by
  rw[e]at h3;have e1:=h.den hq h3;exact⟨e1,h.num (by omega)⟩
 unfold A9j;by_cases k1:k=1
 ·rw[if_pos k1];intro c hc;have hv : -2147483647<=v/\v<=2147483647:=by
   simp_all[A5f];omega
  unfold D2;exact Q3 hv.1 hv.2
 rw[if_neg k1];by_cases k3:k=3
 ·rw[if_pos k3];exact λc hc=>rfl
 rw[if_neg k3];by_cases k4:k=4
 ·rw[if_pos k4];exact λc hc=>rfl
 rw[if_neg k4];by_cases k2:k=2
 ·rw[if_pos k2];obtain⟨e1,e2⟩:=hd (q:=6) (by simp) (by rw[k2];rfl);exact e2.ni (.inr (.inr (.inr (.inl ⟨e1,by rfl⟩))))
 rw[if_neg k2];by_cases k5:k=5
 ·rw[if_pos k5];obtain⟨e1,e2⟩:=hd (q:=1) (by simp) (by rw[k5];rfl);exact e2.ni (.inl ⟨e1,by rfl⟩)
 rw[if_neg k5];by_cases k6:k=6
 ·rw[if_pos k6];obtain⟨e1,e2⟩:=hd (q:=9) (by simp) (by rw[k6];rfl);exact e2.ni (.inr (.inr (.inr (.inr (.inr (.inr ⟨e1,by rfl⟩))))))
 rw[if_neg k6];by_cases k7:k=7
 ·rw[if_pos k7];obtain⟨e1,e2⟩:=hd (q:=7) (by simp) (by rw[k7];rfl);exact e2.ni (.inr (.inr (.inr (.inr (.inl ⟨e1,by rfl⟩)))))
 rw[if_neg k7];by_cases k8:k=8
 ·rw[if_pos k8];exact A6g (by rfl)
 rw[if_neg k8];by_cases k9:k=9
 ·rw[if_pos k9];exact A6g (by rfl)
 rw[if_neg k9];by_cases k10:k=10
 ·rw[if_pos k10];exact A6g (by rfl)
 rw[if_neg k10];by_cases k11:k=11
 ·rw[if_pos k11];exact A6g (by rfl)
 rw[if_neg k11];intro c hc;unfold D2;exact Q3 (show(12:Int)<=k by omega) (show k<=24 by omega)
mutual
theorem D6f{r:Ru}(h:ChkR r)(m:Nat):∀ {e:Ex} {o d:Nat},msM e=some (o,d)->erE r e=none->∀i∈cgE (λn=>(H5 r n).2) e,NI r m i
 |.mk k v n a p,o,d,h1,h2,i,hi=>by
  rw[erE,A1E,A1E]at h2;obtain⟨⟨g1,g2⟩, -⟩:=h2;rw[msM]at h1;split at h1
  ·grind
  ·rename_i g;have k1:kOk k=true:=Classical.byContradiction λe=>g (.inl (by grind));have k2:A5f k v=true:=Classical.byContradiction λe=>g (.inr (.inr (.inr (by grind))));have k0:a.length=N5 k:=Classical.byContradiction λe=>g (.inr (.inl e));have k3:dnM r n (kdE k)=0:=by
    grind[dnE]
   rw[cgE]at hi;rcases A1A.1 hi with hi|hi
   ·split at h1
    ·grind[C7]
    ·split at h1
     ·grind
     ·rename_i o2 d2 g4;exact C8e h m g4 g1 i hi
   ·rw[A1N]at hi;subst hi;exact F3v h ⟨k1,k2,k3⟩ m
theorem C8e{r:Ru}(h:ChkR r)(m:Nat):∀ {l:List Ex} {k:Int} {j o d:Nat},msL k j l=some (o,d)->Z2 r l=none->∀i∈C7 (λn=>(H5 r n).2) l,NI r m i
 |[],_,_,_,_,_,_,i,hi=>l9
 |e::l,k,j,o,d,h1,h2,i,hi=>by
  rw[Z2,A1E]at h2;rw[msL]at h1;split at h1
  ·grind
  ·rename_i o1 d1 g1;split at h1
   ·grind
   ·rename_i o2 d2 g2;rw[C7]at hi;rcases A1A.1 hi with hi|hi
    ·exact D6f h m g1 h2.1 i hi
    ·exact C8e h m g2 h2.2 i hi
end
theorem E6q(S:List (List UInt8))(t:List UInt8):S.length<=(txS S t).2.length:=by
 unfold txS;grind
theorem E6p(S:List (List UInt8))(t:List UInt8):(txS S t).1<(txS S t).2.length:=by
 grind[txS]
theorem D9w{S:List (List UInt8)}{t x:List UInt8}(h:x∈(txS S t).2):x∈S\/x=t:=by
 grind[txS]
mutual
theorem D8x(nm:List UInt8->Int):∀(s:St) (p:Nat) (S:List (List UInt8)),S.length<=(cgS nm p S s).2.length
 |.mk k n t a x y q,p,S=>by
  rw[cgS];split
  ·split
   ·exact A3j nm x _ S
   ·exact A1B (A3j nm x _ S) (A3j nm y _ _)
  ·split
   ·exact A3j nm x _ S
   ·split<;>simp_all[E6q]
theorem A3j(nm:List UInt8->Int):∀(l:List St) (p:Nat) (S:List (List UInt8)),S.length<=(cgB nm p S l).2.length
 |[],_,_=>A0E _
 |s::l,p,S=>by
  rw[cgB];exact A1B (D8x nm s p S) (A3j nm l _ _)
end
theorem C9m{r:Ru}{b:Bool}:∀ {l:List Ex},erA r b l=none->∀e∈l,erE r e=none
 |[],_,e,he=>j8
 |x::l,h,e,he=>by
  rw[erA,A1E,A1E]at h;rcases A0U.1 he with rfl|he
  ·grind
  ·exact C9m h.2 e he
theorem C8f{r:Ru}(h:ChkR r)(m:Nat):∀ {l:List Ex},(∀e∈l,Z9 e=true)->(∀e∈l,erE r e=none)->∀i∈C7 (λn=>(H5 r n).2) l,NI r m i
 |[],_,_,i,hi=>l9
 |e::l,h1,h2,i,hi=>by
  rw[C7]at hi;rcases A1A.1 hi with hi|hi
  ·grind[List.mem_cons_self,Z9,D6f]
  ·exact C8f h m (λe he=>h1 e (A0D _ he)) (λe he=>h2 e (A0D _ he)) i hi
theorem F3u{r:Ru}(h:ChkR r){k:Int}{n:List UInt8}(h1:1<=k)(h2:k<=19)(n2:¬k=2)(n3:¬k=3)(n18:¬k=18)(hn:if(O6 k).name=true then D8 n=true else n=[])(hd:dnM r n (kdS k)=0)(m:Nat):
  NI r m ⟨stOp k,(H5 r n).2⟩:=by
 have hm:k=1\/k=4\/k=5\/k=6\/k=7\/k=8\/k=9\/k=10\/k=11\/k=12\/k=13\/k=14\/k=15\/k=16\/k=17\/k=19:=a8
 have hx:∀ {q:Int},¬q=0->kdS k=q->(H5 r n).1=q/\NmR r (H5 r n):=λhq e=>by
  rw[e]at hd;have e1:=h.den hq hd;exact⟨e1,h.num (by omega)⟩
 have hz:n=[]->(D4 (stOp k)).2.2=0->NI r m ⟨stOp k,(H5 r n).2⟩:=λe g=>by
  subst e;rw[h.nil];exact A6g g
 rcases hm with rfl|rfl|rfl|rfl|rfl|rfl|rfl|rfl|rfl|rfl|rfl|rfl|rfl|rfl|rfl|rfl
 ·obtain⟨e1,e2⟩:=hx (q:=6) (by simp) (by rfl);exact e2.ni (.inr (.inr (.inr (.inl ⟨e1,by rfl⟩))))
 ·rw[if_neg (by decide)]at hn;exact hz hn (by rfl)
 ·obtain⟨e1,e2⟩:=hx (q:=2) (by simp) (by rfl);exact e2.ni (.inr (.inl ⟨e1,by rfl⟩))
 ·obtain⟨e1,e2⟩:=hx (q:=2) (by simp) (by rfl);exact e2.ni (.inr (.inl ⟨e1,by rfl⟩))
 ·obtain⟨e1,e2⟩:=hx (q:=2) (by simp) (by rfl);exact e2.ni (.inr (.inl ⟨e1,by rfl⟩))
 ·obtain⟨e1,e2⟩:=hx (q:=3) (by simp) (by rfl);exact e2.ni (.inr (.inr (.inl ⟨.inl e1,by rfl⟩)))
 ·obtain⟨e1,e2⟩:=hx (q:=3) (by simp) (by rfl);exact e2.ni (.inr (.inr (.inl ⟨.inl e1,by rfl⟩)))
 ·obtain⟨e1,e2⟩:=hx (q:=7) (by simp) (by rfl);exact e2.ni (.inr (.inr (.inr (.inr (.inl ⟨e1,by rfl⟩)))))
 ·obtain⟨e1,e2⟩:=hx (q:=7) (by simp) (by rfl);exact e2.ni (.inr (.inr (.inr (.inr (.inl ⟨e1,by rfl⟩)))))
 ·obtain⟨e1,e2⟩:=hx (q:=9) (by simp) (by rfl);exact e2.ni (.inr (.inr (.inr (.inr (.inr (.inr ⟨e1,by rfl⟩))))))
 ·obtain⟨e1,e2⟩:=hx (q:=9) (by simp) (by rfl);exact e2.ni (.inr (.inr (.inr (.inr (.inr (.inr ⟨e1,by rfl⟩))))))
 ·obtain⟨e1,e2⟩:=hx (q:=8) (by simp) (by rfl);exact e2.ni (.inr (.inr (.inr (.inr (.inr (.inl ⟨e1,by rfl⟩))))))
 ·obtain⟨e1,e2⟩:=hx (q:=4) (by simp) (by rfl);exact e2.ni (.inr (.inr (.inl ⟨.inr (.inl e1),by rfl⟩)))
 ·obtain⟨e1,e2⟩:=hx (q:=5) (by simp) (by rfl);exact e2.ni (.inr (.inr (.inl ⟨.inr (.inr e1),by rfl⟩)))
 ·obtain⟨e1,e2⟩:=hx (q:=5) (by simp) (by rfl);exact e2.ni (.inr (.inr (.inl ⟨.inr (.inr e1),by rfl⟩)))
 ·rw[if_neg (by decide)]at hn;exact hz hn (by rfl)
theorem E1g{r:Ru}{m j:Nat}(h:j<m):NI r m ⟨29,(j:Int)⟩:=λc hc=>by
 have:=hc.st;unfold D2;exact Q3 (show(0:Int)<=(j:Int) by omega) (show(j:Int)<=(c.strings.length:Int)-1 by omega)
mutual
theorem E9d{r:Ru}(h:ChkR r):∀ {s:St} {d p:Nat} {S:List (List UInt8)},V5 d s=true->erS r s=none->∀i∈(cgS (λn=>(H5 r n).2) p S s).1,NI r (cgS (λn=>(H5 r n).2) p S s).2.length i
 |.mk k n t a x y q,d,p,S,hv,he,i,hi=>by
  obtain⟨k1,k2,ha,hva,hb,hvb,hc,hvc,h8,h9,hn,ht⟩:=B3e hv;rw[erS,A1E,A1E,A1E]at he;obtain⟨⟨⟨e1,e2⟩,e3⟩,e4⟩:=he;have hd:dnM r n (kdS k)=0:=by
   grind[dnE]
  have hA:∀m, ∀i∈C7 (λn=>(H5 r n).2) a,NI r m i:=λm=>C8f h m hva (C9m e2);rw[cgS]at hi ⊢;by_cases g2:k=2
  ·rw[if_pos g2]at hi ⊢;by_cases hy:y.length=0
   ·rw[if_pos hy]at hi ⊢;rcases A1A.1 hi with hi|hi
    ·grind
    ·rcases A0U.1 hi with rfl|hi
     ·exact A8r (by rfl)
     ·exact B0l h hvb e3 i hi
   ·rw[if_neg hy]at hi ⊢;rcases A1A.1 hi with hi|hi
    ·grind
    ·rcases A0U.1 hi with rfl|hi
     ·exact A8r (by rfl)
     ·rcases A1A.1 hi with hi|hi
      ·exact(B0l h hvb e3 i hi).le (A3j _ y _ _)
      ·rcases A0U.1 hi with rfl|hi
       ·exact A8r (by rfl)
       ·exact B0l h hvc e4 i hi
  ·rw[if_neg g2]at hi ⊢;by_cases g3:k=3
   ·rw[if_pos g3]at hi ⊢;rcases A1A.1 hi with hi|hi
    ·grind
    ·rcases A0U.1 hi with rfl|hi
     ·exact A8r (by rfl)
     ·rcases A1A.1 hi with hi|hi
      ·exact B0l h hvb e3 i hi
      ·rw[A1N]at hi;subst hi;exact A8r (by rfl)
   ·rw[if_neg g3]at hi ⊢;by_cases g18:k=18
    ·rw[if_pos g18]at hi ⊢
     grind[E1g,E6p]
    ·rw[if_neg g18]at hi ⊢
     grind[F3u]
theorem B0l{r:Ru}(h:ChkR r):∀ {l:List St} {d p:Nat} {S:List (List UInt8)},I8 d l=true->erB r l=none->∀i∈(cgB (λn=>(H5 r n).2) p S l).1,NI r (cgB (λn=>(H5 r n).2) p S l).2.length i
 |[],_,_,_,_,_,i,hi=>l9
 |s::l,d,p,S,hv,he,i,hi=>by
  rw[I8,A0G]at hv;rw[erB,A1E]at he;rw[cgB]at hi ⊢;rcases A1A.1 hi with hi|hi
  ·exact(E9d h hv.1 he.1 i hi).le (A3j _ l _ _)
  ·exact B0l h hv.2 he.2 i hi
end
mutual
theorem E6n{nm:List UInt8->Int}:∀ {s:St} {d p:Nat} {S:List (List UInt8)},V5 d s=true->(∀x∈S,U0 x=true)->∀x∈(cgS nm p S s).2,U0 x=true
 |.mk k n t a b c q,d,p,S,hv,hS,x,hx=>by
  obtain⟨k1,k2,ha,hva,hb,hvb,hc,hvc,h8,h9,hn,ht⟩:=B3e hv;rw[cgS]at hx;by_cases g2:k=2
  ·rw[if_pos g2]at hx;by_cases hy:c.length=0
   ·rw[if_pos hy]at hx;exact A9w hvb hS x hx
   ·rw[if_neg hy]at hx;exact A9w hvc (λz hz=>A9w hvb hS z hz) x hx
  ·rw[if_neg g2]at hx;by_cases g3:k=3
   ·rw[if_pos g3]at hx;exact A9w hvb hS x hx
   ·rw[if_neg g3]at hx;by_cases g18:k=18
    ·rw[if_pos g18]at hx;rcases D9w hx with hx|rfl
     ·exact hS x hx
     ·subst g18;rw[if_pos (by decide)]at ht;unfold Y7 at ht;unfold U0;exact ht
    grind
theorem A9w{nm:List UInt8->Int}:∀ {l:List St} {d p:Nat} {S:List (List UInt8)},I8 d l=true->(∀x∈S,U0 x=true)->∀x∈(cgB nm p S l).2,U0 x=true
 |[],_,_,_,_,hS,x,hx=>hS x (by assumption)
 |s::l,d,p,S,hv,hS,x,hx=>by
  rw[I8,A0G]at hv;rw[cgB]at hx;exact A9w hv.2 (λz hz=>E6n hv.1 hS z hz) x hx
end
abbrev nmR(r:Ru):List UInt8->Int:=λn=>(H5 r n).2
def cmC(r:Ru):Prg :=
 ⟨(cgL (nmR r) 0 [] (V7 (nmR r) 0 r.modes)).1,(cgL (nmR r) 0 [] (V7 (nmR r) 0 r.modes)).2.2,(cgL (nmR r) 0 [] (V7 (nmR r) 0 r.modes)).2.1,r.modes.map (·.prio),
  (r.decls.filter λd=>d.kind==6).map (·.value),(cnR r 7:Int),(cnR r 8:Int)⟩
theorem B8y{r:Ru}:∀ {l:List St},erB r l=none↔∀s∈l,erS r s=none
 |[]=>by simp[erB]
 |s::l=>by rw[erB,A1E,B8y];simp
theorem C9k{r:Ru}:∀ {l pre:List Hd},erH r pre l=none->∀h∈l,dnM r h.name (kdH h.trig)=0/\erB r h.body=none
 |[],_,_,h,hh=>j8
 |x::l,pre,h,y,hy=>by
  rw[erH,A1E,A1E,A1E]at h;obtain⟨⟨⟨h1, -⟩,h2⟩,h3⟩:=h;rcases A0U.1 hy with rfl|hy
  ·grind[dnE]
  ·exact C9k h3 y hy
structure HdF (r:Ru) (h:Hd):Prop where
 tr:1<=h.trig/\h.trig<=6
 bl:T4 h.body 1=true
 er:erB r h.body=none
 nn:h.trig<3->(H5 r h.name).2=0
 nd:3<=h.trig->(H5 r h.name).1=kdH h.trig/\NmR r (H5 r h.name)
theorem ChkR.hd{r:Ru}(h:ChkR r):∀m∈r.modes, ∀x∈m.hds,HdF r x:=by
 intro m hm x hx;have hv:=h.mode m hm;unfold X4 at hv;simp only[A0G,A0L,A0R]at hv;have hv:=hv.2 x hx;unfold A4c at hv;simp only[A0G,A0L]at hv;obtain⟨⟨⟨v1,v2⟩,v3⟩,v4⟩:=hv;obtain⟨d1,d2⟩:=C9k (h.erm m hm) x hx;refine⟨⟨v1,v2⟩,v4,d2,λht=>?_,λht=>?_⟩
 ·rw[if_neg (by omega)]at v3;have:x.name=[]:=by grind
  rw[this,h.nil]
 ·have hk:¬kdH x.trig=0:=by
   have:x.trig=3\/x.trig=4\/x.trig=5\/x.trig=6:=a8
   rcases this with e|e|e|e<;>rw[e]<;>decide
  have e1:=h.den hk d1;exact⟨e1,h.num (by omega)⟩
theorem B5a{r:Ru}(h:ChkR r)(k:Int)(hk:¬k=9):cnR r k<=128:=by
 unfold cnR;rw[if_neg hk];exact A1B (C5z _ _) h.lens.1
theorem HdF.ok{r:Ru}(hr:ChkR r){h:Hd}(hf:HdF r h):HOk (nmR r) h:=by
 refine⟨hf.tr.1,hf.tr.2,?_⟩;show 0<=(H5 r h.name).2/\(H5 r h.name).2<128;by_cases ht:h.trig<3
 ·rw[hf.nn ht];simp
 ·obtain⟨e,n0,n1,n2⟩:=hf.nd (by omega);refine⟨n0,?_⟩;have:h.trig=3\/h.trig=4\/h.trig=5\/h.trig=6:=by have:=hf.tr;omega
  rcases this with g|g|g|g
  ·rw[g]at e;have e:(H5 r h.name).1=1:=e;have:=(n1 (by omega)).2;rw[e]at this;have:(H5 r h.name).2<=63:=this;omega
  ·rw[g]at e;have e:(H5 r h.name).1=1:=e;have:=(n1 (by omega)).2;rw[e]at this;have:(H5 r h.name).2<=63:=this;omega
  ·rw[g]at e;have e:(H5 r h.name).1=7:=e
   grind[B5a]
  ·rw[g]at e;have e:(H5 r h.name).1=8:=e
   grind[B5a]
structure PtF (r:Ru) (q:D6):Prop where
 md:0<=q.1.mode/\q.1.mode<(r.modes.length:Int)
 ky:∃h,HdF r h/\q.1.trig=h.trig/\q.1.ix=(H5 r h.name).2
 bo:∀b∈q.2, ∃h,HdF r h/\b=h.body
theorem C7k{nm:List UInt8->Int}{i:Nat}{l:List Hd}{q:D6}(h:q∈rfP nm i l):(∃x∈l,(hdK nm i x).1=q.1)/\∀b∈q.2, ∃x∈l,b=x.body:=by
 unfold rfP ptK at h;obtain⟨k,hk,e⟩:=A4T.1 h;split at e
 ·grind
 ·rename_i hne;cases e;constructor
  ·refine Classical.byContradiction λhn=>hne (A9o λx hx he=>?_)
   grind
  ·intro b hb;unfold U5 at hb;obtain⟨x,hx,rfl⟩:=A0X.1 hb;obtain⟨y,hy,rfl⟩:=A0X.1 (List.mem_filter.1 hx).1;exact⟨y,hy,rfl⟩
theorem C0p{r:Ru}:∀ {l:List Md} {i:Nat},(∀m∈l, ∀x∈m.hds,HdF r x)->i+l.length<=r.modes.length->∀q∈V7 (nmR r) i l,PtF r q
 |[],_,_,_,q,hq=>l9
 |m::l,i,h,hl,q,hq=>by
  rw[A0C]at hl;rw[V7]at hq;rcases A1A.1 hq with hq|hq
  ·obtain⟨⟨x,hx,e⟩,hb⟩:=C7k hq;refine⟨?_,⟨x,h m A0H x hx,by rw[<- e];rfl,by rw[<- e];rfl⟩,λb hb'=>?_⟩
   ·rw[<- e];show(0:Int)<=(i:Int)/\(i:Int)<_;omega
   grind
  ·exact C0p (λm hm=>h m (A0D _ hm)) (by omega) q hq
theorem PtF.sts{r:Ru}{q:D6}(h:PtF r q):I8 1 q.2.flatten=true/\erB r q.2.flatten=none:=by
 constructor
 ·rw[A3n];intro s hs;obtain⟨b,hb,hs⟩:=A4J.1 hs;obtain⟨x,hx,rfl⟩:=h.bo b hb;have:=hx.bl
  simp_all[T4,A3n]
 ·rw[B8y];intro s hs;obtain⟨b,hb,hs⟩:=A4J.1 hs;obtain⟨x,hx,rfl⟩:=h.bo b hb;exact B8y.1 hx.er s hs
theorem PtF.ok{r:Ru}{q:D6}(h:PtF r q):E4e q:=λb hb=>by
 obtain⟨x,hx,rfl⟩:=h.bo b hb;exact hx.bl
theorem C6d(nm:List UInt8->Int):∀(l:List D6) (p:Nat) (S:List (List UInt8)),S.length<=(cgL nm p S l).2.2.length
 |[],_,_=>A0E _
 |q::l,p,S=>by rw[cgL];exact A1B (A3j nm _ p S) (C6d nm l _ _)
theorem D6e{r:Ru}(h:ChkR r):∀ {l:List D6} {p:Nat} {S:List (List UInt8)},(∀q∈l,PtF r q)->∀i∈(cgL (nmR r) p S l).1,NI r (cgL (nmR r) p S l).2.2.length i
 |[],_,_,_,i,hi=>l9
 |q::l,p,S,hq,i,hi=>by
  have h1:=(hq q A0H).sts;rw[cgL]at hi ⊢;rcases A1A.1 hi with hi|hi
  ·exact(B0l h h1.1 h1.2 i hi).le (C6d _ l _ _)
  ·rcases A0U.1 hi with rfl|hi
   ·exact A6g (by rfl)
   ·exact D6e h (λq hq'=>hq q (A0D _ hq')) i hi
theorem D3n{r:Ru}:∀ {l:List D6} {p:Nat} {S:List (List UInt8)},(∀q∈l,PtF r q)->(∀x∈S,U0 x=true)->∀x∈(cgL (nmR r) p S l).2.2,U0 x=true
 |[],_,_,_,hS,x,hx=>hS x (by assumption)
 |q::l,p,S,hq,hS,x,hx=>by
  rw[cgL]at hx;exact D3n (λq hq'=>hq q (A0D _ hq')) (A9w (hq q A0H).sts.1 hS) x hx
theorem D6a{q:List KB}:∀ {ks:List Ky},ks.Nodup->(∀k∈ks, ∃x∈q,x.1=k)->ks.length<=q.length:=by
 induction q with
 |nil =>
  intro ks _ h;cases ks with
  |nil=>omega
  |cons k ks=>grind[List.mem_cons_self]
 |cons x q ih =>
  intro ks hn h;have h1:=ih (ks:=ks.erase x.1) (hn.erase _) (λk hk=>by
   obtain⟨g1,g2⟩:=(hn.mem_erase_iff).1 hk;obtain⟨y,hy,e⟩:=h k g2;rcases A0U.1 hy with rfl|hy
   ·exact absurd e.symm g1
   ·exact⟨y,hy,e⟩)
  grind
theorem D7d{nm:List UInt8->Int}:∀ {l:List Md} {i:Nat},(∀m∈l,m.hds.length<=32)->(hkM nm i l).length<=32*l.length
 |[],_,_=>A0Q _
 |m::l,i,h=>by
  have h1:=h m A0H;have h2:=D7d (nm:=nm) (l:=l) (i:=i+1) (λm hm=>h m (A0D _ hm))
  grind[hkM]
theorem Srt.nodup{l:List D6}(h:Srt l):(l.map (·.1)).Nodup:=by
 refine A4U.2 (List.Pairwise.imp (λ{a b} g e=>?_) h)
 grind[Ky.lt_irrefl]
theorem C7j{nm:List UInt8->Int}:∀ {l:List Md} {i:Nat} {q:D6},q∈V7 nm i l->∃x∈hkM nm i l,x.1=q.1
 |[],_,_,h=>y8
 |m::l,i,q,h=>by
  rw[V7]at h;rw[hkM];rcases A1A.1 h with h|h
  ·grind[C7k]
  ·obtain⟨x,hx,e⟩:=C7j h<;>grind
theorem A5q(nm:List UInt8->Int):∀(l:List D6) (p:Nat) (S:List (List UInt8)),(cgL nm p S l).2.1.length=l.length
 |[],_,_=>rfl
 |q::l,p,S=>by rw[cgL];simp only[A0C,A5q nm l]
theorem B7f{nm:List UInt8->Int}:∀ {l:List D6} {p:Nat} {S:List (List UInt8)} {e:Ent},e∈(cgL nm p S l).2.1->∃q∈l,e.mode=q.1.mode/\e.trigger=q.1.trig/\e.index=q.1.ix
 |[],_,_,_,h=>l9
 |q::l,p,S,e,h=>by
  rw[cgL]at h;rcases A0U.1 h with rfl|h
  ·simp
  ·obtain⟨x,hx,e1⟩:=B7f h<;>grind
theorem D3f{r:Ru}(h:ChkR r)(h1:(cmC r).instrs.length<=4000)(h2:(cmC r).strings.length<=200):H6 (cmC r)=0:=by
 have hH:=h.hd;have hP:∀q∈V7 (nmR r) 0 r.modes,PtF r q:=C0p hH (by omega);have hS:=B3o (nm:=nmR r) r.modes 0;have hvars:(cmC r).vars.length=cnR r 6:=by
  show((r.decls.filter λd=>d.kind==6).map (·.value)).length=cnR r 6;unfold cnR cnD;rw[if_neg (by decide),A0N,List.countP_eq_length_filter]
 have hent:(cmC r).entries.length<=512:=by
  show(cgL (nmR r) 0 [] (V7 (nmR r) 0 r.modes)).2.1.length<=512;rw[A5q, <- A0N (f:=λq:D6=>q.1)];refine A1B (D6a (q:=hkM (nmR r) 0 r.modes) hS.nodup λk hk=>?_) (A1B (D7d λm hm=>?_) (Nat.mul_le_mul_left 32 h.lens.2))
  ·obtain⟨q,hq,rfl⟩:=A0X.1 hk;exact C7j hq
  ·have:=h.mode m hm;unfold X4 at this;simp only[A0G,A0L]at this;exact this.1.2
 have hlim:P2 (cmC r)=true:=by
  have e6:=B5a h 6 (by decide);have e7:=B5a h 7 (by decide);have e8:=B5a h 8 (by decide);have ep:(cmC r).prios.length<=16:=by show(r.modes.map (·.prio)).length<=16;rw[A0N];exact h.lens.2
  unfold P2;rw[decide_eq_true h1,decide_eq_true h2,decide_eq_true hent,decide_eq_true ep,decide_eq_true (by rw[hvars];exact e6)];have i7:inM (cmC r).timers 0 128=true:=Q3 (show(0:Int)<=(cnR r 7:Int) by omega) (show(cnR r 7:Int)<=128 by omega);have i8:inM (cmC r).events 0 128=true:=Q3 (show(0:Int)<=(cnR r 8:Int) by omega) (show(cnR r 8:Int)<=128 by omega);rw[i7,i8];rfl
 have hhdr:Hdr r (cmC r).strings.length (cmC r):=⟨hvars,A0N _,rfl,rfl,A0E _⟩;have hparts:A0d (cmC r)=true:=by
  unfold A0d;simp only[A0G,A0R];refine⟨⟨⟨⟨D3n hP (λx hx=>by cases hx),λn hn=>?_⟩,λn hn=>?_⟩,λe he=>?_⟩,λi hi=>D6e h hP i hi _ hhdr⟩
  ·obtain⟨m,hm,rfl⟩:=A0X.1 hn;have:=h.mode m hm;unfold X4 at this;simp only[A0G,A0L]at this;have:=h.hea.2.1 m hm;exact Q3 (by omega) (by omega)
  ·obtain⟨d,hd,rfl⟩:=A0X.1 hn;obtain⟨hd,hk⟩:=List.mem_filter.1 hd;have hk:d.kind=6:=by simpa using hk
   have:=h.decl d hd;unfold A2j at this;simp only[A0G,A0L]at this;have h4:=h.hea.1 d hd;rw[hk]at h4;have h5:¬d.value>2147483647:=h4;rw[if_pos hk]at this;exact Q3 (by omega) (by omega)
  ·obtain⟨q,hq,e1,e2,e3⟩:=B7f he;obtain⟨⟨m1,m2⟩,⟨x,hx,x1,x2⟩, -⟩:=hP q hq;unfold A4q;rw[e1,e2,e3,x1,x2];have ep:(cmC r).prios.length=r.modes.length:=A0N _;rw[Q3 m1 (by rw[ep];omega),A2D];have ht:x.trig=1\/x.trig=2\/x.trig=3\/x.trig=4\/x.trig=5\/x.trig=6:=by have:=hx.tr;omega
   rcases ht with g|g|g|g|g|g
   ·have:=hx.nn (by omega);rw[g,this];rfl
   ·have:=hx.nn (by omega);rw[g,this];rfl
   ·obtain⟨e,n0,n1,n2⟩:=hx.nd (by omega);rw[g]at e;have e:(H5 r x.name).1=1:=e;have:=(n1 (by omega)).2;rw[e]at this;have:(H5 r x.name).2<=63:=this;rw[g,if_neg (by decide),if_pos (by decide)];exact Q3 n0 this
   ·obtain⟨e,n0,n1,n2⟩:=hx.nd (by omega);rw[g]at e;have e:(H5 r x.name).1=1:=e;have:=(n1 (by omega)).2;rw[e]at this;have:(H5 r x.name).2<=63:=this;rw[g,if_neg (by decide),if_pos (by decide)];exact Q3 n0 this
   ·obtain⟨e,n0,n1,n2⟩:=hx.nd (by omega);rw[g]at e;have e:(H5 r x.name).1=7:=e;have:=(n2 (by omega)).1;rw[e]at this;rw[g,if_neg (by decide),if_neg (by decide),if_pos (by decide)];exact Q3 n0 (show(H5 r x.name).2<=(cnR r 7:Int)-1 by omega)
   ·obtain⟨e,n0,n1,n2⟩:=hx.nd (by omega);rw[g]at e;have e:(H5 r x.name).1=8:=e;have:=(n2 (by omega)).1;rw[e]at this;rw[g,if_neg (by decide),if_neg (by decide),if_neg (by decide),if_pos (by decide)];exact Q3 n0 (show(H5 r x.name).2<=(cnR r 8:Int)-1 by omega)
 have hg:=gdL (nm:=nmR r) (I:=(cmC r).instrs) (Hs:=hL (V7 (nmR r) 0 r.modes)) (l:=V7 (nmR r) 0 r.modes) (p:=0) (S:=[]) (λq hq=>(hP q hq).ok) (λi hi=>by rw[A1F];exact⟨rfl,rfl⟩);obtain⟨hj,hr⟩:=D4h (c:=cmC r) (Hs:=hL (V7 (nmR r) 0 r.modes)) (D7k _ _ 0 []) (λi hi=>by have:=hg.1 i hi;rwa [A1F]at this) hg.2
 grind[H6,cmC,D2k]
theorem B9g(nm:List UInt8->Int):∀(a b:List D6) (p:Nat) (S:List (List UInt8)),
  cgL nm p S (a++b)=((cgL nm p S a).1++(cgL nm (p+(cgL nm p S a).1.length) (cgL nm p S a).2.2 b).1,(cgL nm p S a).2.1++(cgL nm (p+(cgL nm p S a).1.length) (cgL nm p S a).2.2 b).2.1,(cgL nm (p+(cgL nm p S a).1.length) (cgL nm p S a).2.2 b).2.2)
 |[],b,p,S=>by rfl
 |q::a,b,p,S=>by
  rw[List.cons_append,cgL,B9g nm a b,cgL]
  grind
theorem D8z{nm:List UInt8->Int}{l:List D6}{S:List (List UInt8)}(k:Nat):(cgL nm 0 S (l.take k)).1.length<=(cgL nm 0 S l).1.length/\(cgL nm 0 S (l.take k)).2.2.length<=(cgL nm 0 S l).2.2.length:=by
 grind[B9g,List.take_append_drop,C6d]
theorem D9a(nm:List UInt8->Int)(l:List D6)(q:D6)(S:List (List UInt8)):cgL nm 0 S (l++[q]) =
  ((cgL nm 0 S l).1++((cgB nm (cgL nm 0 S l).1.length (cgL nm 0 S l).2.2 q.2.flatten).1++[⟨31,0⟩]),(cgL nm 0 S l).2.1++[⟨q.1.mode,q.1.trig,q.1.ix,((cgL nm 0 S l).1.length:Int)⟩],(cgB nm (cgL nm 0 S l).1.length (cgL nm 0 S l).2.2 q.2.flatten).2):=by
 rw[B9g,A1F];rfl
def C3l:Prg:=⟨[],[],[],[],[],0,0⟩
def C2u(r:Ru):Prg × Int × Int :=
 if X3 r=true then
  match B1y r with
  |some (p,c)=>(C3l,p,c)
  |none=>if 4000<(cmC r).instrs.length\/200<(cmC r).strings.length then(C3l,0,9) else(cmC r,0,0)
 else(C3l,0,1)
def D2h(q:Prg × Int × Int):DV:=.tup [q.1.v,I64 q.2.1,I64 q.2.2]
theorem C3u:H6 C3l=0:=by rfl
theorem D2f(r:Ru):H6 (C2u r).1=0:=by
 unfold C2u;by_cases h1:X3 r=true
 ·rw[if_pos h1];cases h2:B1y r with
  |some q=>exact C3u
  |none =>
   show H6 (if 4000<(cmC r).instrs.length\/200<(cmC r).strings.length then(C3l,(0:Int),(9:Int)) else(cmC r,0,0)).1=0;by_cases h3:4000<(cmC r).instrs.length\/200<(cmC r).strings.length
   ·rw[if_pos h3];exact C3u
   ·rw[if_neg h3];exact D3f ⟨h1,h2⟩ (by omega) (by omega)
 simp_all[C3u]
abbrev txC(S:List (List UInt8)):List DV:=S.map DV.str
abbrev gmB(t:Nat)(a b:Option Nat)(mk:DV->DV->List DV)(x:Cg):Blk:=⟨0,true,mk (todoV a x.1.length) (todoV b x.2.length)⟩
def GM(H0:Hp)(t:Nat)(a b:Option Nat)(mk:DV->DV->List DV)(x:Cg):Hp :=
 optH (optH (H0.upd t (gmB t a b mk x)) a ⟨2,true,V1 x.1⟩) b ⟨1,true,txC x.2⟩
structure GN (H0:Hp) (t:Nat) (a b:Option Nat) (x:Cg) (c:Nat):Prop where
 tc:t<c
 ha:∀i,a=some i->i≠t/\i<c/\H0 i=none
 hb:∀i,b=some i->i≠t/\i<c/\H0 i=none
 ne:∀i j,a=some i->b=some j->i≠j
 an:a=none->x.1=[]
 bn:b=none->x.2=[]
 fr:∀j,c<=j->H0 j=none
section
variable {H0:Hp} {t c c' i:Nat} {a b:Option Nat} {mk:DV->DV->List DV} {x y:Cg}
theorem B9q(h:GN H0 t a b x c):GM H0 t a b mk x t=some (gmB t a b mk x):=by
 rw[GM,B9 (λi hi=>Ne.symm (h.hb i hi).1),B9 (λi hi=>Ne.symm (h.ha i hi).1),A0]
theorem D2u(h:GN H0 t a b x c){i:Nat}(hi:a=some i):GM H0 t a b mk x i=some ⟨2,true,V1 x.1⟩:=by
 rw[GM,B9 (λj hj=>h.ne i j hi hj)];subst hi;exact A0
theorem C6q{i:Nat}(hi:b=some i):GM H0 t a b mk x i=some ⟨1,true,txC x.2⟩:=by
 rw[GM];subst hi;exact A0
theorem F2d{j:Nat}(h1:j≠t)(h2:a≠some j)(h3:b≠some j):GM H0 t a b mk x j=H0 j:=by
 rw[GM,B9 (λi hi e=>h3 (by grind)),B9 (λi hi e=>h2 (by grind)),h_ne h1]
theorem B5p(h:GN H0 t a b x c){j:Nat}{B:Blk}(hj:H0 j=some B)(ht:j≠t):GM H0 t a b mk x j=some B:=by
 rw[F2d ht (λe=>by have:=(h.ha j e).2.2;grind) (λe=>by have:=(h.hb j e).2.2;grind),hj]
theorem D9s(h:GN H0 t a b x c){j:Nat}(hj:c<=j):GM H0 t a b mk x j=none:=by
 have:=h.tc;rw[F2d (by omega) (λe=>by have:=(h.ha j e).2.1;omega) (λe=>by have:=(h.hb j e).2.1;omega)];exact h.fr j hj
theorem B5o{X:Hp}(ht:X t=some (gmB t a b mk x))(ha:∀i,a=some i->X i=some ⟨2,true,V1 x.1⟩)(hb:∀i,b=some i->X i=some ⟨1,true,txC x.2⟩)(ho:∀j B,j≠t->H0 j=some B->X j=some B):
  Sub (GM H0 t a b mk x) X:=by
 intro j B hj;rw[GM]at hj;by_cases h1:b=some j
 ·subst h1;simp only[optH]at hj;rw[A0]at hj;rw[<- hj];exact hb j rfl
 rw[B9 (λi hi e=>h1 (by rw[e];exact hi))]at hj;by_cases h2:a=some j
 ·subst h2;simp only[optH]at hj;rw[A0]at hj;rw[<- hj];exact ha j rfl
 grind[B9,A0,h_ne]
theorem GN.le(h:GN H0 t a b x c)(hc:c<=c'):GN H0 t a b x c' :=
 ⟨by have:=h.tc;omega,λi hi=>by have:=h.ha i hi;grind,λi hi=>by have:=h.hb i hi;grind,h.ne,h.an,h.bn,λj hj=>h.fr j (by omega)⟩
theorem GN.newA(h:GN H0 t a b x c)(h1:c<=i)(h2:i<c')(he:y.2=x.2):GN H0 t (some i) b y c':=by
 have:=h.tc;exact⟨a8,λj hj=>by cases hj;exact⟨a8,h2,h.fr _ h1⟩,λj hj=>by have:=h.hb j hj;grind,λj k hj hk=>by cases hj;have:=h.hb k hk;omega,λe=>(by grind),λe=>(by rw[he];exact h.bn e),λj hj=>h.fr j (by omega)⟩
theorem GN.newB(h:GN H0 t a b x c)(h1:c<=i)(h2:i<c')(he:y.1=x.1):GN H0 t a (some i) y c':=by
 have:=h.tc;exact⟨a8,λj hj=>by have:=h.ha j hj;grind,λj hj=>by cases hj;exact⟨a8,h2,h.fr _ h1⟩,λj k hj hk=>by cases hk;have:=h.ha j hj;omega,λe=>(by rw[he];exact h.an e),λe=>(by grind),λj hj=>h.fr j (by omega)⟩
theorem GN.keep(h:GN H0 t a b x c)(hc:c<=c')(h1:a=none->y.1=[])(h2:b=none->y.2=[]):GN H0 t a b y c' :=
 ⟨by have:=h.tc;omega,λi hi=>by have:=h.ha i hi;grind,λi hi=>by have:=h.hb i hi;grind,h.ne,h1,h2,λj hj=>h.fr j (by omega)⟩
end
section
variable {H0:Hp} {t c c' j:Nat} {a b:Option Nat} {mk:DV->DV->List DV} {x y:Cg} {B:Blk}
theorem F2e(h1:j≠t)(h2:a≠some j)(h3:b≠some j):(GM H0 t a b mk x).upd j B=GM (H0.upd j B) t a b mk x:=by
 funext i
 by_cases e:i=j
 ·grind[A0,F2d]
 ·rw[h_ne e];unfold GM;cases a with
  |none =>
   cases b<;>simp_all[optH,Hp.upd]
  |some a =>
   cases b<;>simp_all[optH,Hp.upd]
theorem GN.com(h:GN H0 t a b x c)(hj:c<=j):(GM H0 t a b mk x).upd j B=GM (H0.upd j B) t a b mk x :=
 F2e (by have:=h.tc;omega) (λe=>by have:=(h.ha j e).2.1;omega) (λe=>by have:=(h.hb j e).2.1;omega)
theorem GN.box(h:GN H0 t a b x c)(hj:c<=j)(hc:j<c'):GN (H0.upd j B) t a b x c':=by
 have:=h.tc;exact⟨a8,λi hi=>by have:=h.ha i hi;grind[h_ne],λi hi=>by have:=h.hb i hi;grind[h_ne],h.ne,h.an,h.bn,λi hi=>by rw[hnO];exact h.fr i (by omega)⟩
theorem A1o(hj:H0 j=none)(ht:j≠t)(h:GN (H0.upd j B) t a b x c'):Sub (GM H0 t a b mk x) (GM (H0.upd j B) t a b mk x) :=
 B5o (B9q h) (λi hi=>D2u h hi) (λi hi=>C6q hi) (λi Q hi hQ=>B5p h (by
  grind[h_ne]) hi)
theorem GN.unbox(h:GN (H0.upd j B) t a b x c')(hj:H0 j=none)(hc:c<=c')(hf:∀i,c<=i->H0 i=none):GN H0 t a b x c' :=
 ⟨h.tc,λi hi=>by
  have:=h.ha i hi
  grind[h_ne],λi hi=>by
  have:=h.hb i hi
  grind[h_ne],h.ne,h.an,h.bn,λi hi=>hf i (by omega)⟩
end
theorem D1l(l:List Ins)(i:Ins):V1 (l++[i])=V1 l++[I64 i.op,I64 i.A]:=by rw[A3t,A8z]
theorem D6z(l m:List Ins)(op a z:Int):(V1 (l++⟨op,a⟩::m)).take (l.length*2+1)++(I64 z).cells++(V1 (l++⟨op,a⟩::m)).drop (l.length*2+1+1)=V1 (l++⟨op,z⟩::m):=by
 have e:∀y:Int,l++(⟨op,y⟩:Ins)::m=l++([⟨op,y⟩]++m):=λ_=>rfl;rw[e,e,A3t,A3t,A3t,A3t,A8z,A8z];have h:=A9a l;rw[List.take_append,List.drop_append,A0J (by omega),A2R (by omega),h,show l.length*2+1-l.length*2=1 by omega,show l.length*2+1+1-l.length*2=2 by omega,A0K,A0K];rfl
theorem F1b{H0:Hp}{t c i:Nat}{a b:Option Nat}{mk:DV->DV->List DV}{x y:Cg}{B B2 B3:Blk}(h:GN H0 t a b x c)(hi:c<i)(h2:y.2=x.2)(e2:B2=⟨2,true,V1 y.1⟩)(e3:B3=gmB t (some i) b mk y):
  Sub (GM H0 t (some i) b mk y) (((delO ((GM H0 t a b mk x).upd c B) a).upd i B2).upd t B3):=by
 have:=h.tc;refine B5o ?_ (λj hj=>?_) (λj hj=>?_) (λj Q hj hQ=>?_)
 ·rw[A0,e3]
 ·grind[h_ne,A0]
 ·have q:=h.hb j hj;rw[h_ne q.1,hnO,C5 (λk hk e=>h.ne k j hk hj e.symm),hnO,C6q hj,h2]
 ·have q:j<c:=A2I λhc=>by rw[h.fr j hc]at hQ;grind
  rw[h_ne hj,hnO,C5 (λk hk e=>by have:=(h.ha k hk).2.2;grind),hnO,B5p h hQ hj]
theorem E6m{H0:Hp}{t c i:Nat}{a b:Option Nat}{mk:DV->DV->List DV}{x y:Cg}{B B2 B3:Blk}(h:GN H0 t a b x c)(hi:c<i)(h2:y.1=x.1)(e2:B2=⟨1,true,txC y.2⟩)(e3:B3=gmB t a (some i) mk y):
  Sub (GM H0 t a (some i) mk y) (((delO ((GM H0 t a b mk x).upd c B) b).upd i B2).upd t B3):=by
 have:=h.tc;refine B5o ?_ (λj hj=>?_) (λj hj=>?_) (λj Q hj hQ=>?_)
 ·rw[A0,e3]
 ·have q:=h.ha j hj;rw[h_ne q.1,hnO,C5 (λk hk e=>h.ne j k hj hk e),hnO,D2u h hj,h2]
 ·grind[h_ne,A0]
 ·have q:j<c:=A2I λhc=>by rw[h.fr j hc]at hQ;grind
  rw[h_ne hj,hnO,C5 (λk hk e=>by have:=(h.hb k hk).2.2;grind),hnO,B5p h hQ hj]
abbrev pcC(k:Ky)(b:DV):List DV:=[I64 k.mode,I64 k.trig,I64 k.ix,I64 0,b]
def ptC:List Nat->List D6->List DV
 |i::is,p::l=>pcC p.1 (.slc i 0 p.2.length)++ptC is l
 |_,_=>[]
abbrev bdB(b:List (List St)):Blk:=⟨1,true,b.map G7⟩
def A3i(H0:Hp):List Nat->List D6->Hp
 |i::is,p::l=>(A3i H0 is l).upd i (bdB p.2)
 |_,_=>H0
def PM(H0:Hp)(o:Option Nat)(is:List Nat)(l:List D6):Hp:=optH (A3i H0 is l) o ⟨5,true,ptC is l⟩
structure PN (H0:Hp) (o:Option Nat) (is:List Nat) (l:List D6) (c:Nat):Prop where
 len:is.length=l.length
 nd:is.Nodup
 fi:∀i∈is,i<c/\H0 i=none/\o≠some i
 fo:∀i,o=some i->i<c/\H0 i=none
 no:o=none->l=[]
 fr:∀j,c<=j->H0 j=none
theorem B8v{H0:Hp}{j:Nat}:∀ {is:List Nat} {l:List D6},j ∉ is->A3i H0 is l j=H0 j
 |[],_,_=>rfl
 |_::_,[],_=>rfl
 |i::is,p::l,h=>by
  rw[A3i,h_ne (λe=>h (by grind))];exact B8v λhm=>h (A0D _ hm)
theorem C9i{H0:Hp}:∀ {is:List Nat} {l:List D6} {n i:Nat} {p:D6},is.Nodup->is[n]? = some i->l[n]? = some p->A3i H0 is l i=some (bdB p.2)
 |i::is,p::l,0,_,_,_,h1,h2=>by simp_all[A3i,A0]
 |i::is,p::l,n+1,j,q,hn,h1,h2=>by
  obtain⟨a,b⟩:=A3P.1 hn;have hm:j∈is:=A0W h1;rw[A3i,h_ne (λe=>a (by grind))];exact C9i b h1 h2
theorem B7a{H0:Hp}{j:Nat}{B:Blk}:∀ {is:List Nat} {l:List D6},A3i H0 is l j=some B->H0 j=some B\/∃(n:Nat) (p:D6),is[n]? = some j/\l[n]? = some p/\B=bdB p.2
 |[],_,h=>.inl h
 |_::_,[],h=>.inl h
 |i::is,p::l,h=>by
  rw[A3i]at h;by_cases e:j=i
  ·subst e;rw[A0]at h;cases h;exact .inr ⟨0,p,rfl,rfl,rfl⟩
  ·rw[h_ne e]at h;rcases B7a h with h|⟨n,q,a,b,c⟩
   ·grind
   ·exact .inr ⟨n+1,q,a,b,c⟩
section
variable {H0 X:Hp} {o:Option Nat} {is:List Nat} {l:List D6} {c c':Nat}
theorem E4g(h:PN H0 o is l c){n i:Nat}{p:D6}(h1:is[n]? = some i)(h2:l[n]? = some p):PM H0 o is l i=some (bdB p.2):=by
 rw[PM,B9 (λj hj e=>(h.fi i (A0W h1)).2.2 (by grind))];exact C9i h.nd h1 h2
theorem E4f{i:Nat}(hi:o=some i):PM H0 o is l i=some ⟨5,true,ptC is l⟩:=u5
theorem F7b{j:Nat}(h1:o≠some j)(h2:j ∉ is):PM H0 o is l j=H0 j:=by
 rw[PM,B9 (λi hi e=>h1 (by grind)),B8v h2]
theorem B9m(h:PN H0 o is l c){j:Nat}{B:Blk}(hj:H0 j=some B):PM H0 o is l j=some B:=by
 rw[F7b (λe=>by have:=(h.fo j e).2;grind) (λhm=>by have:=(h.fi j hm).2.1;grind),hj]
theorem F1z(h:PN H0 o is l c){j:Nat}(hj:c<=j):PM H0 o is l j=none:=by
 rw[F7b (λe=>by have:=(h.fo j e).1;omega) (λhm=>by have:=(h.fi j hm).1;omega)];exact h.fr j hj
theorem C6o(h1:∀(n i:Nat) (p:D6),is[n]? = some i->l[n]? = some p->X i=some (bdB p.2))(h2:∀i,o=some i->X i=some ⟨5,true,ptC is l⟩)(h3:∀j B,H0 j=some B->X j=some B):Sub (PM H0 o is l) X:=by
 intro j B hj;rw[PM]at hj;by_cases e:o=some j
 ·subst e;simp only[optH]at hj;rw[A0]at hj;rw[<- hj];exact h2 j rfl
 grind[B9,B7a]
end
theorem A2s:∀ {is:List Nat} {l:List D6},is.length=l.length->(ptC is l).length=l.length*5
 |[],[],_=>rfl
 |i::is,p::l,h=>by
  rw[ptC,A0A,A2s (Nat.succ.inj h)]
  grind
theorem C7u:∀ {is:List Nat} {l:List D6} {is':List Nat} {l':List D6},is.length=l.length->ptC (is++is') (l++l')=ptC is l++ptC is' l'
 |[],[],_,_,_=>rfl
 |i::is,p::l,_,_,h=>by
  rw[List.cons_append,List.cons_append,ptC,ptC,C7u (Nat.succ.inj h),A0K]
theorem C4l:∀ {is:List Nat} {l:List D6} {k i:Nat} {p:D6},is.length=l.length->is[k]? = some i->l[k]? = some p->((ptC is l).drop (k*5)).take 5=pcC p.1 (.slc i 0 p.2.length)
 |i::is,p::l,0,_,_,_,h1,h2=>by grind[ptC]
 |i::is,p::l,k+1,j,q,hl,h1,h2=>by
  have e:(k+1)*5=5+k*5:=a8
  rw[ptC,e, <- A3E];exact C4l (Nat.succ.inj hl) h1 h2
theorem C7t:∀ {is:List Nat} {l:List D6} {k i:Nat} {p q:D6},is.length=l.length->is[k]? = some i->l[k]? = some p->q.1=p.1->∀j,(ptC is l).take (k*5+4)++[.slc j 0 q.2.length]++(ptC is l).drop (k*5+4+1)=ptC (is.set k j) (l.set k q)
 |i::is,p::l,0,_,_,q,_,h1,h2,h3,j=>by grind[ptC]
 |i::is,p::l,k+1,i',p',q,hl,h1,h2,h3,j=>by
  have ih:=C7t (Nat.succ.inj hl) h1 h2 h3 j;rw[A4S,A4S,ptC,ptC, <- ih,show(k+1)*5+4=5+(k*5+4) by omega,show 5+(k*5+4)+1=5+(k*5+4+1) by omega]
  grind
theorem E0t{is:List Nat}{l:List D6}(h:is.length=l.length)(k:Ky)(b:List St)(j:Nat):
  (ptC is l++pcC k .snil).take (l.length*5+4)++[.slc j 0 1]++(ptC is l++pcC k .snil).drop (l.length*5+4+1)=ptC (is++[j]) (l++[(k,[b])]):=by
 have hl:=A2s h;rw[C7u h,List.take_append,List.drop_append,A0J (by omega),A2R (by omega),hl,show l.length*5+4-l.length*5=4 by omega,show l.length*5+4+1-l.length*5=5 by omega,A0K,A0K];rfl
theorem D6g{D:Nat}:∀ {is:List Nat} {n:Nat},is.Nodup->D ∉ is->(is.set n D).Nodup
 |[],_,_,_=>by simp
 |i::is,0,h,hd=>by
  grind
 |i::is,n+1,h,hd=>by
  rw[A4S];obtain⟨h1,h2⟩:=A3P.1 h;refine A3P.2 ⟨λhm=>?_,D6g h2 λhm=>hd (A0D _ hm)⟩
  grind
theorem D6h:∀ {is:List Nat} {k n q:Nat},is.Nodup->is[k]? = some q->is[n]? = some q->k=n
 |i::is,0,0,_,_,_,_=>rfl
 |i::is,0,n+1,q,h,h1,h2=>by
  grind
 |i::is,k+1,0,q,h,h1,h2=>by
  grind
 |i::is,k+1,n+1,q,h,h1,h2=>by rw[D6h (A3P.1 h).2 h1 h2]
theorem D5n{is:List Nat}{l:List D6}{k i:Nat}{p:D6}(hl:is.length=l.length)(h1:is[k]? = some i)(h2:l[k]? = some p):(ptC is l)[k*5+4]? = some (.slc i 0 p.2.length):=by
 have h:=congrArg (λz:List DV=>z[4]?) (C4l hl h1 h2)
 grind
def ixP(k:Ky):List D6->Nat->Int
 |[],_ => -1
 |p::l,n=>if p.1=k then(n:Int) else ixP k l (n+1)
theorem C1q{k:Ky}:∀ {l:List D6} {n:Nat} {x:Int},ixP k l n=x->¬x = -1->∃(m:Nat) (a b:List D6) (q:List (List St)),l=a++(k,q)::b/\m=a.length/\x=((n+m:Nat):Int)/\∀s,P9 k s l=a++(k,q++[s])::b
 |[],n,x,h,hn=>absurd h.symm hn
 |p::l,n,x,h,hn=>by
  rw[ixP]at h;by_cases e:p.1=k
  ·rw[if_pos e]at h;refine⟨0,[],l,p.2,by rw[<- e];rfl,rfl,h.symm,λs=>?_⟩
   simp_all[P9]
  ·rw[if_neg e]at h;obtain⟨m,a,b,q,h1,h2,h3,h4⟩:=C1q h hn;refine⟨m+1,p::a,b,q,by rw[h1];rfl,by rw[h2];rfl,by rw[h3];congr 1;omega,λs=>?_⟩
   simp_all[P9]
theorem C1r{k:Ky}:∀ {l:List D6} {n:Nat},ixP k l n = -1->∀s,P9 k s l=l++[(k,[s])]
 |[],n,h,s=>rfl
 |p::l,n,h,s=>by
  rw[ixP]at h;by_cases e:p.1=k
  ·grind
  ·rw[if_neg e]at h;rw[P9,if_neg e,C1r h s];rfl
theorem D6w{k:Ky}{l:List D6}{p:D6}{n:Nat}(h:l[n]? = some p):ixP k (l.drop n) n=if p.1=k then(n:Int) else ixP k (l.drop (n+1)) (n+1):=by
 rw[List.drop_eq_getElem?_toList_append,h];rfl
section
variable {H0:Hp} {o:Option Nat} {is:List Nat} {l:List D6} {c c' j:Nat} {B:Blk}
theorem F2a(h1:o≠some j)(h2:j ∉ is):(PM H0 o is l).upd j B=PM (H0.upd j B) o is l:=by
 have key:∀(is:List Nat) (l:List D6),j ∉ is->(A3i H0 is l).upd j B=A3i (H0.upd j B) is l:=by
  intro is
  induction is with
  |nil=>intro l _;rfl
  |cons i is ih =>
   intro l h;cases l with
   |nil=>rfl
   |cons p l =>
    rw[A3i,A3i, <- ih l (λhm=>h (A0D _ hm))]
    grind[A0,h_ne]
 unfold PM;rw[<- key is l h2];cases o with
 |none=>rfl
 |some i =>
  have hji:j≠i:=λe=>h1 (by rw[e])
  funext k
  simp only[optH]
  grind[A0,h_ne]
theorem PN.com(h:PN H0 o is l c)(hj:c<=j):(PM H0 o is l).upd j B=PM (H0.upd j B) o is l :=
 F2a (λe=>by have:=(h.fo j e).1;omega) (λhm=>by have:=(h.fi j hm).1;omega)
theorem PN.box(h:PN H0 o is l c)(hj:c<=j)(hc:j<c'):PN (H0.upd j B) o is l c' :=
 ⟨h.len,h.nd,λi hi=>by have:=h.fi i hi;grind[h_ne],λi hi=>by have:=h.fo i hi;grind[h_ne],h.no,λi hi=>by rw[hnO];exact h.fr i (by omega)⟩
theorem PN.le(h:PN H0 o is l c)(hc:c<=c'):PN H0 o is l c' :=
 ⟨h.len,h.nd,λi hi=>by have:=h.fi i hi;grind,λi hi=>by have:=h.fo i hi;grind,h.no,λi hi=>h.fr i (by omega)⟩
theorem B9n(hj:H0 j=none)(h:PN (H0.upd j B) o is l c'):Sub (PM H0 o is l) (PM (H0.upd j B) o is l) :=
 C6o (λn i p h1 h2=>E4g h h1 h2) (λi hi=>E4f hi) (λi Q hQ=>B9m h (by grind[h_ne]))
theorem PN.unbox(h:PN (H0.upd j B) o is l c')(hj:H0 j=none)(hc:c<=c')(hf:∀i,c<=i->H0 i=none):PN H0 o is l c' :=
 ⟨h.len,h.nd,λi hi=>by
  have:=h.fi i hi
  grind[h_ne],λi hi=>by
  have:=h.fo i hi
  grind[h_ne],h.no,λi hi=>hf i (by omega)⟩
end
def PB(n:Nat)(l:List D6):Prop:=l.length<=n/\∀p∈l,p.2.length<=n
theorem PB.add{n:Nat}{k:Ky}{b:List St}:∀ {l:List D6},PB n l->PB (n+1) (P9 k b l)
 |[],_=>⟨by simp[P9],λp hp=>by grind[P9]⟩
 |p::l,⟨h1,h2⟩=>by
  rw[P9];split
  ·refine⟨by simp only[A0C]at h1 ⊢;omega,λq hq=>?_⟩
   grind
  ·have key:∀(n:Nat) (l:List D6),(∀p∈l,p.2.length<=n)->(P9 k b l).length<=l.length+1/\∀p∈P9 k b l,p.2.length<=n+1:=by
    intro n l
    induction l with
    |nil=>intro _;exact⟨by simp[P9],λp hp=>by simp[P9]at hp;subst hp;simp⟩
    |cons p l ih =>
     intro h;obtain⟨i1,i2⟩:=ih λq hq=>h q (A0D _ hq);rw[P9];split
     ·refine⟨by simp only[A0C];omega,λq hq=>?_⟩;rcases A0U.1 hq with rfl|hq
      ·have:=h p A0H;simp only[A0A,A0I];omega
      ·have:=h q (A0D _ hq);omega
     ·refine⟨by simp only[A0C];omega,λq hq=>?_⟩;rcases A0U.1 hq with rfl|hq
      ·have:=h q A0H;omega
      ·exact i2 q hq
   obtain⟨k1,k2⟩:=key n l λq hq=>h2 q (A0D _ hq);refine⟨by simp only[A0C]at h1 ⊢;omega,λq hq=>?_⟩
   grind
theorem PB.le{n m:Nat}{l:List D6}(h:PB n l)(hm:n<=m):PB m l:=⟨by have:=h.1;omega,λp hp=>by have:=h.2 p hp;omega⟩
theorem C1v(nm:List UInt8->Int):∀ {M:List Md} {i k:Nat} {m:Md},M[i]? = some m->hkM nm k (M.take (i+1))=hkM nm k (M.take i)++m.hds.map (hdK nm (k+i))
 |[],_,_,_,h=>j8
 |x::M,0,k,m,h=>by
  grind[hkM]
 |x::M,i+1,k,m,h=>by
  rw[A0Y,A0Y,hkM,hkM,C1v nm (i:=i) (k:=k+1) h,A0K,show k+1+i=k+(i+1) by omega]
theorem D2t(l:List D6)(q:List KB)(x:KB):J8 l (q++[x])=P9 x.1 x.2 (J8 l q):=by
 grind[J8]
theorem C3i(l:List D6)(a b:List KB):J8 l (a++b)=J8 (J8 l a) b:=by grind[J8]
def B1v(x:List UInt8):Nat->List (List UInt8)->Int
 |_,[] => -1
 |k,w::l=>if(x==w)=true then(k:Int) else B1v x (k+1) l
section
variable {L:List Tok} {E:Int}
end
end Go.Pb
namespace Go.Sym
variable [Go.Sym.Tab]
open Go.Eng (K4)
open Go.RowKit
variable {P:Program}
theorem PC.of_callsF{f:Nat}{args:List DV}{r:DV}(hc:K4 P f=true)(na:DV.nlL args=true)(nr:r.nl=true)
  (h:∀(ρ:Ren) (w:World) (vs:Array Value),(∀b r, ρ.fz b=some r->∃e fr,w.heap[b]? = some (.cells r e fr))->I3 ρ args vs ->
   Calls P f vs w λe w' => ∃v' b row ty fr,e=.returned v'/\w.heap.size<=b/\w'.heap[b]? = some (.cells row ty fr)/\(∀ ρ':Ren, ρ'.fz b=some row->VRel ρ' r v')/\Below w.heap.size w w'):PC P f args r:=by
 refine⟨na,nr,hc,fun ρ w vs hR hf hA=>?_⟩;refine(h ρ w vs hR.frz hA).mono ?_;rintro e w' ⟨v',b,row,ty,fr,rfl,hb,hrow,hv,b1,b2,b3,b4,b5⟩;have hnone : ρ.fz b=none:=by
  cases hz : ρ.fz b with
  |none=>rfl
  |some r=>have:=hR.flt hz;omega
 have hfz:(ρ.frz b row hnone).fz b=some row:=by simp[Ren.frz]
 refine⟨r,v',nil,0, ρ.frz b row hnone,rfl,rfl,hv _ hfz,⟨λid b h=>(by cases h),λi j bi bj ti tj h=>(by cases h),λk r' hk=>?_,λid b t h=>(by cases h),λk r' hk=>⟨?_,λid b t h=>(by cases h)⟩⟩,hf,A0E _,λid hid h=>absurd rfl h,λ_ _=>rfl,
  ⟨Ren.le_frz hnone,b1,b2,b3,b4,λk hk _=>b5 k hk,λid b t h1=>(by cases h1),λk r' hk=>?_,λk r h=>.inl h⟩⟩
 ·simp only[Ren.frz]at hk;split at hk
  ·grind
  ·obtain⟨e,fr,h1⟩:=hR.frz k r' hk
   grind
 ·obtain⟨⟨cl,h1,hst⟩, -⟩:=hR.frm k r' hk
  grind
 ·simp only[Ren.frz]at hk
  grind
theorem VRel.strs{ρ:Ren}{l:List (List UInt8)}{b n c:Nat}(h : ρ.fz b=some ((l.map λs=>Value.string ⟨s.toArray⟩).toArray))(hn:n=l.length)(hc:n<=c)(hm:c<=maxLen):
  VRel ρ (.lst (l.map DV.str)) (.slice (some ⟨b,0,none⟩) n c):=by
 have hcl:cellsL (l.map DV.str)=l.map DV.str:=by
  clear h hn
  induction l with
  |nil=>rfl
  |cons x r ih =>
   have:cellsL ((x::r).map DV.str)=[DV.str x]++cellsL (r.map DV.str):=rfl
   grind
 refine .lst _ n 1 b 0 c _ h (by grind) hc hm (λx hx=>by obtain⟨y, -,rfl⟩:=A0X.1 hx;rfl) ?_ ?_ ?_
 ·grind
 ·rw[hcl];intro d hd;obtain⟨y, -,rfl⟩:=A0X.1 hd;rfl
 ·rw[hcl];intro k d v hd hv;rw[A1Z]at hd;obtain⟨s,hs,rfl⟩:=A0T.1 hd;simp only[A1F,A1X,A1Z,hs,A3O,Option.some.injEq]at hv;subst hv;exact .mkStr
end Go.Sym
namespace Go.Pb
variable [Go.Sym.Tab]
open Go.Sym
variable {nm:List UInt8->Int}
def A6w(nm:List UInt8->Int)(s:St)(x:Cg):Cg:=(x.1++(cgS nm x.1.length x.2 s).1,(cgS nm x.1.length x.2 s).2)
def T6(nm:List UInt8->Int)(l:List St)(x:Cg):Cg:=(x.1++(cgB nm x.1.length x.2 l).1,(cgB nm x.1.length x.2 l).2)
theorem A3x(x:Cg):T6 nm [] x=x:=by simp[T6,cgB]
theorem B1c(s:St)(l:List St)(x:Cg):T6 nm (s::l) x=T6 nm l (A6w nm s x):=by
 grind[T6,A6w,cgB]
theorem A5r:∀(a b:List St) (x:Cg),T6 nm (a++b) x=T6 nm b (T6 nm a x)
 |[],b,x=>by grind[A3x]
 |s::a,b,x=>by rw[List.cons_append,B1c,B1c,A5r a b]
theorem D2m{l:List St}{k:Nat}{s:St}(h:l[k]? = some s)(x:Cg):T6 nm (l.take (k+1)) x=A6w nm s (T6 nm (l.take k) x):=by
 grind[List.take_add_one,A5r,B1c,A3x]
def C6t(x y:Cg):Prop:=x.1.length<=y.1.length/\x.2.length<=y.2.length
theorem E3n(l:List St)(x:Cg):C6t x (T6 nm l x):=⟨by simp[T6],A3j nm l _ _⟩
theorem E3m(s:St)(x:Cg):C6t x (A6w nm s x):=⟨by simp[A6w],D8x nm s _ _⟩
theorem D2l(l:List St)(k:Nat)(x:Cg):C6t (T6 nm (l.take k) x) (T6 nm l x):=by
 grind[A5r,List.take_append_drop,E3n]
def CgB(x:Cg):Prop:=x.1.length<=99999999/\x.2.length<=99999999
theorem C6t.bnd{x y:Cg}(h:C6t x y)(hy:CgB y):CgB x:=⟨A1B h.1 hy.1,A1B h.2 hy.2⟩
section
variable {k:Int} {n t:List UInt8} {a:List Ex} {u v:List St} {q:Int} {x x1:Cg}
theorem C3a(h1:x1=(x.1++C7 nm a,x.2))(hv:v.length=0):A6w nm (.mk 2 n t a u v q) x =
  (x1.1++⟨13,((x1.1++(⟨13,0⟩:Ins)::(cgB nm (x1.1.length+1) x1.2 u).1).length:Int)⟩::(cgB nm (x1.1.length+1) x1.2 u).1,(cgB nm (x1.1.length+1) x1.2 u).2):=by
 simp_all[A6w,cgS];omega
theorem C2z(h1:x1=(x.1++C7 nm a,x.2))(hv:¬v.length=0){T:Cg}(hT:T=cgB nm (x1.1.length+1) x1.2 u){W:Cg}(hW:W=cgB nm (x1.1.length+1+T.1.length+1) T.2 v):A6w nm (.mk 2 n t a u v q) x =
  ((x1.1++⟨13,((x1.1.length+1+T.1.length+1:Nat):Int)⟩::T.1)++⟨12,((x1.1.length+1+T.1.length+1+W.1.length:Nat):Int)⟩::W.1,W.2):=by
 simp_all[A6w,cgS]
theorem C2x(h1:x1=(x.1++C7 nm a,x.2)){T:Cg}(hT:T=cgB nm (x1.1.length+1) x1.2 u):A6w nm (.mk 3 n t a u v q) x =
  (x1.1++⟨14,((x1.1.length+1+T.1.length+1:Nat):Int)⟩::(T.1++[⟨12,(x1.1.length:Int)⟩]),T.2):=by
 simp_all[A6w,cgS]
theorem C2w(h1:x1=(x.1++C7 nm a,x.2)):A6w nm (.mk 18 n t a u v q) x=(x1.1++[⟨29,((txS x1.2 t).1:Int)⟩],(txS x1.2 t).2):=by
 simp_all[A6w,cgS]
theorem C2y(h1:x1=(x.1++C7 nm a,x.2))(h2:¬k=2)(h3:¬k=3)(h18:¬k=18):A6w nm (.mk k n t a u v q) x=(x1.1++[⟨Pb.stOp k,nm n⟩],x1.2):=by
 simp_all[A6w,cgS]
theorem D2j(s:St)(x:Cg):C6t (x.1++C7 nm s.args,x.2) (A6w nm s x):=by
 obtain⟨k,n,t,a,u,v,q⟩:=s;refine⟨?_,show x.2.length<=_ from(E3m _ _).2⟩;simp only[St.args];by_cases h2:k=2
 ·subst h2;by_cases hv:v.length=0
  ·rw[C3a rfl hv];simp
  simp_all[C2z]
 ·by_cases h3:k=3
  ·simp_all[C2x]
  ·by_cases h18:k=18
   ·subst h18;rw[C2w rfl];simp
   simp_all[C2y]
end
section
variable {H0:Hp} {t c i d:Nat} {b:Option Nat} {mk:DV->DV->List DV} {l r:List Ins} {S:List (List UInt8)} {op k z:Int}
end
end Go.Pb
namespace Go.Sym
variable [Go.Sym.Tab]
variable {P:Program}
theorem AC.own{f:Nat}{args:List DV}{V:Nat->DV}{u:Nat}{cs:List DV}(h:AC P f args nil 0 (λv H' _ => ∃id,v=V id/\H'=nil.upd id ⟨u,true,cs⟩))(hn:DV.nlL args=true)(hcs:∀d∈cs,d.nl=true)
  (hV:∀(ρ ρ':Ren) (id id':Nat) (v:Value), ρ.nm id = ρ'.nm id'->((∀b r, ρ.fz b=some r -> ρ'.fz b=some r)/\∀b r, ρ.fm b=some r -> ρ'.fm b=some r)->VRel ρ (V id) v->VRel ρ' (V id') v) (H:Hp) (c:Nat) :
  AC P f args H c (λv H' c'=>v=V c/\H'=H.upd c ⟨u,true,cs⟩/\c'=c+1):=by
 refine⟨h.1,fun ρ w vs hR hf hA=>?_⟩;refine(h.2 ⟨λ_=>none, ρ.fz, ρ.tab, ρ.fm⟩ w vs hR.nil (λ_ _=>rfl) (hA.nl (ρ := ρ) (ρ':=⟨λ_=>none, ρ.fz, ρ.tab, ρ.fm⟩) (λ_ _ h=>h) (λ_ _ h=>h) hn)).mono ?_;rintro e w' ⟨v,v',H1,c1, ρ1,rfl,⟨id,rfl,rfl⟩,d⟩;have hb:=d.ext.below (λid b hb=>by cases hb);obtain⟨b1,b2,b3,b4,b5⟩:=hb;obtain⟨t,ht,hbr⟩:=d.rep.blk id _ A0;have hsz:w.heap.size<=t.block:=by
  rcases d.ext.mine id _ t A0 ht with h1|⟨i,b0,t0,e1, -⟩
  ·exact h1
  trivial
 obtain⟨ρ2,hρ⟩:∃ ρ2:Ren, ρ2=⟨λj=>if j=c then some t else ρ.nm j, ρ1.fz, ρ1.tab, ρ1.fm⟩:=⟨_,rfl⟩;have n1 : ρ2.nm c=some t:=zae
 have n2:∀ {j},¬j=c -> ρ2.nm j = ρ.nm j:=λ{j} hj=>zae
 have n3 : ρ2.fz = ρ1.fz:=j8
 have n4 : ρ2.fm = ρ1.fm:=j8
 have hle : ρ.le ρ2:=⟨λj x hj=>by
  grind,λb r hb=>by rw[n3];exact d.ext.le.fz b r hb,λb r hb=>by rw[n4];exact d.ext.le.fm b r hb⟩
 refine⟨V c,v',_,_, ρ2,rfl,⟨rfl,rfl,rfl⟩,hV ρ1 ρ2 id c v' (by grind) ⟨λb r hb=>j8,λb r hb=>by grind⟩ d.val,?_,λj hj=>j8,a8,
  λj hj hne=>by rw[hnO]at hne;omega,λj hj=>n2 (by omega),?_⟩
 ·refine⟨λj b hb=>?_,λi j bi bj ti tj hi hj hij h1 h2 ho=>?_,by rw[n3];exact d.rep.frz,λj b t2 hb ho ht2=>?_,λk es hk=>?_⟩
  ·by_cases e:j=c
   ·subst e;rw[A0]at hb;cases hb;refine⟨t,n1,?_⟩;rcases hbr with ⟨gm,c0,e0,fr,g1,g2,g3,g4,g5,g6⟩|⟨-, -, -,es,cl,kd,ks,vs', -,g2, -⟩
    case inr =>
     simp only at g2;subst g2;have:=hcs _ A0H
     trivial
    refine .inl ⟨gm,c0,e0,fr,g1,g2,g3,g4,λi x hx=>?_,g6⟩;obtain⟨q1,x',q2,q3⟩:=g5 i x hx;exact⟨q1,x',q2,q3.nl (ρ := ρ1) (ρ' := ρ2) (λb r hb=>by grind) (λb r hb=>by grind) (hcs x (A0W hx))⟩
   ·rw[h_ne e]at hb;obtain⟨t2,ht2,hb2⟩:=hR.blk j b hb;exact⟨t2,j8,(hb2.mono hle).world (b5 _ hb2.lt)⟩
  ·by_cases e1:i=c
   ·subst e1;have e2:¬j=i:=λe=>hij e.symm;rw[h_ne e2]at hj;rw[n1]at h1;cases h1;rw[n2 e2]at h2;have:=(hR.blk j bj hj);obtain⟨t2,ht2,hb2⟩:=this;rw[h2]at ht2;cases ht2;have:=hb2.lt;omega
   ·rw[h_ne e1]at hi;rw[n2 e1]at h1;by_cases e2:j=c
    ·subst e2;rw[n1]at h2;cases h2;obtain⟨t2,ht2,hb2⟩:=hR.blk i bi hi;rw[h1]at ht2;cases ht2;have:=hb2.lt;omega
    ·rw[h_ne e2]at hj;rw[n2 e2]at h2;exact hR.sep i j bi bj ti tj hi hj hij h1 h2 ho
  ·rw[n3];by_cases e:j=c
   ·subst e;rw[A0]at hb;cases hb;rw[n1]at ht2;cases ht2;exact d.rep.dis id _ t A0 rfl ht
   ·rw[h_ne e]at hb;rw[n2 e]at ht2;cases hf1 : ρ1.fz t2.block with
    |none=>rfl
    |some r =>
     rcases d.ext.fzn _ _ hf1 with h1|h1|⟨i,b0,t0,e1, -⟩
     ·rw[hR.dis j b t2 hb ho ht2]at h1;cases h1
     ·have:=(hR.lookb hb ht2).lt;omega
     trivial
  ·rw[n4]at hk;refine⟨(d.rep.frm k es hk).1,λj b t2 hb ho ht2=>?_⟩;by_cases e:j=c
   ·subst e;rw[A0]at hb;cases hb;rw[n1]at ht2;cases ht2;exact(d.rep.frm k es hk).2 id _ t A0 rfl ht
   ·rw[h_ne e]at hb;rw[n2 e]at ht2;rcases d.ext.fmn _ _ hk with h1|h1|⟨i,b0,t0,e1, -⟩
    ·exact(hR.frm k es h1).2 j b t2 hb ho ht2
    ·have:=(hR.lookb hb ht2).lt;omega
    trivial
 ·refine⟨hle,b1,b2,b3,b4,λk hk _=>b5 k hk,λj b t2 h1 h2=>?_,λk r hk=>?_,λk r hk=>?_⟩
  ·by_cases e:j=c
   ·grind
   ·rw[h_ne e]at h1
    grind
  ·rw[n3]at hk;rcases d.ext.fzn k r hk with h1|h1|⟨i,b0,t0,e1, -⟩
   ·exact .inl h1
   ·exact .inr (.inl h1)
   trivial
  ·rw[n4]at hk;rcases d.ext.fmn k r hk with h1|h1|⟨i,b0,t0,e1, -⟩
   ·exact .inl h1
   ·exact .inr (.inl h1)
   trivial
section
open Go.Eng (IC)
variable {N:Nat} {x:IC} {T:Tm} {H:Hp} {c:Nat} {Q:Exit->St->Prop}
theorem IW.gl{s:St}(h:IW P N x s (λe s'=>Q e s'\/∃(ks:List Nat) (ds':List DV) (H2:Hp),GL s'.H (ks.map s'.T) H2 ds'/\Q e ⟨tm (ks.zip ds'),H2,s'.c⟩)):IW P N x s Q:=by
 intro hm cd hc ρ a w hS;refine wp_mono (h hm cd hc ρ a w hS) λe a' w' hq=>?_;obtain⟨ρ2,s2,q,hS2,hst⟩:=hq;rcases q with q|⟨ks,ds',H2,g,q⟩
 ·exact⟨ρ2,s2,q,hS2,hst⟩
 have hA:I3 ρ2 (ks.map s2.T) ((ks.map λk=>a'.tmps.getD k undef)).toArray:=by
  refine⟨by simp,λi x y hx hy=>?_⟩;simp only[A1Z,A0T,A1X]at hx hy;obtain⟨k,hk,rfl⟩:=hx;obtain⟨k',hk',rfl⟩:=hy;rw[hk]at hk';cases hk';exact hS2.tm k
 obtain⟨ρ1,e1,r1,a1,x1⟩:=g.2 ρ2 w' _ hS2.rep hA;refine⟨ρ1,⟨tm (ks.zip ds'),H2,s2.c⟩,q,⟨D3s λi k d hk hd=>a1.2 i d _ hd (by grind),r1,by rw[e1];exact hS2.fresh,hS2.size,hS2.dfr⟩,?_⟩;exact⟨hst.up,λid hid hne=>hst.dom id hid (g.1 id hne),λid hid=>by rw[e1];exact hst.same id hid,hst.ext.trans x1⟩
theorem B9y:∀ {L:List (Nat × DV)} {T:Tm},B5 L T->(L.map Prod.fst).map T=L.map Prod.snd
 |[],_,_=>rfl
 |(k,v)::r,T,⟨h1,h2⟩=>by simp only[A0P,h1,B9y h2]
theorem E5z(L:List (Nat × DV)):(L.map Prod.fst).zip (L.map Prod.snd)=L:=by
 induction L with
 |nil=>rfl
 |cons a r ih=>grind
def lpG{σ:Type}(L : σ->List (Nat × DV))(h : σ->Hp)(I : σ->Nat->Prop)(μ : σ->Nat)(m:Nat)(Q:Exit->St->Prop):Exit->St->Prop
 |.normal,⟨T,H,c⟩ => ∃b,B5 (L b) T/\GL H ((L b).map Prod.snd) (h b) ((L b).map Prod.snd)/\I b c /\ μ b<m
 |e,s=>Q e s
theorem E2j{σ:Type}(L : σ->List (Nat × DV))(h : σ->Hp)(I : σ->Nat->Prop)(μ : σ->Nat)(a : σ)(hL:∀b,B5 (L b) (tm (L b)))(h0:B5 (L a) T)(hH:Sub (h a) H)(hI:I a c)
  (step:∀a c,I a c->IW P N x ⟨tm (L a),h a,c⟩ (lpG L h I μ (μ a) Q)):IW P N (.loop x) ⟨T,H,c⟩ Q:=by
 refine A9 L h I μ a h0 hH hI λa c hI=>IW.gl ((step a c hI).mono λe s' q=>?_);obtain⟨T',H',c'⟩:=s';cases e with
 |normal =>
  obtain⟨b,q1,q2,q3,q4⟩:=q;refine .inr ⟨(L b).map Prod.fst,(L b).map Prod.snd,h b,by rw[B9y q1];omega,?_⟩;rw[E5z];exact⟨b,hL b,Sub.refl _,q3,q4⟩
 |_=>exact .inl q
theorem F4f{σ:Type}{L : σ->List (Nat × DV)}{h : σ->Hp}{I : σ->Nat->Prop}{μ : σ->Nat}{m:Nat}:lpG L h I μ m Q .normal ⟨T,H,c⟩ = ∃b,B5 (L b) T/\GL H ((L b).map Prod.snd) (h b) ((L b).map Prod.snd)/\C3m I b c /\ μ b<m:=propext Iff.rfl
theorem F4e{σ:Type}{L : σ->List (Nat × DV)}{h : σ->Hp}{I : σ->Nat->Prop}{μ : σ->Nat}{m:Nat}:lpG L h I μ m Q .ret ⟨T,H,c⟩=Q .ret ⟨T,H,c⟩:=propext Iff.rfl
end
section
open Go.Eng (AOp)
variable {c0:Nat} {T:Tm} {H:Hp}
def agN(T:Tm)(H:Hp)(d n:Nat):Option (Option Nat × Blk)->Prop
 |some (k,b)=>T d=mkv n k/\H n=some b
 |none=>False
theorem F6z{j d:Nat}{f:AOp}:agK c0 j T H (some d) (.new f) (some true)=agN T H d (c0+j) (aev (ev T) f):=by
 simp only[agK,agN]
 grind
theorem F7a{d n:Nat}{k:Option Nat}{b:Blk}:agN T H d n (some (k,b))=(T d=mkv n k/\H n=some b):=propext Iff.rfl
end
attribute [go_sem] F6z F7a
attribute [go_sem] F4f F4e
end Go.Sym
namespace Go.Pb
variable [Go.Sym.Tab]
open Go.Sym
abbrev NmL:=List (List UInt8 × (Int × Int))
def inL(l:NmL):List (List UInt8 × DV):=l.map λp=>(p.1,I64 p.2.2)
theorem A6h(n:List UInt8):∀l:NmL,(inL l).lookup n=(l.lookup n).map λq=>I64 q.2
 |[]=>rfl
 |p::l=>by
  simp only[inL,A0P,List.lookup];cases n==p.1 with
  |true=>rfl
  |false=>exact A6h n l
abbrev B5s(l:NmL):Blk:=⟨0,true,[.mpc .s (mkK (inL l)) (mvV (inL l))]⟩
abbrev bgC(o2:Option Nat)(ps:List Int)(o:Option Nat)(vs:List Int)(t n:Int)(m:DV):List DV:=[.snil,.snil,.snil,todoV o2 ps.length,todoV o vs.length,I64 t,I64 n,m]
def bgM(D:List Dc)(M:List Md)(l:NmL)(a:List (Int × Nat))(o2:Option Nat)(ps:List Int)(o:Option Nat)(vs:List Int):Hp :=
 optH (optH ((((nil.upd 0 ⟨0,true,[D7 D,F6 M]⟩).upd 1 (B5s l)).upd 2 ⟨0,true,bgC o2 ps o vs 0 0 (.mid 1)⟩).upd 3 ⟨0,true,[.mpc (.i .i64) (ahK a) (ahV a)]⟩) o2 ⟨1,true,ps.map I64⟩) o ⟨1,true,vs.map I64⟩
structure BN (o2:Option Nat) (ps:List Int) (o:Option Nat) (vs:List Int) (c:Nat):Prop where
 c4:4<=c
 h2:∀i,o2=some i->4<=i/\i<c
 ho:∀i,o=some i->4<=i/\i<c
 ne:∀i j,o2=some i->o=some j->i≠j
 n2:o2=none->ps=[]
 no:o=none->vs=[]
section
variable {D:List Dc} {M:List Md} {l:NmL} {a:List (Int × Nat)} {o2 o:Option Nat} {ps vs:List Int} {c:Nat} {X:Hp}
theorem C9t(h:BN o2 ps o vs c){j:Nat}(hj:j<4):bgM D M l a o2 ps o vs j=((((nil.upd 0 ⟨0,true,[D7 D,F6 M]⟩).upd 1 (B5s l)).upd 2 ⟨0,true,bgC o2 ps o vs 0 0 (.mid 1)⟩).upd 3 ⟨0,true,[.mpc (.i .i64) (ahK a) (ahV a)]⟩) j:=by
 rw[bgM,B9 (λi hi=>by have:=h.ho i hi;omega),B9 (λi hi=>by have:=h.h2 i hi;omega)]
theorem bg0(h:BN o2 ps o vs c):bgM D M l a o2 ps o vs 0=some ⟨0,true,[D7 D,F6 M]⟩:=zaa
theorem bg1(h:BN o2 ps o vs c):bgM D M l a o2 ps o vs 1=some (B5s l):=zaa
theorem bg2(h:BN o2 ps o vs c):bgM D M l a o2 ps o vs 2=some ⟨0,true,bgC o2 ps o vs 0 0 (.mid 1)⟩:=zaa
theorem bg3(h:BN o2 ps o vs c):bgM D M l a o2 ps o vs 3=some ⟨0,true,[.mpc (.i .i64) (ahK a) (ahV a)]⟩:=zaa
theorem bgP(h:BN o2 ps o vs c){i:Nat}(hi:o2=some i):bgM D M l a o2 ps o vs i=some ⟨1,true,ps.map I64⟩:=by
 rw[bgM,B9 (λj hj=>h.ne i j hi hj)];subst hi;exact A0
theorem bgV{i:Nat}(hi:o=some i):bgM D M l a o2 ps o vs i=some ⟨1,true,vs.map I64⟩:=by
 rw[bgM];subst hi;exact A0
theorem bgN(h:BN o2 ps o vs c){j:Nat}(hj:c<=j):bgM D M l a o2 ps o vs j=none:=by
 have:=h.c4;rw[bgM,B9 (λi hi=>by have:=h.ho i hi;omega),B9 (λi hi=>by have:=h.h2 i hi;omega),hnO,hnO,hnO,hnO];rfl
theorem B5j(h0:X 0=some ⟨0,true,[D7 D,F6 M]⟩)(h1:X 1=some (B5s l))(h2:X 2=some ⟨0,true,bgC o2 ps o vs 0 0 (.mid 1)⟩)(h3:X 3=some ⟨0,true,[.mpc (.i .i64) (ahK a) (ahV a)]⟩)
  (hp:∀i,o2=some i->X i=some ⟨1,true,ps.map I64⟩) (hv:∀i,o=some i->X i=some ⟨1,true,vs.map I64⟩):Sub (bgM D M l a o2 ps o vs) X:=by
 intro j B hj;rw[bgM]at hj;by_cases e1:o=some j
 ·simp_all[optH,A0]
 rw[B9 (λi hi e=>e1 (by grind))]at hj;by_cases e2:o2=some j
 ·simp_all[optH,A0]
 rw[B9 (λi hi e=>e2 (by grind))]at hj;by_cases e3:j=3
 ·grind[A0]
 rw[h_ne e3]at hj;by_cases e4:j=2
 ·grind[A0]
 rw[h_ne e4]at hj;by_cases e5:j=1
 ·grind[A0]
 rw[h_ne e5]at hj;by_cases e6:j=0
 ·grind[A0]
 rw[h_ne e6]at hj;cases hj
theorem BN.le{c':Nat}(h:BN o2 ps o vs c)(hc:c<=c'):BN o2 ps o vs c' :=
 ⟨by have:=h.c4;omega,λi hi=>by have:=h.h2 i hi;omega,λi hi=>by have:=h.ho i hi;omega,h.ne,h.n2,h.no⟩
theorem BN.newV{c' i:Nat}{vs':List Int}(h:BN o2 ps o vs c)(h1:c<=i)(h2:i<c'):BN o2 ps (some i) vs' c':=by
 have:=h.c4;exact⟨a8,λj hj=>by have:=h.h2 j hj;omega,λj hj=>j8,λj k hj hk=>by cases hk;have:=h.h2 j hj;omega,h.n2,λe=>(by grind)⟩
theorem BN.newP{c' i:Nat}{ps':List Int}(h:BN o2 ps o vs c)(h1:c<=i)(h2:i<c'):BN (some i) ps' o vs c':=by
 have:=h.c4;exact⟨a8,λj hj=>j8,λj hj=>by have:=h.ho j hj;omega,λj k hj hk=>by cases hj;have:=h.ho k hk;omega,λe=>(by grind),h.no⟩
end
theorem C1b{l:NmL}{n:List UInt8}{y q:Int × Int}(hl:l.lookup n=some y):A1m l n q=l/\lkV (I64 0) true (mvV (inL l)) (G5 (.str n) (mkK (inL l)) 0)=some (.tup [I64 y.2,.bool true]) :=
 ⟨by simp_all[A1m],A8w (ok:=true) (by grind[A6h])⟩
theorem C1c{l:NmL}{n:List UInt8}{q:Int × Int}(hl:l.lookup n=none):B5s (A1m l n q)=⟨0,true,[.mpc .s (mkK (inL l)++[.str n]) (mvV (inL l)++[I64 q.2])]⟩ /\
  lkV (I64 0) true (mvV (inL l)) (G5 (.str n) (mkK (inL l)) 0)=some (.tup [I64 0,.bool false])/\G5 (.str n) (mkK (inL l)) 0=none:=by
 have h:(inL l).lookup n=none:=by rw[A6h,hl];rfl
 refine⟨?_,A8x (ok:=true) h,C8o h⟩;rw[A1m,if_neg (by rw[hl];simp)];simp[inL,mkK,mvV]
theorem E8x{r:Ru}(hk:A1e r.decls)(n:List UInt8):lkV (I64 0) false (mvV (inL (nmL r))) (G5 (.str n) (mkK (inL (nmL r))) 0)=some (I64 (H5 r n).2):=by
 cases hl:(nmL r).lookup n<;>grind[C8c,A8w,A6h,C8d,A8x]
end Go.Pb
namespace Go.Sym
variable [Go.Sym.Tab]
open Go.Eng (KKey)
theorem D3w{α:Type}{pre suf:List α}{x y v : α}{i:Nat}(h:(pre++[y]++suf)[i]? = some v):(i=pre.length/\v=y/\(pre++[x]++suf)[i]? = some x)\/(pre++[x]++suf)[i]? = some v:=by
 grind
theorem GL.frzmC{H H':Hp}{ds:List DV}{id k u u':Nat}{kd:KKey}{ks vs pre suf:List DV}(hb:H id=some ⟨u,true,[.mpc kd ks vs]⟩)(hk:H k=some ⟨u',true,pre++[.mid id]++suf⟩)(hne:k≠id)
  (hk':H' k=some ⟨u',true,pre++[.mp kd ks vs]++suf⟩) (hH:∀j,j≠k->H' j=none\/(j≠id/\H' j=H j)):GL H ds H' ds:=by
 have back:∀j bj,H' j=some bj->j≠id/\∃b0,H j=some b0/\b0.own=bj.own:=by
  grind
 refine⟨λj hj=>?_,fun ρ w a2 hR hA=>?_⟩
 ·grind
 obtain⟨t,ht,hB⟩:=hR.blk id _ hb;rcases hB with ⟨hm,c,e,fr, -, -, -, -,g5, -⟩|⟨hm, -,hs,es,cl,kd',ks',vs',g1,g2,g3,g6⟩
 ·have:=(g5 0 _ rfl).1
  trivial
 cases g2;have hnone : ρ.fm t.block=none:=by
  cases hf : ρ.fm t.block with
  |none=>rfl
  |some es'=>exact absurd rfl ((hR.frm _ _ hf).2 id _ t hb rfl ht)
 obtain⟨ρ2,hρ⟩:∃ ρ2:Ren, ρ2=⟨ρ.nm, ρ.fz, ρ.tab,λk=>if k=t.block then some es else ρ.fm k⟩:=⟨_,rfl⟩;have n1 : ρ2.nm = ρ.nm:=j8
 have n2 : ρ2.fz = ρ.fz:=j8
 have n3:∀k r, ρ2.fm k=some r->(k=t.block/\r=es) \/ ρ.fm k=some r:=by
  intro k r hk;rw[hρ]at hk
  grind
 have n4 : ρ2.fm t.block=some es:=zae
 have hle : ρ.le ρ2:=⟨λi x h=>j8,λb r h=>j8,λb r h=>by
  rw[hρ]
  grind⟩
 have hval:∀v,VRel ρ (.mid id) v->VRel ρ2 (.mp kd ks vs) v:=by
  intro v hv;obtain⟨t',ht', -,rfl⟩:=hv.mid_inv;rw[ht]at ht';cases ht';obtain⟨a1,a2,a3,a4,a5⟩:=g3;exact .mp kd ks vs t.block es n4 a1 a2 a3 (λi x e hx he=>(a4 i x e hx he).mono hle) (λi x e hx he=>(a5 i x e hx he).mono hle)
 refine⟨ρ2,n1,⟨λj bj hj=>?_,λi j bi bj ti tj hi hj hij h1 h2 ho=>?_,λk r hk=>?_,λj bj tj hj ho hjt=>?_,λk r hk=>?_⟩,⟨hA.1,λi x y hx hy=>(hA.2 i x y hx hy).mono hle⟩,?_⟩
 ·rw[n1];by_cases ej:j=k
  ·subst ej;rw[hk']at hj;cases hj;obtain⟨tj,q1,q2⟩:=hR.blk j _ hk;refine⟨tj,q1,?_⟩;rcases q2 with ⟨gm,c,e,fr,p1,p2,p3,p4,p5,p6⟩|⟨-, -, -,es2,cl2,kd2,ks2,vs2, -,p2, -⟩
   ·refine .inl ⟨gm,c,e,fr,p1,p2,j8,p4,λi v hv=>?_,p6⟩;rcases D3w (x:=.mid id) hv with ⟨h1,rfl,h3⟩|h1
    ·obtain⟨q1,v',q2,q3⟩:=p5 i _ h3;exact⟨rfl,v',q2,hval v' q3⟩
    ·obtain⟨q1,v',q2,q3⟩:=p5 i v h1;exact⟨q1,v',q2,q3.mono hle⟩
   ·exfalso;have h3:(DV.mid id)∈[DV.mpc kd2 ks2 vs2]:=by rw[<- p2];simp
    grind
  ·rcases hH j ej with h0|⟨-,h0⟩
   ·grind
   ·obtain⟨tj,q1,q2⟩:=hR.blk j bj (by grind);exact⟨tj,q1,q2.mono hle⟩
 ·rw[n1]at h1 h2;obtain⟨-,b1,e1,e4⟩:=back i bi hi;obtain⟨-,b2,f1, -⟩:=back j bj hj;exact hR.sep i j b1 b2 ti tj e1 f1 hij h1 h2 (e4.trans ho)
 ·rw[n2]at hk;exact hR.frz k r hk
 ·rw[n1]at hjt;rw[n2];obtain⟨-,b1,e1,e4⟩:=back j bj hj;exact hR.dis j b1 tj e1 (e4.trans ho) hjt
 ·rcases n3 k r hk with ⟨rfl,rfl⟩|h1
  ·refine⟨⟨cl,g1,g6⟩,λj bj tj hj ho hjt=>?_⟩;rw[n1]at hjt;obtain⟨hne,b1,e1,e4⟩:=back j bj hj;exact hR.sep j id b1 _ tj t e1 hb hne hjt ht (e4.trans ho)
  ·refine⟨(hR.frm k r h1).1,λj bj tj hj ho hjt=>?_⟩;rw[n1]at hjt;obtain⟨-,b1,e1,e4⟩:=back j bj hj;exact(hR.frm k r h1).2 j b1 tj e1 (e4.trans ho) hjt
 ·refine⟨hle,rfl,rfl,rfl,A0E _,λ_ _ _=>rfl,λj bj tj hj hjt=>?_,λk r hk=>.inl (by rw[<- n2];exact hk),λk r hk=>?_⟩
  ·rw[n1]at hjt;obtain⟨-,b1,e1,e4⟩:=back j bj hj;exact .inr ⟨j,b1,tj,e1,λh=>e4.trans h,hjt,rfl⟩
  grind
theorem E2s{H:Hp}{a k u u' w n:Nat}{pre suf xs ds junk:List DV}(hk:H k=some ⟨w,true,pre++[.slc a 0 n]++suf⟩)(ha:H a=some ⟨u,true,cellsL xs++junk⟩)
  (h1:∀d∈pre++suf,d.one=true) (hl:xs.length=n) (hu:∀x∈xs,x.cells.length=u') (hak:¬a=k) :
  GL H ds ((H.del a).upd k ⟨w,true,pre++[.lst xs]++suf⟩) ds:=by
 have hz:FzL a ⟨u,true,cellsL xs++junk⟩ (pre++[.slc a 0 n]++suf) (pre++[.lst xs]++suf) :=
  FzL.app (FzL.app (FzL.refl _) (.cons _ _ _ _ (U3 (blk:=⟨u,true,cellsL xs++junk⟩) hl hu ⟨junk,rfl⟩) .nil)) (FzL.refl _)
 refine GL.frzT (id:=a) ha rfl (λj=>?_) (FzL.refl ds);by_cases ej:j=k
 ·subst ej;refine .inr ⟨Ne.symm hak,.inr ⟨_,_,hk,A0,rfl,rfl,hz,λd hd=>?_⟩⟩;simp only[A0K,A1A,A1N]at hd;rcases hd with hd|rfl|hd
  ·exact h1 d (A3G _ hd)
  ·rfl
  grind
 ·rw[h_ne ej];by_cases ea:j=a
  ·subst ea;left;simp[Hp.del]
  ·refine .inr ⟨ea,.inl ?_⟩;rw[I7 ea]
end Go.Sym
end
