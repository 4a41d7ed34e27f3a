/-
  HELPERS of the claim: part 5 of its texts.
-/
import Derived.Test.YtenmhfknbopmeaaGreatDoorCmtd
noncomputable section
set_option linter.unusedVariables false
set_option linter.unusedSectionVars false
set_option linter.unusedSimpArgs false
namespace Go.Pb
variable [Go.Sym.Tab]
open Go.Sym
section
variable {L:List Tok} {E:Int}
theorem E3k:∀j:Nat,j<8->amT (A3 (E8.getD j [])) E8=(j:Int):=by trivial
theorem D9t:∀j:Nat,j<6->amT (A3 (F5.getD j [])) F5=(j:Int):=by trivial
theorem C7w:T9 (A3 [109,111,100,101])=true/\amT (A3 [109,111,100,101]) E8 = -1:=by trivial
theorem won:T9 (A3 [111,110])=true/\(A3 [111,110]).text≠[125]:=by trivial
theorem E8m:T9 (A3 [45])=true:=by rfl
theorem C1l{d:Dc}{k v:Int}{n:List UInt8}(h1:k=d.kind)(h2:n=d.name)(h3:v=d.value){p:Int}:Dc.plain ⟨k,n,v,p⟩=d.plain:=by
 subst h1 h2 h3;rfl
theorem B5s{d:Dc}(hv:A0d d=true){s:Rd}{post:List Tok}(h:L.drop s.i=dcT d++post)(hok:okR s=true):
  C0 L E s E8=d.kind-1/\(U5 L E (d.kind-1) s).1.plain=d.plain/\(U5 L E (d.kind-1) s).2.i=s.i+(dcT d).length/\okR (U5 L E (d.kind-1) s).2=true:=by
 unfold A0d at hv;simp only[A0D,A0I]at hv;obtain⟨⟨⟨⟨k1,k8⟩,hn⟩,v0⟩,v1⟩:=hv;obtain⟨j,hj⟩:∃j:Nat,d.kind=1+(j:Int):=⟨(d.kind-1).toNat,by omega⟩;have hj8:j<8:=by omega
 have hjn:(d.kind-1).toNat=j:=by omega
 have a1:=E3k j hj8;have hT:dcT d=[A3 (E8.getD j [])]++D6 d.name++(if 6<d.kind then [] else if d.value<0 then [A3 [45]]++V3 (-d.value) else V3 d.value)++[A3 [59]]:=by
  unfold dcT
  grind
 rw[hT]at h ⊢;have h0:L.drop s.i=A3 (E8.getD j [])::(D6 d.name++((if 6<d.kind then [] else if d.value<0 then [A3 [45]]++V3 (-d.value) else V3 d.value)++(A3 [59]::post))):=by grind
 have hpk:=C5 (E:=E) h0;have h1:=F7 h0;have htk:=A5a (E:=E) (s:=A5 s) h1 hok hn;have h2:=A0a (s:=A5 s) h1 (B6 d.name);refine⟨by rw[W6 hok,hpk,a1];omega,?_⟩;unfold U5;dsimp only;rw[htk];dsimp only;by_cases h6:6<d.kind
 ·rw[if_pos h6]at h2 ⊢;rw[if_neg (by omega)];have h2:L.drop (A5 (A5 s)).i=A3 [59]::post:=h2;rw[S7 h2 hok w59.1];refine⟨C1l (by omega) rfl ?_,?_,hok⟩
  ·omega
  ·simp only[A0A,A0K,B6,A0O];rfl
 ·rw[if_neg h6]at h2 ⊢;rw[if_pos (by omega)];rw[if_neg (by omega)]at v1;by_cases hneg:d.value<0
  ·have hk6:d.kind=6:=by
    by_cases hz:d.kind=6
    ·exact hz
    ·rw[if_neg hz]at v0;omega
   rw[if_pos hk6]at v0;rw[if_pos hneg]at h2 ⊢;have h3:L.drop (A5 (A5 s)).i=A3 [45]::(V3 (-d.value)++(A3 [59]::post)):=by rw[show L.drop (A5 (A5 s)).i=_ from h2];simp
   have hm:(d.kind-1+1==6&&isR L E (A5 (A5 s)) [45])=true:=by
    rw[A4m (show okR (A5 (A5 s))=true from hok),C5 h3,E8m,hk6];rfl
   rw[if_pos hm,if_pos hm];have h4:=F7 h3;have htk2:=B4l (E:=E) (s:=A5 (A5 (A5 s))) h4 hok (by omega) (by omega);rw[htk2];have h5:=A0a (s:=A5 (A5 (A5 s))) h4 (E5 _);have h5:L.drop (A5 (A5 (A5 (A5 s)))).i=A3 [59]::post:=h5;dsimp only;rw[S7 h5 hok w59.1];refine⟨C1l (by omega) rfl (by omega),?_,hok⟩;simp only[A0A,A0K,B6,E5];rfl
  ·rw[if_neg hneg]at h2 ⊢;have h3:L.drop (A5 (A5 s)).i=V3 d.value++(A3 [59]::post):=h2;have hp3:B8 L E (A5 (A5 s))=⟨3,[],d.value,0⟩:=C5 (ts:=A3 [59]::post) (by rw[h3];unfold V3;rw[if_neg (by omega)];rfl);have hm:(d.kind-1+1==6&&isR L E (A5 (A5 s)) [45])=false:=by
    rw[A4m (show okR (A5 (A5 s))=true from hok),hp3];simp[T9]
   rw[hm];simp only[A1R,if_false];have htk2:=B4l (E:=E) (s:=A5 (A5 s)) h3 hok (by omega) (by omega);rw[htk2];have h5:=A0a (s:=A5 (A5 s)) h3 (E5 _);have h5:L.drop (A5 (A5 (A5 s))).i=A3 [59]::post:=h5;dsimp only;rw[S7 h5 hok w59.1];refine⟨C1l (by omega) rfl rfl,?_,hok⟩;simp only[A0A,A0K,B6,E5];rfl
theorem A6a:∀(l acc:List Dc) (s:Rd) (post:List Tok),l.all A0d=true->acc.length+l.length<=128->amT (hd0 E post) E8<0->L.drop s.i=l.flatMap dcT++post->okR s=true ->
  ∃l' s',l'.map Dc.plain=l.map Dc.plain/\Evt (λf=>A0f L E f acc s) (acc++l',s')/\L.drop s'.i=post/\okR s'=true
 |[],acc,s,post,hv,hl,hp,h,hok=>by
  have h:L.drop s.i=post:=h;refine⟨[],s,rfl,Evt.one λf=>?_,h,hok⟩;rw[A0f];dsimp only;rw[W6 hok,A9o,h,if_pos hp,A0X]
 |d::l,acc,s,post,hv,hl,hp,h,hok=>by
  simp only[A2L,A0D]at hv;have h0:L.drop s.i=dcT d++(l.flatMap dcT++post):=by rw[h,A2C,A0Q]
  obtain⟨e1,e2,e3,e4⟩:=B5s (E:=E) hv.1 h0 hok;have hk1:1<=d.kind:=by
   have:=hv.1;unfold A0d at this;simp only[A0D,A0I]at this;omega
  obtain⟨l',s',q1,q2,q3,q4⟩:=A6a l (acc++[(U5 L E (d.kind-1) s).1]) (U5 L E (d.kind-1) s).2 post hv.2 (by simp only[A0A,A0F,A0O]at hl ⊢;omega) hp (by rw[e3];exact H8 h0) e4;refine⟨(U5 L E (d.kind-1) s).1::l',s',by rw[A0W,A0W,e2,q1],?_,q3,q4⟩;rw[A0Q]at q2;refine q2.ext λf hf=>?_;rw[A0f];dsimp only;rw[e1,if_neg (by omega),A5j (by simp only[A0F]at hl;omega),if_pos hok]
  grind
theorem hdp{h:Hd}{b:List St}(hb:St.plains b=St.plains h.body){k:Int}{n:List UInt8}{p:Int}(hk:k=h.trig)(hn:n=h.name):Hd.plain ⟨k,n,b,p⟩=h.plain:=by
 unfold Hd.plain;grind
theorem A6h:∀(l acc:List Hd) (s:Rd) (post:List Tok),l.all A1q=true->acc.length+l.length<=32->L.drop s.i=l.flatMap hdT++([A3 [125]]++post)->okR s=true ->
  ∃l' s',l'.map Hd.plain=l.map Hd.plain/\Evt (λf=>A1g L E f acc s) (acc++l',s')/\L.drop s'.i=post/\okR s'=true
 |[],acc,s,post,hv,hl,h,hok=>by
  have h:L.drop s.i=A3 [125]::post:=h;have hi:isR L E s [125]=true:=by rw[A4m hok,C5 h,w125.1];rfl
  refine⟨[],A5 s,rfl,Evt.one λf=>?_,F7 h,hok⟩;rw[A1g,if_neg (by grind),S7 h hok w125.1,A0X]
 |x::l,acc,s,post,hv,hl,h,hok=>by
  simp only[A2L,A0D]at hv;have hx:=hv.1;unfold A1q at hx;simp only[A0D,A0I]at hx;obtain⟨⟨⟨t1,t6⟩,hn⟩,hb⟩:=hx;obtain⟨j,hj⟩:∃j:Nat,x.trig=1+(j:Int):=⟨(x.trig-1).toNat,by omega⟩;have hj6:j<6:=by omega
  have hjn:(x.trig-1).toNat=j:=by omega
  have h0:L.drop s.i=A3 [111,110]::(A3 (F5.getD j [])::((if 2<x.trig then D6 x.name else [])++(blT x.body++(l.flatMap hdT++([A3 [125]]++post))))):=by
   rw[h,A2C];unfold hdT;rw[hjn];simp
  have hpk:=C5 (E:=E) h0;have hi:isR L E s [125]=false:=by rw[A4m hok,hpk,won.1,A2E];simpa using won.2
  have hon:isR L E s [111,110]=true:=by rw[A4m hok,hpk,won.1];rfl
  have he:=S7 (E:=E) h0 hok won.1;have h1:=F7 h0;have h1:L.drop (A5 s).i=_:=h1;have ham:C0 L E (A5 s) F5=(j:Int):=by rw[W6 (show okR (A5 s)=true from hok),C5 h1];exact D9t j hj6
  have h2:=F7 h1;have h2:L.drop (A5 (A5 s)).i=_:=h2;have key:∃s4,s4=(if 2<=(j:Int) then(A7 L E (A5 (A5 s)) 1).2 else A5 (A5 s))/\okR s4=true/\(if 2<=(j:Int) then(A7 L E (A5 (A5 s)) 1).1.text else [])=x.name/\L.drop s4.i=blT x.body++(l.flatMap hdT++([A3 [125]]++post)):=by
   refine⟨_,rfl,?_⟩;by_cases h2j:2<=(j:Int)
   ·rw[if_pos h2j,if_pos h2j];rw[if_pos (by omega)]at hn h2;rw[A5a (E:=E) h2 hok hn];exact⟨hok,rfl,A0a (s:=A5 (A5 s)) h2 (B6 _)⟩
   ·rw[if_neg h2j,if_neg h2j];rw[if_neg (by omega)]at hn h2;exact⟨hok,by have:x.name=[]:=(by simpa using hn);rw[this],h2⟩
  obtain⟨s4,k1,k2,k3,k4⟩:=key;obtain⟨b',s5,b1,b2,b3,b4⟩:=B5y (L:=L) (E:=E) (d:=1) hb k4 k2;obtain⟨l',s',q1,q2,q3,q4⟩:=A6h l (acc++[⟨1+(j:Int),x.name,b',(B8 L E s).pos⟩]) s5 post hv.2 (by simp only[A0A,A0F,A0O]at hl ⊢;omega) (by rw[b3];exact H8 k4) b4;refine⟨⟨1+(j:Int),x.name,b',(B8 L E s).pos⟩::l',s',by rw[A0W,A0W,hdp b1 hj.symm rfl,q1],?_,q3,q4⟩;rw[A0Q]at q2;refine Evt.ext2 b2 q2 λf hf hf2=>?_;rw[A1g,if_pos ⟨hok,hi⟩,if_neg (by rw[hon];decide)];dsimp only;rw[A5j (by simp only[A0F]at hl;omega),he,ham,if_neg (by omega), <- k1,k3]
  grind
theorem B5f{m:Md}(hv:R0 m=true){s:Rd}{post:List Tok}(h:L.drop s.i=mdT m++post)(hok:okR s=true):
  isR L E s [109,111,100,101]=true/\∃m' s',m'.plain=m.plain/\Evt (λf=>A6g L E f s) (m',s')/\L.drop s'.i=post/\okR s'=true:=by
 unfold R0 at hv;simp only[A0D,A0I]at hv;obtain⟨⟨⟨⟨hn,p0⟩,p1⟩,hl⟩,hh⟩:=hv;have h0:L.drop s.i=A3 [109,111,100,101]::(D6 m.name++(V3 m.prio++(A3 [123]::(m.hds.flatMap hdT++([A3 [125]]++post))))):=by
  rw[h];unfold mdT;simp
 have hpk:=C5 (E:=E) h0;have he:=S7 (E:=E) h0 hok C7w.1;have h1:L.drop (A5 s).i=_:=F7 h0;have htk:=A5a (E:=E) h1 hok hn;have h2:L.drop (A5 (A5 s)).i=_:=A0a (s:=A5 s) h1 (B6 _);have htk2:=B4l (E:=E) h2 hok p0 p1;have h3:L.drop (A5 (A5 (A5 s))).i=_:=A0a (s:=A5 (A5 s)) h2 (E5 _);have he3:=S7 (E:=E) h3 hok w123.1;have h4:L.drop (A5 (A5 (A5 (A5 s)))).i=_:=F7 h3;obtain⟨l',s',q1,q2,q3,q4⟩:=A6h (L:=L) (E:=E) m.hds [] _ post hh (by grind) h4 hok;refine⟨by rw[A4m hok,hpk,C7w.1];rfl,⟨m.name,m.prio,l',(B8 L E s).pos⟩,s',?_,q2.map λf hf=>?_,q3,q4⟩
 ·unfold Md.plain;grind
 ·unfold A6g
  grind
theorem A5z:∀(l acc:List Md) (s:Rd),l.all R0=true->acc.length+l.length<=16->L.drop s.i=l.flatMap mdT->okR s=true ->
  ∃l' s',l'.map Md.plain=l.map Md.plain/\Evt (λf=>Z1 L E f acc s) (acc++l',s')/\okR s'=true
 |[],acc,s,hv,hl,h,hok=>by
  have hi:¬s.i<L.length:=λhlt=>by
   simp_all;omega
  refine⟨[],s,rfl,Evt.one λf=>?_,hok⟩;rw[Z1,if_neg (λh=>hi h.2),A0X]
 |m::l,acc,s,hv,hl,h,hok=>by
  simp only[A2L,A0D]at hv;have h0:L.drop s.i=mdT m++l.flatMap mdT:=by rw[h,A2C]
  obtain⟨hm,m',s1,e1,e2,e3,e4⟩:=B5f (E:=E) hv.1 h0 hok;obtain⟨l',s',q1,q2,q4⟩:=A5z l (acc++[m']) s1 hv.2 (by simp only[A0A,A0F,A0O]at hl ⊢;omega) e3 e4;refine⟨m'::l',s',by rw[A0W,A0W,e1,q1],?_,q4⟩;rw[A0Q]at q2;refine Evt.ext2 e2 q2 λf hf hf2=>?_;rw[Z1,if_pos ⟨hok,(A3a hm).2⟩,if_neg (by rw[hm];decide)];dsimp only;rw[A5j (by simp only[A0F]at hl;omega),if_pos hok,hf]
  grind
end
theorem D6o{h:Hd}(hv:A1q h=true):V9 h=false:=by
 unfold A1q at hv;simp only[A0D,A0I]at hv;unfold V9
 grind
theorem B6z{r:Ru}(hv:L9 r=true)(E:Int):okR (A0y (ruT r) E).2=true/\(A0y (ruT r) E).1.plain=r.plain:=by
 unfold L9 at hv;simp only[A0D,A0I]at hv;obtain⟨⟨⟨h1,h2⟩,h3⟩,h4⟩:=hv;have hbad:(r.modes.any λm=>m.hds.any V9)=false:=by
  rw[List.any_eq_false];intro m hm;have:=A0S.1 h4 m hm;unfold R0 at this;simp only[A0D]at this;rw[Bool.not_eq_true,List.any_eq_false];intro h hh;rw[D6o (A0S.1 this.2 h hh)];decide
 have hT:ruT r=r.decls.flatMap dcT++r.modes.flatMap mdT:=by unfold ruT;rw[if_neg (by rw[hbad];decide)]
 have hp:amT (hd0 E (r.modes.flatMap mdT)) E8<0:=by
  cases hm:r.modes with
  |nil=>exact(by decide:(-1:Int)<0)
  |cons m l =>
   have:hd0 E ((m::l).flatMap mdT)=A3 [109,111,100,101]:=by rw[A2C];unfold mdT;rfl
   rw[this,C7w.2];decide
 obtain⟨ld,s1,a1,a2,a3,a4⟩:=A6a (L:=ruT r) (E:=E) r.decls [] rd0 (r.modes.flatMap mdT) h3 (by simpa using h1) hp (by rw[hT];rfl) rfl;obtain⟨lm,s2,b1,b2,b4⟩:=A5z (L:=ruT r) (E:=E) r.modes [] s1 h4 (by simpa using h2) a3 a4;have hr:Evt (λf=>B0k (ruT r) E f rd0) (⟨ld,lm⟩,s2):=a2.map2 b2 λf h1 h2=>by
  unfold B0k;rw[h1];dsimp only;rw[h2];rfl
 rw[(B0l (ruT r) E).uniq hr];refine⟨b4,?_⟩;unfold Ru.plain
 grind
mutual
theorem B3c:∀e:Ex,msM e.plain=msM e
 |.mk k v n a p=>by
  rw[Ex.plain,msM,msM,B3e k 0 a,Ex.plains_map,A0C]
theorem B3e:∀(k:Int) (i:Nat) (l:List Ex),msL k i (Ex.plains l)=msL k i l
 |k,i,[]=>rfl
 |k,i,e::l=>by
  have hk:e.plain.kind=e.kind:=by cases e;rfl
  rw[Ex.plains,msL,msL,B3c e,B3e k (i+1) l,hk]
end
theorem B9p(e:Ex):T7 e.plain=T7 e:=by unfold T7;rw[B3c]
theorem A5g{l:List St}:(St.plains l).isEmpty=l.isEmpty:=by cases l<;>rfl
theorem A5h(l:List St):(St.plains l).length=l.length:=by rw[St.plains_map,A0C]
mutual
theorem B9m:∀(d:Nat) (s:St),O6 d s.plain=O6 d s
 |d,.mk k n t a x y p=>by
  have ha:(Ex.plains a).all T7=a.all T7:=by
   rw[Ex.plains_map,List.all_map]
   congr 1
   funext e
   exact B9p e
  rw[St.plain,O6,O6,A0k (d+1) x,A0k (d+1) y,ha,Ex.plains_map,A0C,A5g,A5g,A5h,A5h]
theorem A0k:∀(d:Nat) (l:List St),G6 d (St.plains l)=G6 d l
 |d,[]=>rfl
 |d,s::l=>by rw[St.plains,G6,G6,B9m d s,A0k d l]
end
theorem B9o(h:Hd):A1q h.plain=A1q h:=by
 unfold A1q Hd.plain N3;dsimp only;rw[A0k,A5h,A5g]
theorem B9n(m:Md):R0 m.plain=R0 m:=by
 unfold R0 Md.plain;dsimp only;rw[A0C,List.all_map]
 congr 2
 funext h
 exact B9o h
theorem B0a(r:Ru):L9 r.plain=L9 r:=by
 unfold L9 Ru.plain;dsimp only;rw[A0C,A0C,List.all_map,List.all_map]
 congr 2
 funext m
 exact B9n m
theorem D4f(r:Ru):C5o r=L9 r:=by
 cases hv:L9 r with
 |true =>
  obtain⟨h1,h2⟩:=B6z hv 0;unfold C5o
  grind
 |false =>
  cases hd:C5o r with
  |false=>rfl
  |true =>
   unfold C5o at hd;rw[A0D]at hd;have h2:=@of_decide_eq_true _ (_) hd.2;obtain⟨f,hf⟩:=(B0l (ruT r) 0).get;have h3:=C5x (λt ht=>(D2a r t ht).1) hf hd.1;rw[<- B0a,h2,B0a,hv]at h3
   grind
mutual
theorem D8c:∀(e:Ex) (o d:Nat),msM e=some (o,d)->o<=e.sz/\d+1<=2*e.sz
 |.mk k v n a p,o,d,h=>by
  have hs:(Ex.mk k v n a p).sz=1+n.length+Ex.szs a:=by rfl
  obtain⟨h1,h2,h3,h4,h5,h6⟩:=B0v h;by_cases hc:J4 k=0
  ·grind
  ·obtain⟨d',hl,hd⟩:=h6 hc;have:=C0o k 0 a o d' hl
   grind
theorem C0o:∀(k:Int) (i:Nat) (l:List Ex) (o d:Nat),msL k i l=some (o,d)->o<=Ex.szs l/\d<=2*Ex.szs l
 |k,i,[],o,d,h=>by simp[msL]at h;omega
 |k,i,e::l,o,d,h=>by
  rw[msL]at h;have hs:Ex.szs (e::l)=e.sz+Ex.szs l:=by rfl
  have hp:=e.sz_pos;cases he:msM e with
  |none=>grind
  |some q =>
   obtain⟨o1,d1⟩:=q;have h1:=D8c e o1 d1 he;rw[he]at h;dsimp only at h;cases hl:msL k (i+1) l with
   |none=>grind
   |some q2 =>
    obtain⟨o2,d2⟩:=q2;have h2:=C0o k (i+1) l o2 d2 hl
    grind
end
def msV:Option (Nat × Nat)->DV
 |none=>.tup [I64 0,I64 0,.bool false]
 |some (o,d)=>.tup [I64 o,I64 d,.bool true]
theorem E1y(q:Option (Nat × Nat)):(msV q).nl=true:=by cases q<;>rfl
theorem D0z{k:Int}{a:List Ex}{i:Nat}{x:Ex}(h:a[i]? = some x):msL k i (a.drop i)=match msM x with
  |none=>none
  |some (o,d)=>match msL k (i+1) (a.drop (i+1)) with
   |none=>none
   |some (o2,d2)=>some (o+o2,max (if A0x k x.kind i=true then d+1 else d) d2):=by
 have hlt:=(A0N.1 h).1;rw[A1F hlt,(A0N.1 h).2,msL];try rfl
abbrev Er:=Option (Int × Int)
def cnD(l:List Dc)(k:Int):Nat:=l.countP (λd=>d.kind==k)
def cnR(r:Ru)(k:Int):Nat:=if k=9 then r.modes.length else cnD r.decls k
def lkD(pre:List Dc):List Dc->List UInt8->Option (Int × Int)
 |[],_=>none
 |d::l,n=>if d.name=n then some (d.kind,if d.kind<6 then d.value else(cnR ⟨pre,[]⟩ d.kind:Int)) else lkD (pre++[d]) l n
def lkM(i:Nat):List Md->List UInt8->Option (Int × Int)
 |[],_=>none
 |m::l,n=>if m.name=n then some (9,(i:Int)) else lkM (i+1) l n
def F3(r:Ru)(n:List UInt8):Int × Int:=match lkD [] r.decls n with
 |some q=>q
 |none=>match lkM 0 r.modes n with
  |some q=>q
  |none=>(0,0)
def dnM(r:Ru)(n:List UInt8)(k:Int):Int:=if k=0\/(F3 r n).1=k then 0 else if(F3 r n).1=0 then 8 else 44
def dnE(r:Ru)(n:List UInt8)(k p:Int):Er:=if dnM r n k=0 then none else some (p,dnM r n k)
def kdE(k:Int):Int:=if k=2 then 6 else if k=5 then 1 else if k=6 then 9 else if k=7 then 7 else 0
def kdS(k:Int):Int:=if k=1 then 6 else if k=5\/k=6\/k=7 then 2 else if k=8\/k=9 then 3 else if k=10\/k=11 then 7 else if k=12\/k=13 then 9 else if k=14 then 8 else if k=15 then 4 else if k=16\/k=17 then 5 else 0
def kdH(k:Int):Int:=if k=3\/k=4 then 1 else if k=5 then 7 else if k=6 then 8 else 0
def A4l(k:Int):Int:=if k=1 then 63 else if k=2 then 31 else if k=3\/k=4\/k=5 then 63 else 2147483647
def C7p(k:Int):Bool:=k==3||k==4||k==5||k==6||k==11||decide (17<=k)
def M3(k:Int):Int:=if C7p k=true then 2 else 1
def A1c(k:Int)(a:List Ex):Int:=if k=11\/k=23\/k=24 then 2 else if k=21\/k=22 then(match a with
 |[]=>1
 |x::_=>M3 x.kind) else 1
mutual
def erE(r:Ru):Ex->Er
 |.mk k v n a p=>((W3 r a).or (dnE r n (kdE k) p)).or (if a.all (λx=>M3 x.kind==A1c k a)=true then none else some (p,49))
def W3(r:Ru):List Ex->Er
 |[]=>none
 |x::l=>(erE r x).or (W3 r l)
end
def tyV(r:Ru)(e:Ex):DV:=match erE r e with
 |some (p,c)=>.tup [I64 0,I64 p,I64 c]
 |none=>.tup [I64 (M3 e.kind),I64 0,I64 0]
def erA(r:Ru)(b:Bool):List Ex->Er
 |[]=>none
 |x::l=>((erE r x).or (if(M3 x.kind==2)=b then none else some (x.pos,49))).or (erA r b l)
mutual
def erS(r:Ru):St->Er
 |.mk k n t a x y p=>(((dnE r n (kdS k) p).or (erA r (k==2) a)).or (erB r x)).or (erB r y)
def erB(r:Ru):List St->Er
 |[]=>none
 |s::l=>(erS r s).or (erB r l)
end
def erD(pre:List Dc):List Dc->Er
 |[]=>none
 |d::l=>((if d.value>A4l d.kind then some (d.pos,5) else none:Er).or (if(F3 ⟨pre,[]⟩ d.name).1=0 then none else some (d.pos,7))).or (erD (pre++[d]) l)
def erP(D:List Dc)(pre:List Md):List Md->Er
 |[]=>none
 |m::l=>((if m.prio>99 then some (m.pos,5) else none:Er).or (if(F3 ⟨D,pre⟩ m.name).1=0 then none else some (m.pos,7))).or (erP D (pre++[m]) l)
def A7y(r:Ru):Er:=(erD [] r.decls).or (erP r.decls [] r.modes)
def erH(r:Ru)(pre:List Hd):List Hd->Er
 |[]=>none
 |h::l=>(((dnE r h.name (kdH h.trig) h.pos).or (if pre.any (λx=>x.trig==h.trig&&x.name==h.name)=true then some (h.pos,7) else none)).or (erB r h.body)).or (erH r (pre++[h]) l)
def erM(r:Ru):List Md->Er
 |[]=>none
 |m::l=>(erH r [] m.hds).or (erM r l)
def A4p(r:Ru):Er:=(A7y r).or (erM r r.modes)
def erV:Er->DV
 |some (p,c)=>.tup [I64 p,I64 c]
 |none=>.tup [I64 0,I64 0]
def B5u(r:Ru):DV:=if L9 r=true then erV (A4p r) else .tup [I64 0,I64 1]
theorem C1k(e:Er):(erV e).nl=true:=by cases e<;>rfl
theorem D9o(r:Ru)(e:Ex):(tyV r e).nl=true:=by unfold tyV;split<;>rfl
theorem D1f{D:List Dc}{i:Nat}{d:Dc}{n:List UInt8}(h:D[i]? = some d):lkD (D.take i) (D.drop i) n=if d.name=n then some (d.kind,if d.kind<6 then d.value else(cnR ⟨D.take i,[]⟩ d.kind:Int)) else lkD (D.take (i+1)) (D.drop (i+1)) n:=by
 have hlt:=(A0N.1 h).1;rw[A1F hlt,(A0N.1 h).2,lkD,A0R,h];rfl
theorem D1e{M:List Md}{i:Nat}{m:Md}{n:List UInt8}(h:M[i]? = some m):lkM i (M.drop i) n=if m.name=n then some (9,(i:Int)) else lkM (i+1) (M.drop (i+1)) n:=by
 have hlt:=(A0N.1 h).1;rw[A1F hlt,(A0N.1 h).2,lkM]
theorem C7g{r:Ru}{l:List Ex}{i:Nat}{x:Ex}(h:l[i]? = some x):W3 r (l.drop i)=(erE r x).or (W3 r (l.drop (i+1))):=by
 have hlt:=(A0N.1 h).1;rw[A1F hlt,(A0N.1 h).2,W3]
theorem D2v{r:Ru}{b:Bool}{l:List Ex}{i:Nat}{x:Ex}(h:l[i]? = some x):erA r b (l.drop i)=((erE r x).or (if(M3 x.kind==2)=b then none else some (x.pos,49))).or (erA r b (l.drop (i+1))):=by
 have hlt:=(A0N.1 h).1;rw[A1F hlt,(A0N.1 h).2,erA]
theorem D2u{r:Ru}{l:List St}{i:Nat}{x:St}(h:l[i]? = some x):erB r (l.drop i)=(erS r x).or (erB r (l.drop (i+1))):=by
 have hlt:=(A0N.1 h).1;rw[A1F hlt,(A0N.1 h).2,erB]
theorem D2p{r:Ru}{l:List Md}{i:Nat}{x:Md}(h:l[i]? = some x):erM r (l.drop i)=(erH r [] x.hds).or (erM r (l.drop (i+1))):=by
 have hlt:=(A0N.1 h).1;rw[A1F hlt,(A0N.1 h).2,erM]
theorem T8{α:Type}{l:List α}{i:Nat}{x : α}(h:l[i]? = some x):l.take i++[x]=l.take (i+1):=by
 rw[A0R,h];rfl
theorem D2t{D:List Dc}{i:Nat}{d:Dc}(h:D[i]? = some d):erD (D.take i) (D.drop i)=((if d.value>A4l d.kind then some (d.pos,5) else none:Er).or (if(F3 ⟨D.take i,[]⟩ d.name).1=0 then none else some (d.pos,7))).or (erD (D.take (i+1)) (D.drop (i+1))):=by
 have hlt:=(A0N.1 h).1;rw[A1F hlt,(A0N.1 h).2,erD,T8 h]
theorem D2o{D:List Dc}{M:List Md}{i:Nat}{m:Md}(h:M[i]? = some m):erP D (M.take i) (M.drop i)=((if m.prio>99 then some (m.pos,5) else none:Er).or (if(F3 ⟨D,M.take i⟩ m.name).1=0 then none else some (m.pos,7))).or (erP D (M.take (i+1)) (M.drop (i+1))):=by
 have hlt:=(A0N.1 h).1;rw[A1F hlt,(A0N.1 h).2,erP,T8 h]
theorem D2r{r:Ru}{l:List Hd}{i:Nat}{h:Hd}(hg:l[i]? = some h):erH r (l.take i) (l.drop i)=(((dnE r h.name (kdH h.trig) h.pos).or (if(l.take i).any (λx=>x.trig==h.trig&&x.name==h.name)=true then some (h.pos,7) else none)).or (erB r h.body)).or (erH r (l.take (i+1)) (l.drop (i+1))):=by
 have hlt:=(A0N.1 hg).1;rw[A1F hlt,(A0N.1 hg).2,erH,T8 hg]
def NzE(e:Er):Prop:=∀p c,e=some (p,c)->c≠0
theorem NzE.or{a b:Er}(ha:NzE a)(hb:NzE b):NzE (a.or b):=by
 intro p c h;cases a with
 |none=>exact hb p c (by grind)
 |some q=>exact ha p c (by grind)
theorem A1z:NzE none:=λp c h=>by grind
theorem C3p{b:Prop}[Decidable b]{p c:Int}(h:c≠0):NzE (if b then none else some (p,c)):=by
 intro p' c' e;grind
theorem B5a{b:Prop}[Decidable b]{p c:Int}(h:c≠0):NzE (if b then some (p,c) else none):=by
 intro p' c' e;grind
theorem B2y(r:Ru)(n:List UInt8)(k p:Int):NzE (dnE r n k p):=by
 intro p' c h;unfold dnE at h;grind
mutual
theorem D0n(r:Ru):∀e:Ex,NzE (erE r e)
 |.mk k v n a p=>by rw[erE];exact((B7h r a).or (B2y _ _ _ _)).or (C3p (by simp))
theorem B7h(r:Ru):∀l:List Ex,NzE (W3 r l)
 |[]=>by rw[W3];exact A1z
 |x::l=>by rw[W3];exact(D0n r x).or (B7h r l)
end
theorem D0o(r:Ru)(b:Bool):∀l:List Ex,NzE (erA r b l)
 |[]=>by rw[erA];exact A1z
 |x::l=>by rw[erA];exact((D0n r x).or (C3p (by simp))).or (D0o r b l)
mutual
theorem E9g(r:Ru):∀e:St,NzE (erS r e)
 |.mk k n t a x y p=>by rw[erS];exact(((B2y _ _ _ _).or (D0o _ _ _)).or (B5b r x)).or (B5b r y)
theorem B5b(r:Ru):∀l:List St,NzE (erB r l)
 |[]=>by rw[erB];exact A1z
 |x::l=>by rw[erB];exact(E9g r x).or (B5b r l)
end
theorem C6e:∀(l pre:List Dc),NzE (erD pre l)
 |[],pre=>by rw[erD];exact A1z
 |d::l,pre=>by rw[erD];exact((B5a (by simp)).or (C3p (by simp))).or (C6e l _)
theorem D0m(D:List Dc):∀(l pre:List Md),NzE (erP D pre l)
 |[],pre=>by rw[erP];exact A1z
 |d::l,pre=>by rw[erP];exact((B5a (by simp)).or (C3p (by simp))).or (D0m D l _)
theorem D0l(r:Ru):NzE (A7y r):=(C6e _ _).or (D0m _ _ _)
theorem E1n(r:Ru):∀(l pre:List Hd),NzE (erH r pre l)
 |[],pre=>by rw[erH];exact A1z
 |d::l,pre=>by rw[erH];exact(((B2y _ _ _ _).or (B5a (by simp))).or (B5b r _)).or (E1n r l _)
theorem D5l(r:Ru):∀(l:List Md),NzE (erM r l)
 |[]=>by rw[erM];exact A1z
 |d::l=>by rw[erM];exact(E1n r _ _).or (D5l r l)
theorem C4b{k:Int}:∀ {i:Nat} {l:List Ex} {q:Nat × Nat},msL k i l=some q->∀x∈l, ∃q,msM x=some q
 |i,[],q,h,x,hx=>by grind
 |i,e::l,q,h,x,hx=>by
  rw[msL]at h;cases he:msM e with
  |none=>grind
  |some q1 =>
   rw[he]at h;dsimp only at h;cases hl:msL k (i+1) l with
   |none=>grind
   |some q2 =>
    rcases A1C.1 hx with rfl|hx
    ·grind
    ·exact C4b hl x hx
theorem C3z{e:Ex}{q:Nat × Nat}(h:msM e=some q):∀x∈e.args, ∃q,msM x=some q:=by
 cases e with|mk k v n a p =>
 obtain⟨o,d⟩:=q;obtain⟨m1,m2,m3,m4,m5,m6⟩:=B0v h;intro x hx;by_cases hc:J4 k=0
 ·have:a=[]:=A2A (by omega);subst this;cases hx
 ·obtain⟨d',h1, -⟩:=m6 hc;exact C4b h1 x hx
theorem D0y{e:Ex}{q:Nat × Nat}(h:msM e=some q)(hk:e.kind=21\/e.kind=22):e.args.length=2:=by
 cases e with|mk k v n a p =>
 obtain⟨o,d⟩:=q;obtain⟨m1,m2,m3,m4,m5,m6⟩:=B0v h;show a.length=2;rw[m2];rcases hk with hk|hk
 all_goals(have hk:k=_:=hk;subst hk;decide)
theorem D8q(r:Ru)(s:St):erS r s=(((dnE r s.name (kdS s.kind) s.pos).or (erA r (s.kind==2) s.args)).or (erB r s.thn)).or (erB r s.els):=by
 cases s with|mk k n t a x y p=>rfl
theorem A7f{d:Nat}:∀ {l:List St},G6 d l=true->∀s∈l,O6 d s=true
 |s0::l,h,s,hs=>by
  rw[G6,A0D]at h;rcases A1C.1 hs with rfl|hs
  ·grind
  ·exact A7f h.2 s hs
theorem B0b{d:Nat}{s:St}(h:O6 d s=true):(∀x∈s.args, ∃q,msM x=some q)/\G6 (d+1) s.thn=true/\G6 (d+1) s.els=true:=by
 cases s with|mk k n t a x y p =>
 rw[O6]at h;simp only[A0D]at h;refine⟨λe he=>?_,h.2.1.2,h.2.2.2⟩;have h1:=A0S.1 h.1.1.1.2.2 e he;unfold T7 at h1
 grind
theorem B6e{r:Ru}(h:L9 r=true):∀m∈r.modes, ∀x∈m.hds,G6 1 x.body=true:=by
 intro m hm x hx;unfold L9 at h;simp only[A0D]at h;have h1:=A0S.1 h.2 m hm;unfold R0 at h1;simp only[A0D]at h1;have h2:=A0S.1 h1.2 x hx;unfold A1q at h2;simp only[A0D]at h2;have h3:=h2.2;unfold N3 at h3
 grind
theorem C8n{r:Ru}{m:Md}(h:m∈r.modes):m.sz<=r.sz:=by
 have:m.sz<=(r.modes.map Md.sz).sum:=K1 h;show _<=(r.decls.map Dc.sz).sum+(r.modes.map Md.sz).sum;omega
theorem C8o{m:Md}{x:Hd}(h:x∈m.hds):x.sz<=m.sz:=by
 have:x.sz<=(m.hds.map Hd.sz).sum:=K1 h;show _<=1+m.name.length+(m.hds.map Hd.sz).sum;omega
theorem B0f(r:Ru):r.decls.length<=r.sz:=by
 have:r.decls.length<=(r.decls.map Dc.sz).sum:=I7 λx _=>by show 1<=1+_;omega
 show _<=(r.decls.map Dc.sz).sum+(r.modes.map Md.sz).sum;omega
theorem B0e(r:Ru):r.modes.length<=r.sz:=by
 have:r.modes.length<=(r.modes.map Md.sz).sum:=I7 λx _=>by show 1<=1+_+_;omega
 show _<=(r.decls.map Dc.sz).sum+(r.modes.map Md.sz).sum;omega
theorem D7v(m:Md):m.hds.length<=m.sz:=by
 have:m.hds.length<=(m.hds.map Hd.sz).sum:=I7 λx _=>by show 1<=1+_+_;omega
 show _<=1+m.name.length+(m.hds.map Hd.sz).sum;omega
theorem A8h{α:Type}(p : α->Bool)(l:List α)(k:Nat)(x : α)(hx:l[k]? = some x):(l.take (k+1)).any p=((l.take k).any p||p x):=by
 rw[A0R,hx,List.any_append];simp
def A2q(nm:List UInt8->Int)(k v:Int)(n:List UInt8):Ins :=
 if k=1 then⟨1,v⟩ else if k=3 then⟨1,1⟩ else if k=4 then⟨1,0⟩ else if k=2 then⟨2,nm n⟩ else if k=5 then⟨4,nm n⟩ else if k=6 then⟨5,nm n⟩ else if k=7 then⟨6,nm n⟩
 else if k=8 then⟨7,0⟩ else if k=9 then⟨8,0⟩ else if k=10 then⟨9,0⟩ else if k=11 then⟨10,0⟩ else⟨11,k⟩
mutual
def cgE(nm:List UInt8->Int):Ex->List Ins
 |.mk k v n a p=>C4 nm a++[A2q nm k v n]
def C4(nm:List UInt8->Int):List Ex->List Ins
 |[]=>[]
 |x::l=>cgE nm x++C4 nm l
end
theorem D8t(nm:List UInt8->Int)(e:Ex):cgE nm e=C4 nm e.args++[A2q nm e.kind e.value e.name]:=by cases e;rfl
def stOp(k:Int):Int:=if k=1 then 3 else if k=4 then 15 else if 5<=k/\k<=18 then k+11 else 30
def txS(S:List (List UInt8))(t:List UInt8):Nat × List (List UInt8):=if t∈S then(S.idxOf t,S) else(S.length,S++[t])
abbrev Cg:=List Ins × List (List UInt8)
mutual
def cgS(nm:List UInt8->Int)(p:Nat)(S:List (List UInt8)):St->Cg
 |.mk k n t a x y _ =>
  if k=2 then
   (if y.length=0 then
    (C4 nm a++(⟨13,((p+(C4 nm a).length+1+(cgB nm (p+(C4 nm a).length+1) S x).1.length:Nat):Int)⟩::(cgB nm (p+(C4 nm a).length+1) S x).1),(cgB nm (p+(C4 nm a).length+1) S x).2)
   else
    (C4 nm a++(⟨13,((p+(C4 nm a).length+1+(cgB nm (p+(C4 nm a).length+1) S x).1.length+1:Nat):Int)⟩::((cgB nm (p+(C4 nm a).length+1) S x).1 ++
      (⟨12,((p+(C4 nm a).length+1+(cgB nm (p+(C4 nm a).length+1) S x).1.length+1+(cgB nm (p+(C4 nm a).length+1+(cgB nm (p+(C4 nm a).length+1) S x).1.length+1) (cgB nm (p+(C4 nm a).length+1) S x).2 y).1.length:Nat):Int)⟩ ::
       (cgB nm (p+(C4 nm a).length+1+(cgB nm (p+(C4 nm a).length+1) S x).1.length+1) (cgB nm (p+(C4 nm a).length+1) S x).2 y).1))),
     (cgB nm (p+(C4 nm a).length+1+(cgB nm (p+(C4 nm a).length+1) S x).1.length+1) (cgB nm (p+(C4 nm a).length+1) S x).2 y).2))
  else if k=3 then
   (C4 nm a++(⟨14,((p+(C4 nm a).length+1+(cgB nm (p+(C4 nm a).length+1) S x).1.length+1:Nat):Int)⟩::((cgB nm (p+(C4 nm a).length+1) S x).1++[⟨12,((p+(C4 nm a).length:Nat):Int)⟩])),(cgB nm (p+(C4 nm a).length+1) S x).2)
  else if k=18 then(C4 nm a++[⟨29,((txS S t).1:Int)⟩],(txS S t).2)
  else(C4 nm a++[⟨stOp k,nm n⟩],S)
def cgB(nm:List UInt8->Int)(p:Nat)(S:List (List UInt8)):List St->Cg
 |[]=>([],S)
 |s::l=>((cgS nm p S s).1++(cgB nm (p+(cgS nm p S s).1.length) (cgS nm p S s).2 l).1,(cgB nm (p+(cgS nm p S s).1.length) (cgS nm p S s).2 l).2)
end
structure Ky where
 mode:Int
 trig:Int
 ix:Int
deriving DecidableEq
def Ky.lt(a b:Ky):Prop:=a.mode<b.mode\/(a.mode=b.mode/\(a.trig<b.trig\/(a.trig=b.trig/\a.ix<b.ix)))
theorem Ky.lt_trans{a b c:Ky}(h:a.lt b)(g:b.lt c):a.lt c:=by unfold Ky.lt at *;omega
theorem Ky.lt_irrefl(a:Ky):¬a.lt a:=by unfold Ky.lt;omega
theorem Ky.tri(a b:Ky):a.lt b\/a=b\/b.lt a:=by
 obtain⟨a1,a2,a3⟩:=a;obtain⟨b1,b2,b3⟩:=b;unfold Ky.lt
 grind
abbrev C8:=Ky × List (List St)
def bod(l:List C8)(k:Ky):Option (List (List St)):=(l.find? λp=>p.1=k).map (·.2)
theorem G9(p:C8)(l:List C8)(k:Ky):bod (p::l) k=if p.1=k then some p.2 else bod l k:=by
 unfold bod
 grind
def Srt(l:List C8):Prop:=l.Pairwise λa b=>a.1.lt b.1
theorem A6y{l:List C8}{k:Ky}(h:∀p∈l,p.1≠k):bod l k=none:=by
 induction l with
 |nil=>rfl
 |cons p l ih =>
  rw[G9,if_neg (h p A0J)]
  grind
theorem C8w:∀ {l m:List C8},Srt l->Srt m->(∀k,bod l k=bod m k)->l=m
 |[],[],_,_,_=>rfl
 |[],q::m,_,_,h=>by have:=h q.1;rw[G9,if_pos rfl]at this;trivial
 |p::l,[],_,_,h=>by have:=h p.1;rw[G9,if_pos rfl]at this;trivial
 |p::l,q::m,h1,h2,h=>by
  obtain⟨p1,l1⟩:=A4F.1 h1;obtain⟨q1,m1⟩:=A4F.1 h2;have hpq:p.1=q.1:=by
   rcases Ky.tri p.1 q.1 with g|g|g
   ·exfalso;have:=h p.1;rw[G9,if_pos rfl,A6y (l:=q::m) (k:=p.1) (λx hx e=>by
     rcases A1C.1 hx with rfl|hx
     ·rw[e]at g;exact Ky.lt_irrefl _ g
     ·have:=Ky.lt_trans g (q1 x hx);rw[e]at this;exact Ky.lt_irrefl _ this)]at this
    grind
   ·omega
   ·exfalso;have:=h q.1;rw[G9 (p:=q),if_pos rfl,A6y (l:=p::l) (k:=q.1) (λx hx e=>by
     rcases A1C.1 hx with rfl|hx
     ·rw[e]at g;exact Ky.lt_irrefl _ g
     ·have:=Ky.lt_trans g (p1 x hx);rw[e]at this;exact Ky.lt_irrefl _ this)]at this
    grind
  have hb:=h p.1;rw[G9,if_pos rfl,G9,if_pos hpq.symm]at hb;have e:p=q:=Prod.ext hpq (Option.some.inj hb);subst e
  congr 1
  refine C8w l1 m1 λk=>?_;by_cases hk:p.1=k
  ·rw[A6y (λx hx e=>by have:=p1 x hx;rw[e,hk]at this;exact Ky.lt_irrefl _ this),A6y (λx hx e=>by have:=q1 x hx;rw[e,hk]at this;exact Ky.lt_irrefl _ this)]
  ·have:=h k
   rwa [G9,if_neg hk,G9,if_neg hk]at this
theorem D3u{l m:List C8}(hp:l.Perm m)(hn:(l.map (·.1)).Nodup)(k:Ky):bod l k=bod m k:=by
 induction hp with
 |nil=>rfl
 |cons x _ ih =>
  rw[G9,G9,ih (A3G.1 hn).2]
 |swap x y l =>
  rw[G9,G9,G9,G9]
  grind
 |trans h1 h2 ih1 ih2=>grind
def L8(k:Ky)(b:List St):List C8->List C8
 |[]=>[(k,[b])]
 |p::l=>if p.1=k then(p.1,p.2++[b])::l else p::L8 k b l
theorem D4c(k:Ky)(b:List St)(l:List C8)(q:Ky):bod (L8 k b l) q=if k=q then some ((bod l q).getD []++[b]) else bod l q:=by
 induction l with
 |nil =>
  rw[L8,G9];rfl
 |cons p l ih =>
  rw[L8];by_cases h:p.1=k
  ·rw[if_pos h,G9,G9]
   grind
  ·rw[if_neg h,G9,G9,ih]
   grind
theorem C7u(k:Ky)(b:List St)(l:List C8):∀q,q∈(L8 k b l).map (·.1)↔q=k\/q∈l.map (·.1):=by
 intro q
 induction l with
 |nil=>simp[L8]
 |cons p l ih =>
  rw[L8]
  grind
theorem C2c(k:Ky)(b:List St):∀ {l:List C8},(l.map (·.1)).Nodup->((L8 k b l).map (·.1)).Nodup:=by
 intro l
 induction l with
 |nil=>intro _;simp[L8]
 |cons p l ih =>
  intro h;rw[L8];obtain⟨h1,h2⟩:=A3G.1 h;by_cases e:p.1=k
  ·grind
  ·rw[if_neg e,A0W,A3G];refine⟨λhm=>?_,ih h2⟩;rcases(C7u k b l p.1).1 hm with g|g
   ·exact e g
   grind
abbrev KB:=Ky × List St
def hdK(nm:List UInt8->Int)(i:Nat)(h:Hd):KB:=(⟨i,h.trig,nm h.name⟩,h.body)
def hkM(nm:List UInt8->Int)(i:Nat):List Md->List KB
 |[]=>[]
 |m::l=>m.hds.map (hdK nm i)++hkM nm (i+1) l
def I0(l:List C8)(q:List KB):List C8:=q.foldl (λl x=>L8 x.1 x.2 l) l
def L0(q:List KB)(k:Ky):List (List St):=(q.filter λx=>x.1=k).map (·.2)
theorem B2a(a b:List KB)(k:Ky):L0 (a++b) k=L0 a k++L0 b k:=by simp[L0]
theorem A4i(x:KB)(b:List KB)(k:Ky):L0 (x::b) k=if x.1=k then x.2::L0 b k else L0 b k:=by
 unfold L0
 grind
theorem B9h:∀(q:List KB) (l:List C8) (k:Ky),bod (I0 l q) k=if L0 q k=[] then bod l k else some ((bod l k).getD []++L0 q k)
 |[],l,k=>by rfl
 |x::q,l,k=>by
  have h:=B9h q (L8 x.1 x.2 l) k;have e:I0 l (x::q)=I0 (L8 x.1 x.2 l) q:=rfl;rw[e,h,D4c,A4i]
  grind
theorem A5q:∀(q:List KB) {l:List C8},(l.map (·.1)).Nodup->((I0 l q).map (·.1)).Nodup
 |[],_,h=>h
 |x::q,_,h=>A5q q (C2c x.1 x.2 h)
def ptK(q:List KB)(ks:List Ky):List C8:=ks.filterMap λk=>if L0 q k=[] then none else some (k,L0 q k)
theorem C3f(q:List KB):∀(ks:List Ky) (k:Ky),bod (ptK q ks) k=if k∈ks/\L0 q k≠[] then some (L0 q k) else none
 |[],k=>by rfl
 |a::ks,k=>by
  have ih:=C3f q ks k;unfold ptK at ih ⊢;rw[List.filterMap_cons];by_cases h:L0 q a=[]
  ·grind
  ·simp only[h,if_false];rw[G9]
   grind
theorem D5b(q:List KB){ks:List Ky}(h:ks.Pairwise Ky.lt):Srt (ptK q ks):=by
 induction ks with
 |nil=>exact List.Pairwise.nil
 |cons a ks ih =>
  obtain⟨h1,h2⟩:=A4F.1 h;unfold ptK;rw[List.filterMap_cons];by_cases e:L0 q a=[]
  ·simp only[e,if_true];exact ih h2
  ·simp only[e,if_false];refine A4F.2 ⟨λp hp=>?_,ih h2⟩
   grind
def A6o(i:Nat)(t:Nat):List Ky:=(List.range 128).map λ(n:Nat)=>(⟨i,(t:Int)+1,(n:Int)⟩:Ky)
def B2m(i:Nat):List Ky:=(List.range 6).flatMap (A6o i)
theorem A3y{i t:Nat}{k:Ky}:k∈A6o i t↔k.mode=i/\k.trig=(t:Int)+1/\0<=k.ix/\k.ix<128:=by
 unfold A6o;rw[A1B];constructor
 ·grind
 ·rintro⟨h1,h2,h3,h4⟩;refine⟨k.ix.toNat,A3X.2 (by omega),?_⟩;obtain⟨a,b,c⟩:=k
  grind
theorem B0y{i:Nat}{k:Ky}:k∈B2m i↔k.mode=i/\1<=k.trig/\k.trig<=6/\0<=k.ix/\k.ix<128:=by
 unfold B2m;rw[List.mem_flatMap];constructor
 ·rintro⟨t,ht,h⟩;have:=A3X.1 ht;obtain⟨h1,h2,h3,h4⟩:=A3y.1 h;omega
 ·rintro⟨h1,h2,h3,h4,h5⟩;exact⟨(k.trig-1).toNat,A3X.2 (by omega),A3y.2 ⟨h1,by omega,h4,h5⟩⟩
theorem C6y(i t:Nat):(A6o i t).Pairwise Ky.lt:=by
 unfold A6o;rw[A4S];exact List.Pairwise.imp (λh=>Or.inr ⟨rfl,Or.inr ⟨rfl,Int.ofNat_lt.2 h⟩⟩) List.pairwise_lt_range
theorem B8g{f:Nat->List Ky}(h1:∀t,(f t).Pairwise Ky.lt)(h2:∀t u,t<u->∀a∈f t, ∀b∈f u,a.lt b):∀ {l:List Nat},l.Pairwise (· < ·)->(l.flatMap f).Pairwise Ky.lt:=by
 grind
theorem B8e(i:Nat):(B2m i).Pairwise Ky.lt :=
 B8g (C6y i) (λt u htu a ha b hb=>by
  obtain⟨a1,a2, -, -⟩:=A3y.1 ha;obtain⟨b1,b2, -, -⟩:=A3y.1 hb;unfold Ky.lt;omega) List.pairwise_lt_range
def rfP(nm:List UInt8->Int)(i:Nat)(l:List Hd):List C8:=ptK (l.map (hdK nm i)) (B2m i)
def E3(nm:List UInt8->Int)(i:Nat):List Md->List C8
 |[]=>[]
 |m::l=>rfP nm i m.hds++E3 nm (i+1) l
def HOk(nm:List UInt8->Int)(h:Hd):Prop:=1<=h.trig/\h.trig<=6/\0<=nm h.name/\nm h.name<128
theorem D7i(a b:List C8)(k:Ky):bod (a++b) k=(bod a k).or (bod b k):=by
 unfold bod
 grind
theorem C4m{nm:List UInt8->Int}:∀ {l:List Md} {i:Nat} {x:KB},x∈hkM nm i l->(i:Int)<=x.1.mode
 |[],_,_,h=>by cases h
 |m::l,i,x,h=>by
  rw[hkM]at h;rcases A1A.1 h with h|h
  ·obtain⟨y, -,rfl⟩:=A1B.1 h;exact A3L _
  ·have:=C4m h;omega
theorem A6z{q:List KB}{k:Ky}(h:∀x∈q,x.1≠k):L0 q k=[]:=by
 unfold L0
 simp_all;omega
theorem D4y{nm:List UInt8->Int}{i:Nat}{l:List Hd}(h:∀x∈l,HOk nm x)(k:Ky):bod (rfP nm i l) k=if L0 (l.map (hdK nm i)) k=[] then none else some (L0 (l.map (hdK nm i)) k):=by
 unfold rfP;rw[C3f];by_cases e:L0 (l.map (hdK nm i)) k=[]
 ·grind
 ·rw[if_neg e,if_pos];refine⟨?_,e⟩;have:∃x∈l.map (hdK nm i),x.1=k:=Classical.byContradiction λhn=>e (A6z λx hx he=>hn ⟨x,hx,he⟩);obtain⟨x,hx,rfl⟩:=this;obtain⟨y,hy,rfl⟩:=A1B.1 hx;obtain⟨h1,h2,h3,h4⟩:=h y hy;exact B0y.2 ⟨rfl,h1,h2,h3,h4⟩
theorem B7b{nm:List UInt8->Int}:∀ {l:List Md} {i:Nat},(∀m∈l, ∀x∈m.hds,HOk nm x)->∀k:Ky,bod (E3 nm i l) k=if L0 (hkM nm i l) k=[] then none else some (L0 (hkM nm i l) k)
 |[],i,_,k=>by rfl
 |m::l,i,h,k=>by
  rw[E3,D7i,D4y (h m A0J),B7b (λm hm=>h m (A0G _ hm)),hkM,B2a];by_cases e:L0 (m.hds.map (hdK nm i)) k=[]
  ·grind
  ·have hk:k.mode=i:=by
    have:∃x∈m.hds.map (hdK nm i),x.1=k:=Classical.byContradiction λhn=>e (A6z λx hx he=>hn ⟨x,hx,he⟩);obtain⟨x,hx,rfl⟩:=this;obtain⟨y,hy,rfl⟩:=A1B.1 hx;rfl
   have e2:L0 (hkM nm (i+1) l) k=[]:=A6z λx hx he=>by have:=C4m hx;rw[he,hk]at this;omega
   grind
theorem C3e{q:List KB}{ks:List Ky}{p:C8}(h:p∈ptK q ks):p.1∈ks:=by
 obtain⟨k,hk,e⟩:=A4Q.1 h
 grind
theorem B2w{nm:List UInt8->Int}:∀ {l:List Md} {i:Nat} {p:C8},p∈E3 nm i l->(i:Int)<=p.1.mode
 |[],_,_,h=>by cases h
 |m::l,i,p,h=>by
  rw[E3]at h;rcases A1A.1 h with h|h
  ·have:=(B0y.1 (C3e h)).1;omega
  ·have:=B2w h;omega
theorem B0m{nm:List UInt8->Int}:∀(l:List Md) (i:Nat),Srt (E3 nm i l)
 |[],_=>List.Pairwise.nil
 |m::l,i=>by
  rw[E3];refine List.pairwise_append.2 ⟨D5b _ (B8e i),B0m l (i+1),λa ha b hb=>?_⟩;have h1:=(B0y.1 (C3e ha)).1;have h2:=B2w hb;unfold Ky.lt;omega
theorem D0j{nm:List UInt8->Int}{l:List Md}{s:List C8}(h:∀m∈l, ∀x∈m.hds,HOk nm x)(hp:s.Perm (I0 [] (hkM nm 0 l)))(hs:Srt s):s=E3 nm 0 l:=by
 refine C8w hs (B0m l 0) λk=>?_;have hn:((I0 [] (hkM nm 0 l)).map (·.1)).Nodup:=A5q _ (by simp);rw[<- D3u hp.symm hn,B9h,B7b h];rfl
mutual
def hE(h:Int):Ex->List Int
 |.mk k v n a p=>hEs h a++[h+(a.length:Int)]
def hEs(h:Int):List Ex->List Int
 |[]=>[]
 |x::l=>hE h x++hEs (h+1) l
end
mutual
def hS(h:Int):St->List Int
 |.mk k n t a x y _ =>
  if k=2 then(if y.length=0 then hEs h a++((h+1)::hB h x) else hEs h a++((h+1)::(hB h x++(h::hB h y))))
  else if k=3 then hEs h a++((h+1)::(hB (h+1) x++[h+1]))
  else hEs h a++[h+(a.length:Int)]
def hB(h:Int):List St->List Int
 |[]=>[]
 |s::l=>hS h s++hB h l
end
section
variable (nm:List UInt8->Int)
mutual
theorem C1d:∀(e:Ex) (h:Int),(hE h e).length=(cgE nm e).length
 |.mk k v n a p,h=>by rw[hE,cgE,A0A,A0A,Q0 a];rfl
theorem Q0:∀(l:List Ex) (h:Int),(hEs h l).length=(C4 nm l).length
 |[],_=>rfl
 |x::l,h=>by rw[hEs,C4,A0A,A0A,C1d x,Q0 l]
end
mutual
theorem D1w:∀(s:St) (h:Int) (p:Nat) (S:List (List UInt8)),(hS h s).length=(cgS nm p S s).1.length
 |.mk k n t a x y q,h,p,S=>by
  rw[hS,cgS];by_cases h2:k=2
  ·rw[if_pos h2,if_pos h2];by_cases hy:y.length=0
   ·rw[if_pos hy,if_pos hy];simp only[A0A,A0F,Q0 nm a,A2c x h (p+(C4 nm a).length+1) S]
   ·rw[if_neg hy,if_neg hy];simp only[A0A,A0F,Q0 nm a];rw[A2c x h (p+(C4 nm a).length+1) S];rw[A2c y h (p+(C4 nm a).length+1+(cgB nm (p+(C4 nm a).length+1) S x).1.length+1) (cgB nm (p+(C4 nm a).length+1) S x).2]
  ·rw[if_neg h2,if_neg h2];by_cases h3:k=3
   ·rw[if_pos h3,if_pos h3];simp only[A0A,A0F,Q0 nm a,A2c x (h+1) (p+(C4 nm a).length+1) S,A0O]
   ·rw[if_neg h3,if_neg h3];by_cases h4:k=18
    ·rw[if_pos h4];simp only[A0A,A0F,Q0 nm a,A0O]
    ·rw[if_neg h4];simp only[A0A,A0F,Q0 nm a,A0O]
theorem A2c:∀(l:List St) (h:Int) (p:Nat) (S:List (List UInt8)),(hB h l).length=(cgB nm p S l).1.length
 |[],_,_,_=>rfl
 |s::l,h,p,S=>by
  rw[hB,cgB];simp only[A0A];rw[D1w s h p S,A2c l h (p+(cgS nm p S s).1.length) (cgS nm p S s).2]
end
end
def Plc(I:List Ins)(Hs:List Int)(p:Nat)(C:List Ins)(H:List Int):Prop:=∀i,i<C.length->I[p+i]? = C[i]? /\ Hs[p+i]? = H[i]?
theorem Plc.split{I:List Ins}{Hs:List Int}{p:Nat}{C D:List Ins}{H K:List Int}(h:Plc I Hs p (C++D) (H++K))(hl:H.length=C.length):Plc I Hs p C H/\Plc I Hs (p+C.length) D K:=by
 constructor
 ·intro i hi;obtain⟨h1,h2⟩:=h i (by rw[A0A];omega)
  grind
 ·intro i hi;obtain⟨h1,h2⟩:=h (C.length+i) (by rw[A0A];omega)
  grind
theorem Plc.one{I:List Ins}{Hs:List Int}{p:Nat}{i:Ins}{x:Int}{D:List Ins}{K:List Int}(h:Plc I Hs p (i::D) (x::K)):I[p]? = some i/\Hs[p]? = some x/\Plc I Hs (p+1) D K:=by
 refine⟨(h 0 (by simp)).1,(h 0 (by simp)).2,λj hj=>?_⟩;obtain⟨h1,h2⟩:=h (j+1) (by simpa using hj)
 grind
def Gd(I:List Ins)(Hs:List Int)(p:Nat):Prop:=∀i x,I[p]? = some i->Hs[p]? = some x ->
 (D2 i.op).1<=x/\x<=48/\¬(i.op=31/\x≠0)/\((D2 i.op).2.2=7->0<=i.A)/\∀s∈G5 i p x,Hs[s.1]? = some s.2
theorem Gd.mk'{I:List Ins}{Hs:List Int}{p:Nat}{i:Ins}{x:Int}(h1:I[p]? = some i)(h2:Hs[p]? = some x)
  (h:(D2 i.op).1<=x/\x<=48/\¬(i.op=31/\x≠0)/\((D2 i.op).2.2=7->0<=i.A)/\∀s∈G5 i p x,Hs[s.1]? = some s.2):Gd I Hs p:=by
 intro j y e1 e2
 grind
theorem Gd.next{I:List Ins}{Hs:List Int}{p:Nat}{i:Ins}{x:Int}(h1:I[p]? = some i)(h2:Hs[p]? = some x)(hk:¬(D2 i.op).2.2=7)(hr:¬i.op=31)(ht:(D2 i.op).1<=x)(hx:x<=48)
  (hn:Hs[p+1]? = some (x-(D2 i.op).1+(D2 i.op).2.1)):Gd I Hs p:=by
 refine Gd.mk' h1 h2 ⟨ht,hx,λh=>hr h.1,λh=>absurd h hk,λs hs=>?_⟩;have e12:¬i.op=12:=λe=>hk (by rw[e];decide);have e13:¬i.op=13:=λe=>hk (by rw[e];decide);have e14:¬i.op=14:=λe=>hk (by rw[e];decide);unfold G5 at hs
 grind
def exO(k:Int):Int:=if k=1 then 1 else if k=3 then 1 else if k=4 then 1 else if k=2 then 2 else if k=5 then 4 else if k=6 then 5 else if k=7 then 6 else if k=8 then 7 else if k=9 then 8 else if k=10 then 9 else if k=11 then 10 else 11
theorem D6t(nm:List UInt8->Int)(k v:Int)(n:List UInt8):(A2q nm k v n).op=exO k:=by
 unfold A2q exO;simp only[apply_ite Ins.op]
theorem D2k(nm:List UInt8->Int){k:Int}(hk:kOk k=true)(v:Int)(n:List UInt8):
  (D2 (A2q nm k v n).op).1=(J4 k:Int)/\(D2 (A2q nm k v n).op).2.1=1/\¬(D2 (A2q nm k v n).op).2.2=7/\¬(A2q nm k v n).op=31:=by
 have h24:1<=k/\k<=24:=by
  unfold kOk at hk;rw[A1H,A0D,A0I,A0I,A0I]at hk;rcases hk with h|h
  ·unfold B0 at h;repeat' split at h
   all_goals first|omega|(simp at *;omega)
  omega
 have hm:k=1\/k=2\/k=3\/k=4\/k=5\/k=6\/k=7\/k=8\/k=9\/k=10\/k=11\/k=12\/k=13\/k=14\/k=15\/k=16\/k=17\/k=18\/k=19\/k=20\/k=21\/k=22\/k=23\/k=24:=by omega
 rw[D6t];rcases hm with rfl|rfl|rfl|rfl|rfl|rfl|rfl|rfl|rfl|rfl|rfl|rfl|rfl|rfl|rfl|rfl|rfl|rfl|rfl|rfl|rfl|rfl|rfl|rfl<;>exact⟨by decide,by decide,by decide,by decide⟩
theorem B3d{k v:Int}{n:List UInt8}{a:List Ex}{p:Int}{o d:Nat}(h:msM (.mk k v n a p)=some (o,d)):
  kOk k=true/\a.length=J4 k/\((J4 k=0/\o=1)\/(¬J4 k=0/\∃d',msL k 0 a=some (o,d'))):=by
 rw[msM]at h
 grind
mutual
theorem C4a:∀ {e:Ex} {o d:Nat},msM e=some (o,d)->1<=o
 |.mk k v n a p,o,d,h=>by
  obtain⟨h1,h2,⟨-,rfl⟩|⟨h3,d',h4⟩⟩:=B3d h
  ·omega
  ·have:=C0p h4;omega
theorem C0p:∀ {l:List Ex} {k:Int} {i o d:Nat},msL k i l=some (o,d)->l.length<=o
 |[],_,_,_,_,_=>A0P _
 |e::l,k,i,o,d,h=>by
  rw[msL]at h;split at h
  ·grind
  ·rename_i o1 d1 g1;split at h
   ·grind
   ·rename_i o2 d2 g2;have h1:=C4a g1;have h2:=C0p g2
    grind
end
section
variable {nm:List UInt8->Int} {I:List Ins} {Hs:List Int}
mutual
theorem gdE:∀ {e:Ex} {o d p:Nat} {x:Int},msM e=some (o,d)->0<=x->x+o<=48->Plc I Hs p (cgE nm e) (hE x e)->Hs[p+(cgE nm e).length]? = some (x+1) ->
  (∀i,i<(cgE nm e).length->Gd I Hs (p+i))/\Hs[p]? = some x
 |.mk k v n a q,o,d,p,x,h,h0,hx,hp,hn=>by
  obtain⟨h1,h2,h3⟩:=B3d h;rw[cgE,hE]at hp;rw[cgE,A0A]at hn;obtain⟨pa,pb⟩:=hp.split (Q0 nm a x);obtain⟨b1,b2, -⟩:=pb.one;obtain⟨e1,e2,e3,e4⟩:=D2k nm h1 v n;have hao:a.length<=o:=by
   rcases h3 with ⟨h3,rfl⟩|⟨-,d',h3⟩
   ·omega
   ·exact C0p h3
  have hargs:(∀i,i<(C4 nm a).length->Gd I Hs (p+i))/\Hs[p]? = some x:=by
   rcases h3 with ⟨h3, -⟩|⟨-,d',h3⟩
   ·have:a=[]:=A2I.1 (by omega);subst this;refine⟨λi hi=>by trivial,?_⟩;simpa[C4] using b2
   ·exact E6m h3 h0 hx pa b2
  refine⟨λi hi=>?_,hargs.2⟩;rw[cgE,A0A,A0K]at hi;by_cases hi2:i<(C4 nm a).length
  ·grind
  ·have:i=(C4 nm a).length:=by omega
   subst this;refine Gd.next b1 b2 e3 e4 (by rw[e1];omega) (by omega) ?_
   grind
theorem E6m:∀ {l:List Ex} {k:Int} {i o d p:Nat} {x:Int},msL k i l=some (o,d)->0<=x->x+o<=48->Plc I Hs p (C4 nm l) (hEs x l)->Hs[p+(C4 nm l).length]? = some (x+(l.length:Int)) ->
  (∀i,i<(C4 nm l).length->Gd I Hs (p+i))/\Hs[p]? = some x
 |[],_,_,_,_,p,x,h,h0,hx,hp,hn=>⟨λi hi=>by trivial,by simpa[C4] using hn⟩
 |e::l,k,j,o,d,p,x,h,h0,hx,hp,hn=>by
  rw[msL]at h;split at h
  ·grind
  ·rename_i o1 d1 g1;split at h
   ·grind
   ·rename_i o2 d2 g2;have hpos:=C4a g1;cases h;rw[C4,hEs]at hp;rw[C4,A0A, <- A3B]at hn;obtain⟨pa,pb⟩:=hp.split (C1d nm e x);obtain⟨r1,r2⟩:=E6m g2 (by omega) (by omega) pb (by grind);obtain⟨s1,s2⟩:=gdE g1 h0 (by omega) pa r2;refine⟨λi hi=>?_,s2⟩;rw[C4,A0A]at hi;by_cases hi2:i<(cgE nm e).length
    ·grind
    ·have:=r1 (i-(cgE nm e).length) (by omega)
     grind
end
theorem gdA:∀ {l:List Ex} {p:Nat} {x:Int},(∀e∈l,T7 e=true)->0<=x->x+(l.length:Int)+32<=49->Plc I Hs p (C4 nm l) (hEs x l)->Hs[p+(C4 nm l).length]? = some (x+(l.length:Int)) ->
  (∀i,i<(C4 nm l).length->Gd I Hs (p+i))/\Hs[p]? = some x
 |[],p,x,h,h0,hx,hp,hn=>⟨λi hi=>by trivial,by simpa[C4] using hn⟩
 |e::l,p,x,h,h0,hx,hp,hn=>by
  rw[A0F]at hx hn;have he:=h e A0J;unfold T7 at he;split at he
  ·rename_i o d g;rw[A0D,A0I,A0I]at he;rw[C4,hEs]at hp;rw[C4,A0A, <- A3B]at hn;obtain⟨pa,pb⟩:=hp.split (C1d nm e x);obtain⟨r1,r2⟩:=gdA (λe he=>h e (A0G _ he)) (by omega) (by push_cast at hx;omega) pb (by rw[hn];congr 1;push_cast;omega);obtain⟨s1,s2⟩:=gdE g h0 (by push_cast at hx;omega) pa r2;refine⟨λi hi=>?_,s2⟩;rw[C4,A0A]at hi;by_cases hi2:i<(cgE nm e).length
   ·exact s1 i hi2
   ·have:=r1 (i-(cgE nm e).length) (by omega)
    rwa [show p+(cgE nm e).length+(i-(cgE nm e).length)=p+i by omega]at this
  grind
theorem C8u{k:Int}(h1:1<=k)(h2:k<=19)(n2:¬k=2)(n3:¬k=3):
  (D2 (stOp k)).1=((K2 k).args:Int)/\(D2 (stOp k)).2.1=0/\¬(D2 (stOp k)).2.2=7/\¬stOp k=31:=by
 have hm:k=1\/k=4\/k=5\/k=6\/k=7\/k=8\/k=9\/k=10\/k=11\/k=12\/k=13\/k=14\/k=15\/k=16\/k=17\/k=18\/k=19:=by omega
 rcases hm with rfl|rfl|rfl|rfl|rfl|rfl|rfl|rfl|rfl|rfl|rfl|rfl|rfl|rfl|rfl|rfl|rfl<;>exact⟨by decide,by decide,by decide,by decide⟩
theorem C9c(k:Int):(K2 k).args<=2:=by
 unfold K2;grind
theorem A2u{d:Nat}{k:Int}{n t:List UInt8}{a:List Ex}{x y:List St}{q:Int}(h:O6 d (.mk k n t a x y q)=true):
  1<=k/\k<=19/\a.length=(K2 k).args/\(∀e∈a,T7 e=true)/\(x=[]\/d+1<=8)/\G6 (d+1) x=true/\(y=[]\/d+1<=8)/\G6 (d+1) y=true/\((K2 k).thn=true\/x=[])/\((K2 k).els=true\/y=[]) /\
   (if(K2 k).name=true then D7 n=true else n=[])/\(if(K2 k).text=true then S3 t=true else t=[]):=by
 rw[O6]at h
 grind
theorem A3e{p m n:Nat}(h1:∀i,i<m->Gd I Hs (p+i))(h2:∀i,i<n->Gd I Hs (p+m+i)):∀i,i<m+n->Gd I Hs (p+i):=λi hi=>by
 by_cases h:i<m
 ·grind
 ·have:=h2 (i-m) (by omega)
  grind
theorem A2d{p n:Nat}(h1:Gd I Hs p)(h2:∀i,i<n->Gd I Hs (p+1+i)):∀i,i<n+1->Gd I Hs (p+i):=λi hi=>by
 cases i with
 |zero=>omega
 |succ i=>grind
mutual
theorem gdS:∀ {s:St} {d p:Nat} {S:List (List UInt8)} {x:Int},O6 d s=true->d<=8->0<=x->x+1<=d->Plc I Hs p (cgS nm p S s).1 (hS x s)->Hs[p+(cgS nm p S s).1.length]? = some x ->
  (∀i,i<(cgS nm p S s).1.length->Gd I Hs (p+i))/\Hs[p]? = some x
 |.mk k n t a b c q,d,p,S,x,h,hd,h0,hx,hp,hn=>by
  obtain⟨k1,k2,ha,hv,hb,hvb,hc,hvc, -⟩:=A2u h;have hal:=C9c k;by_cases h2:k=2
  ·subst h2;have ha1:a.length=1:=ha;rw[cgS,if_pos rfl]at hp hn ⊢;rw[hS,if_pos rfl]at hp;by_cases hy:c.length=0
   ·rw[if_pos hy]at hp hn ⊢;rw[if_pos hy]at hp;obtain⟨pa,pb⟩:=hp.split (Q0 nm a x);obtain⟨i1,i2,pc⟩:=pb.one;simp only[A0A,A0F]at hn ⊢;have hn1:Hs[p+(C4 nm a).length+1+(cgB nm (p+(C4 nm a).length+1) S b).1.length]? = some x:=by rw[<- hn];congr 1;omega
    obtain⟨t1,t2⟩:=gdB hvb (λhne=>by rcases hb with hb|hb;exact absurd hb hne;exact hb) h0 (by push_cast;omega) pc hn1;obtain⟨s1,s2⟩:=gdA hv h0 (by omega) pa (by rw[i2,ha1];rfl);refine⟨A3e s1 (A2d (Gd.mk' i1 i2 ⟨by show(1:Int)<=x+1;omega,by omega,λh=>absurd h.1 (by simp),λ_=>A2K _,λs hs=>?_⟩) t1),s2⟩;simp only[G5]at hs
    grind
   ·rw[if_neg hy]at hp hn ⊢;rw[if_neg hy]at hp;have hcne:¬c=[]:=λe=>hy (by grind);obtain⟨pa,pb⟩:=hp.split (Q0 nm a x);obtain⟨i1,i2,pc⟩:=pb.one;obtain⟨pd,pe⟩:=pc.split (A2c nm b x _ S);obtain⟨j1,j2,pf⟩:=pe.one;simp only[A0A,A0F]at hn ⊢;generalize hq1:p+(C4 nm a).length+1=q1 at *;generalize hTT:cgB nm q1 S b=TT at *;generalize hq2:q1+TT.1.length+1=q2 at *;have hn1:Hs[q2+(cgB nm q2 TT.2 c).1.length]? = some x:=by grind
    obtain⟨u1,u2⟩:=gdB hvc (λhne=>by grind) h0 (by omega) pf hn1;obtain⟨t1,t2⟩:=gdB (p:=q1) (S:=S) hvb (λhne=>by grind) h0 (by omega) (by grind) (by grind);rw[hTT]at t1;obtain⟨s1,s2⟩:=gdA hv h0 (by omega) pa (by grind);refine⟨?_,s2⟩;refine A3e s1 (A2d (Gd.mk' i1 i2 ⟨by show(1:Int)<=x+1;omega,by omega,λh=>absurd h.1 (by simp),λ_=>A2K _,λs hs=>?_⟩) ?_)
    ·simp only[G5]at hs
     grind
    ·rw[hq1];refine A3e t1 (A2d (Gd.mk' j1 j2 ⟨by show(0:Int)<=x;omega,by omega,λh=>absurd h.1 (by simp),λ_=>A2K _,λs hs=>?_⟩) ?_)
     ·simp only[G5]at hs;rw[if_neg (by decide),if_pos trivial]at hs;simp only[A1C,A2S,or_false]at hs;subst hs;show Hs[((q2+(cgB nm q2 TT.2 c).1.length:Nat):Int).toNat]? = some x;rw[A3F,hn1]
     grind
  ·by_cases h3:k=3
   ·subst h3;have ha1:a.length=1:=ha;rw[cgS,if_neg (by decide),if_pos rfl]at hp hn ⊢;rw[hS,if_neg (by simp),if_pos rfl]at hp;obtain⟨pa,pb⟩:=hp.split (Q0 nm a x);obtain⟨i1,i2,pc⟩:=pb.one;obtain⟨pd,pe⟩:=pc.split (A2c nm b (x+1) _ S);obtain⟨j1,j2, -⟩:=pe.one;simp only[A0A,A0F,A0O]at hn ⊢;generalize hq1:p+(C4 nm a).length+1=q1 at *;generalize hTT:cgB nm q1 S b=TT at *;have hn1:Hs[q1+TT.1.length+1]? = some x:=by grind
    obtain⟨t1,t2⟩:=gdB (p:=q1) (S:=S) hvb (λhne=>by grind) (by omega:(0:Int)<=x+1) (by omega) (by grind) (by grind);rw[hTT]at t1;obtain⟨s1,s2⟩:=gdA hv h0 (by omega) pa (by grind);refine⟨?_,s2⟩;refine A3e s1 (A2d (Gd.mk' i1 i2 ⟨by show(1:Int)<=x+1;omega,by omega,λh=>absurd h.1 (by simp),λ_=>A2K _,λs hs=>?_⟩) ?_)
    ·simp only[G5]at hs
     grind
    ·rw[hq1];refine A3e t1 (A2d (Gd.mk' j1 j2 ⟨by show(0:Int)<=x+1;omega,by omega,λh=>absurd h.1 (by simp),λ_=>A2K _,λs hs=>?_⟩) (λi hi=>absurd hi (by omega)));simp only[G5]at hs
     grind
   ·obtain⟨e1,e2,e3,e4⟩:=C8u k1 k2 h2 h3;rw[hS,if_neg h2,if_neg h3]at hp;rw[cgS,if_neg h2,if_neg h3]at hp hn ⊢;have key:∀A:Int,Plc I Hs p (C4 nm a++[⟨stOp k,A⟩]) (hEs x a++[x+(a.length:Int)])->Hs[p+(C4 nm a++[(⟨stOp k,A⟩:Ins)]).length]? = some x ->
      (∀i,i<(C4 nm a++[(⟨stOp k,A⟩:Ins)]).length->Gd I Hs (p+i))/\Hs[p]? = some x:=λA hp hn=>by
     obtain⟨pa,pb⟩:=hp.split (Q0 nm a x);obtain⟨i1,i2, -⟩:=pb.one;simp only[A0A,A0F,A0O]at hn ⊢;obtain⟨s1,s2⟩:=gdA hv h0 (by omega) pa i2;refine⟨A3e s1 (A2d (Gd.next i1 i2 e3 e4 (by show(D2 (stOp k)).1<=_;rw[e1];omega) (by omega) ?_) (λi hi=>absurd hi (by omega))),s2⟩;show Hs[p+(C4 nm a).length+1]? = some (x+(a.length:Int)-(D2 (stOp k)).1+(D2 (stOp k)).2.1);rw[e1,e2, <- ha];rw[show p+(C4 nm a).length+1=p+((C4 nm a).length+(0+1)) by omega,hn]
     congr 1
     omega
    by_cases h4:k=18
    ·subst h4;rw[if_pos rfl]at hp hn ⊢;exact key _ hp hn
    grind
theorem gdB:∀ {l:List St} {d p:Nat} {S:List (List UInt8)} {x:Int},G6 d l=true->(l≠[]->d<=8)->0<=x->x+1<=d->Plc I Hs p (cgB nm p S l).1 (hB x l)->Hs[p+(cgB nm p S l).1.length]? = some x ->
  (∀i,i<(cgB nm p S l).1.length->Gd I Hs (p+i))/\Hs[p]? = some x
 |[],d,p,S,x,h,hd,h0,hx,hp,hn=>⟨λi hi=>by trivial,by assumption⟩
 |s::l,d,p,S,x,h,hd,h0,hx,hp,hn=>by
  rw[G6,A0D]at h;rw[cgB]at hp hn ⊢;rw[hB]at hp;simp only[A0A, <- A3B]at hn ⊢;obtain⟨pa,pb⟩:=hp.split (D1w nm s x p S);have hd8:=hd (by simp);obtain⟨r1,r2⟩:=gdB h.2 (λ_=>hd8) h0 hx pb hn;obtain⟨s1,s2⟩:=gdS h.1 hd8 h0 hx pa r2;exact⟨A3e s1 r1,s2⟩
end
end
def cgL(nm:List UInt8->Int)(p:Nat)(S:List (List UInt8)):List C8->List Ins × List Ent × List (List UInt8)
 |[]=>([],[],S)
 |q::l=>((cgB nm p S q.2.flatten).1++(⟨31,0⟩::(cgL nm (p+(cgB nm p S q.2.flatten).1.length+1) (cgB nm p S q.2.flatten).2 l).1),
   ⟨q.1.mode,q.1.trig,q.1.ix,(p:Int)⟩::(cgL nm (p+(cgB nm p S q.2.flatten).1.length+1) (cgB nm p S q.2.flatten).2 l).2.1,
   (cgL nm (p+(cgB nm p S q.2.flatten).1.length+1) (cgB nm p S q.2.flatten).2 l).2.2)
def hL:List C8->List Int
 |[]=>[]
 |q::l=>hB 0 q.2.flatten++(0::hL l)
theorem D1x(nm:List UInt8->Int):∀(l:List C8) (p:Nat) (S:List (List UInt8)),(hL l).length=(cgL nm p S l).1.length
 |[],_,_=>rfl
 |q::l,p,S=>by
  rw[hL,cgL];simp only[A0A,A0F];rw[A2c nm q.2.flatten 0 p S,D1x nm l (p+(cgB nm p S q.2.flatten).1.length+1) (cgB nm p S q.2.flatten).2]
theorem Y7{d:Nat}:∀ {l:List St},G6 d l=true↔∀s∈l,O6 d s=true
 |[]=>by simp[G6]
 |s::l=>by rw[G6,A0D,Y7];simp
def D7r(q:C8):Prop:=∀b∈q.2,N3 b 1=true
theorem D7r.sts{q:C8}(h:D7r q):G6 1 q.2.flatten=true:=by
 rw[Y7];intro s hs;obtain⟨b,hb,hs⟩:=A4J.1 hs;have:=h b hb;unfold N3 at this;rw[A0D]at this;exact Y7.1 this.2 s hs
section
variable {nm:List UInt8->Int} {I:List Ins} {Hs:List Int}
theorem gdL:∀ {l:List C8} {p:Nat} {S:List (List UInt8)},(∀q∈l,D7r q)->Plc I Hs p (cgL nm p S l).1 (hL l) ->
  (∀i,i<(cgL nm p S l).1.length->Gd I Hs (p+i))/\(∀e∈(cgL nm p S l).2.1,0<=e.pos/\Hs[e.pos.toNat]? = some 0)
 |[],_,_,_,_=>⟨λi hi=>absurd hi (by trivial),λe he=>by trivial⟩
 |q::l,p,S,h,hp=>by
  rw[cgL,hL]at hp;rw[cgL];obtain⟨pa,pb⟩:=hp.split (A2c nm q.2.flatten 0 p S);obtain⟨i1,i2,pc⟩:=pb.one;obtain⟨r1,r2⟩:=gdL (λq hq=>h q (A0G _ hq)) pc;obtain⟨s1,s2⟩:=gdB (h q A0J).sts (λ_=>by decide) (A3L 0) (by decide) pa i2;refine⟨?_,λe he=>?_⟩
  ·simp only[A0A,A0F];refine A3e s1 (A2d (Gd.mk' i1 i2 ⟨by decide,by decide,λh=>h.2 rfl,λh=>absurd h (by decide),λs hs=>?_⟩) r1);simp only[G5]at hs;rw[if_pos trivial]at hs;cases hs
  grind
end
theorem C8x{c:Prg}{Hs:List Int}(hl:Hs.length=c.instrs.length)(hg:∀i,i<c.instrs.length->Gd c.instrs Hs i)(he:∀e∈c.entries,0<=e.pos/\Hs[e.pos.toNat]? = some 0):
  J2 c=true/\(c.instrs.length<=4000->(hR c).isNone=false):=by
 have lt:∀ {p:Nat} {x:Int},Hs[p]? = some x->p<c.instrs.length:=λh=>by
  grind
 have hj:J2 c=true:=by
  unfold J2;rw[A0D,A0S,A0S];constructor
  ·intro i hi;obtain⟨p,hp,rfl⟩:=List.mem_iff_getElem.1 hi;have h1:=A0B hp;have h2:=A0B (l:=Hs) (i:=p) (by omega);obtain⟨-, -, -,g4,g5⟩:=hg p hp _ _ h1 h2;generalize c.instrs[p]=i at *;unfold A4w;by_cases hk:(D2 i.op).2.2=7
   ·have hA:=g4 hk;have hop:isJ i.op=true:=by rw[A6n];exact decide_eq_true hk
    have ht:i.A.toNat<c.instrs.length:=by
     unfold isJ at hop;simp only[A1H,A0I]at hop;rcases hop with e|e|e
     ·exact lt (g5 (i.A.toNat,Hs[p]) (by unfold G5;rw[if_neg (by omega),if_pos e];exact A0J))
     ·exact lt (g5 (i.A.toNat,Hs[p]-1) (by unfold G5;rw[if_neg (by omega),if_neg (by omega),if_pos e];exact A0G _ A0J))
     ·exact lt (g5 (i.A.toNat,Hs[p]-1) (by unfold G5;rw[if_neg (by omega),if_neg (by omega),if_neg (by omega),if_pos e];exact A0G _ A0J))
    have:inM i.A 0 (c.instrs.length-1)=true:=by unfold inM;rw[A0D,A0I,A0I];omega
    rw[this];simp
   grind
  ·intro e h;obtain⟨h1,h2⟩:=he e h;have:=lt h2;unfold B7u inM
   grind
 refine⟨hj,λh4=>?_⟩;have hr:∀p x,Rch c p x->Hs[p]? = some x:=by
  intro p x h
  induction h with
  |ent h=>grind
  | @step p x s h1 h2 h3 ih =>
   have h4:c.instrs[p]? = some (c.ins p):=by
    grind
   exact(hg p (lt ih) _ _ h4 ih).2.2.2.2 s h3
 have hs:=C4t h4 hj;cases hc:hR c with
 |some _=>rfl
 |none =>
  rw[hc]at hs;obtain⟨p,x,h1,h2|⟨y,h2,h3⟩⟩:=hs
  ·have e1:=hr p x h1;have h4:c.instrs[p]? = some (c.ins p):=by
    show _=some (c.instrs.getD p ⟨0,0⟩);rw[A1K,A0B (lt e1)];rfl
   obtain⟨g1,g2,g3, -⟩:=hg p (lt e1) _ _ h4 e1;exact absurd ⟨lt e1,g2,g1,g3⟩ h2
  grind
theorem B8z(nm:List UInt8->Int):∀(l:List C8) (p:Nat) (S:List (List UInt8)),(cgL nm p S l).2.1.map (λe=>(⟨e.mode,e.trigger,e.index⟩:Ky))=l.map (·.1)
 |[],_,_=>rfl
 |q::l,p,S=>by rw[cgL];simp only[A0W,B8z nm l]
theorem B8w:∀ {l:List Ent},(l.map (λe=>(⟨e.mode,e.trigger,e.index⟩:Ky))).Pairwise Ky.lt->Q3 l=true
 |[],_=>rfl
 |[_],_=>rfl
 |a::b::l,h=>by
  rw[A0W,A4F]at h;rw[Q3,B8w h.2,A2H];have:=h.1 ⟨b.mode,b.trigger,b.index⟩ (by simp);unfold Ky.lt at this;simp only at this;unfold B3i
  grind
theorem C7n{nm:List UInt8->Int}{l:List C8}(h:Srt l)(p:Nat)(S:List (List UInt8)):Q3 (cgL nm p S l).2.1=true:=by
 refine B8w ?_;rw[B8z];exact A4S.2 h
end Go.Pb
namespace Go.Sym
variable [Go.Sym.Tab]
open Go.Eng (KKey)
inductive Mz (id:Nat) (r:DV):DV->DV->Prop where
 |same (d:DV):Mz id r d d
 |mid:Mz id r (.mid id) r
 |agg (a a':List DV) (hl:a.length=a'.length) (h:∀(i:Nat) x y,a[i]? = some x->a'[i]? = some y->Mz id r x y):Mz id r (.agg a) (.agg a')
 |tup (a a':List DV) (hl:a.length=a'.length) (h:∀(i:Nat) x y,a[i]? = some x->a'[i]? = some y->Mz id r x y):Mz id r (.tup a) (.tup a')
theorem Mz.rel{ρ ρ':Ren}{id:Nat}{r:DV}(hl : ρ.le ρ')(hr:∀v,VRel ρ (.mid id) v->VRel ρ' r v){d d':DV}(h:Mz id r d d'):∀v,VRel ρ d v->VRel ρ' d' v:=by
 induction h with
 |same d=>exact λv hv=>hv.mono hl
 |mid=>omega
 |agg a a' hl' _ ih =>
  intro v hv;obtain⟨b,rfl,h1,h2⟩:=hv.agg_inv;refine .agg _ _ (hl'▸h1) λi x y hx hy=>?_
  grind
 |tup a a' hl' _ ih =>
  intro v hv;obtain⟨b,rfl,h1,h2⟩:=hv.tup_inv;refine .tup _ _ (hl'▸h1) λi x y hx hy=>?_
  grind
theorem GL.frzm{H H':Hp}{ds ds':List DV}{id u:Nat}{kd:KKey}{ks vs:List DV}(hb:H id=some ⟨u,true,[.mpc kd ks vs]⟩)(hH:∀j,H' j=none\/(j≠id/\H' j=H j))
  (hl:ds.length=ds'.length) (hd:∀(i:Nat) x y,ds[i]? = some x->ds'[i]? = some y->Mz id (.mp kd ks vs) x y):GL H ds H' ds':=by
 refine⟨λj hj=>?_,fun ρ w a2 hR hA=>?_⟩
 ·grind
 have back:∀j bj,H' j=some bj->j≠id/\H j=some bj:=by
  grind
 obtain⟨t,ht,hB⟩:=hR.blk id _ hb;rcases hB with ⟨hm,c,e,fr, -, -, -, -,g5, -⟩|⟨hm, -,hs,es,cl,kd',ks',vs',g1,g2,g3,g6⟩
 ·have:=(g5 0 _ rfl).1
  trivial
 cases g2;have hnone : ρ.fm t.block=none:=by
  cases hf : ρ.fm t.block with
  |none=>rfl
  |some es'=>exact absurd rfl ((hR.frm _ _ hf).2 id _ t hb rfl ht)
 obtain⟨ρ2,hρ⟩:∃ ρ2:Ren, ρ2=⟨ρ.nm, ρ.fz, ρ.tab,λk=>if k=t.block then some es else ρ.fm k⟩:=⟨_,rfl⟩;have n1 : ρ2.nm = ρ.nm:=by grind
 have n2 : ρ2.fz = ρ.fz:=by grind
 have n3:∀k r, ρ2.fm k=some r->(k=t.block/\r=es) \/ ρ.fm k=some r:=by
  intro k r hk;rw[hρ]at hk
  grind
 have n4 : ρ2.fm t.block=some es:=by simp_all
 have hle : ρ.le ρ2:=⟨λi x h=>by grind,λb r h=>by grind,λb r h=>by
  rw[hρ]
  grind⟩
 have hval:∀v,VRel ρ (.mid id) v->VRel ρ2 (.mp kd ks vs) v:=by
  intro v hv;obtain⟨t',ht', -,rfl⟩:=hv.mid_inv;rw[ht]at ht';cases ht';obtain⟨a1,a2,a3,a4,a5⟩:=g3;exact .mp kd ks vs t.block es n4 a1 a2 a3 (λi x e hx he=>(a4 i x e hx he).mono hle) (λi x e hx he=>(a5 i x e hx he).mono hle)
 refine⟨ρ2,n1,⟨λj bj hj=>?_,λi j bi bj ti tj hi hj hij h1 h2 ho=>?_,λk r hk=>?_,λj bj tj hj ho hjt=>?_,λk r hk=>?_⟩,⟨hl▸hA.1,λi x y hx hy=>?_⟩,?_⟩
 ·rw[n1];obtain⟨-,h1⟩:=back j bj hj;obtain⟨tj,q1,q2⟩:=hR.blk j bj h1;exact⟨tj,q1,q2.mono hle⟩
 ·rw[n1]at h1 h2;exact hR.sep i j bi bj ti tj (back i bi hi).2 (back j bj hj).2 hij h1 h2 ho
 ·rw[n2]at hk;exact hR.frz k r hk
 ·rw[n1]at hjt;rw[n2];exact hR.dis j bj tj (back j bj hj).2 ho hjt
 ·rcases n3 k r hk with ⟨rfl,rfl⟩|h1
  ·refine⟨⟨cl,g1,g6⟩,λj bj tj hj ho hjt=>?_⟩;rw[n1]at hjt;obtain⟨hne,h2⟩:=back j bj hj;exact hR.sep j id bj _ tj t h2 hb hne hjt ht ho
  ·refine⟨(hR.frm k r h1).1,λj bj tj hj ho hjt=>?_⟩;rw[n1]at hjt;exact(hR.frm k r h1).2 j bj tj (back j bj hj).2 ho hjt
 ·have hi:i<ds.length:=by grind
  exact(hd i ds[i] x (A0B hi) hx).rel hle hval y (hA.2 i _ y (A0B hi) hy)
 ·refine⟨hle,rfl,rfl,rfl,A0E _,λ_ _ _=>rfl,λj bj tj hj hjt=>?_,λk r hk=>.inl (by rw[<- n2];exact hk),λk r hk=>?_⟩
  ·rw[n1]at hjt;exact .inr ⟨j,bj,tj,(back j bj hj).2,λh=>h,hjt,rfl⟩
  grind
theorem D0h{H:Hp}{id u:Nat}{kd:KKey}{ks vs:List DV}(hb:H id=some ⟨u,true,[.mpc kd ks vs]⟩):∃H2,GL H [.mid id] H2 [.mp kd ks vs] :=
 ⟨nil,GL.frzm hb (λj=>.inl rfl) rfl (λi x y hx hy=>by
  match i with
  |0=>cases hx;cases hy;exact .mid
  |_+1=>grind)⟩
theorem A7v{a b:List UInt8}:B1d (.str a) (.str b)=(a==b):=id rfl
theorem A7t{s:List UInt8}:∀(l:List (List UInt8)) (i:Nat),(E7 (.str s) (l.map DV.str) i).isSome=l.contains s
 |[],i=>rfl
 |x::r,i=>by
  simp only[A0W,E7,A7v,List.contains_cons];cases h:s==x with
  |true=>simp
  |false=>simp[A7t r (i+1)]
theorem B0w{s:List UInt8}{l:List (List UInt8)}(h:l.contains s=false)(i:Nat):E7 (.str s) (l.map DV.str) i=none:=by
 have:=A7t (s:=s) l i
 simp_all
theorem C0r{s:List UInt8}{l:List (List UInt8)}(h:l.contains s=true)(i:Nat):∃j,E7 (.str s) (l.map DV.str) i=some j:=by
 have:=A7t (s:=s) l i;rw[h]at this;cases hm:E7 (.str s) (l.map DV.str) i with
 |none=>grind
 |some j=>simp
theorem B0x{k:DV}:∀ {ks:List DV} {i j:Nat},E7 k ks i=some j->i<=j/\j<i+ks.length
 |[],i,j,h=>by cases h
 |x::r,i,j,h=>by
  simp only[E7]at h;split at h
  ·grind
  ·have:=B0x h
   grind
end Go.Sym
namespace Go.Pb
variable [Go.Sym.Tab]
open Go.Sym
open Go.Eng (KKey)
def mkK(l:List (List UInt8 × DV)):List DV:=l.map λp=>.str p.1
def mvV(l:List (List UInt8 × DV)):List DV:=l.map λp=>p.2
theorem A1h{n:List UInt8}:∀(l:List (List UInt8 × DV)) (i:Nat),match E7 (.str n) (mkK l) i with
  |some j=>i<=j/\∃x,(mvV l)[j-i]? = some x/\l.lookup n=some x
  |none=>l.lookup n=none
 |[],i=>rfl
 |p::l,i=>by
  obtain⟨a,x⟩:=p;show match E7 (.str n) (.str a::mkK l) i with
   |some j=>_
   |none=>_
  rw[E7,A7v];cases h:n==a with
  |true =>
   refine⟨A0E _,x,by simp[mvV],?_⟩
   grind
  |false =>
   have ih:=A1h (n:=n) l (i+1);dsimp only;cases hf:E7 (.str n) (mkK l) (i+1) with
   |none=>grind
   |some j =>
    rw[hf]at ih;obtain⟨h1,y,h2,h3⟩:=ih;refine⟨by omega,y,?_,by grind⟩;have e:j-i=(j-(i+1))+1:=by omega
    rw[e];exact h2
theorem A6j{l:List (List UInt8 × DV)}{n:List UInt8}{x z:DV}{ok:Bool}(h:l.lookup n=some x):lkV z ok (mvV l) (E7 (.str n) (mkK l) 0)=some (match ok with
  |true=>.tup [x,.bool true]
  |false=>x):=by
 have:=A1h (n:=n) l 0;cases hf:E7 (.str n) (mkK l) 0 with
 |none=>grind
 |some j =>
  rw[hf]at this;obtain⟨-,y,h2,h3⟩:=this;rw[h3]at h;cases h;simp only[lkV]
  grind
theorem A6k{l:List (List UInt8 × DV)}{n:List UInt8}{z:DV}{ok:Bool}(h:l.lookup n=none):lkV z ok (mvV l) (E7 (.str n) (mkK l) 0)=some (match ok with
  |true=>.tup [z,.bool false]
  |false=>z):=by
 have:=A1h (n:=n) l 0;cases hf:E7 (.str n) (mkK l) 0 with
 |none=>simp only[lkV];grind
 |some j =>
  grind
theorem C4c{l:List (List UInt8 × DV)}{n:List UInt8}(h:l.lookup n=none):E7 (.str n) (mkK l) 0=none:=by
 have:=A1h (n:=n) l 0
 grind
theorem D8g{α:Type}(n:List UInt8)(a:List UInt8)(x : α):∀l:List (List UInt8 × α),(l++[(a,x)]).lookup n=(l.lookup n).or (if n==a then some x else none)
 |[]=>by grind
 |(b,y)::l=>by
  grind
def A7u(q:Int × Int):DV:=.agg [I64 q.1,I64 q.2]
def X7(l:List (List UInt8 × (Int × Int)))(n:List UInt8)(q:Int × Int):List (List UInt8 × (Int × Int)):=if(l.lookup n).isSome=true then l else l++[(n,q)]
def A0g(l:List (List UInt8 × (Int × Int))):List (List UInt8 × DV):=l.map λp=>(p.1,A7u p.2)
theorem Z6(n:List UInt8):∀l:List (List UInt8 × (Int × Int)),(A0g l).lookup n=(l.lookup n).map A7u
 |[]=>rfl
 |(a,x)::l=>by
  show((a,A7u x)::A0g l).lookup n=_;rw[List.lookup_cons,List.lookup_cons,Z6 n l]
  grind
def U2(pre:List Dc)(d:Dc):Int:=if d.kind=6\/d.kind=7\/d.kind=8 then(cnD pre d.kind:Int) else d.value
def nmD(pre:List Dc)(l:List (List UInt8 × (Int × Int))):List Dc->List (List UInt8 × (Int × Int))
 |[]=>l
 |d::r=>nmD (pre++[d]) (X7 l d.name (d.kind,U2 pre d)) r
def nmX(i:Nat)(l:List (List UInt8 × (Int × Int))):List Md->List (List UInt8 × (Int × Int))
 |[]=>l
 |m::r=>nmX (i+1) (X7 l m.name (9,(i:Int))) r
def nmL(r:Ru):List (List UInt8 × (Int × Int)):=nmX 0 (nmD [] [] r.decls) r.modes
def nmV(r:Ru):DV:=.mp .s (mkK (A0g (nmL r))) (mvV (A0g (nmL r)))
def ahS:List (Int × Nat)->Int->List (Int × Nat)
 |[],k=>[(k,1)]
 |(a,n)::l,k=>if a=k then(a,n+1)::l else(a,n)::ahS l k
def ahM(l:List Dc):List (Int × Nat):=l.foldl (λa d=>ahS a d.kind) []
def ahK(l:List (Int × Nat)):List DV:=l.map λp=>I64 p.1
def ahV(l:List (Int × Nat)):List DV:=l.map λp=>I64 (p.2:Int)
def ahN(l:List (Int × Nat))(k:Int):Nat:=match l with
 |[]=>0
 |(a,n)::r=>if a=k then n else ahN r k
theorem B6a(k:Int):∀(l:List (Int × Nat)) (i:Nat),match E7 (I64 k) (ahK l) i with
  |some j=>i<=j/\∃n:Nat,(ahV l)[j-i]? = some (I64 (n:Int))/\ahN l k=n/\(ahK l).set (j-i) (I64 k)=ahK (ahS l k)/\(ahV l).set (j-i) (I64 ((n:Int)+1))=ahV (ahS l k)
  |none=>ahN l k=0/\ahK l++[I64 k]=ahK (ahS l k)/\ahV l++[I64 1]=ahV (ahS l k)
 |[],i=>⟨rfl,rfl,rfl⟩
 |(a,n)::l,i=>by
  have e:E7 (I64 k) (ahK ((a,n)::l)) i=if k=a then some i else E7 (I64 k) (ahK l) (i+1):=by
   show E7 (I64 k) (I64 a::ahK l) i=_;rw[E7];show(match k==a with
    |true=>some i
    |false=>E7 (I64 k) (ahK l) (i+1))=_
   grind
  rw[e];by_cases h:k=a
  ·rw[if_pos h];subst h;refine⟨A0E _,n,?_,?_,?_,?_⟩
   ·simp[ahV]
   ·simp[ahN]
   ·simp[ahK,ahS]
   ·simp[ahV,ahS]
  ·rw[if_neg h];have ih:=B6a k l (i+1);have h':¬a=k:=λe=>h e.symm;have es:ahS ((a,n)::l) k=(a,n)::ahS l k:=by rw[ahS,if_neg h']
   have en:ahN ((a,n)::l) k=ahN l k:=by rw[ahN,if_neg h']
   rw[es,en];cases hf:E7 (I64 k) (ahK l) (i+1) with
   |none =>
    rw[hf]at ih;obtain⟨i1,i2,i3⟩:=ih;exact⟨i1,congrArg (I64 a :: ·) i2,congrArg (I64 (n:Int) :: ·) i3⟩
   |some j =>
    rw[hf]at ih;obtain⟨i0,m,i1,i2,i3,i4⟩:=ih;have ej:j-i=(j-(i+1))+1:=by omega
    dsimp only;rw[ej];exact⟨by omega,m,i1,i2,congrArg (I64 a :: ·) i3,congrArg (I64 (n:Int) :: ·) i4⟩
theorem D8x(k a:Int):∀l:List (Int × Nat),ahN (ahS l a) k=ahN l k+(if a=k then 1 else 0)
 |[]=>by simp[ahS,ahN]
 |(b,n)::l=>by
  rw[ahS];by_cases h:b=a
  ·subst h;rw[if_pos rfl,ahN,ahN]
   grind
  ·rw[if_neg h,ahN,ahN,D8x k a l]
   grind
theorem B2f(l:List Dc)(d:Dc):ahM (l++[d])=ahS (ahM l) d.kind:=by
 unfold ahM;simp
theorem D3k(l:List Dc)(d:Dc)(k:Int):cnD (l++[d]) k=cnD l k+(if d.kind=k then 1 else 0):=by
 unfold cnD;simp
theorem D3z:∀(m:Nat) (l:List Dc),l.length<=m->∀k,ahN (ahM l) k=cnD l k:=by
 intro m
 induction m with
 |zero =>
  intro l hl k;have:l=[]:=A2A (by omega);subst this;rfl
 |succ m ih =>
  intro l hl k;by_cases h:l=[]
  ·grind
  ·obtain⟨l',d,rfl⟩:∃l' d,l=l'++[d]:=⟨l.dropLast,l.getLast h,(List.dropLast_concat_getLast h).symm⟩;rw[B2f,D8x,D3k,ih l' (by grind)]
theorem C2a(l:List Dc)(k:Int):ahN (ahM l) k=cnD l k:=D3z _ l (A0E _) k
theorem B7n{D:List Dc}{i:Nat}{d:Dc}{l:List (List UInt8 × (Int × Int))}(h:D[i]? = some d):nmD (D.take i) l (D.drop i)=nmD (D.take (i+1)) (X7 l d.name (d.kind,U2 (D.take i) d)) (D.drop (i+1)):=by
 have hlt:=(A0N.1 h).1;rw[A1F hlt,(A0N.1 h).2,nmD,T8 h]
theorem B7m{M:List Md}{i:Nat}{m:Md}{l:List (List UInt8 × (Int × Int))}(h:M[i]? = some m):nmX i l (M.drop i)=nmX (i+1) (X7 l m.name (9,(i:Int))) (M.drop (i+1)):=by
 have hlt:=(A0N.1 h).1;rw[A1F hlt,(A0N.1 h).2,nmX]
theorem C1o(l:List Dc)(k:Int):cnD l k<=l.length:=List.countP_le_length
theorem C5h(k:Int)(a:List (Int × Nat)):Sym.lkV (I64 0) false (ahV a) (E7 (I64 k) (ahK a) 0)=some (I64 (ahN a k:Int)):=by
 have:=B6a k a 0;cases hf:E7 (I64 k) (ahK a) 0 with
 |none =>
  rw[hf]at this;obtain⟨h, -, -⟩:=this;rw[h];rfl
 |some j =>
  rw[hf]at this;obtain⟨-,n,h1,h2, -, -⟩:=this;rw[h2];simp only[Sym.lkV]
  grind
theorem D8w(k:Int)(a:List (Int × Nat))(H:Hp)(c id u:Nat):muV H c id u (.i .i64) (ahK a) (ahV a) (I64 k) (I64 ((ahN a k:Int)+1)) (E7 (I64 k) (ahK a) 0)=some (.tup [],H.upd id ⟨u,true,[.mpc (.i .i64) (ahK (ahS a k)) (ahV (ahS a k))]⟩,c):=by
 have:=B6a k a 0;cases hf:E7 (I64 k) (ahK a) 0 with
 |none =>
  rw[hf]at this;obtain⟨h,h1,h2⟩:=this;rw[h];simp only[muV]
  grind
 |some j =>
  rw[hf]at this;obtain⟨-,n,h1,h2,h3,h4⟩:=this;rw[h2];simp only[muV]
  grind
def Y5(l:List Dc):Prop:=∀d∈l,1<=d.kind/\d.kind<=8
theorem D9g{r:Ru}(h:L9 r=true):Y5 r.decls:=by
 intro d hd;unfold L9 at h;simp only[A0D]at h;have h1:=A0S.1 h.1.2 d hd;unfold A0d at h1
 grind
theorem B0i(l:List (List UInt8 × (Int × Int)))(a n:List UInt8)(q:Int × Int):(X7 l a q).lookup n=(l.lookup n).or (if n==a then some q else none):=by
 unfold X7;split
 ·rename_i h;cases hn:n==a with
  |false=>simp
  |true =>
   have e:n=a:=by simpa using hn
   subst e;cases hl:l.lookup n with
   |none=>rw[hl]at h;cases h
   |some x=>rfl
 grind
theorem B0t(n:List UInt8):∀(M:List Md) (i:Nat) (l:List (List UInt8 × (Int × Int))),(nmX i l M).lookup n=(l.lookup n).or (lkM i M n)
 |[],i,l=>by rw[nmX,lkM,A3N]
 |m::M,i,l=>by
  rw[nmX,B0t n M,B0i,lkM,A2V]
  grind
theorem B0u(n:List UInt8):∀(D pre:List Dc) (l:List (List UInt8 × (Int × Int))),Y5 D->(nmD pre l D).lookup n=(l.lookup n).or (lkD pre D n)
 |[],pre,l,_=>by rw[nmD,lkD,A3N]
 |d::D,pre,l,hk=>by
  obtain⟨k1,k2⟩:=hk d A0J;rw[nmD,B0u n D _ _ (λx hx=>hk x (A0G _ hx)),B0i,lkD,A2V];by_cases h:d.name=n
  ·rw[if_pos h,if_pos (by simp[h])];have e:U2 pre d=(if d.kind<6 then d.value else(cnR ⟨pre,[]⟩ d.kind:Int)):=by
    unfold U2 cnR;by_cases h6:d.kind<6
    ·rw[if_pos h6,if_neg (by omega)]
    ·rw[if_neg h6,if_pos (by omega),if_neg (by omega)]
   rw[e];rfl
  grind
theorem B2z{r:Ru}(hk:Y5 r.decls)(n:List UInt8):(nmL r).lookup n=(lkD [] r.decls n).or (lkM 0 r.modes n):=by
 unfold nmL;rw[B0t,B0u n _ _ _ hk];simp
theorem C0v(r:Ru)(n:List UInt8):F3 r n=((lkD [] r.decls n).or (lkM 0 r.modes n)).getD (0,0):=by
 unfold F3
 grind
theorem C0x{n:List UInt8}:∀ {D pre:List Dc} {q:Int × Int},Y5 D->lkD pre D n=some q->q.1≠0
 |d::D,pre,q,hk,h=>by
  rw[lkD]at h;split at h
  ·cases h;have:=hk d A0J;omega
  ·exact C0x (λx hx=>hk x (A0G _ hx)) h
theorem C0w{n:List UInt8}:∀ {M:List Md} {i:Nat} {q:Int × Int},lkM i M n=some q->q.1≠0
 |m::M,i,q,h=>by
  rw[lkM]at h;split at h
  ·grind
  ·exact C0w h
theorem C3r{r:Ru}(hk:Y5 r.decls){n:List UInt8}{q:Int × Int}(h:(nmL r).lookup n=some q):F3 r n=q/\q.1≠0:=by
 rw[B2z hk]at h;rw[C0v,h];refine⟨rfl,?_⟩;cases hd:lkD [] r.decls n with
 |some p=>rw[hd]at h;cases h;exact C0x hk hd
 |none=>rw[hd]at h;exact C0w h
theorem C3s{r:Ru}(hk:Y5 r.decls){n:List UInt8}(h:(nmL r).lookup n=none):F3 r n=(0,0):=by
 rw[B2z hk]at h;rw[C0v,h];rfl
def upS(s:Int × Int)(o:Er):Int × Int:=if s.2=0 then o.getD s else s
theorem L4{s:Int × Int}{a b:Er}(ha:NzE a):upS (upS s a) b=upS s (a.or b):=by
 unfold upS;by_cases h:s.2=0
 ·cases a with
  |none=>simp[h]
  |some q =>
   have:=ha q.1 q.2 rfl;simp[h,this]
 grind
theorem L5(s:Int × Int):upS s none=s:=by unfold upS;simp
theorem C8c(s:Int × Int)(p e:Int)(h:e≠0):upS (upS s (some (p,e))) (some (p,e))=upS s (some (p,e)):=by
 rw[L4 (λa b hq=>by grind)];rfl
def D4j(k:Int):Bool:=(k==3||k==4||k==5||k==6||k==11||k==23||k==24)||(decide (17<=k)&&decide (k<=22))
theorem D4i{k:Int}(h:k<=24):D4j k=C7p k:=by
 unfold D4j C7p
 grind
theorem C3y{e:Ex}{q:Nat × Nat}(h:msM e=some q):e.kind<=24:=by
 cases e with|mk k v n a p =>
 obtain⟨o,d⟩:=q;obtain⟨m1, -⟩:=B0v h;show k<=24;unfold kOk at m1;simp only[A1H,A0D,A0I]at m1;rcases m1 with m1|m1
 ·have:=B5g m1;omega
 omega
theorem A9r(D:List Dc)(M:List Md)(n:List UInt8)(hk:Y5 D):(F3 ⟨D,M⟩ n).1=0↔D.any (λd=>d.name==n)=false/\M.any (λd=>d.name==n)=false:=by
 have hD:∀(D pre:List Dc),lkD pre D n=none↔D.any (λd=>d.name==n)=false:=by
  intro D
  induction D with
  |nil=>intro pre;simp[lkD]
  |cons d D ih =>
   intro pre;rw[lkD]
   grind
 have hM:∀(M:List Md) (i:Nat),lkM i M n=none↔M.any (λd=>d.name==n)=false:=by
  intro M
  induction M with
  |nil=>intro pre;simp[lkM]
  |cons d D ih =>
   intro pre;rw[lkM]
   grind
 rw[C0v, <- hD D [], <- hM M 0];dsimp only;cases h1:lkD [] D n with
 |some q =>
  have:=C0x hk h1
  grind
 |none =>
  cases h2:lkM 0 M n with
  |some q =>
   have:=C0w h2
   grind
  |none=>simp
theorem B3q{r:Ru}{x:Ex}:∀ {l:List Ex} {i:Nat},l[i]? = some x->W3 r (l.take (i+1))=(W3 r (l.take i)).or (erE r x)
 |y::l,0,h=>by cases h;simp[W3]
 |y::l,i+1,h=>by
  rw[A1E,A1E,W3,W3,B3q (by simpa using h),A2V]
theorem B8q{r:Ru}{b:Bool}{x:Ex}:∀ {l:List Ex} {i:Nat},l[i]? = some x->erA r b (l.take (i+1))=(erA r b (l.take i)).or ((erE r x).or (if(M3 x.kind==2)=b then none else some (x.pos,49)))
 |y::l,0,h=>by cases h;simp[erA]
 |y::l,i+1,h=>by
  rw[A1E,A1E,erA,erA,B8q (by simpa using h)];grind
theorem B8p{r:Ru}{x:St}:∀ {l:List St} {i:Nat},l[i]? = some x->erB r (l.take (i+1))=(erB r (l.take i)).or (erS r x)
 |y::l,0,h=>by cases h;simp[erB]
 |y::l,i+1,h=>by
  rw[A1E,A1E,erB,erB,B8p (by simpa using h),A2V]
theorem E7o(r:Ru)(e:Ex):erE r e=((W3 r e.args).or (dnE r e.name (kdE e.kind) e.pos)).or (if e.args.all (λx=>M3 x.kind==A1c e.kind e.args)=true then none else some (e.pos,49)):=by
 cases e with|mk k v n a p=>rfl
def stD(pre:List Dc)(d:Dc):Er:=(if d.value>A4l d.kind then some (d.pos,5) else none:Er).or (if(F3 ⟨pre,[]⟩ d.name).1=0 then none else some (d.pos,7))
def stP(D:List Dc)(pre:List Md)(m:Md):Er:=(if m.prio>99 then some (m.pos,5) else none:Er).or (if(F3 ⟨D,pre⟩ m.name).1=0 then none else some (m.pos,7))
theorem B8n(d:Dc):∀(l pre:List Dc),erD pre (l++[d])=(erD pre l).or (stD (pre++l) d)
 |[],pre=>by rw[List.nil_append,erD,erD,erD,A0X,A3N,A1V];rfl
 |x::l,pre=>by rw[List.cons_append,erD,erD,B8n d l,A0Q];grind
theorem B8j(D:List Dc)(m:Md):∀(l pre:List Md),erP D pre (l++[m])=(erP D pre l).or (stP D (pre++l) m)
 |[],pre=>by rw[List.nil_append,erP,erP,erP,A0X,A3N,A1V];rfl
 |x::l,pre=>by rw[List.cons_append,erP,erP,B8j D m l,A0Q];grind
theorem D2s{D:List Dc}{i:Nat}{d:Dc}(h:D[i]? = some d):erD [] (D.take (i+1))=(erD [] (D.take i)).or (stD (D.take i) d):=by
 rw[<- T8 h,B8n];rfl
theorem D2n{D:List Dc}{M:List Md}{i:Nat}{m:Md}(h:M[i]? = some m):erP D [] (M.take (i+1))=(erP D [] (M.take i)).or (stP D (M.take i) m):=by
 rw[<- T8 h,B8j];rfl
def W8(l:List (List UInt8)):List (List UInt8 × DV):=l.map λn=>(n,DV.bool true)
theorem A1u(n:List UInt8):∀l:List (List UInt8),(W8 l).lookup n=if l.contains n=true then some (DV.bool true) else none
 |[]=>rfl
 |a::l=>by
  show((a,DV.bool true)::W8 l).lookup n=_;rw[List.lookup_cons,A1u n l,List.contains_cons]
  grind
def A8x(l:List (List UInt8))(n:List UInt8):List (List UInt8):=if l.contains n=true then l else l++[n]
theorem B6t(l:List (List UInt8))(n m:List UInt8):(A8x l n).contains m=(l.contains m||m==n):=by
 unfold A8x
 grind
theorem B3b{n:List UInt8}:∀(l:List (List UInt8)) (i j:Nat),E7 (.str n) (mkK (W8 l)) i=some j->(mkK (W8 l)).set (j-i) (.str n)=mkK (W8 l)/\(mvV (W8 l)).set (j-i) (.bool true)=mvV (W8 l)
 |[],i,j,h=>by cases h
 |a::l,i,j,h=>by
  have h:E7 (.str n) (.str a::mkK (W8 l)) i=some j:=h;rw[E7,A7v]at h;cases ha:n==a with
  |true =>
   rw[ha]at h;cases h;have e:n=a:=by simpa using ha
   subst e;rw[Nat.sub_self]
   trivial
  |false =>
   rw[ha]at h;dsimp only at h;have hlt:=B0x h;obtain⟨h1,h2⟩:=B3b l (i+1) j h;have ej:j-i=(j-(i+1))+1:=by omega
   rw[ej];exact⟨congrArg (DV.str a :: ·) h1,congrArg (DV.bool true :: ·) h2⟩
theorem E0h(n:List UInt8)(l:List (List UInt8))(H:Hp)(c id u:Nat):muV H c id u .s (mkK (W8 l)) (mvV (W8 l)) (.str n) (.bool true) (E7 (.str n) (mkK (W8 l)) 0)=some (.tup [],H.upd id ⟨u,true,[.mpc .s (mkK (W8 (A8x l n))) (mvV (W8 (A8x l n)))]⟩,c):=by
 have hl:=A1u n l;have hf:=A1h (n:=n) (W8 l) 0;cases hm:E7 (.str n) (mkK (W8 l)) 0 with
 |none =>
  rw[hm]at hf;rw[hf]at hl;have hc:l.contains n=false:=by
   cases h:l.contains n with
   |false=>rfl
   |true=>rw[h]at hl;cases hl
  have e:A8x l n=l++[n]:=by unfold A8x;rw[if_neg (by rw[hc];decide)]
  rw[e];simp only[muV];have e1:mkK (W8 (l++[n]))=mkK (W8 l)++[.str n]:=by simp[mkK,W8]
  have e2:mvV (W8 (l++[n]))=mvV (W8 l)++[.bool true]:=by simp[mvV,W8]
  grind
 |some j =>
  rw[hm]at hf;obtain⟨-,x, -,h3⟩:=hf;rw[h3]at hl;have hc:l.contains n=true:=by
   cases h:l.contains n with
   |true=>rfl
   |false=>rw[h]at hl;simp at hl
  have e:A8x l n=l:=by unfold A8x;rw[if_pos hc]
  rw[e];simp only[muV];obtain⟨h1,h2⟩:=B3b l 0 j hm
  grind
theorem E0i(n:List UInt8)(l:List (List UInt8)):Sym.lkV (.bool false) false (mvV (W8 l)) (E7 (.str n) (mkK (W8 l)) 0)=some (.bool (l.contains n)):=by
 cases h:l.contains n with
 |true=>exact A6j (ok:=false) (by rw[A1u,if_pos h])
 |false=>exact A6k (ok:=false) (by rw[A1u,if_neg (by grind)])
def stH(r:Ru)(pre:List Hd)(h:Hd):Er:=((dnE r h.name (kdH h.trig) h.pos).or (if pre.any (λx=>x.trig==h.trig&&x.name==h.name)=true then some (h.pos,7) else none)).or (erB r h.body)
theorem B8m(r:Ru)(h:Hd):∀(l pre:List Hd),erH r pre (l++[h])=(erH r pre l).or (stH r (pre++l) h)
 |[],pre=>by rw[List.nil_append,erH,erH,erH,A0X,A3N,A1V];rfl
 |x::l,pre=>by rw[List.cons_append,erH,erH,B8m r h l,A0Q];grind
theorem D2q{r:Ru}{l:List Hd}{i:Nat}{h:Hd}(hg:l[i]? = some h):erH r [] (l.take (i+1))=(erH r [] (l.take i)).or (stH r (l.take i) h):=by
 rw[<- T8 hg,B8m];rfl
theorem B8k{r:Ru}{x:Md}:∀ {l:List Md} {i:Nat},l[i]? = some x->erM r (l.take (i+1))=(erM r (l.take i)).or (erH r [] x.hds)
 |y::l,0,h=>by cases h;simp[erM]
 |y::l,i+1,h=>by
  rw[A1E,A1E,erM,erM,B8k (by simpa using h),A2V]
theorem E3e(e:Er):erV e=.tup [I64 (upS (0,0) e).1,I64 (upS (0,0) e).2]:=by
 cases e<;>rfl
theorem C3w{α:Type}[DecidableEq α]{l:List α}{x : α}:(l++[x]).Nodup↔l.Nodup/\x ∉ l:=by
 grind
theorem B9f{D:List Dc}{n:List UInt8}:D.any (λd=>d.name==n)=false↔n ∉ D.map Dc.name:=by
 simp
theorem C7s{D:List Md}{n:List UInt8}:D.any (λd=>d.name==n)=false↔n ∉ D.map Md.name:=by
 simp
theorem Y5.app{a b:List Dc}:Y5 (a++b)↔Y5 a/\Y5 b :=
 ⟨λh=>⟨λd hd=>h d (A3K _ hd),λd hd=>h d (A4H _ hd)⟩,λh d hd=>(A1A.1 hd).elim (h.1 d) (h.2 d)⟩
theorem C4l{b:Prop}[Decidable b]{q:Int × Int}:((if b then some q else none):Er)=none↔¬b:=by
 simp
theorem B7y{b:Prop}[Decidable b]{q:Int × Int}:((if b then none else some q):Er)=none↔b:=by
 simp
theorem B8o:∀(D pre:List Dc),Y5 (pre++D)->(pre.map Dc.name).Nodup->(erD pre D=none↔(∀d∈D,¬d.value>A4l d.kind)/\((pre++D).map Dc.name).Nodup)
 |[],pre,hk,hn=>by rw[erD,A0X];grind
 |d::l,pre,hk,hn=>by
  have hk':Y5 ((pre++[d])++l):=by grind
  have hkp:Y5 pre:=(Y5.app.1 hk).1;have hl:=A9r pre [] d.name hkp;rw[B9f]at hl;rw[erD,A1G,A1G,C4l,B7y,hl];have e:pre++d::l=(pre++[d])++l:=by simp
  by_cases hm:d.name∈pre.map Dc.name
  ·grind
  ·have hn':((pre++[d]).map Dc.name).Nodup:=by rw[A0T];exact C3w.2 ⟨hn,hm⟩
   rw[B8o l (pre++[d]) hk' hn',e]
   grind
theorem B1m{D:List Dc}(hk:Y5 D):∀(M pre:List Md),(D.map Dc.name++pre.map Md.name).Nodup->(erP D pre M=none↔(∀m∈M,¬m.prio>99)/\(D.map Dc.name++(pre++M).map Md.name).Nodup)
 |[],pre,hn=>by rw[erP,A0X];grind
 |m::l,pre,hn=>by
  have hl:=A9r D pre m.name hk;rw[B9f,C7s]at hl;rw[erP,A1G,A1G,C4l,B7y,hl];have e:pre++m::l=(pre++[m])++l:=by simp
  have e2:D.map Dc.name++(pre++[m]).map Md.name=(D.map Dc.name++pre.map Md.name)++[m.name]:=by simp
  by_cases hm:m.name∈D.map Dc.name++pre.map Md.name
  ·grind
  ·have hn':(D.map Dc.name++(pre++[m]).map Md.name).Nodup:=by rw[e2];exact C3w.2 ⟨hn,hm⟩
   rw[B1m hk l (pre++[m]) hn',e]
   grind
def E2t(D:List Dc)(M:List Md):Prop:=(∀d∈D,¬d.value>A4l d.kind)/\(∀m∈M,¬m.prio>99)/\(D.map Dc.name++M.map Md.name).Nodup
theorem D1q{D:List Dc}{M:List Md}(hk:Y5 D):A7y ⟨D,M⟩=none↔E2t D M:=by
 unfold A7y E2t;rw[A1G,B8o D [] hk List.nodup_nil];show(_/\(D.map Dc.name).Nodup)/\erP D [] M=none↔_;constructor
 ·rintro⟨⟨h1,h2⟩,h3⟩;obtain⟨h4,h5⟩:=(B1m hk M [] (by simpa using h2)).1 h3
  grind
 ·rintro⟨h1,h4,h5⟩;have h2:(D.map Dc.name).Nodup:=(List.nodup_append.1 h5).1;exact⟨⟨h1,h2⟩,(B1m hk M [] (by grind)).2 ⟨h4,h5⟩⟩
def SmK(r r':Ru):Prop:=∀n,(F3 r n).1=(F3 r' n).1
section
variable {r r':Ru} (h:SmK r r')
include h
end
theorem B8l{r:Ru}:∀ {l:List Md},erM r l=none↔∀m∈l,erH r [] m.hds=none
 |[]=>by rw[erM];simp
 |x::l=>by
  rw[erM,A1G,B8l];simp
section
variable {r r':Ru} (h:SmK r' r)
include h
end
def NmR(r:Ru)(q:Int × Int):Prop:=0<=q.2/\(q.1<6->1<=q.1/\q.2<=A4l q.1)/\(6<=q.1->q.2<(cnR r q.1:Int)/\q.1<=9)
theorem D7d(a b:List Dc)(k:Int):cnD (a++b) k=cnD a k+cnD b k:=by simp[cnD,List.countP_append]
theorem E3n{r:Ru}{pre l:List Dc}{d:Dc}(h:r.decls=pre++d::l)(hk:¬d.kind=9):cnR ⟨pre,[]⟩ d.kind<cnR r d.kind:=by
 unfold cnR;rw[if_neg hk,if_neg hk,h,D7d];have:1<=cnD (d::l) d.kind:=by
  unfold cnD;rw[List.countP_cons];simp
 grind
theorem C4h{r:Ru}{n:List UInt8}:∀ {l pre:List Dc} {q:Int × Int},r.decls=pre++l->(∀d∈l,A0d d=true/\¬d.value>A4l d.kind)->lkD pre l n=some q->NmR r q
 |[],_,_,_,_,h=>by cases h
 |d::l,pre,q,e,hd,h=>by
  rw[lkD]at h;split at h
  ·cases h;obtain⟨h1,h2⟩:=hd d A0J;unfold A0d at h1;simp only[A0D,A0I]at h1;obtain⟨⟨⟨⟨k1,k2⟩, -⟩,k3⟩,k4⟩:=h1;by_cases h6:d.kind<6
   ·refine⟨?_,λ_=>⟨k1,?_⟩,λh=>absurd h6 (by simp only at h;omega)⟩
    ·simp only[h6,if_true];rw[if_neg (by omega)]at k3;exact k3
    grind
   ·refine⟨?_,λh=>absurd h h6,λ_=>⟨?_,by omega⟩⟩
    ·omega
    ·simp only[h6,if_false];have:=E3n (r:=r) e (by omega:¬d.kind=9);omega
  ·exact C4h (pre:=pre++[d]) (by grind) (λx hx=>hd x (A0G _ hx)) h
theorem C4g{r:Ru}{n:List UInt8}:∀ {l:List Md} {i:Nat} {q:Int × Int},i+l.length=r.modes.length->lkM i l n=some q->NmR r q
 |[],_,_,_,h=>by cases h
 |m::l,i,q,e,h=>by
  rw[lkM]at h;split at h
  ·cases h;refine⟨A2K _,λh=>absurd h (by show ¬(9:Int)<6;decide),λ_=>⟨?_,by show(9:Int)<=9;decide⟩⟩;show(i:Int)<(cnR r 9:Int);unfold cnR
   grind
  ·exact C4g (by grind) h
structure ChkR (r:Ru):Prop where
 vl:L9 r=true
 ck:A4p r=none
theorem ChkR.decl{r:Ru}(h:ChkR r):∀d∈r.decls,A0d d=true:=by
 have:=h.vl;unfold L9 at this
 grind
theorem ChkR.mode{r:Ru}(h:ChkR r):∀d∈r.modes,R0 d=true:=by
 have:=h.vl;unfold L9 at this
 grind
theorem ChkR.lens{r:Ru}(h:ChkR r):r.decls.length<=128/\r.modes.length<=16:=by
 have:=h.vl;unfold L9 at this
 grind
theorem ChkR.kd{r:Ru}(h:ChkR r):Y5 r.decls:=by
 intro d hd;have:=h.decl d hd;unfold A0d at this
 grind
theorem ChkR.hea{r:Ru}(h:ChkR r):E2t r.decls r.modes:=by
 have:=h.ck;unfold A4p at this;rw[A1G]at this;exact(D1q h.kd).1 this.1
theorem ChkR.erm{r:Ru}(h:ChkR r):∀m∈r.modes,erH r [] m.hds=none:=by
 have:=h.ck;unfold A4p at this;rw[A1G]at this;exact B8l.1 this.2
theorem ChkR.num{r:Ru}(h:ChkR r){n:List UInt8}(hn:¬(F3 r n).1=0):NmR r (F3 r n):=by
 unfold F3 at hn ⊢;cases h1:lkD [] r.decls n with
 |some q=>exact C4h (r:=r) (pre:=[]) rfl (λd hd=>⟨h.decl d hd,h.hea.1 d hd⟩) h1
 |none =>
  rw[h1]at hn;cases h2:lkM 0 r.modes n with
  |some q=>exact C4g (r:=r) (by simp) h2
  |none=>grind
theorem ChkR.den{r:Ru}(h:ChkR r){n:List UInt8}{k:Int}(hk:¬k=0)(hd:dnM r n k=0):(F3 r n).1=k:=by
 unfold dnM at hd;omega
theorem B1e{n:List UInt8}(h:D7 n=true):n≠[]:=by
 rintro rfl
 trivial
theorem B7s{n:List UInt8}:∀ {l pre:List Dc},(∀d∈l,d.name≠n)->lkD pre l n=none
 |[],_,_=>rfl
 |d::l,pre,h=>by rw[lkD,if_neg (h d A0J)];exact B7s λx hx=>h x (A0G _ hx)
theorem B7r{n:List UInt8}:∀ {l:List Md} {i:Nat},(∀d∈l,d.name≠n)->lkM i l n=none
 |[],_,_=>rfl
 |d::l,i,h=>by rw[lkM,if_neg (h d A0J)];exact B7r λx hx=>h x (A0G _ hx)
theorem ChkR.nil{r:Ru}(h:ChkR r):F3 r []=(0,0):=by
 unfold F3;rw[B7s (λd hd=>by
  have:=h.decl d hd;unfold A0d at this;simp only[A0D,A0I]at this;exact B1e this.1.1.2),B7r (λd hd=>by
  have:=h.mode d hd;unfold R0 at this;simp only[A0D,A0I]at this;exact B1e this.1.1.1.1)]
structure Hdr (r:Ru) (m:Nat) (c:Prg):Prop where
 va:c.vars.length=cnR r 6
 pr:c.prios.length=r.modes.length
 ti:c.timers=(cnR r 7:Int)
 ev:c.events=(cnR r 8:Int)
 st:m<=c.strings.length
theorem Hdr.le{r:Ru}{m n:Nat}{c:Prg}(h:Hdr r n c)(hm:m<=n):Hdr r m c:=⟨h.va,h.pr,h.ti,h.ev,A1D hm h.st⟩
def NI(r:Ru)(m:Nat)(i:Ins):Prop:=∀c:Prg,Hdr r m c->D3 c i=true
theorem NI.le{r:Ru}{m n:Nat}{i:Ins}(h:NI r m i)(hm:m<=n):NI r n i:=λc hc=>h c (hc.le hm)
theorem M4{a lo hi:Int}(h1:lo<=a)(h2:a<=hi):inM a lo hi=true:=by unfold inM;grind
theorem NmR.ni{r:Ru}{q:Int × Int}(h:NmR r q){m:Nat}{op:Int}(hq:(q.1=1/\(D2 op).2.2=3)\/(q.1=2/\(D2 op).2.2=8)\/((q.1=3\/q.1=4\/q.1=5)/\(D2 op).2.2=9)\/(q.1=6/\(D2 op).2.2=2) \/
  (q.1=7/\(D2 op).2.2=5)\/(q.1=8/\(D2 op).2.2=10)\/(q.1=9/\(D2 op).2.2=4)):NI r m ⟨op,q.2⟩:=by
 obtain⟨q1,q2⟩:=q;obtain⟨h0,h1,h2⟩:=h;simp only at hq h0 h1 h2;intro c hc;unfold D3;rcases hq with ⟨rfl,e⟩|⟨rfl,e⟩|⟨hh,e⟩|⟨rfl,e⟩|⟨rfl,e⟩|⟨rfl,e⟩|⟨rfl,e⟩
 ·have:=(h1 (by simp)).2;simp only[e,G7];exact M4 h0 this
 ·have:=(h1 (by simp)).2;simp only[e,G7];exact M4 h0 this
 ·have h63:q2<=63:=by
   rcases hh with rfl|rfl|rfl
   ·exact(h1 (by simp)).2
   ·exact(h1 (by simp)).2
   ·exact(h1 (by simp)).2
  simp only[e,G7];exact M4 h0 h63
 ·have:=(h2 (by simp)).1;simp only[e,G7];exact M4 h0 (by rw[hc.va];omega)
 ·have:=(h2 (by simp)).1;simp only[e,G7];exact M4 h0 (by rw[hc.ti];omega)
 ·have:=(h2 (by simp)).1;simp only[e,G7];exact M4 h0 (by rw[hc.ev];omega)
 ·have:=(h2 (by simp)).1;have e9:cnR r 9=r.modes.length:=by rfl
  simp only[e,G7];exact M4 h0 (by rw[hc.pr];omega)
theorem A3x{r:Ru}{m:Nat}{op:Int}(h:(D2 op).2.2=0):NI r m ⟨op,0⟩:=λc hc=>by
 unfold D3;simp only[h,G7];rfl
theorem A6e{r:Ru}{m:Nat}{op a:Int}(h:(D2 op).2.2=7):NI r m ⟨op,a⟩:=λc hc=>by
 unfold D3;simp only[h,G7];rfl
def NdE(r:Ru)(k v:Int)(n:List UInt8):Prop:=kOk k=true/\A2v k v=true/\dnM r n (kdE k)=0
theorem E5n{r:Ru}(h:ChkR r){k v:Int}{n:List UInt8}(hn:NdE r k v n)(m:Nat):NI r m (A2q (λn=>(F3 r n).2) k v n):=by
 obtain⟨h1,h2,h3⟩:=hn;have h24:1<=k/\k<=24:=by
  unfold kOk at h1;rw[A1H,A0D,A0I,A0I,A0I]at h1;rcases h1 with h|h
  ·unfold B0 at h;repeat' split at h
   all_goals first|omega|(simp at *;omega)
  omega
 have hd:∀ {q:Int},¬q=0->kdE k=q->(F3 r n).1=q/\NmR r (F3 r n):=λhq e=>by
  rw[e]at h3;have e1:=h.den hq h3;exact⟨e1,h.num (by omega)⟩
 unfold A2q;by_cases k1:k=1
 ·rw[if_pos k1];intro c hc;have hv : -2147483647<=v/\v<=2147483647:=by
   unfold A2v at h2
   grind
  unfold D3;exact M4 hv.1 hv.2
 rw[if_neg k1];by_cases k3:k=3
 ·rw[if_pos k3];exact λc hc=>rfl
 rw[if_neg k3];by_cases k4:k=4
 ·rw[if_pos k4];exact λc hc=>rfl
 rw[if_neg k4];by_cases k2:k=2
 ·rw[if_pos k2];obtain⟨e1,e2⟩:=hd (q:=6) (by simp) (by rw[k2];rfl);exact e2.ni (.inr (.inr (.inr (.inl ⟨e1,by rfl⟩))))
 rw[if_neg k2];by_cases k5:k=5
 ·rw[if_pos k5];obtain⟨e1,e2⟩:=hd (q:=1) (by simp) (by rw[k5];rfl);exact e2.ni (.inl ⟨e1,by rfl⟩)
 rw[if_neg k5];by_cases k6:k=6
 ·rw[if_pos k6];obtain⟨e1,e2⟩:=hd (q:=9) (by simp) (by rw[k6];rfl);exact e2.ni (.inr (.inr (.inr (.inr (.inr (.inr ⟨e1,by rfl⟩))))))
 rw[if_neg k6];by_cases k7:k=7
 ·rw[if_pos k7];obtain⟨e1,e2⟩:=hd (q:=7) (by simp) (by rw[k7];rfl);exact e2.ni (.inr (.inr (.inr (.inr (.inl ⟨e1,by rfl⟩)))))
 rw[if_neg k7];by_cases k8:k=8
 ·rw[if_pos k8];exact A3x (by rfl)
 rw[if_neg k8];by_cases k9:k=9
 ·rw[if_pos k9];exact A3x (by rfl)
 rw[if_neg k9];by_cases k10:k=10
 ·rw[if_pos k10];exact A3x (by rfl)
 rw[if_neg k10];by_cases k11:k=11
 ·rw[if_pos k11];exact A3x (by rfl)
 rw[if_neg k11];intro c hc;unfold D3;exact M4 (show(12:Int)<=k by omega) (show k<=24 by omega)
mutual
theorem D0v{r:Ru}(h:ChkR r)(m:Nat):∀ {e:Ex} {o d:Nat},msM e=some (o,d)->erE r e=none->∀i∈cgE (λn=>(F3 r n).2) e,NI r m i
 |.mk k v n a p,o,d,h1,h2,i,hi=>by
  rw[erE,A1G,A1G]at h2;obtain⟨⟨g1,g2⟩, -⟩:=h2;rw[msM]at h1;split at h1
  ·grind
  ·rename_i g;have k1:kOk k=true:=Classical.byContradiction λe=>g (.inl (by grind));have k2:A2v k v=true:=Classical.byContradiction λe=>g (.inr (.inr (.inr (by grind))));have k0:a.length=J4 k:=Classical.byContradiction λe=>g (.inr (.inl e));have k3:dnM r n (kdE k)=0:=by
    unfold dnE at g2
    grind
   rw[cgE]at hi;rcases A1A.1 hi with hi|hi
   ·split at h1
    ·rename_i hc;have:a=[]:=A2I.1 (by omega);subst this
     trivial
    ·split at h1
     ·grind
     ·rename_i o2 d2 g4;exact C3t h m g4 g1 i hi
   ·rw[A1L]at hi;subst hi;exact E5n h ⟨k1,k2,k3⟩ m
theorem C3t{r:Ru}(h:ChkR r)(m:Nat):∀ {l:List Ex} {k:Int} {j o d:Nat},msL k j l=some (o,d)->W3 r l=none->∀i∈C4 (λn=>(F3 r n).2) l,NI r m i
 |[],_,_,_,_,_,_,i,hi=>by trivial
 |e::l,k,j,o,d,h1,h2,i,hi=>by
  rw[W3,A1G]at h2;rw[msL]at h1;split at h1
  ·grind
  ·rename_i o1 d1 g1;split at h1
   ·grind
   ·rename_i o2 d2 g2;rw[C4]at hi;rcases A1A.1 hi with hi|hi
    ·exact D0v h m g1 h2.1 i hi
    ·exact C3t h m g2 h2.2 i hi
end
theorem D9s(S:List (List UInt8))(t:List UInt8):S.length<=(txS S t).2.length:=by
 unfold txS;grind
theorem D9r(S:List (List UInt8))(t:List UInt8):(txS S t).1<(txS S t).2.length:=by
 unfold txS;grind
theorem D4g{S:List (List UInt8)}{t x:List UInt8}(h:x∈(txS S t).2):x∈S\/x=t:=by
 unfold txS at h;grind
mutual
theorem D3n(nm:List UInt8->Int):∀(s:St) (p:Nat) (S:List (List UInt8)),S.length<=(cgS nm p S s).2.length
 |.mk k n t a x y q,p,S=>by
  rw[cgS];split
  ·split
   ·exact Z8 nm x _ S
   ·exact A1D (Z8 nm x _ S) (Z8 nm y _ _)
  ·split
   ·exact Z8 nm x _ S
   ·split
    ·exact D9s S t
    simp
theorem Z8(nm:List UInt8->Int):∀(l:List St) (p:Nat) (S:List (List UInt8)),S.length<=(cgB nm p S l).2.length
 |[],_,_=>A0E _
 |s::l,p,S=>by
  rw[cgB];exact A1D (D3n nm s p S) (Z8 nm l _ _)
end
theorem C4y{r:Ru}{b:Bool}:∀ {l:List Ex},erA r b l=none->∀e∈l,erE r e=none
 |[],_,e,he=>by grind
 |x::l,h,e,he=>by
  rw[erA,A1G,A1G]at h;rcases A1C.1 he with rfl|he
  ·grind
  ·exact C4y h.2 e he
theorem C3u{r:Ru}(h:ChkR r)(m:Nat):∀ {l:List Ex},(∀e∈l,T7 e=true)->(∀e∈l,erE r e=none)->∀i∈C4 (λn=>(F3 r n).2) l,NI r m i
 |[],_,_,i,hi=>by trivial
 |e::l,h1,h2,i,hi=>by
  rw[C4]at hi;rcases A1A.1 hi with hi|hi
  ·have hv:=h1 e A0J;unfold T7 at hv;split at hv
   ·rename_i o d g;exact D0v h m g (h2 e A0J) i hi
   grind
  ·exact C3u h m (λe he=>h1 e (A0G _ he)) (λe he=>h2 e (A0G _ he)) i hi
theorem E5m{r:Ru}(h:ChkR r){k:Int}{n:List UInt8}(h1:1<=k)(h2:k<=19)(n2:¬k=2)(n3:¬k=3)(n18:¬k=18)(hn:if(K2 k).name=true then D7 n=true else n=[])(hd:dnM r n (kdS k)=0)(m:Nat):
  NI r m ⟨stOp k,(F3 r n).2⟩:=by
 have hm:k=1\/k=4\/k=5\/k=6\/k=7\/k=8\/k=9\/k=10\/k=11\/k=12\/k=13\/k=14\/k=15\/k=16\/k=17\/k=19:=by omega
 have hx:∀ {q:Int},¬q=0->kdS k=q->(F3 r n).1=q/\NmR r (F3 r n):=λhq e=>by
  rw[e]at hd;have e1:=h.den hq hd;exact⟨e1,h.num (by omega)⟩
 have hz:n=[]->(D2 (stOp k)).2.2=0->NI r m ⟨stOp k,(F3 r n).2⟩:=λe g=>by
  subst e;rw[h.nil];exact A3x g
 rcases hm with rfl|rfl|rfl|rfl|rfl|rfl|rfl|rfl|rfl|rfl|rfl|rfl|rfl|rfl|rfl|rfl
 ·obtain⟨e1,e2⟩:=hx (q:=6) (by simp) (by rfl);exact e2.ni (.inr (.inr (.inr (.inl ⟨e1,by rfl⟩))))
 ·rw[if_neg (by decide)]at hn;exact hz hn (by rfl)
 ·obtain⟨e1,e2⟩:=hx (q:=2) (by simp) (by rfl);exact e2.ni (.inr (.inl ⟨e1,by rfl⟩))
 ·obtain⟨e1,e2⟩:=hx (q:=2) (by simp) (by rfl);exact e2.ni (.inr (.inl ⟨e1,by rfl⟩))
 ·obtain⟨e1,e2⟩:=hx (q:=2) (by simp) (by rfl);exact e2.ni (.inr (.inl ⟨e1,by rfl⟩))
 ·obtain⟨e1,e2⟩:=hx (q:=3) (by simp) (by rfl);exact e2.ni (.inr (.inr (.inl ⟨.inl e1,by rfl⟩)))
 ·obtain⟨e1,e2⟩:=hx (q:=3) (by simp) (by rfl);exact e2.ni (.inr (.inr (.inl ⟨.inl e1,by rfl⟩)))
 ·obtain⟨e1,e2⟩:=hx (q:=7) (by simp) (by rfl);exact e2.ni (.inr (.inr (.inr (.inr (.inl ⟨e1,by rfl⟩)))))
 ·obtain⟨e1,e2⟩:=hx (q:=7) (by simp) (by rfl);exact e2.ni (.inr (.inr (.inr (.inr (.inl ⟨e1,by rfl⟩)))))
 ·obtain⟨e1,e2⟩:=hx (q:=9) (by simp) (by rfl);exact e2.ni (.inr (.inr (.inr (.inr (.inr (.inr ⟨e1,by rfl⟩))))))
 ·obtain⟨e1,e2⟩:=hx (q:=9) (by simp) (by rfl);exact e2.ni (.inr (.inr (.inr (.inr (.inr (.inr ⟨e1,by rfl⟩))))))
 ·obtain⟨e1,e2⟩:=hx (q:=8) (by simp) (by rfl);exact e2.ni (.inr (.inr (.inr (.inr (.inr (.inl ⟨e1,by rfl⟩))))))
 ·obtain⟨e1,e2⟩:=hx (q:=4) (by simp) (by rfl);exact e2.ni (.inr (.inr (.inl ⟨.inr (.inl e1),by rfl⟩)))
 ·obtain⟨e1,e2⟩:=hx (q:=5) (by simp) (by rfl);exact e2.ni (.inr (.inr (.inl ⟨.inr (.inr e1),by rfl⟩)))
 ·obtain⟨e1,e2⟩:=hx (q:=5) (by simp) (by rfl);exact e2.ni (.inr (.inr (.inl ⟨.inr (.inr e1),by rfl⟩)))
 ·rw[if_neg (by decide)]at hn;exact hz hn (by rfl)
theorem D5o{r:Ru}{m j:Nat}(h:j<m):NI r m ⟨29,(j:Int)⟩:=λc hc=>by
 have:=hc.st;unfold D3;exact M4 (show(0:Int)<=(j:Int) by omega) (show(j:Int)<=(c.strings.length:Int)-1 by omega)
mutual
theorem E1u{r:Ru}(h:ChkR r):∀ {s:St} {d p:Nat} {S:List (List UInt8)},O6 d s=true->erS r s=none->∀i∈(cgS (λn=>(F3 r n).2) p S s).1,NI r (cgS (λn=>(F3 r n).2) p S s).2.length i
 |.mk k n t a x y q,d,p,S,hv,he,i,hi=>by
  obtain⟨k1,k2,ha,hva,hb,hvb,hc,hvc,h8,h9,hn,ht⟩:=A2u hv;rw[erS,A1G,A1G,A1G]at he;obtain⟨⟨⟨e1,e2⟩,e3⟩,e4⟩:=he;have hd:dnM r n (kdS k)=0:=by
   unfold dnE at e1
   grind
  have hA:∀m, ∀i∈C4 (λn=>(F3 r n).2) a,NI r m i:=λm=>C3u h m hva (C4y e2);rw[cgS]at hi ⊢;by_cases g2:k=2
  ·rw[if_pos g2]at hi ⊢;by_cases hy:y.length=0
   ·rw[if_pos hy]at hi ⊢;rcases A1A.1 hi with hi|hi
    ·grind
    ·rcases A1C.1 hi with rfl|hi
     ·exact A6e (by rfl)
     ·exact A7s h hvb e3 i hi
   ·rw[if_neg hy]at hi ⊢;rcases A1A.1 hi with hi|hi
    ·grind
    ·rcases A1C.1 hi with rfl|hi
     ·exact A6e (by rfl)
     ·rcases A1A.1 hi with hi|hi
      ·exact(A7s h hvb e3 i hi).le (Z8 _ y _ _)
      ·rcases A1C.1 hi with rfl|hi
       ·exact A6e (by rfl)
       ·exact A7s h hvc e4 i hi
  ·rw[if_neg g2]at hi ⊢;by_cases g3:k=3
   ·rw[if_pos g3]at hi ⊢;rcases A1A.1 hi with hi|hi
    ·grind
    ·rcases A1C.1 hi with rfl|hi
     ·exact A6e (by rfl)
     ·rcases A1A.1 hi with hi|hi
      ·exact A7s h hvb e3 i hi
      ·rw[A1L]at hi;subst hi;exact A6e (by rfl)
   ·rw[if_neg g3]at hi ⊢;by_cases g18:k=18
    ·rw[if_pos g18]at hi ⊢;rcases A1A.1 hi with hi|hi
     ·grind
     ·rw[A1L]at hi;subst hi;exact D5o (D9r S t)
    ·rw[if_neg g18]at hi ⊢;rcases A1A.1 hi with hi|hi
     ·grind
     ·rw[A1L]at hi;subst hi;exact E5m h k1 k2 g2 g3 g18 hn hd _
theorem A7s{r:Ru}(h:ChkR r):∀ {l:List St} {d p:Nat} {S:List (List UInt8)},G6 d l=true->erB r l=none->∀i∈(cgB (λn=>(F3 r n).2) p S l).1,NI r (cgB (λn=>(F3 r n).2) p S l).2.length i
 |[],_,_,_,_,_,i,hi=>by trivial
 |s::l,d,p,S,hv,he,i,hi=>by
  rw[G6,A0D]at hv;rw[erB,A1G]at he;rw[cgB]at hi ⊢;rcases A1A.1 hi with hi|hi
  ·exact(E1u h hv.1 he.1 i hi).le (Z8 _ l _ _)
  ·exact A7s h hv.2 he.2 i hi
end
mutual
theorem D9p{nm:List UInt8->Int}:∀ {s:St} {d p:Nat} {S:List (List UInt8)},O6 d s=true->(∀x∈S,P2 x=true)->∀x∈(cgS nm p S s).2,P2 x=true
 |.mk k n t a b c q,d,p,S,hv,hS,x,hx=>by
  obtain⟨k1,k2,ha,hva,hb,hvb,hc,hvc,h8,h9,hn,ht⟩:=A2u hv;rw[cgS]at hx;by_cases g2:k=2
  ·rw[if_pos g2]at hx;by_cases hy:c.length=0
   ·rw[if_pos hy]at hx;exact A7g hvb hS x hx
   ·rw[if_neg hy]at hx;exact A7g hvc (λz hz=>A7g hvb hS z hz) x hx
  ·rw[if_neg g2]at hx;by_cases g3:k=3
   ·rw[if_pos g3]at hx;exact A7g hvb hS x hx
   ·rw[if_neg g3]at hx;by_cases g18:k=18
    ·rw[if_pos g18]at hx;rcases D4g hx with hx|rfl
     ·exact hS x hx
     ·subst g18;rw[if_pos (by decide)]at ht;unfold S3 at ht;unfold P2;exact ht
    grind
theorem A7g{nm:List UInt8->Int}:∀ {l:List St} {d p:Nat} {S:List (List UInt8)},G6 d l=true->(∀x∈S,P2 x=true)->∀x∈(cgB nm p S l).2,P2 x=true
 |[],_,_,_,_,hS,x,hx=>hS x (by assumption)
 |s::l,d,p,S,hv,hS,x,hx=>by
  rw[G6,A0D]at hv;rw[cgB]at hx;exact A7g hv.2 (λz hz=>D9p hv.1 hS z hz) x hx
end
abbrev nmR(r:Ru):List UInt8->Int:=λn=>(F3 r n).2
def cmC(r:Ru):Prg :=
 ⟨(cgL (nmR r) 0 [] (E3 (nmR r) 0 r.modes)).1,(cgL (nmR r) 0 [] (E3 (nmR r) 0 r.modes)).2.2,(cgL (nmR r) 0 [] (E3 (nmR r) 0 r.modes)).2.1,r.modes.map (·.prio),
  (r.decls.filter λd=>d.kind==6).map (·.value),(cnR r 7:Int),(cnR r 8:Int)⟩
theorem B5n{r:Ru}:∀ {l:List St},erB r l=none↔∀s∈l,erS r s=none
 |[]=>by simp[erB]
 |s::l=>by rw[erB,A1G,B5n];simp
theorem C4x{r:Ru}:∀ {l pre:List Hd},erH r pre l=none->∀h∈l,dnM r h.name (kdH h.trig)=0/\erB r h.body=none
 |[],_,_,h,hh=>by grind
 |x::l,pre,h,y,hy=>by
  rw[erH,A1G,A1G,A1G]at h;obtain⟨⟨⟨h1, -⟩,h2⟩,h3⟩:=h;rcases A1C.1 hy with rfl|hy
  ·refine⟨?_,h2⟩;unfold dnE at h1
   grind
  ·exact C4x h3 y hy
structure HdF (r:Ru) (h:Hd):Prop where
 tr:1<=h.trig/\h.trig<=6
 bl:N3 h.body 1=true
 er:erB r h.body=none
 nn:h.trig<3->(F3 r h.name).2=0
 nd:3<=h.trig->(F3 r h.name).1=kdH h.trig/\NmR r (F3 r h.name)
theorem ChkR.hd{r:Ru}(h:ChkR r):∀m∈r.modes, ∀x∈m.hds,HdF r x:=by
 intro m hm x hx;have hv:=h.mode m hm;unfold R0 at hv;simp only[A0D,A0I,A0S]at hv;have hv:=hv.2 x hx;unfold A1q at hv;simp only[A0D,A0I]at hv;obtain⟨⟨⟨v1,v2⟩,v3⟩,v4⟩:=hv;obtain⟨d1,d2⟩:=C4x (h.erm m hm) x hx;refine⟨⟨v1,v2⟩,v4,d2,λht=>?_,λht=>?_⟩
 ·rw[if_neg (by omega)]at v3;have:x.name=[]:=by grind
  rw[this,h.nil]
 ·have hk:¬kdH x.trig=0:=by
   have:x.trig=3\/x.trig=4\/x.trig=5\/x.trig=6:=by omega
   rcases this with e|e|e|e<;>rw[e]<;>decide
  have e1:=h.den hk d1;exact⟨e1,h.num (by omega)⟩
theorem B1t{r:Ru}(h:ChkR r)(k:Int)(hk:¬k=9):cnR r k<=128:=by
 unfold cnR;rw[if_neg hk];exact A1D (C1o _ _) h.lens.1
theorem HdF.ok{r:Ru}(hr:ChkR r){h:Hd}(hf:HdF r h):HOk (nmR r) h:=by
 refine⟨hf.tr.1,hf.tr.2,?_⟩;show 0<=(F3 r h.name).2/\(F3 r h.name).2<128;by_cases ht:h.trig<3
 ·rw[hf.nn ht];simp
 ·obtain⟨e,n0,n1,n2⟩:=hf.nd (by omega);refine⟨n0,?_⟩;have:h.trig=3\/h.trig=4\/h.trig=5\/h.trig=6:=by have:=hf.tr;omega
  rcases this with g|g|g|g
  ·rw[g]at e;have e:(F3 r h.name).1=1:=e;have:=(n1 (by omega)).2;rw[e]at this;have:(F3 r h.name).2<=63:=this;omega
  ·rw[g]at e;have e:(F3 r h.name).1=1:=e;have:=(n1 (by omega)).2;rw[e]at this;have:(F3 r h.name).2<=63:=this;omega
  ·rw[g]at e;have e:(F3 r h.name).1=7:=e;have:=(n2 (by omega)).1;rw[e]at this;have:=B1t hr 7 (by simp);omega
  ·rw[g]at e;have e:(F3 r h.name).1=8:=e;have:=(n2 (by omega)).1;rw[e]at this;have:=B1t hr 8 (by simp);omega
structure PtF (r:Ru) (q:C8):Prop where
 md:0<=q.1.mode/\q.1.mode<(r.modes.length:Int)
 ky:∃h,HdF r h/\q.1.trig=h.trig/\q.1.ix=(F3 r h.name).2
 bo:∀b∈q.2, ∃h,HdF r h/\b=h.body
theorem C2x{nm:List UInt8->Int}{i:Nat}{l:List Hd}{q:C8}(h:q∈rfP nm i l):(∃x∈l,(hdK nm i x).1=q.1)/\∀b∈q.2, ∃x∈l,b=x.body:=by
 unfold rfP ptK at h;obtain⟨k,hk,e⟩:=A4Q.1 h;split at e
 ·grind
 ·rename_i hne;cases e;constructor
  ·refine Classical.byContradiction λhn=>hne (A6z λx hx he=>?_)
   grind
  ·intro b hb;unfold L0 at hb;obtain⟨x,hx,rfl⟩:=A1B.1 hb;obtain⟨y,hy,rfl⟩:=A1B.1 (List.mem_filter.1 hx).1;exact⟨y,hy,rfl⟩
theorem B7a{r:Ru}:∀ {l:List Md} {i:Nat},(∀m∈l, ∀x∈m.hds,HdF r x)->i+l.length<=r.modes.length->∀q∈E3 (nmR r) i l,PtF r q
 |[],_,_,_,q,hq=>by trivial
 |m::l,i,h,hl,q,hq=>by
  rw[A0F]at hl;rw[E3]at hq;rcases A1A.1 hq with hq|hq
  ·obtain⟨⟨x,hx,e⟩,hb⟩:=C2x hq;refine⟨?_,⟨x,h m A0J x hx,by rw[<- e];rfl,by rw[<- e];rfl⟩,λb hb'=>?_⟩
   ·rw[<- e];show(0:Int)<=(i:Int)/\(i:Int)<_;omega
   grind
  ·exact B7a (λm hm=>h m (A0G _ hm)) (by omega) q hq
theorem PtF.sts{r:Ru}{q:C8}(h:PtF r q):G6 1 q.2.flatten=true/\erB r q.2.flatten=none:=by
 constructor
 ·rw[Y7];intro s hs;obtain⟨b,hb,hs⟩:=A4J.1 hs;obtain⟨x,hx,rfl⟩:=h.bo b hb;have:=hx.bl;unfold N3 at this;rw[A0D]at this;exact Y7.1 this.2 s hs
 ·rw[B5n];intro s hs;obtain⟨b,hb,hs⟩:=A4J.1 hs;obtain⟨x,hx,rfl⟩:=h.bo b hb;exact B5n.1 hx.er s hs
theorem PtF.ok{r:Ru}{q:C8}(h:PtF r q):D7r q:=λb hb=>by
 obtain⟨x,hx,rfl⟩:=h.bo b hb;exact hx.bl
theorem C1s(nm:List UInt8->Int):∀(l:List C8) (p:Nat) (S:List (List UInt8)),S.length<=(cgL nm p S l).2.2.length
 |[],_,_=>A0E _
 |q::l,p,S=>by rw[cgL];exact A1D (Z8 nm _ p S) (C1s nm l _ _)
theorem D0u{r:Ru}(h:ChkR r):∀ {l:List C8} {p:Nat} {S:List (List UInt8)},(∀q∈l,PtF r q)->∀i∈(cgL (nmR r) p S l).1,NI r (cgL (nmR r) p S l).2.2.length i
 |[],_,_,_,i,hi=>by trivial
 |q::l,p,S,hq,i,hi=>by
  have h1:=(hq q A0J).sts;rw[cgL]at hi ⊢;rcases A1A.1 hi with hi|hi
  ·exact(A7s h h1.1 h1.2 i hi).le (C1s _ l _ _)
  ·rcases A1C.1 hi with rfl|hi
   ·exact A3x (by rfl)
   ·exact D0u h (λq hq'=>hq q (A0G _ hq')) i hi
theorem C8g{r:Ru}:∀ {l:List C8} {p:Nat} {S:List (List UInt8)},(∀q∈l,PtF r q)->(∀x∈S,P2 x=true)->∀x∈(cgL (nmR r) p S l).2.2,P2 x=true
 |[],_,_,_,hS,x,hx=>hS x (by assumption)
 |q::l,p,S,hq,hS,x,hx=>by
  rw[cgL]at hx;exact C8g (λq hq'=>hq q (A0G _ hq')) (A7g (hq q A0J).sts.1 hS) x hx
theorem D0r{q:List KB}:∀ {ks:List Ky},ks.Nodup->(∀k∈ks, ∃x∈q,x.1=k)->ks.length<=q.length:=by
 induction q with
 |nil =>
  intro ks _ h;cases ks with
  |nil=>omega
  |cons k ks=>obtain⟨x,hx, -⟩:=h k A0J;grind
 |cons x q ih =>
  intro ks hn h;have h1:=ih (ks:=ks.erase x.1) (hn.erase _) (λk hk=>by
   obtain⟨g1,g2⟩:=(hn.mem_erase_iff).1 hk;obtain⟨y,hy,e⟩:=h k g2;rcases A1C.1 hy with rfl|hy
   ·exact absurd e.symm g1
   ·exact⟨y,hy,e⟩)
  grind
theorem D1p{nm:List UInt8->Int}:∀ {l:List Md} {i:Nat},(∀m∈l,m.hds.length<=32)->(hkM nm i l).length<=32*l.length
 |[],_,_=>A0P _
 |m::l,i,h=>by
  have h1:=h m A0J;have h2:=D1p (nm:=nm) (l:=l) (i:=i+1) (λm hm=>h m (A0G _ hm));rw[hkM,A0A,A0C,A0F];omega
theorem Srt.nodup{l:List C8}(h:Srt l):(l.map (·.1)).Nodup:=by
 refine A4S.2 (List.Pairwise.imp (λ{a b} g e=>?_) h);rw[e]at g;exact Ky.lt_irrefl _ g
theorem C2w{nm:List UInt8->Int}:∀ {l:List Md} {i:Nat} {q:C8},q∈E3 nm i l->∃x∈hkM nm i l,x.1=q.1
 |[],_,_,h=>by cases h
 |m::l,i,q,h=>by
  rw[E3]at h;rw[hkM];rcases A1A.1 h with h|h
  ·obtain⟨⟨x,hx,e⟩, -⟩:=C2x h
   grind
  ·obtain⟨x,hx,e⟩:=C2w h
   grind
theorem A3h(nm:List UInt8->Int):∀(l:List C8) (p:Nat) (S:List (List UInt8)),(cgL nm p S l).2.1.length=l.length
 |[],_,_=>rfl
 |q::l,p,S=>by rw[cgL];simp only[A0F,A3h nm l]
theorem B3u{nm:List UInt8->Int}:∀ {l:List C8} {p:Nat} {S:List (List UInt8)} {e:Ent},e∈(cgL nm p S l).2.1->∃q∈l,e.mode=q.1.mode/\e.trigger=q.1.trig/\e.index=q.1.ix
 |[],_,_,_,h=>by trivial
 |q::l,p,S,e,h=>by
  rw[cgL]at h;rcases A1C.1 h with rfl|h
  ·simp
  ·obtain⟨x,hx,e1⟩:=B3u h
   grind
theorem C7z{r:Ru}(h:ChkR r)(h1:(cmC r).instrs.length<=4000)(h2:(cmC r).strings.length<=200):K0 (cmC r)=0:=by
 have hH:=h.hd;have hP:∀q∈E3 (nmR r) 0 r.modes,PtF r q:=B7a hH (by omega);have hS:=B0m (nm:=nmR r) r.modes 0;have hvars:(cmC r).vars.length=cnR r 6:=by
  show((r.decls.filter λd=>d.kind==6).map (·.value)).length=cnR r 6;unfold cnR cnD;rw[if_neg (by decide),A0C,List.countP_eq_length_filter]
 have hent:(cmC r).entries.length<=512:=by
  show(cgL (nmR r) 0 [] (E3 (nmR r) 0 r.modes)).2.1.length<=512;rw[A3h, <- A0C (f:=λq:C8=>q.1)];refine A1D (D0r (q:=hkM (nmR r) 0 r.modes) hS.nodup λk hk=>?_) (A1D (D1p λm hm=>?_) (Nat.mul_le_mul_left 32 h.lens.2))
  ·obtain⟨q,hq,rfl⟩:=A1B.1 hk;exact C2w hq
  ·have:=h.mode m hm;unfold R0 at this;simp only[A0D,A0I]at this;exact this.1.2
 have hlim:N9 (cmC r)=true:=by
  have e6:=B1t h 6 (by decide);have e7:=B1t h 7 (by decide);have e8:=B1t h 8 (by decide);have ep:(cmC r).prios.length<=16:=by show(r.modes.map (·.prio)).length<=16;rw[A0C];exact h.lens.2
  unfold N9;rw[decide_eq_true h1,decide_eq_true h2,decide_eq_true hent,decide_eq_true ep,decide_eq_true (by rw[hvars];exact e6)];have i7:inM (cmC r).timers 0 128=true:=M4 (show(0:Int)<=(cnR r 7:Int) by omega) (show(cnR r 7:Int)<=128 by omega);have i8:inM (cmC r).events 0 128=true:=M4 (show(0:Int)<=(cnR r 8:Int) by omega) (show(cnR r 8:Int)<=128 by omega);rw[i7,i8];rfl
 have hhdr:Hdr r (cmC r).strings.length (cmC r):=⟨hvars,A0C _,rfl,rfl,A0E _⟩;have hparts:Z3 (cmC r)=true:=by
  unfold Z3;simp only[A0D,A0S];refine⟨⟨⟨⟨C8g hP (λx hx=>by cases hx),λn hn=>?_⟩,λn hn=>?_⟩,λe he=>?_⟩,λi hi=>D0u h hP i hi _ hhdr⟩
  ·obtain⟨m,hm,rfl⟩:=A1B.1 hn;have:=h.mode m hm;unfold R0 at this;simp only[A0D,A0I]at this;have:=h.hea.2.1 m hm;exact M4 (by omega) (by omega)
  ·obtain⟨d,hd,rfl⟩:=A1B.1 hn;obtain⟨hd,hk⟩:=List.mem_filter.1 hd;have hk:d.kind=6:=by simpa using hk
   have:=h.decl d hd;unfold A0d at this;simp only[A0D,A0I]at this;have h4:=h.hea.1 d hd;rw[hk]at h4;have h5:¬d.value>2147483647:=h4;rw[if_pos hk]at this;exact M4 (by omega) (by omega)
  ·obtain⟨q,hq,e1,e2,e3⟩:=B3u he;obtain⟨⟨m1,m2⟩,⟨x,hx,x1,x2⟩, -⟩:=hP q hq;unfold A3g;rw[e1,e2,e3,x1,x2];have ep:(cmC r).prios.length=r.modes.length:=A0C _;rw[M4 m1 (by rw[ep];omega),A2E];have ht:x.trig=1\/x.trig=2\/x.trig=3\/x.trig=4\/x.trig=5\/x.trig=6:=by have:=hx.tr;omega
   rcases ht with g|g|g|g|g|g
   ·have:=hx.nn (by omega);rw[g,this];rfl
   ·have:=hx.nn (by omega);rw[g,this];rfl
   ·obtain⟨e,n0,n1,n2⟩:=hx.nd (by omega);rw[g]at e;have e:(F3 r x.name).1=1:=e;have:=(n1 (by omega)).2;rw[e]at this;have:(F3 r x.name).2<=63:=this;rw[g,if_neg (by decide),if_pos (by decide)];exact M4 n0 this
   ·obtain⟨e,n0,n1,n2⟩:=hx.nd (by omega);rw[g]at e;have e:(F3 r x.name).1=1:=e;have:=(n1 (by omega)).2;rw[e]at this;have:(F3 r x.name).2<=63:=this;rw[g,if_neg (by decide),if_pos (by decide)];exact M4 n0 this
   ·obtain⟨e,n0,n1,n2⟩:=hx.nd (by omega);rw[g]at e;have e:(F3 r x.name).1=7:=e;have:=(n2 (by omega)).1;rw[e]at this;rw[g,if_neg (by decide),if_neg (by decide),if_pos (by decide)];exact M4 n0 (show(F3 r x.name).2<=(cnR r 7:Int)-1 by omega)
   ·obtain⟨e,n0,n1,n2⟩:=hx.nd (by omega);rw[g]at e;have e:(F3 r x.name).1=8:=e;have:=(n2 (by omega)).1;rw[e]at this;rw[g,if_neg (by decide),if_neg (by decide),if_neg (by decide),if_pos (by decide)];exact M4 n0 (show(F3 r x.name).2<=(cnR r 8:Int)-1 by omega)
 have hg:=gdL (nm:=nmR r) (I:=(cmC r).instrs) (Hs:=hL (E3 (nmR r) 0 r.modes)) (l:=E3 (nmR r) 0 r.modes) (p:=0) (S:=[]) (λq hq=>(hP q hq).ok) (λi hi=>by rw[A1J];exact⟨rfl,rfl⟩);obtain⟨hj,hr⟩:=C8x (c:=cmC r) (Hs:=hL (E3 (nmR r) 0 r.modes)) (D1x _ _ 0 []) (λi hi=>by have:=hg.1 i hi;rwa [A1J]at this) hg.2;unfold K0;have hc:Q3 (cmC r).entries=true:=C7n hS 0 []
 grind
theorem B5v(nm:List UInt8->Int):∀(a b:List C8) (p:Nat) (S:List (List UInt8)),
  cgL nm p S (a++b)=((cgL nm p S a).1++(cgL nm (p+(cgL nm p S a).1.length) (cgL nm p S a).2.2 b).1,(cgL nm p S a).2.1++(cgL nm (p+(cgL nm p S a).1.length) (cgL nm p S a).2.2 b).2.1,(cgL nm (p+(cgL nm p S a).1.length) (cgL nm p S a).2.2 b).2.2)
 |[],b,p,S=>by rfl
 |q::a,b,p,S=>by
  rw[List.cons_append,cgL,B5v nm a b,cgL]
  grind
theorem B8x{nm:List UInt8->Int}{l:List C8}{S:List (List UInt8)}(k:Nat):(cgL nm 0 S (l.take k)).1.length<=(cgL nm 0 S l).1.length/\(cgL nm 0 S (l.take k)).2.2.length<=(cgL nm 0 S l).2.2.length:=by
 have h:=B5v nm (l.take k) (l.drop k) 0 S;rw[A1W]at h;rw[h];constructor
 ·simp
 ·exact C1s nm _ _ _
theorem B8y(nm:List UInt8->Int)(l:List C8)(q:C8)(S:List (List UInt8)):cgL nm 0 S (l++[q]) =
  ((cgL nm 0 S l).1++((cgB nm (cgL nm 0 S l).1.length (cgL nm 0 S l).2.2 q.2.flatten).1++[⟨31,0⟩]),(cgL nm 0 S l).2.1++[⟨q.1.mode,q.1.trig,q.1.ix,((cgL nm 0 S l).1.length:Int)⟩],(cgB nm (cgL nm 0 S l).1.length (cgL nm 0 S l).2.2 q.2.flatten).2):=by
 rw[B5v,A1J];rfl
def B6b:Prg:=⟨[],[],[],[],[],0,0⟩
def W4(r:Ru):Prg × Int × Int :=
 if L9 r=true then
  match A4p r with
  |some (p,c)=>(B6b,p,c)
  |none=>if 4000<(cmC r).instrs.length\/200<(cmC r).strings.length then(B6b,0,9) else(cmC r,0,0)
 else(B6b,0,1)
def B5t(q:Prg × Int × Int):DV:=.tup [q.1.v,I64 q.2.1,I64 q.2.2]
theorem E8p:K0 B6b=0:=by rfl
theorem B3x(r:Ru):K0 (W4 r).1=0:=by
 unfold W4;by_cases h1:L9 r=true
 ·rw[if_pos h1];cases h2:A4p r with
  |some q=>rfl
  |none =>
   show K0 (if 4000<(cmC r).instrs.length\/200<(cmC r).strings.length then(B6b,(0:Int),(9:Int)) else(cmC r,0,0)).1=0;by_cases h3:4000<(cmC r).instrs.length\/200<(cmC r).strings.length
   ·rw[if_pos h3];rfl
   ·rw[if_neg h3];exact C7z ⟨h1,h2⟩ (by omega) (by omega)
 ·rw[if_neg h1];rfl
abbrev txC(S:List (List UInt8)):List DV:=S.map DV.str
abbrev gmB(t:Nat)(a b:Option Nat)(mk:DV->DV->List DV)(x:Cg):Blk:=⟨0,true,mk (todoV a x.1.length) (todoV b x.2.length)⟩
def GM(H0:Hp)(t:Nat)(a b:Option Nat)(mk:DV->DV->List DV)(x:Cg):Hp :=
 optH (optH (H0.upd t (gmB t a b mk x)) a ⟨2,true,A0h x.1⟩) b ⟨1,true,txC x.2⟩
structure GN (H0:Hp) (t:Nat) (a b:Option Nat) (x:Cg) (c:Nat):Prop where
 tc:t<c
 ha:∀i,a=some i->i≠t/\i<c/\H0 i=none
 hb:∀i,b=some i->i≠t/\i<c/\H0 i=none
 ne:∀i j,a=some i->b=some j->i≠j
 an:a=none->x.1=[]
 bn:b=none->x.2=[]
 fr:∀j,c<=j->H0 j=none
section
variable {H0:Hp} {t c c' i:Nat} {a b:Option Nat} {mk:DV->DV->List DV} {x y:Cg}
theorem Y6(h:GN H0 t a b x c):GM H0 t a b mk x t=some (gmB t a b mk x):=by
 rw[GM,B5 (λi hi=>Ne.symm (h.hb i hi).1),B5 (λi hi=>Ne.symm (h.ha i hi).1),A0]
theorem A5s(h:GN H0 t a b x c){i:Nat}(hi:a=some i):GM H0 t a b mk x i=some ⟨2,true,A0h x.1⟩:=by
 rw[GM,B5 (λj hj=>h.ne i j hi hj)];subst hi;exact A0
theorem A7d{i:Nat}(hi:b=some i):GM H0 t a b mk x i=some ⟨1,true,txC x.2⟩:=by
 rw[GM];subst hi;exact A0
theorem D4d{j:Nat}(h1:j≠t)(h2:a≠some j)(h3:b≠some j):GM H0 t a b mk x j=H0 j:=by
 rw[GM,B5 (λi hi e=>h3 (by grind)),B5 (λi hi e=>h2 (by grind)),h_ne h1]
theorem T4(h:GN H0 t a b x c){j:Nat}{B:Blk}(hj:H0 j=some B)(ht:j≠t):GM H0 t a b mk x j=some B:=by
 rw[D4d ht (λe=>by have:=(h.ha j e).2.2;grind) (λe=>by have:=(h.hb j e).2.2;grind),hj]
theorem A8k(h:GN H0 t a b x c){j:Nat}(hj:c<=j):GM H0 t a b mk x j=none:=by
 have:=h.tc;rw[D4d (by omega) (λe=>by have:=(h.ha j e).2.1;omega) (λe=>by have:=(h.hb j e).2.1;omega)];exact h.fr j hj
theorem A5r{X:Hp}(ht:X t=some (gmB t a b mk x))(ha:∀i,a=some i->X i=some ⟨2,true,A0h x.1⟩)(hb:∀i,b=some i->X i=some ⟨1,true,txC x.2⟩)(ho:∀j B,j≠t->H0 j=some B->X j=some B):
  Sub (GM H0 t a b mk x) X:=by
 intro j B hj;rw[GM]at hj;by_cases h1:b=some j
 ·subst h1;simp only[optH]at hj;rw[A0]at hj;rw[<- hj];exact hb j rfl
 rw[B5 (λi hi e=>h1 (by rw[e];exact hi))]at hj;by_cases h2:a=some j
 ·subst h2;simp only[optH]at hj;rw[A0]at hj;rw[<- hj];exact ha j rfl
 rw[B5 (λi hi e=>h2 (by rw[e];exact hi))]at hj;by_cases h3:j=t
 ·subst h3;rw[A0]at hj;rw[<- hj];exact ht
 rw[h_ne h3]at hj
 grind
theorem GN.le(h:GN H0 t a b x c)(hc:c<=c'):GN H0 t a b x c' :=
 ⟨by have:=h.tc;omega,λi hi=>by have:=h.ha i hi;grind,λi hi=>by have:=h.hb i hi;grind,h.ne,h.an,h.bn,λj hj=>h.fr j (by omega)⟩
theorem GN.newA(h:GN H0 t a b x c)(h1:c<=i)(h2:i<c')(he:y.2=x.2):GN H0 t (some i) b y c':=by
 have:=h.tc;exact⟨by omega,λj hj=>by cases hj;exact⟨by omega,h2,h.fr _ h1⟩,λj hj=>by have:=h.hb j hj;grind,λj k hj hk=>by cases hj;have:=h.hb k hk;omega,λe=>(by grind),λe=>(by rw[he];exact h.bn e),λj hj=>h.fr j (by omega)⟩
theorem GN.newB(h:GN H0 t a b x c)(h1:c<=i)(h2:i<c')(he:y.1=x.1):GN H0 t a (some i) y c':=by
 have:=h.tc;exact⟨by omega,λj hj=>by have:=h.ha j hj;grind,λj hj=>by cases hj;exact⟨by omega,h2,h.fr _ h1⟩,λj k hj hk=>by cases hk;have:=h.ha j hj;omega,λe=>(by rw[he];exact h.an e),λe=>(by grind),λj hj=>h.fr j (by omega)⟩
theorem GN.keep(h:GN H0 t a b x c)(hc:c<=c')(h1:a=none->y.1=[])(h2:b=none->y.2=[]):GN H0 t a b y c' :=
 ⟨by have:=h.tc;omega,λi hi=>by have:=h.ha i hi;grind,λi hi=>by have:=h.hb i hi;grind,h.ne,h1,h2,λj hj=>h.fr j (by omega)⟩
end
section
variable {H0:Hp} {t c c' j:Nat} {a b:Option Nat} {mk:DV->DV->List DV} {x y:Cg} {B:Blk}
theorem D4e(h1:j≠t)(h2:a≠some j)(h3:b≠some j):(GM H0 t a b mk x).upd j B=GM (H0.upd j B) t a b mk x:=by
 funext i
 by_cases e:i=j
 ·subst e;rw[A0,D4d h1 h2 h3,A0]
 ·rw[h_ne e];unfold GM;cases a with
  |none =>
   cases b with
   |none=>simp only[optH,Hp.upd,if_neg e]
   |some b=>simp only[optH,Hp.upd,if_neg e]
  |some a =>
   cases b with
   |none=>simp only[optH,Hp.upd,if_neg e]
   |some b=>simp only[optH,Hp.upd,if_neg e]
theorem GN.com(h:GN H0 t a b x c)(hj:c<=j):(GM H0 t a b mk x).upd j B=GM (H0.upd j B) t a b mk x :=
 D4e (by have:=h.tc;omega) (λe=>by have:=(h.ha j e).2.1;omega) (λe=>by have:=(h.hb j e).2.1;omega)
theorem GN.box(h:GN H0 t a b x c)(hj:c<=j)(hc:j<c'):GN (H0.upd j B) t a b x c':=by
 have:=h.tc;exact⟨by omega,λi hi=>by have:=h.ha i hi;exact⟨this.1,by omega,by rw[hnO];grind⟩,λi hi=>by have:=h.hb i hi;exact⟨this.1,by omega,by rw[hnO];grind⟩,h.ne,h.an,h.bn,λi hi=>by rw[hnO];exact h.fr i (by omega)⟩
theorem J8(hj:H0 j=none)(ht:j≠t)(h:GN (H0.upd j B) t a b x c'):Sub (GM H0 t a b mk x) (GM (H0.upd j B) t a b mk x) :=
 A5r (Y6 h) (λi hi=>A5s h hi) (λi hi=>A7d hi) (λi Q hi hQ=>T4 h (by
  rw[h_ne (by rintro rfl;rw[hj]at hQ;cases hQ)];omega) hi)
theorem GN.unbox(h:GN (H0.upd j B) t a b x c')(hj:H0 j=none)(hc:c<=c')(hf:∀i,c<=i->H0 i=none):GN H0 t a b x c' :=
 ⟨h.tc,λi hi=>by
  have:=h.ha i hi;exact⟨this.1,this.2.1,by by_cases e:i=j;(· grind);(· have h3:=this.2.2;rw[h_ne e]at h3;omega)⟩,λi hi=>by
  have:=h.hb i hi;exact⟨this.1,this.2.1,by by_cases e:i=j;(· grind);(· have h3:=this.2.2;rw[h_ne e]at h3;omega)⟩,h.ne,h.an,h.bn,λi hi=>hf i (by omega)⟩
end
theorem B3l(l:List Ins)(i:Ins):A0h (l++[i])=A0h l++[I64 i.op,I64 i.A]:=by rw[A3c,B1f]
theorem B7x(l m:List Ins)(op a z:Int):(A0h (l++⟨op,a⟩::m)).take (l.length*2+1)++(I64 z).cells++(A0h (l++⟨op,a⟩::m)).drop (l.length*2+1+1)=A0h (l++⟨op,z⟩::m):=by
 have e:∀y:Int,l++(⟨op,y⟩:Ins)::m=l++([⟨op,y⟩]++m):=λ_=>rfl;rw[e,e,A3c,A3c,A3c,A3c,B1f,B1f];have h:=A3b l;rw[List.take_append,List.drop_append,A0M (by omega),A1Q (by omega),h,show l.length*2+1-l.length*2=1 by omega,show l.length*2+1+1-l.length*2=2 by omega,A0Q,A0Q];rfl
theorem D3d{H0:Hp}{t c i:Nat}{a b:Option Nat}{mk:DV->DV->List DV}{x y:Cg}{B B2 B3:Blk}(h:GN H0 t a b x c)(hi:c<i)(h2:y.2=x.2)(e2:B2=⟨2,true,A0h y.1⟩)(e3:B3=gmB t (some i) b mk y):
  Sub (GM H0 t (some i) b mk y) (((delO ((GM H0 t a b mk x).upd c B) a).upd i B2).upd t B3):=by
 have:=h.tc;refine A5r ?_ (λj hj=>?_) (λj hj=>?_) (λj Q hj hQ=>?_)
 ·rw[A0,e3]
 ·cases hj;rw[hnO,A0,e2]
 ·have q:=h.hb j hj;rw[h_ne q.1,hnO,A8 (λk hk e=>h.ne k j hk hj e.symm),hnO,A7d hj,h2]
 ·have q:j<c:=A1S λhc=>by rw[h.fr j hc]at hQ;grind
  rw[h_ne hj,hnO,A8 (λk hk e=>by have:=(h.ha k hk).2.2;grind),hnO,T4 h hQ hj]
theorem C8f{H0:Hp}{t c i:Nat}{a b:Option Nat}{mk:DV->DV->List DV}{x y:Cg}{B B2 B3:Blk}(h:GN H0 t a b x c)(hi:c<i)(h2:y.1=x.1)(e2:B2=⟨1,true,txC y.2⟩)(e3:B3=gmB t a (some i) mk y):
  Sub (GM H0 t a (some i) mk y) (((delO ((GM H0 t a b mk x).upd c B) b).upd i B2).upd t B3):=by
 have:=h.tc;refine A5r ?_ (λj hj=>?_) (λj hj=>?_) (λj Q hj hQ=>?_)
 ·rw[A0,e3]
 ·have q:=h.ha j hj;rw[h_ne q.1,hnO,A8 (λk hk e=>h.ne j k hj hk e),hnO,A5s h hj,h2]
 ·cases hj;rw[hnO,A0,e2]
 ·have q:j<c:=A1S λhc=>by rw[h.fr j hc]at hQ;grind
  rw[h_ne hj,hnO,A8 (λk hk e=>by have:=(h.hb k hk).2.2;grind),hnO,T4 h hQ hj]
abbrev pcC(k:Ky)(b:DV):List DV:=[I64 k.mode,I64 k.trig,I64 k.ix,I64 0,b]
def ptC:List Nat->List C8->List DV
 |i::is,p::l=>pcC p.1 (.slc i 0 p.2.length)++ptC is l
 |_,_=>[]
abbrev bdB(b:List (List St)):Blk:=⟨1,true,b.map D5⟩
def A1a(H0:Hp):List Nat->List C8->Hp
 |i::is,p::l=>(A1a H0 is l).upd i (bdB p.2)
 |_,_=>H0
def PM(H0:Hp)(o:Option Nat)(is:List Nat)(l:List C8):Hp:=optH (A1a H0 is l) o ⟨5,true,ptC is l⟩
structure PN (H0:Hp) (o:Option Nat) (is:List Nat) (l:List C8) (c:Nat):Prop where
 len:is.length=l.length
 nd:is.Nodup
 fi:∀i∈is,i<c/\H0 i=none/\o≠some i
 fo:∀i,o=some i->i<c/\H0 i=none
 no:o=none->l=[]
 fr:∀j,c<=j->H0 j=none
theorem B5k{H0:Hp}{j:Nat}:∀ {is:List Nat} {l:List C8},j ∉ is->A1a H0 is l j=H0 j
 |[],_,_=>rfl
 |_::_,[],_=>rfl
 |i::is,p::l,h=>by
  rw[A1a,h_ne (λe=>h (by grind))];exact B5k λhm=>h (A0G _ hm)
theorem C4w{H0:Hp}:∀ {is:List Nat} {l:List C8} {n i:Nat} {p:C8},is.Nodup->is[n]? = some i->l[n]? = some p->A1a H0 is l i=some (bdB p.2)
 |i::is,p::l,0,_,_,_,h1,h2=>by cases h1;cases h2;rw[A1a];exact A0
 |i::is,p::l,n+1,j,q,hn,h1,h2=>by
  obtain⟨a,b⟩:=A3G.1 hn;have hm:j∈is:=A0U h1;rw[A1a,h_ne (λe=>a (by grind))];exact C4w b h1 h2
theorem B3o{H0:Hp}{j:Nat}{B:Blk}:∀ {is:List Nat} {l:List C8},A1a H0 is l j=some B->H0 j=some B\/∃(n:Nat) (p:C8),is[n]? = some j/\l[n]? = some p/\B=bdB p.2
 |[],_,h=>.inl h
 |_::_,[],h=>.inl h
 |i::is,p::l,h=>by
  rw[A1a]at h;by_cases e:j=i
  ·subst e;rw[A0]at h;cases h;exact .inr ⟨0,p,rfl,rfl,rfl⟩
  ·rw[h_ne e]at h;rcases B3o h with h|⟨n,q,a,b,c⟩
   ·grind
   ·exact .inr ⟨n+1,q,a,b,c⟩
section
variable {H0 X:Hp} {o:Option Nat} {is:List Nat} {l:List C8} {c c':Nat}
theorem D7t(h:PN H0 o is l c){n i:Nat}{p:C8}(h1:is[n]? = some i)(h2:l[n]? = some p):PM H0 o is l i=some (bdB p.2):=by
 rw[PM,B5 (λj hj e=>(h.fi i (A0U h1)).2.2 (by grind))];exact C4w h.nd h1 h2
theorem D7s{i:Nat}(hi:o=some i):PM H0 o is l i=some ⟨5,true,ptC is l⟩:=by subst hi;exact A0
theorem E8h{j:Nat}(h1:o≠some j)(h2:j ∉ is):PM H0 o is l j=H0 j:=by
 rw[PM,B5 (λi hi e=>h1 (by grind)),B5k h2]
theorem B6c(h:PN H0 o is l c){j:Nat}{B:Blk}(hj:H0 j=some B):PM H0 o is l j=some B:=by
 rw[E8h (λe=>by have:=(h.fo j e).2;grind) (λhm=>by have:=(h.fi j hm).2.1;grind),hj]
theorem E3z(h:PN H0 o is l c){j:Nat}(hj:c<=j):PM H0 o is l j=none:=by
 rw[E8h (λe=>by have:=(h.fo j e).1;omega) (λhm=>by have:=(h.fi j hm).1;omega)];exact h.fr j hj
theorem C2d(h1:∀(n i:Nat) (p:C8),is[n]? = some i->l[n]? = some p->X i=some (bdB p.2))(h2:∀i,o=some i->X i=some ⟨5,true,ptC is l⟩)(h3:∀j B,H0 j=some B->X j=some B):Sub (PM H0 o is l) X:=by
 intro j B hj;rw[PM]at hj;by_cases e:o=some j
 ·subst e;simp only[optH]at hj;rw[A0]at hj;rw[<- hj];exact h2 j rfl
 rw[B5 (λi hi e'=>e (by rw[e'];exact hi))]at hj;rcases B3o hj with h|⟨n,p,a,b,rfl⟩
 ·exact h3 j B h
 grind
end
theorem A0o:∀ {is:List Nat} {l:List C8},is.length=l.length->(ptC is l).length=l.length*5
 |[],[],_=>rfl
 |i::is,p::l,h=>by
  rw[ptC,A0A,A0o (Nat.succ.inj h)]
  grind
theorem C3i:∀ {is:List Nat} {l:List C8} {is':List Nat} {l':List C8},is.length=l.length->ptC (is++is') (l++l')=ptC is l++ptC is' l'
 |[],[],_,_,_=>rfl
 |i::is,p::l,_,_,h=>by
  rw[List.cons_append,List.cons_append,ptC,ptC,C3i (Nat.succ.inj h),A0Q]
theorem C0f:∀ {is:List Nat} {l:List C8} {k i:Nat} {p:C8},is.length=l.length->is[k]? = some i->l[k]? = some p->((ptC is l).drop (k*5)).take 5=pcC p.1 (.slc i 0 p.2.length)
 |i::is,p::l,0,_,_,_,h1,h2=>by cases h1;cases h2;rfl
 |i::is,p::l,k+1,j,q,hl,h1,h2=>by
  have e:(k+1)*5=5+k*5:=by omega
  rw[ptC,e, <- A3Y];exact C0f (Nat.succ.inj hl) h1 h2
theorem C3h:∀ {is:List Nat} {l:List C8} {k i:Nat} {p q:C8},is.length=l.length->is[k]? = some i->l[k]? = some p->q.1=p.1->∀j,(ptC is l).take (k*5+4)++[.slc j 0 q.2.length]++(ptC is l).drop (k*5+4+1)=ptC (is.set k j) (l.set k q)
 |i::is,p::l,0,_,_,q,_,h1,h2,h3,j=>by cases h1;cases h2;rw[A4O,A4O,ptC,ptC,h3];rfl
 |i::is,p::l,k+1,i',p',q,hl,h1,h2,h3,j=>by
  have ih:=C3h (Nat.succ.inj hl) h1 h2 h3 j;rw[A4P,A4P,ptC,ptC, <- ih,show(k+1)*5+4=5+(k*5+4) by omega,show 5+(k*5+4)+1=5+(k*5+4+1) by omega]
  grind
theorem D5d{is:List Nat}{l:List C8}(h:is.length=l.length)(k:Ky)(b:List St)(j:Nat):
  (ptC is l++pcC k .snil).take (l.length*5+4)++[.slc j 0 1]++(ptC is l++pcC k .snil).drop (l.length*5+4+1)=ptC (is++[j]) (l++[(k,[b])]):=by
 have hl:=A0o h;rw[C3i h,List.take_append,List.drop_append,A0M (by omega),A1Q (by omega),hl,show l.length*5+4-l.length*5=4 by omega,show l.length*5+4+1-l.length*5=5 by omega,A0Q,A0Q];rfl
theorem D0w{D:Nat}:∀ {is:List Nat} {n:Nat},is.Nodup->D ∉ is->(is.set n D).Nodup
 |[],_,_,_=>by simp
 |i::is,0,h,hd=>by
  grind
 |i::is,n+1,h,hd=>by
  rw[A4P];obtain⟨h1,h2⟩:=A3G.1 h;refine A3G.2 ⟨λhm=>?_,D0w h2 λhm=>hd (A0G _ hm)⟩
  grind
theorem D0x:∀ {is:List Nat} {k n q:Nat},is.Nodup->is[k]? = some q->is[n]? = some q->k=n
 |i::is,0,0,_,_,_,_=>rfl
 |i::is,0,n+1,q,h,h1,h2=>by
  grind
 |i::is,k+1,0,q,h,h1,h2=>by
  grind
 |i::is,k+1,n+1,q,h,h1,h2=>by rw[D0x (A3G.1 h).2 h1 h2]
theorem C9z{is:List Nat}{l:List C8}{k i:Nat}{p:C8}(hl:is.length=l.length)(h1:is[k]? = some i)(h2:l[k]? = some p):(ptC is l)[k*5+4]? = some (.slc i 0 p.2.length):=by
 have h:=congrArg (λz:List DV=>z[4]?) (C0f hl h1 h2)
 grind
def ixP(k:Ky):List C8->Nat->Int
 |[],_ => -1
 |p::l,n=>if p.1=k then(n:Int) else ixP k l (n+1)
theorem B7v{k:Ky}:∀ {l:List C8} {n:Nat} {x:Int},ixP k l n=x->¬x = -1->∃(m:Nat) (a b:List C8) (q:List (List St)),l=a++(k,q)::b/\m=a.length/\x=((n+m:Nat):Int)/\∀s,L8 k s l=a++(k,q++[s])::b
 |[],n,x,h,hn=>absurd h.symm hn
 |p::l,n,x,h,hn=>by
  rw[ixP]at h;by_cases e:p.1=k
  ·rw[if_pos e]at h;refine⟨0,[],l,p.2,by grind,rfl,h.symm,λs=>?_⟩;rw[L8,if_pos e,e];rfl
  ·rw[if_neg e]at h;obtain⟨m,a,b,q,h1,h2,h3,h4⟩:=B7v h hn;refine⟨m+1,p::a,b,q,by grind,by grind,by omega,λs=>?_⟩;rw[L8,if_neg e,h4];rfl
theorem B7w{k:Ky}:∀ {l:List C8} {n:Nat},ixP k l n = -1->∀s,L8 k s l=l++[(k,[s])]
 |[],n,h,s=>rfl
 |p::l,n,h,s=>by
  rw[ixP]at h;by_cases e:p.1=k
  ·grind
  ·rw[if_neg e]at h;rw[L8,if_neg e,B7w h s];rfl
theorem D1j{k:Ky}{l:List C8}{p:C8}{n:Nat}(h:l[n]? = some p):ixP k (l.drop n) n=if p.1=k then(n:Int) else ixP k (l.drop (n+1)) (n+1):=by
 rw[List.drop_eq_getElem?_toList_append,h];rfl
section
variable {H0:Hp} {o:Option Nat} {is:List Nat} {l:List C8} {c c' j:Nat} {B:Blk}
theorem E4a(h1:o≠some j)(h2:j ∉ is):(PM H0 o is l).upd j B=PM (H0.upd j B) o is l:=by
 have key:∀(is:List Nat) (l:List C8),j ∉ is->(A1a H0 is l).upd j B=A1a (H0.upd j B) is l:=by
  intro is
  induction is with
  |nil=>intro l _;rfl
  |cons i is ih =>
   intro l h;cases l with
   |nil=>rfl
   |cons p l =>
    rw[A1a,A1a, <- ih l (λhm=>h (A0G _ hm))];have hji:j≠i:=λe=>h (by grind)
    funext k
    by_cases e:k=j
    ·subst e;rw[A0,h_ne hji,A0]
    ·rw[h_ne e];by_cases e2:k=i
     ·subst e2;rw[A0,A0]
     ·rw[h_ne e2,h_ne e2,h_ne e]
 unfold PM;rw[<- key is l h2];cases o with
 |none=>rfl
 |some i =>
  have hji:j≠i:=λe=>h1 (by rw[e])
  funext k
  simp only[optH];by_cases e:k=j
  ·subst e;rw[A0,h_ne hji,A0]
  ·rw[h_ne e];by_cases e2:k=i
   ·subst e2;rw[A0,A0]
   ·rw[h_ne e2,h_ne e2,h_ne e]
theorem PN.com(h:PN H0 o is l c)(hj:c<=j):(PM H0 o is l).upd j B=PM (H0.upd j B) o is l :=
 E4a (λe=>by have:=(h.fo j e).1;omega) (λhm=>by have:=(h.fi j hm).1;omega)
theorem PN.box(h:PN H0 o is l c)(hj:c<=j)(hc:j<c'):PN (H0.upd j B) o is l c' :=
 ⟨h.len,h.nd,λi hi=>by have:=h.fi i hi;exact⟨by omega,by rw[hnO];grind,this.2.2⟩,λi hi=>by have:=h.fo i hi;exact⟨by omega,by rw[hnO];grind⟩,h.no,λi hi=>by rw[hnO];exact h.fr i (by omega)⟩
theorem PN.le(h:PN H0 o is l c)(hc:c<=c'):PN H0 o is l c' :=
 ⟨h.len,h.nd,λi hi=>by have:=h.fi i hi;grind,λi hi=>by have:=h.fo i hi;grind,h.no,λi hi=>h.fr i (by omega)⟩
theorem B6d(hj:H0 j=none)(h:PN (H0.upd j B) o is l c'):Sub (PM H0 o is l) (PM (H0.upd j B) o is l) :=
 C2d (λn i p h1 h2=>D7t h h1 h2) (λi hi=>D7s hi) (λi Q hQ=>B6c h (by rw[h_ne (by rintro rfl;rw[hj]at hQ;cases hQ)];omega))
theorem PN.unbox(h:PN (H0.upd j B) o is l c')(hj:H0 j=none)(hc:c<=c')(hf:∀i,c<=i->H0 i=none):PN H0 o is l c' :=
 ⟨h.len,h.nd,λi hi=>by
  have:=h.fi i hi;exact⟨this.1,by by_cases e:i=j;(· grind);(· have h3:=this.2.1;rw[h_ne e]at h3;omega),this.2.2⟩,λi hi=>by
  have:=h.fo i hi;exact⟨this.1,by by_cases e:i=j;(· grind);(· have h3:=this.2;rw[h_ne e]at h3;omega)⟩,h.no,λi hi=>hf i (by omega)⟩
end
def PB(n:Nat)(l:List C8):Prop:=l.length<=n/\∀p∈l,p.2.length<=n
theorem PB.add{n:Nat}{k:Ky}{b:List St}:∀ {l:List C8},PB n l->PB (n+1) (L8 k b l)
 |[],_=>⟨by simp[L8],λp hp=>by simp[L8]at hp;grind⟩
 |p::l,⟨h1,h2⟩=>by
  rw[L8];split
  ·refine⟨by simp only[A0F]at h1 ⊢;omega,λq hq=>?_⟩
   grind
  ·have key:∀(n:Nat) (l:List C8),(∀p∈l,p.2.length<=n)->(L8 k b l).length<=l.length+1/\∀p∈L8 k b l,p.2.length<=n+1:=by
    intro n l
    induction l with
    |nil=>intro _;exact⟨by simp[L8],λp hp=>by simp[L8]at hp;subst hp;simp⟩
    |cons p l ih =>
     intro h;obtain⟨i1,i2⟩:=ih λq hq=>h q (A0G _ hq);rw[L8];split
     ·refine⟨by simp only[A0F];omega,λq hq=>?_⟩;rcases A1C.1 hq with rfl|hq
      ·have:=h p A0J;simp only[A0A,A0K];omega
      ·have:=h q (A0G _ hq);omega
     ·refine⟨by simp only[A0F];omega,λq hq=>?_⟩;rcases A1C.1 hq with rfl|hq
      ·have:=h q A0J;omega
      ·exact i2 q hq
   obtain⟨k1,k2⟩:=key n l λq hq=>h2 q (A0G _ hq);refine⟨by simp only[A0F]at h1 ⊢;omega,λq hq=>?_⟩
   grind
theorem PB.le{n m:Nat}{l:List C8}(h:PB n l)(hm:n<=m):PB m l:=⟨by have:=h.1;omega,λp hp=>by have:=h.2 p hp;omega⟩
theorem B8a(nm:List UInt8->Int):∀ {M:List Md} {i k:Nat} {m:Md},M[i]? = some m->hkM nm k (M.take (i+1))=hkM nm k (M.take i)++m.hds.map (hdK nm (k+i))
 |[],_,_,_,h=>by grind
 |x::M,0,k,m,h=>by
  cases h;simp[hkM]
 |x::M,i+1,k,m,h=>by
  rw[A1E,A1E,hkM,hkM,B8a nm (i:=i) (k:=k+1) h,A0Q,show k+1+i=k+(i+1) by omega]
theorem C7v(l:List C8)(q:List KB)(x:KB):I0 l (q++[x])=L8 x.1 x.2 (I0 l q):=by
 unfold I0;simp
theorem B9i(l:List C8)(a b:List KB):I0 l (a++b)=I0 (I0 l a) b:=by unfold I0;simp
def A4n(x:List UInt8):Nat->List (List UInt8)->Int
 |_,[] => -1
 |k,w::l=>if(x==w)=true then(k:Int) else A4n x (k+1) l
section
variable {L:List Tok} {E:Int}
end
end Go.Pb
namespace Go.Sym
variable [Go.Sym.Tab]
open Go.Eng (I5)
open Go.RowKit
variable {P:Program}
theorem PC.of_callsF{f:Nat}{args:List DV}{r:DV}(hc:I5 P f=true)(na:DV.nlL args=true)(nr:r.nl=true)
  (h:∀(ρ:Ren) (w:World) (vs:Array Value),(∀b r, ρ.fz b=some r->∃e fr,w.heap[b]? = some (.cells r e fr))->G4 ρ args vs ->
   Calls P f vs w λe w' => ∃v' b row ty fr,e=.returned v'/\w.heap.size<=b/\w'.heap[b]? = some (.cells row ty fr)/\(∀ ρ':Ren, ρ'.fz b=some row->VRel ρ' r v')/\Below w.heap.size w w'):PC P f args r:=by
 refine⟨na,nr,hc,fun ρ w vs hR hf hA=>?_⟩;refine(h ρ w vs hR.frz hA).mono ?_;rintro e w' ⟨v',b,row,ty,fr,rfl,hb,hrow,hv,b1,b2,b3,b4,b5⟩;have hnone : ρ.fz b=none:=by
  cases hz : ρ.fz b with
  |none=>rfl
  |some r=>have:=hR.flt hz;omega
 have hfz:(ρ.frz b row hnone).fz b=some row:=by simp[Ren.frz]
 refine⟨r,v',nil,0, ρ.frz b row hnone,rfl,rfl,hv _ hfz,⟨λid b h=>(by cases h),λi j bi bj ti tj h=>(by cases h),λk r' hk=>?_,λid b t h=>(by cases h),λk r' hk=>⟨?_,λid b t h=>(by cases h)⟩⟩,hf,A0E _,λid hid h=>absurd rfl h,λ_ _=>rfl,
  ⟨Ren.le_frz hnone,b1,b2,b3,b4,λk hk _=>b5 k hk,λid b t h1=>(by cases h1),λk r' hk=>?_,λk r h=>.inl h⟩⟩
 ·simp only[Ren.frz]at hk;split at hk
  ·grind
  ·obtain⟨e,fr,h1⟩:=hR.frz k r' hk
   grind
 ·obtain⟨⟨cl,h1,hst⟩, -⟩:=hR.frm k r' hk
  grind
 ·simp only[Ren.frz]at hk
  grind
theorem VRel.strs{ρ:Ren}{l:List (List UInt8)}{b n c:Nat}(h : ρ.fz b=some ((l.map λs=>Value.string ⟨s.toArray⟩).toArray))(hn:n=l.length)(hc:n<=c)(hm:c<=maxLen):
  VRel ρ (.lst (l.map DV.str)) (.slice (some ⟨b,0,none⟩) n c):=by
 have hcl:cellsL (l.map DV.str)=l.map DV.str:=by
  clear h hn
  induction l with
  |nil=>rfl
  |cons x r ih =>
   have:cellsL ((x::r).map DV.str)=[DV.str x]++cellsL (r.map DV.str):=rfl
   grind
 refine .lst _ n 1 b 0 c _ h (by grind) hc hm (λx hx=>by obtain⟨y, -,rfl⟩:=A1B.1 hx;rfl) ?_ ?_ ?_
 ·grind
 ·rw[hcl];intro d hd;obtain⟨y, -,rfl⟩:=A1B.1 hd;rfl
 ·rw[hcl];intro k d v hd hv;rw[A1O]at hd;obtain⟨s,hs,rfl⟩:=A0V.1 hd;simp only[A1J,A1Z,A1O,hs,A3I,Option.some.injEq]at hv;subst hv;exact .mkStr
end Go.Sym
namespace Go.Pb
variable [Go.Sym.Tab]
open Go.Sym
variable {nm:List UInt8->Int}
def A1m(nm:List UInt8->Int)(s:St)(x:Cg):Cg:=(x.1++(cgS nm x.1.length x.2 s).1,(cgS nm x.1.length x.2 s).2)
def F9(nm:List UInt8->Int)(l:List St)(x:Cg):Cg:=(x.1++(cgB nm x.1.length x.2 l).1,(cgB nm x.1.length x.2 l).2)
theorem M8(x:Cg):F9 nm [] x=x:=by simp[F9,cgB]
theorem A8e(s:St)(l:List St)(x:Cg):F9 nm (s::l) x=F9 nm l (A1m nm s x):=by
 unfold F9 A1m;rw[cgB];simp
theorem S8:∀(a b:List St) (x:Cg),F9 nm (a++b) x=F9 nm b (F9 nm a x)
 |[],b,x=>by rw[M8];rfl
 |s::a,b,x=>by rw[List.cons_append,A8e,A8e,S8 a b]
theorem B4a{l:List St}{k:Nat}{s:St}(h:l[k]? = some s)(x:Cg):F9 nm (l.take (k+1)) x=A1m nm s (F9 nm (l.take k) x):=by
 rw[A0R,h,S8];show F9 nm [s] _=_;rw[A8e,M8]
def B9l(x y:Cg):Prop:=x.1.length<=y.1.length/\x.2.length<=y.2.length
theorem B5x(l:List St)(x:Cg):B9l x (F9 nm l x):=⟨by simp[F9],Z8 nm l _ _⟩
theorem D7f(s:St)(x:Cg):B9l x (A1m nm s x):=⟨by simp[A1m],D3n nm s _ _⟩
theorem B3z(l:List St)(k:Nat)(x:Cg):B9l (F9 nm (l.take k) x) (F9 nm l x):=by
 have h:=S8 (nm:=nm) (l.take k) (l.drop k) x;rw[A1W]at h;rw[h];exact B5x _ _
def CgB(x:Cg):Prop:=x.1.length<=99999999/\x.2.length<=99999999
theorem B9l.bnd{x y:Cg}(h:B9l x y)(hy:CgB y):CgB x:=⟨A1D h.1 hy.1,A1D h.2 hy.2⟩
section
variable {k:Int} {n t:List UInt8} {a:List Ex} {u v:List St} {q:Int} {x x1:Cg}
theorem B1y(h1:x1=(x.1++C4 nm a,x.2))(hv:v.length=0):A1m nm (.mk 2 n t a u v q) x =
  (x1.1++⟨13,((x1.1++(⟨13,0⟩:Ins)::(cgB nm (x1.1.length+1) x1.2 u).1).length:Int)⟩::(cgB nm (x1.1.length+1) x1.2 u).1,(cgB nm (x1.1.length+1) x1.2 u).2):=by
 subst h1;unfold A1m;rw[cgS,if_pos rfl,if_pos hv]
 grind
theorem B1x(h1:x1=(x.1++C4 nm a,x.2))(hv:¬v.length=0){T:Cg}(hT:T=cgB nm (x1.1.length+1) x1.2 u){W:Cg}(hW:W=cgB nm (x1.1.length+1+T.1.length+1) T.2 v):A1m nm (.mk 2 n t a u v q) x =
  ((x1.1++⟨13,((x1.1.length+1+T.1.length+1:Nat):Int)⟩::T.1)++⟨12,((x1.1.length+1+T.1.length+1+W.1.length:Nat):Int)⟩::W.1,W.2):=by
 subst hW hT h1;unfold A1m;rw[cgS,if_pos rfl,if_neg hv];simp
theorem B1v(h1:x1=(x.1++C4 nm a,x.2)){T:Cg}(hT:T=cgB nm (x1.1.length+1) x1.2 u):A1m nm (.mk 3 n t a u v q) x =
  (x1.1++⟨14,((x1.1.length+1+T.1.length+1:Nat):Int)⟩::(T.1++[⟨12,(x1.1.length:Int)⟩]),T.2):=by
 subst hT h1;unfold A1m;rw[cgS,if_neg (by decide),if_pos rfl];simp
theorem B1u(h1:x1=(x.1++C4 nm a,x.2)):A1m nm (.mk 18 n t a u v q) x=(x1.1++[⟨29,((txS x1.2 t).1:Int)⟩],(txS x1.2 t).2):=by
 subst h1;unfold A1m;rw[cgS,if_neg (by decide),if_neg (by decide),if_pos rfl];simp
theorem B1w(h1:x1=(x.1++C4 nm a,x.2))(h2:¬k=2)(h3:¬k=3)(h18:¬k=18):A1m nm (.mk k n t a u v q) x=(x1.1++[⟨Pb.stOp k,nm n⟩],x1.2):=by
 subst h1;unfold A1m;rw[cgS,if_neg h2,if_neg h3,if_neg h18];simp
theorem B3y(s:St)(x:Cg):B9l (x.1++C4 nm s.args,x.2) (A1m nm s x):=by
 obtain⟨k,n,t,a,u,v,q⟩:=s;refine⟨?_,show x.2.length<=_ from(D7f _ _).2⟩;simp only[St.args];by_cases h2:k=2
 ·subst h2;by_cases hv:v.length=0
  ·rw[B1y rfl hv];simp
  ·rw[B1x rfl hv rfl rfl];simp
 ·by_cases h3:k=3
  ·subst h3;rw[B1v rfl rfl];simp
  ·by_cases h18:k=18
   ·subst h18;rw[B1u rfl];simp
   ·rw[B1w rfl h2 h3 h18];simp
end
section
variable {H0:Hp} {t c i d:Nat} {b:Option Nat} {mk:DV->DV->List DV} {l r:List Ins} {S:List (List UInt8)} {op k z:Int}
theorem E4c(h:GN H0 t (some i) b (l++⟨op,k⟩::r,S) c)(z:Int):(GM H0 t (some i) b mk (l++⟨op,k⟩::r,S)).upd i ⟨2,true,A0h (l++⟨op,z⟩::r)⟩=GM H0 t (some i) b mk (l++⟨op,z⟩::r,S):=by
 have h2:=h.ha i rfl;have h':GN H0 t (some i) b (l++⟨op,z⟩::r,S) c:=h.keep (A0E _) (λe=>by grind) (λe=>h.bn e)
 funext j
 by_cases e:j=i
 ·subst e;rw[A0,A5s h' rfl]
 ·rw[h_ne e];by_cases et:j=t
  ·subst et;rw[Y6 h,Y6 h'];simp
  ·by_cases eb:b=some j
   ·rw[A7d eb,A7d eb]
   ·rw[D4d et (λq=>e (by grind)) eb,D4d et (λq=>e (by grind)) eb]
theorem C5k(h:GN H0 t (some i) b (l++⟨op,k⟩::r,S) c)(z:Int):stB (GM H0 t (some i) b mk (l++⟨op,k⟩::r,S)) d i 1 (l.length*2+1) (I64 z) (some ⟨2,true,A0h (l++⟨op,k⟩::r)⟩)=some (.tup [],GM H0 t (some i) b mk (l++⟨op,z⟩::r,S),d):=by
 have hcl:=A3b (l++⟨op,k⟩::r);have hle:l.length<(l++(⟨op,k⟩:Ins)::r).length:=by simp
 exact(A7a (i:=1) rfl (by omega) rfl).trans (by rw[B7x,E4c h])
theorem GN.mend(h:GN H0 t (some i) b (l++⟨op,k⟩::r,S) c)(z:Int):GN H0 t (some i) b (l++⟨op,z⟩::r,S) c:=h.keep (A0E _) (λe=>by grind) (λe=>h.bn e)
theorem GN.some{a:Option Nat}{i0:Ins}(h:GN H0 t a b (l++i0::r,S) c):∃i,a=some i:=by
 cases a with
 |none=>have:=h.an rfl;simp_all
 |some i=>simp
end
end Go.Pb
namespace Go.Sym
variable [Go.Sym.Tab]
variable {P:Program}
theorem AC.own{f:Nat}{args:List DV}{V:Nat->DV}{u:Nat}{cs:List DV}(h:AC P f args nil 0 (λv H' _ => ∃id,v=V id/\H'=nil.upd id ⟨u,true,cs⟩))(hn:DV.nlL args=true)(hcs:∀d∈cs,d.nl=true)
  (hV:∀(ρ ρ':Ren) (id id':Nat) (v:Value), ρ.nm id = ρ'.nm id'->((∀b r, ρ.fz b=some r -> ρ'.fz b=some r)/\∀b r, ρ.fm b=some r -> ρ'.fm b=some r)->VRel ρ (V id) v->VRel ρ' (V id') v) (H:Hp) (c:Nat) :
  AC P f args H c (λv H' c'=>v=V c/\H'=H.upd c ⟨u,true,cs⟩/\c'=c+1):=by
 refine⟨h.1,fun ρ w vs hR hf hA=>?_⟩;refine(h.2 ⟨λ_=>none, ρ.fz, ρ.tab, ρ.fm⟩ w vs hR.nil (λ_ _=>rfl) (hA.nl (ρ := ρ) (ρ':=⟨λ_=>none, ρ.fz, ρ.tab, ρ.fm⟩) (λ_ _ h=>h) (λ_ _ h=>h) hn)).mono ?_;rintro e w' ⟨v,v',H1,c1, ρ1,rfl,⟨id,rfl,rfl⟩,d⟩;have hb:=d.ext.below (λid b hb=>by cases hb);obtain⟨b1,b2,b3,b4,b5⟩:=hb;obtain⟨t,ht,hbr⟩:=d.rep.blk id _ A0;have hsz:w.heap.size<=t.block:=by
  rcases d.ext.mine id _ t A0 ht with h1|⟨i,b0,t0,e1, -⟩
  ·exact h1
  trivial
 obtain⟨ρ2,hρ⟩:∃ ρ2:Ren, ρ2=⟨λj=>if j=c then some t else ρ.nm j, ρ1.fz, ρ1.tab, ρ1.fm⟩:=⟨_,rfl⟩;have n1 : ρ2.nm c=some t:=by simp_all
 have n2:∀ {j},¬j=c -> ρ2.nm j = ρ.nm j:=λ{j} hj=>by simp_all
 have n3 : ρ2.fz = ρ1.fz:=by grind
 have n4 : ρ2.fm = ρ1.fm:=by grind
 have hle : ρ.le ρ2:=⟨λj x hj=>by
  grind,λb r hb=>by rw[n3];exact d.ext.le.fz b r hb,λb r hb=>by rw[n4];exact d.ext.le.fm b r hb⟩
 refine⟨V c,v',_,_, ρ2,rfl,⟨rfl,rfl,rfl⟩,hV ρ1 ρ2 id c v' (by grind) ⟨λb r hb=>by grind,λb r hb=>by grind⟩ d.val,?_,λj hj=>by grind,by omega,
  λj hj hne=>by rw[hnO]at hne;omega,λj hj=>n2 (by omega),?_⟩
 ·refine⟨λj b hb=>?_,λi j bi bj ti tj hi hj hij h1 h2 ho=>?_,by rw[n3];exact d.rep.frz,λj b t2 hb ho ht2=>?_,λk es hk=>?_⟩
  ·by_cases e:j=c
   ·subst e;rw[A0]at hb;cases hb;refine⟨t,n1,?_⟩;rcases hbr with ⟨gm,c0,e0,fr,g1,g2,g3,g4,g5,g6⟩|⟨-, -, -,es,cl,kd,ks,vs', -,g2, -⟩
    case inr =>
     simp only at g2;subst g2;have:=hcs _ A0J
     trivial
    refine .inl ⟨gm,c0,e0,fr,g1,g2,g3,g4,λi x hx=>?_,g6⟩;obtain⟨q1,x',q2,q3⟩:=g5 i x hx;exact⟨q1,x',q2,q3.nl (ρ := ρ1) (ρ' := ρ2) (λb r hb=>by grind) (λb r hb=>by grind) (hcs x (A0U hx))⟩
   ·rw[h_ne e]at hb;obtain⟨t2,ht2,hb2⟩:=hR.blk j b hb;exact⟨t2,by grind,(hb2.mono hle).world (b5 _ hb2.lt)⟩
  ·by_cases e1:i=c
   ·subst e1;have e2:¬j=i:=λe=>hij e.symm;rw[h_ne e2]at hj;rw[n1]at h1;cases h1;rw[n2 e2]at h2;have:=(hR.blk j bj hj);obtain⟨t2,ht2,hb2⟩:=this;rw[h2]at ht2;cases ht2;have:=hb2.lt;omega
   ·rw[h_ne e1]at hi;rw[n2 e1]at h1;by_cases e2:j=c
    ·subst e2;rw[n1]at h2;cases h2;obtain⟨t2,ht2,hb2⟩:=hR.blk i bi hi;rw[h1]at ht2;cases ht2;have:=hb2.lt;omega
    ·rw[h_ne e2]at hj;rw[n2 e2]at h2;exact hR.sep i j bi bj ti tj hi hj hij h1 h2 ho
  ·rw[n3];by_cases e:j=c
   ·subst e;rw[A0]at hb;cases hb;rw[n1]at ht2;cases ht2;exact d.rep.dis id _ t A0 rfl ht
   ·rw[h_ne e]at hb;rw[n2 e]at ht2;cases hf1 : ρ1.fz t2.block with
    |none=>rfl
    |some r =>
     rcases d.ext.fzn _ _ hf1 with h1|h1|⟨i,b0,t0,e1, -⟩
     ·rw[hR.dis j b t2 hb ho ht2]at h1;cases h1
     ·have:=(hR.lookb hb ht2).lt;omega
     trivial
  ·rw[n4]at hk;refine⟨(d.rep.frm k es hk).1,λj b t2 hb ho ht2=>?_⟩;by_cases e:j=c
   ·subst e;rw[A0]at hb;cases hb;rw[n1]at ht2;cases ht2;exact(d.rep.frm k es hk).2 id _ t A0 rfl ht
   ·rw[h_ne e]at hb;rw[n2 e]at ht2;rcases d.ext.fmn _ _ hk with h1|h1|⟨i,b0,t0,e1, -⟩
    ·exact(hR.frm k es h1).2 j b t2 hb ho ht2
    ·have:=(hR.lookb hb ht2).lt;omega
    trivial
 ·refine⟨hle,b1,b2,b3,b4,λk hk _=>b5 k hk,λj b t2 h1 h2=>?_,λk r hk=>?_,λk r hk=>?_⟩
  ·by_cases e:j=c
   ·grind
   ·rw[h_ne e]at h1
    grind
  ·rw[n3]at hk;rcases d.ext.fzn k r hk with h1|h1|⟨i,b0,t0,e1, -⟩
   ·exact .inl h1
   ·exact .inr (.inl h1)
   trivial
  ·rw[n4]at hk;rcases d.ext.fmn k r hk with h1|h1|⟨i,b0,t0,e1, -⟩
   ·exact .inl h1
   ·exact .inr (.inl h1)
   trivial
section
open Go.Eng (IC)
variable {N:Nat} {x:IC} {T:Tm} {H:Hp} {c:Nat} {Q:Exit->St->Prop}
theorem IW.gl{s:St}(h:IW P N x s (λe s'=>Q e s'\/∃(ks:List Nat) (ds':List DV) (H2:Hp),GL s'.H (ks.map s'.T) H2 ds'/\Q e ⟨tm (ks.zip ds'),H2,s'.c⟩)):IW P N x s Q:=by
 intro hm cd hc ρ a w hS;refine wp_mono (h hm cd hc ρ a w hS) λe a' w' hq=>?_;obtain⟨ρ2,s2,q,hS2,hst⟩:=hq;rcases q with q|⟨ks,ds',H2,g,q⟩
 ·exact⟨ρ2,s2,q,hS2,hst⟩
 have hA:G4 ρ2 (ks.map s2.T) ((ks.map λk=>a'.tmps.getD k undef)).toArray:=by
  refine⟨by simp,λi x y hx hy=>?_⟩;simp only[A1O,A0V,A1Z]at hx hy;obtain⟨k,hk,rfl⟩:=hx;obtain⟨k',hk',rfl⟩:=hy;rw[hk]at hk';cases hk';exact hS2.tm k
 obtain⟨ρ1,e1,r1,a1,x1⟩:=g.2 ρ2 w' _ hS2.rep hA;refine⟨ρ1,⟨tm (ks.zip ds'),H2,s2.c⟩,q,⟨C8k λi k d hk hd=>a1.2 i d _ hd (by grind),r1,by rw[e1];exact hS2.fresh,hS2.size,hS2.dfr⟩,?_⟩;exact⟨hst.up,λid hid hne=>hst.dom id hid (g.1 id hne),λid hid=>by rw[e1];exact hst.same id hid,hst.ext.trans x1⟩
theorem B6l:∀ {L:List (Nat × DV)} {T:Tm},B7 L T->(L.map Prod.fst).map T=L.map Prod.snd
 |[],_,_=>rfl
 |(k,v)::r,T,⟨h1,h2⟩=>by simp only[A0W,h1,B6l h2]
theorem D9a(L:List (Nat × DV)):(L.map Prod.fst).zip (L.map Prod.snd)=L:=by
 induction L with
 |nil=>rfl
 |cons a r ih=>grind
def lpG{σ:Type}(L : σ->List (Nat × DV))(h : σ->Hp)(I : σ->Nat->Prop)(μ : σ->Nat)(m:Nat)(Q:Exit->St->Prop):Exit->St->Prop
 |.normal,⟨T,H,c⟩ => ∃b,B7 (L b) T/\GL H ((L b).map Prod.snd) (h b) ((L b).map Prod.snd)/\I b c /\ μ b<m
 |e,s=>Q e s
theorem D6l{σ:Type}(L : σ->List (Nat × DV))(h : σ->Hp)(I : σ->Nat->Prop)(μ : σ->Nat)(a : σ)(hL:∀b,B7 (L b) (tm (L b)))(h0:B7 (L a) T)(hH:Sub (h a) H)(hI:I a c)
  (step:∀a c,I a c->IW P N x ⟨tm (L a),h a,c⟩ (lpG L h I μ (μ a) Q)):IW P N (.loop x) ⟨T,H,c⟩ Q:=by
 refine A6 L h I μ a h0 hH hI λa c hI=>IW.gl ((step a c hI).mono λe s' q=>?_);obtain⟨T',H',c'⟩:=s';cases e with
 |normal =>
  obtain⟨b,q1,q2,q3,q4⟩:=q;refine .inr ⟨(L b).map Prod.fst,(L b).map Prod.snd,h b,by rw[B6l q1];omega,?_⟩;rw[D9a];exact⟨b,hL b,Sub.refl _,q3,q4⟩
 |_=>exact .inl q
theorem E5x{σ:Type}{L : σ->List (Nat × DV)}{h : σ->Hp}{I : σ->Nat->Prop}{μ : σ->Nat}{m:Nat}:lpG L h I μ m Q .normal ⟨T,H,c⟩ = ∃b,B7 (L b) T/\GL H ((L b).map Prod.snd) (h b) ((L b).map Prod.snd)/\B9k I b c /\ μ b<m:=propext Iff.rfl
theorem E5w{σ:Type}{L : σ->List (Nat × DV)}{h : σ->Hp}{I : σ->Nat->Prop}{μ : σ->Nat}{m:Nat}:lpG L h I μ m Q .ret ⟨T,H,c⟩=Q .ret ⟨T,H,c⟩:=propext Iff.rfl
end
section
open Go.Eng (AOp)
variable {c0:Nat} {T:Tm} {H:Hp}
def agN(T:Tm)(H:Hp)(d n:Nat):Option (Option Nat × Blk)->Prop
 |some (k,b)=>T d=mkv n k/\H n=some b
 |none=>False
theorem E8f{j d:Nat}{f:AOp}:agK c0 j T H (some d) (.new f) (some true)=agN T H d (c0+j) (aev (ev T) f):=by
 simp only[agK,agN]
 grind
theorem E8g{d n:Nat}{k:Option Nat}{b:Blk}:agN T H d n (some (k,b))=(T d=mkv n k/\H n=some b):=propext Iff.rfl
end
attribute [go_sem] E8f E8g
attribute [go_sem] E5x E5w
end Go.Sym
namespace Go.Pb
variable [Go.Sym.Tab]
open Go.Sym
abbrev NmL:=List (List UInt8 × (Int × Int))
def inL(l:NmL):List (List UInt8 × DV):=l.map λp=>(p.1,I64 p.2.2)
theorem A1i(n:List UInt8):∀l:NmL,(inL l).lookup n=(l.lookup n).map λq=>I64 q.2
 |[]=>rfl
 |p::l=>by
  simp only[inL,A0W,List.lookup];cases n==p.1 with
  |true=>rfl
  |false=>exact A1i n l
abbrev B0s(l:NmL):Blk:=⟨0,true,[.mpc .s (mkK (inL l)) (mvV (inL l))]⟩
abbrev bgC(o2:Option Nat)(ps:List Int)(o:Option Nat)(vs:List Int)(t n:Int)(m:DV):List DV:=[.snil,.snil,.snil,todoV o2 ps.length,todoV o vs.length,I64 t,I64 n,m]
def bgM(D:List Dc)(M:List Md)(l:NmL)(a:List (Int × Nat))(o2:Option Nat)(ps:List Int)(o:Option Nat)(vs:List Int):Hp :=
 optH (optH ((((nil.upd 0 ⟨0,true,[C3 D,C6 M]⟩).upd 1 (B0s l)).upd 2 ⟨0,true,bgC o2 ps o vs 0 0 (.mid 1)⟩).upd 3 ⟨0,true,[.mpc (.i .i64) (ahK a) (ahV a)]⟩) o2 ⟨1,true,ps.map I64⟩) o ⟨1,true,vs.map I64⟩
structure BN (o2:Option Nat) (ps:List Int) (o:Option Nat) (vs:List Int) (c:Nat):Prop where
 c4:4<=c
 h2:∀i,o2=some i->4<=i/\i<c
 ho:∀i,o=some i->4<=i/\i<c
 ne:∀i j,o2=some i->o=some j->i≠j
 n2:o2=none->ps=[]
 no:o=none->vs=[]
section
variable {D:List Dc} {M:List Md} {l:NmL} {a:List (Int × Nat)} {o2 o:Option Nat} {ps vs:List Int} {c:Nat} {X:Hp}
theorem C5e(h:BN o2 ps o vs c){j:Nat}(hj:j<4):bgM D M l a o2 ps o vs j=((((nil.upd 0 ⟨0,true,[C3 D,C6 M]⟩).upd 1 (B0s l)).upd 2 ⟨0,true,bgC o2 ps o vs 0 0 (.mid 1)⟩).upd 3 ⟨0,true,[.mpc (.i .i64) (ahK a) (ahV a)]⟩) j:=by
 rw[bgM,B5 (λi hi=>by have:=h.ho i hi;omega),B5 (λi hi=>by have:=h.h2 i hi;omega)]
theorem bg0(h:BN o2 ps o vs c):bgM D M l a o2 ps o vs 0=some ⟨0,true,[C3 D,C6 M]⟩:=by rw[C5e h (by simp)];rfl
theorem bg1(h:BN o2 ps o vs c):bgM D M l a o2 ps o vs 1=some (B0s l):=by rw[C5e h (by simp)];rfl
theorem bg2(h:BN o2 ps o vs c):bgM D M l a o2 ps o vs 2=some ⟨0,true,bgC o2 ps o vs 0 0 (.mid 1)⟩:=by rw[C5e h (by simp)];rfl
theorem bg3(h:BN o2 ps o vs c):bgM D M l a o2 ps o vs 3=some ⟨0,true,[.mpc (.i .i64) (ahK a) (ahV a)]⟩:=by rw[C5e h (by simp)];rfl
theorem bgP(h:BN o2 ps o vs c){i:Nat}(hi:o2=some i):bgM D M l a o2 ps o vs i=some ⟨1,true,ps.map I64⟩:=by
 rw[bgM,B5 (λj hj=>h.ne i j hi hj)];subst hi;exact A0
theorem bgV{i:Nat}(hi:o=some i):bgM D M l a o2 ps o vs i=some ⟨1,true,vs.map I64⟩:=by
 rw[bgM];subst hi;exact A0
theorem bgN(h:BN o2 ps o vs c){j:Nat}(hj:c<=j):bgM D M l a o2 ps o vs j=none:=by
 have:=h.c4;rw[bgM,B5 (λi hi=>by have:=h.ho i hi;omega),B5 (λi hi=>by have:=h.h2 i hi;omega),hnO,hnO,hnO,hnO];rfl
theorem B2c(h0:X 0=some ⟨0,true,[C3 D,C6 M]⟩)(h1:X 1=some (B0s l))(h2:X 2=some ⟨0,true,bgC o2 ps o vs 0 0 (.mid 1)⟩)(h3:X 3=some ⟨0,true,[.mpc (.i .i64) (ahK a) (ahV a)]⟩)
  (hp:∀i,o2=some i->X i=some ⟨1,true,ps.map I64⟩) (hv:∀i,o=some i->X i=some ⟨1,true,vs.map I64⟩):Sub (bgM D M l a o2 ps o vs) X:=by
 intro j B hj;rw[bgM]at hj;by_cases e1:o=some j
 ·subst e1;simp only[optH]at hj;rw[A0]at hj
  grind
 rw[B5 (λi hi e=>e1 (by grind))]at hj;by_cases e2:o2=some j
 ·subst e2;simp only[optH]at hj;rw[A0]at hj
  grind
 rw[B5 (λi hi e=>e2 (by grind))]at hj;by_cases e3:j=3
 ·subst e3;rw[A0]at hj;grind
 rw[h_ne e3]at hj;by_cases e4:j=2
 ·subst e4;rw[A0]at hj;grind
 rw[h_ne e4]at hj;by_cases e5:j=1
 ·subst e5;rw[A0]at hj;grind
 rw[h_ne e5]at hj;by_cases e6:j=0
 ·subst e6;rw[A0]at hj;grind
 rw[h_ne e6]at hj;cases hj
theorem BN.le{c':Nat}(h:BN o2 ps o vs c)(hc:c<=c'):BN o2 ps o vs c' :=
 ⟨by have:=h.c4;omega,λi hi=>by have:=h.h2 i hi;omega,λi hi=>by have:=h.ho i hi;omega,h.ne,h.n2,h.no⟩
theorem BN.newV{c' i:Nat}{vs':List Int}(h:BN o2 ps o vs c)(h1:c<=i)(h2:i<c'):BN o2 ps (some i) vs' c':=by
 have:=h.c4;exact⟨by omega,λj hj=>by have:=h.h2 j hj;omega,λj hj=>by grind,λj k hj hk=>by cases hk;have:=h.h2 j hj;omega,h.n2,λe=>(by grind)⟩
theorem BN.newP{c' i:Nat}{ps':List Int}(h:BN o2 ps o vs c)(h1:c<=i)(h2:i<c'):BN (some i) ps' o vs c':=by
 have:=h.c4;exact⟨by omega,λj hj=>by grind,λj hj=>by have:=h.ho j hj;omega,λj k hj hk=>by cases hj;have:=h.ho k hk;omega,λe=>(by grind),h.no⟩
end
theorem B7j{l:NmL}{n:List UInt8}{y q:Int × Int}(hl:l.lookup n=some y):X7 l n q=l/\lkV (I64 0) true (mvV (inL l)) (E7 (.str n) (mkK (inL l)) 0)=some (.tup [I64 y.2,.bool true]) :=
 ⟨by rw[X7,if_pos (by grind)],A6j (ok:=true) (by rw[A1i,hl];rfl)⟩
theorem B7k{l:NmL}{n:List UInt8}{q:Int × Int}(hl:l.lookup n=none):B0s (X7 l n q)=⟨0,true,[.mpc .s (mkK (inL l)++[.str n]) (mvV (inL l)++[I64 q.2])]⟩ /\
  lkV (I64 0) true (mvV (inL l)) (E7 (.str n) (mkK (inL l)) 0)=some (.tup [I64 0,.bool false])/\E7 (.str n) (mkK (inL l)) 0=none:=by
 have h:(inL l).lookup n=none:=by rw[A1i,hl];rfl
 refine⟨?_,A6k (ok:=true) h,C4c h⟩;rw[X7,if_neg (by grind)];simp[B0s,inL,mkK,mvV]
theorem E1o{r:Ru}(hk:Y5 r.decls)(n:List UInt8):lkV (I64 0) false (mvV (inL (nmL r))) (E7 (.str n) (mkK (inL (nmL r))) 0)=some (I64 (F3 r n).2):=by
 cases hl:(nmL r).lookup n with
 |some q =>
  obtain⟨h1,h2⟩:=C3r hk hl;rw[h1];exact A6j (ok:=false) (by rw[A1i,hl];rfl)
 |none =>
  rw[C3s hk hl];exact A6k (ok:=false) (by rw[A1i,hl];rfl)
end Go.Pb
namespace Go.Sym
variable [Go.Sym.Tab]
open Go.Eng (KKey)
theorem C8p{α:Type}{pre suf:List α}{x y v : α}{i:Nat}(h:(pre++[y]++suf)[i]? = some v):(i=pre.length/\v=y/\(pre++[x]++suf)[i]? = some x)\/(pre++[x]++suf)[i]? = some v:=by
 grind
theorem GL.frzmC{H H':Hp}{ds:List DV}{id k u u':Nat}{kd:KKey}{ks vs pre suf:List DV}(hb:H id=some ⟨u,true,[.mpc kd ks vs]⟩)(hk:H k=some ⟨u',true,pre++[.mid id]++suf⟩)(hne:k≠id)
  (hk':H' k=some ⟨u',true,pre++[.mp kd ks vs]++suf⟩) (hH:∀j,j≠k->H' j=none\/(j≠id/\H' j=H j)):GL H ds H' ds:=by
 have back:∀j bj,H' j=some bj->j≠id/\∃b0,H j=some b0/\b0.own=bj.own:=by
  grind
 refine⟨λj hj=>?_,fun ρ w a2 hR hA=>?_⟩
 ·grind
 obtain⟨t,ht,hB⟩:=hR.blk id _ hb;rcases hB with ⟨hm,c,e,fr, -, -, -, -,g5, -⟩|⟨hm, -,hs,es,cl,kd',ks',vs',g1,g2,g3,g6⟩
 ·have:=(g5 0 _ rfl).1
  trivial
 cases g2;have hnone : ρ.fm t.block=none:=by
  cases hf : ρ.fm t.block with
  |none=>rfl
  |some es'=>exact absurd rfl ((hR.frm _ _ hf).2 id _ t hb rfl ht)
 obtain⟨ρ2,hρ⟩:∃ ρ2:Ren, ρ2=⟨ρ.nm, ρ.fz, ρ.tab,λk=>if k=t.block then some es else ρ.fm k⟩:=⟨_,rfl⟩;have n1 : ρ2.nm = ρ.nm:=by grind
 have n2 : ρ2.fz = ρ.fz:=by grind
 have n3:∀k r, ρ2.fm k=some r->(k=t.block/\r=es) \/ ρ.fm k=some r:=by
  intro k r hk;rw[hρ]at hk
  grind
 have n4 : ρ2.fm t.block=some es:=by simp_all
 have hle : ρ.le ρ2:=⟨λi x h=>by grind,λb r h=>by grind,λb r h=>by
  rw[hρ]
  grind⟩
 have hval:∀v,VRel ρ (.mid id) v->VRel ρ2 (.mp kd ks vs) v:=by
  intro v hv;obtain⟨t',ht', -,rfl⟩:=hv.mid_inv;rw[ht]at ht';cases ht';obtain⟨a1,a2,a3,a4,a5⟩:=g3;exact .mp kd ks vs t.block es n4 a1 a2 a3 (λi x e hx he=>(a4 i x e hx he).mono hle) (λi x e hx he=>(a5 i x e hx he).mono hle)
 refine⟨ρ2,n1,⟨λj bj hj=>?_,λi j bi bj ti tj hi hj hij h1 h2 ho=>?_,λk r hk=>?_,λj bj tj hj ho hjt=>?_,λk r hk=>?_⟩,⟨hA.1,λi x y hx hy=>(hA.2 i x y hx hy).mono hle⟩,?_⟩
 ·rw[n1];by_cases ej:j=k
  ·subst ej;rw[hk']at hj;cases hj;obtain⟨tj,q1,q2⟩:=hR.blk j _ hk;refine⟨tj,q1,?_⟩;rcases q2 with ⟨gm,c,e,fr,p1,p2,p3,p4,p5,p6⟩|⟨-, -, -,es2,cl2,kd2,ks2,vs2, -,p2, -⟩
   ·refine .inl ⟨gm,c,e,fr,p1,p2,by grind,p4,λi v hv=>?_,p6⟩;rcases C8p (x:=.mid id) hv with ⟨h1,rfl,h3⟩|h1
    ·obtain⟨q1,v',q2,q3⟩:=p5 i _ h3;exact⟨rfl,v',q2,hval v' q3⟩
    ·obtain⟨q1,v',q2,q3⟩:=p5 i v h1;exact⟨q1,v',q2,q3.mono hle⟩
   ·exfalso;have h3:(DV.mid id)∈[DV.mpc kd2 ks2 vs2]:=by rw[<- p2];simp
    grind
  ·rcases hH j ej with h0|⟨-,h0⟩
   ·grind
   ·obtain⟨tj,q1,q2⟩:=hR.blk j bj (by grind);exact⟨tj,q1,q2.mono hle⟩
 ·rw[n1]at h1 h2;obtain⟨-,b1,e1,e4⟩:=back i bi hi;obtain⟨-,b2,f1, -⟩:=back j bj hj;exact hR.sep i j b1 b2 ti tj e1 f1 hij h1 h2 (e4.trans ho)
 ·rw[n2]at hk;exact hR.frz k r hk
 ·rw[n1]at hjt;rw[n2];obtain⟨-,b1,e1,e4⟩:=back j bj hj;exact hR.dis j b1 tj e1 (e4.trans ho) hjt
 ·rcases n3 k r hk with ⟨rfl,rfl⟩|h1
  ·refine⟨⟨cl,g1,g6⟩,λj bj tj hj ho hjt=>?_⟩;rw[n1]at hjt;obtain⟨hne,b1,e1,e4⟩:=back j bj hj;exact hR.sep j id b1 _ tj t e1 hb hne hjt ht (e4.trans ho)
  ·refine⟨(hR.frm k r h1).1,λj bj tj hj ho hjt=>?_⟩;rw[n1]at hjt;obtain⟨-,b1,e1,e4⟩:=back j bj hj;exact(hR.frm k r h1).2 j b1 tj e1 (e4.trans ho) hjt
 ·refine⟨hle,rfl,rfl,rfl,A0E _,λ_ _ _=>rfl,λj bj tj hj hjt=>?_,λk r hk=>.inl (by rw[<- n2];exact hk),λk r hk=>?_⟩
  ·rw[n1]at hjt;obtain⟨-,b1,e1,e4⟩:=back j bj hj;exact .inr ⟨j,b1,tj,e1,λh=>e4.trans h,hjt,rfl⟩
  grind
theorem D6r{H:Hp}{a k u u' w n:Nat}{pre suf xs ds junk:List DV}(hk:H k=some ⟨w,true,pre++[.slc a 0 n]++suf⟩)(ha:H a=some ⟨u,true,cellsL xs++junk⟩)
  (h1:∀d∈pre++suf,d.one=true) (hl:xs.length=n) (hu:∀x∈xs,x.cells.length=u') (hak:¬a=k) :
  GL H ds ((H.del a).upd k ⟨w,true,pre++[.lst xs]++suf⟩) ds:=by
 have hz:FzL a ⟨u,true,cellsL xs++junk⟩ (pre++[.slc a 0 n]++suf) (pre++[.lst xs]++suf) :=
  FzL.app (FzL.app (FzL.refl _) (.cons _ _ _ _ (P6 (blk:=⟨u,true,cellsL xs++junk⟩) hl hu ⟨junk,rfl⟩) .nil)) (FzL.refl _)
 refine GL.frzT (id:=a) ha rfl (λj=>?_) (FzL.refl ds);by_cases ej:j=k
 ·subst ej;refine .inr ⟨Ne.symm hak,.inr ⟨_,_,hk,A0,rfl,rfl,hz,λd hd=>?_⟩⟩;simp only[A0Q,A1A,A1L]at hd;rcases hd with hd|rfl|hd
  ·exact h1 d (A3K _ hd)
  ·rfl
  grind
 ·rw[h_ne ej];by_cases ea:j=a
  ·subst ea;left;simp[Hp.del]
  ·refine .inr ⟨ea,.inl ?_⟩;rw[G8 ea]
end Go.Sym
namespace Go.Pb
variable [Go.Sym.Tab]
open Go.Sym
variable {nm:List UInt8->Int}
mutual
theorem E3r:∀e:Ex,(cgE nm e).length<=e.sz
 |.mk k v n a p=>by
  rw[cgE,Ex.sz,A0A,A0K];have:=B5w a;omega
theorem B5w:∀l:List Ex,(C4 nm l).length<=Ex.szs l
 |[]=>by simp[C4]
 |e::l=>by
  rw[C4,Ex.szs,A0A];have:=E3r e;have:=B5w l;omega
end
theorem D9q(S:List (List UInt8))(t:List UInt8):(txS S t).2.length<=S.length+1:=by
 unfold txS;grind
mutual
theorem E3q:∀(s:St) (p:Nat) (S:List (List UInt8)),(cgS nm p S s).1.length<=2*s.sz/\(cgS nm p S s).2.length<=S.length+s.sz
 |.mk k n t a x y q,p,S=>by
  have ha:=B5w (nm:=nm) a;rw[cgS,St.sz];by_cases h2:k=2
  ·rw[if_pos h2];obtain⟨b1,b2⟩:=A8f x (p+(C4 nm a).length+1) S;by_cases hy:y.length=0
   ·grind
   ·rw[if_neg hy];obtain⟨c1,c2⟩:=A8f y (p+(C4 nm a).length+1+(cgB nm (p+(C4 nm a).length+1) S x).1.length+1) (cgB nm (p+(C4 nm a).length+1) S x).2
    grind
  ·rw[if_neg h2];by_cases h3:k=3
   ·rw[if_pos h3];obtain⟨b1,b2⟩:=A8f x (p+(C4 nm a).length+1) S
    grind
   ·rw[if_neg h3];by_cases h18:k=18
    ·rw[if_pos h18];have:=D9q S t;simp only[A0A,A0F,A0O];constructor<;>omega
    grind
theorem A8f:∀(l:List St) (p:Nat) (S:List (List UInt8)),(cgB nm p S l).1.length<=2*St.szs l/\(cgB nm p S l).2.length<=S.length+St.szs l
 |[],p,S=>by simp[cgB]
 |s::l,p,S=>by
  rw[cgB,St.szs];obtain⟨a1,a2⟩:=E3q s p S;obtain⟨b1,b2⟩:=A8f l (p+(cgS nm p S s).1.length) (cgS nm p S s).2
  grind
end
theorem C5d(l:List St)(x:Cg):(F9 nm l x).1.length<=x.1.length+2*St.szs l/\(F9 nm l x).2.length<=x.2.length+St.szs l:=by
 obtain⟨h1,h2⟩:=A8f (nm:=nm) l x.1.length x.2;unfold F9
 grind
theorem B0d(a b:List St):St.szs (a++b)=St.szs a+St.szs b:=by simp[St.szs_map]
theorem B0c:∀l:List (List St),St.szs l.flatten=(l.map St.szs).sum
 |[]=>rfl
 |a::l=>by rw[A1M,B0d,B0c l];simp
theorem D7j(q:List KB)(k:Ky):((L0 q k).map St.szs).sum<=(q.map λx=>St.szs x.2).sum:=by
 induction q with
 |nil=>simp[L0]
 |cons x q ih =>
  rw[A4i]
  grind
theorem C2v:∀(M:List Md) (i:Nat) (p:C8),p∈E3 nm i M->St.szs p.2.flatten<=(M.map Md.sz).sum
 |[],_,_,h=>by cases h
 |m::M,i,p,h=>by
  rw[E3]at h;rcases A1A.1 h with h|h
  ·unfold rfP ptK at h;obtain⟨k, -,hk⟩:=A4Q.1 h;split at hk
   ·grind
   ·cases hk;rw[B0c];have h1:=D7j (m.hds.map (hdK nm i)) k;rw[A3Q]at h1;have h2:(m.hds.map ((λx:KB=>St.szs x.2)∘hdK nm i)).sum<=(m.hds.map Hd.sz).sum:=by
     generalize m.hds=hs
     induction hs with
     |nil=>simp
     |cons x hs ih =>
      simp only[A0W,A3C];have:St.szs (hdK nm i x).2<=x.sz:=by show St.szs x.body<=1+x.name.length+St.szs x.body;omega
      grind
    simp only[A0W,A3C,Md.sz];omega
  ·have:=C2v M (i+1) p h
   grind
theorem E0d{l:List C8}(h1:l.Pairwise λa b=>¬b.1.lt a.1)(h2:(l.map (·.1)).Nodup):Srt l:=by
 unfold Srt;have h3:l.Pairwise λa b=>a.1≠b.1:=by
  rw[List.Nodup,A4S]at h2;exact h2
 refine(h1.and h3).imp ?_;rintro a b ⟨g1,g2⟩;rcases Ky.tri a.1 b.1 with g|g|g
 ·exact g
 ·exact absurd g g2
 grind
theorem D0i{r:Ru}(h:ChkR r){s:List C8}(hp:(I0 [] (hkM (nmR r) 0 r.modes)).Perm s)(ho:s.Pairwise λa b=>¬b.1.lt a.1):s=E3 (nmR r) 0 r.modes:=by
 refine D0j (λm hm x hx=>(h.hd m hm x hx).ok h) hp.symm (E0d ho ?_);exact((hp.map _).nodup_iff).1 (A5q _ (by simp))
end Go.Pb
namespace Go.Pb
variable [Go.Sym.Tab]
theorem C4n(nm:List UInt8->Int):∀(l:List Md) (k:Nat),(hkM nm k l).length=(l.map λm=>m.hds.length).sum
 |[],_=>rfl
 |m::l,k=>by rw[hkM,A0A,A0C,C4n nm l];simp
theorem D7p(q:List KB):PB q.length (I0 [] q):=by
 have key:∀(q:List KB) (n:Nat) (l:List C8),PB n l->PB (n+q.length) (I0 l q):=by
  intro q
  induction q with
  |nil=>intro n l h;exact h
  |cons x q ih =>
   intro n l h;have:=ih (n+1) _ (PB.add (k:=x.1) (b:=x.2) h);exact this.le (by simp only[A0F];omega)
 have:=key q 0 [] ⟨by simp,λp hp=>by cases hp⟩
 grind
theorem C4p{r:Ru}(h:ChkR r):(r.modes.map λm=>m.hds.length).sum<=32*16:=by
 have h1:=h.lens.2;have:∀l:List Md,(∀m∈l,m.hds.length<=32)->(l.map λm=>m.hds.length).sum<=32*l.length:=by
  intro l
  induction l with
  |nil=>simp
  |cons m l ih =>
   grind
 have:=this r.modes λm hm=>by
  have:=h.mode m hm;unfold R0 at this
  grind
 omega
theorem E2r{r:Ru}(h:ChkR r):(r.modes.map λm=>m.hds.length).sum+r.modes.length<=1000000:=by
 have:=C4p h;have:=h.lens.2;omega
theorem D1r{r:Ru}(h:ChkR r):PB 512 (I0 [] (hkM (nmR r) 0 r.modes)):=(D7p _).le (by
 rw[C4n];have:=C4p h;omega)
theorem E4n{r:Ru}(h:ChkR r){s:List C8}(hp:(I0 [] (hkM (nmR r) 0 r.modes)).Perm s):PB 512 s:=by
 have:=D1r h;exact⟨by rw[<- hp.length_eq];exact this.1,λp hm=>this.2 p (hp.mem_iff.2 hm)⟩
theorem D3q{l:List C8}{k:Nat}{q:C8}(h:l[k]? = some q):l.take (k+1)=l.take k++[q]:=by
 rw[A0R,h];rfl
abbrev D3o(nm:List UInt8->Int)(q:C8)(x:Cg):Cg:=((F9 nm q.2.flatten x).1++[⟨31,0⟩],(F9 nm q.2.flatten x).2)
theorem D3r(nm:List UInt8->Int){l:List C8}{k:Nat}{q:C8}(h:l[k]? = some q):
  ((cgL nm 0 [] (l.take (k+1))).1,(cgL nm 0 [] (l.take (k+1))).2.2)=D3o nm q ((cgL nm 0 [] (l.take k)).1,(cgL nm 0 [] (l.take k)).2.2) /\
  (cgL nm 0 [] (l.take (k+1))).2.1=(cgL nm 0 [] (l.take k)).2.1++[⟨q.1.mode,q.1.trig,q.1.ix,((cgL nm 0 [] (l.take k)).1.length:Int)⟩]:=by
 rw[D3q h,B8y];simp[D3o,F9]
theorem C7e{b:List (List St)}{j:Nat}{y:List St}(h:b[j]? = some y):(b.take (j+1)).flatten=(b.take j).flatten++y:=by
 rw[A0R,h];simp
theorem A4r(b:List (List St))(j:Nat):St.szs (b.take j).flatten<=St.szs b.flatten:=by
 have h:=congrArg (λl:List (List St)=>St.szs l.flatten) (A1W j b);simp only[A2U,B0d]at h;omega
theorem B4o{b:List (List St)}{y:List St}(h:y∈b):St.szs y<=St.szs b.flatten:=by
 rw[B0c]
 induction b with
 |nil=>grind
 |cons x b ih =>
  grind
theorem A3f{H:Sym.Hp}{k u u' n:Nat}{o:Option Nat}{pre suf xs ds:List Sym.DV}(hk:H k=some ⟨0,true,pre++[Sym.todoV o n]++suf⟩)(ho:∀i,o=some i->H i=some ⟨u,true,Sym.cellsL xs⟩/\i≠k)
  (hn:o=none->xs=[]) (h1:∀d∈pre++suf,d.one=true) (hl:xs.length=n) (hu:∀x∈xs,x.cells.length=u') :
  Sym.GL H ds ((Go.Pb.delO H o).upd k ⟨0,true,pre++[.lst xs]++suf⟩) ds:=by
 cases o with
 |none =>
  have e:H=Sym.optH (H.upd k ⟨0,true,pre++[Sym.todoV none n]++suf⟩) none ⟨u',true,Sym.cellsL xs⟩:=by
   funext j
   by_cases ej:j=k
   ·subst ej;simp only[Sym.optH];rw[Sym.hSm,hk]
   ·simp only[Sym.optH];rw[Sym.h_ne ej]
  have g:=Sym.g_fin (Hb:=H) (ci:=k) (o:=none) (n:=n) (ds:=ds) h1 hn (λi h=>by grind) hl hu;rw[<- e]at g;exact g
 |some i =>
  obtain⟨h2,h3⟩:=ho i rfl;exact Sym.g_cell (junk:=[]) hk (by rw[A0X];exact h2) h1 hl hu h3
open Go.Sym
theorem C3g(q:List KB)(a b:List Ky):ptK q (a++b)=ptK q a++ptK q b:=by unfold ptK;simp
theorem C9y(q:List KB)(ks:List Ky)(k:Ky):ptK q (ks++[k])=ptK q ks++(if L0 q k=[] then [] else [(k,L0 q k)]):=by
 rw[C3g]
 congr 1
 unfold ptK
 grind
def W0(i t n:Nat):List Ky:=(List.range t).flatMap (A6o i)++(A6o i t).take n
theorem C6z(i:Nat):W0 i 0 0=[]:=by rfl
theorem C7a{i t n:Nat}(h:n<128):W0 i t (n+1)=W0 i t n++[⟨i,(t:Int)+1,n⟩]:=by
 unfold W0;rw[A0Q,A0R]
 congr 2
 unfold A6o
 grind
theorem C7b(i t:Nat):W0 i t 128=W0 i (t+1) 0:=by
 unfold W0;rw[List.range_succ,A2P,A0M (by simp[A6o])];simp
theorem C7c(i:Nat):W0 i 6 0=B2m i:=by simp[W0,B2m]
theorem D1y{i t n:Nat}(h:t<6):W0 i t n <+: B2m i:=by
 obtain⟨d,hd⟩:∃d,6=t+1+d:=⟨5-t,by omega⟩;unfold W0 B2m;rw[hd,List.range_add,A2P,List.range_succ,A2P,A0Q];refine(List.prefix_append_right_inj _).2 ?_
 grind
theorem C7q{nm:List UInt8->Int}{i:Nat}{l:List Hd}{j:Nat}{h:Hd}(hj:l[j]? = some h)(k:Ky):
  L0 ((l.take (j+1)).map (hdK nm i)) k=L0 ((l.take j).map (hdK nm i)) k++if(hdK nm i h).1=k then [h.body] else []:=by
 rw[A0R,hj,A0T,B2a]
 congr 1
 show L0 [hdK nm i h] k=_;rw[A4i];rfl
theorem B0n(nm:List UInt8->Int):∀(a b:List Md) (i:Nat),E3 nm i (a++b)=E3 nm i a++E3 nm (i+a.length) b
 |[],b,i=>rfl
 |m::a,b,i=>by
  rw[List.cons_append,E3,E3,B0n nm a b,A0Q,A0F]
  grind
theorem B2v(nm:List UInt8->Int){M:List Md}{m:Nat}{md:Md}(h:M[m]? = some md):E3 nm 0 (M.take (m+1))=E3 nm 0 (M.take m)++rfP nm m md.hds:=by
 have hl:=(A0N.1 h).1;rw[A0R,h,B0n,A0Y,A1J,Nat.min_eq_left (by omega)];simp[E3]
theorem E1i{nm:List UInt8->Int}{M:List Md}{m:Nat}{md:Md}{ks:List Ky}(h:M[m]? = some md)(hk:ks <+: B2m m):
  ∃R,E3 nm 0 M=(E3 nm 0 (M.take m)++ptK (md.hds.map (hdK nm m)) ks)++R:=by
 obtain⟨r,hr⟩:=hk;have e:=congrArg (E3 nm 0) (A1W (m+1) M);rw[B0n,B2v nm h]at e;unfold rfP at e;rw[<- hr,C3g, <- A0Q,A0Q]at e
 grind
theorem E3o{nm:List UInt8->Int}{L P R:List C8}(h:L=P++R):(cgL nm 0 [] P).1.length<=(cgL nm 0 [] L).1.length/\(cgL nm 0 [] P).2.2.length<=(cgL nm 0 [] L).2.2.length:=by
 have:=B8x (nm:=nm) (l:=L) (S:=[]) P.length
 grind
def wt(b:List (List St)):Nat:=(b.map λl=>2*St.szs l+1).sum
theorem E4i(b:List (List St))(h:b≠[]):2*St.szs b.flatten+1<=wt b:=by
 have key:∀b:List (List St),2*St.szs b.flatten+b.length=wt b:=by
  intro b
  induction b with
  |nil=>rfl
  |cons x b ih =>
   have:wt (x::b)=2*St.szs x+1+wt b:=by rfl
   rw[this,A1M,B0d,A0F];omega
 have:=key b;have:0<b.length:=List.length_pos_iff.2 h;omega
theorem D4o{ks:List Ky}(h:ks.Nodup)(k:Ky)(c:Nat):(ks.map λx=>if k=x then c else 0).sum<=c:=by
 induction ks with
 |nil=>simp
 |cons a ks ih =>
  obtain⟨h1,h2⟩:=A3G.1 h;rw[A0W,A3C];by_cases e:k=a
  ·subst e;have:∀l:List Ky,(∀x∈l,¬k=x)->(l.map λx=>if k=x then c else 0).sum=0:=by
    intro l
    induction l with
    |nil=>intro _;rfl
    |cons a l ih=>intro hl;rw[A0W,A3C,if_neg (hl a A0J),ih λx hx=>hl x (A0G _ hx)]
   rw[this ks λx hx e=>h1 (by rw[e];exact hx),if_pos rfl];omega
  grind
theorem D9c(q:List KB){ks:List Ky}(h:ks.Nodup):(ks.map λk=>wt (L0 q k)).sum<=wt (q.map (·.2)):=by
 induction q with
 |nil=>induction ks with
  |nil=>simp
  |cons a ks ih=>simp[L0,wt]at ih ⊢;grind
 |cons x q ih =>
  have e:(λk=>wt (L0 (x::q) k))=λk=>(if x.1=k then 2*St.szs x.2+1 else 0)+wt (L0 q k):=by
   funext k
   rw[A4i];by_cases h:x.1=k<;>simp[h,wt]
  have add:∀(f g:Ky->Nat) (l:List Ky),(l.map λk=>f k+g k).sum=(l.map f).sum+(l.map g).sum:=by
   intro f g l
   induction l with
   |nil=>rfl
   |cons a l ih=>grind
  rw[e,add];have:=D4o h x.1 (2*St.szs x.2+1);have e2:wt ((x::q).map (·.2))=2*St.szs x.2+1+wt (q.map (·.2)):=by rfl
  omega
theorem C9x(q:List KB):∀ks:List Ky,((ptK q ks).map λp=>2*St.szs p.2.flatten+1).sum<=(ks.map λk=>wt (L0 q k)).sum
 |[]=>by simp[ptK]
 |k::ks=>by
  have ih:=C9x q ks;unfold ptK at ih ⊢;rw[List.filterMap_cons];by_cases h:L0 q k=[]
  ·grind
  ·simp only[h,if_false,A0W,A3C];have:=E4i _ h;omega
theorem C5r{ks:List Ky}(h:ks.Pairwise Ky.lt):ks.Nodup:=h.imp λ{a b} hab e=>by subst e;unfold Ky.lt at hab;omega
theorem E4h(m:Md)(nm:List UInt8->Int)(i:Nat):wt ((m.hds.map (hdK nm i)).map (·.2))<=2*m.sz:=by
 have:wt ((m.hds.map (hdK nm i)).map (·.2))<=2*(m.hds.map Hd.sz).sum:=by
  generalize m.hds=hs
  induction hs with
  |nil=>simp[wt]
  |cons x hs ih =>
   have e:wt (((x::hs).map (hdK nm i)).map (·.2))=2*St.szs x.body+1+wt ((hs.map (hdK nm i)).map (·.2)):=by simp[wt,hdK]
   have:x.sz=1+x.name.length+St.szs x.body:=rfl
   grind
 unfold Md.sz;omega
theorem C2u(nm:List UInt8->Int):∀(M:List Md) (i:Nat),((E3 nm i M).map λp=>2*St.szs p.2.flatten+1).sum<=2*(M.map Md.sz).sum
 |[],i=>by simp[E3]
 |m::M,i=>by
  rw[E3,A0T,List.sum_append,A0W,A3C];have h1:=C2u nm M (i+1);have h2:=C9x (m.hds.map (hdK nm i)) (B2m i);have h3:=D9c (m.hds.map (hdK nm i)) (C5r (B8e i));have h4:=E4h m nm i;unfold rfP;omega
theorem D3p{nm:List UInt8->Int}:∀(l:List C8) (p:Nat) (S:List (List UInt8)),(cgL nm p S l).1.length<=(l.map λp=>2*St.szs p.2.flatten+1).sum/\(cgL nm p S l).2.2.length<=S.length+(l.map λp=>2*St.szs p.2.flatten+1).sum
 |[],p,S=>by simp[cgL]
 |q::l,p,S=>by
  rw[cgL];obtain⟨h1,h2⟩:=A8f (nm:=nm) q.2.flatten p S;obtain⟨h3,h4⟩:=D3p (nm:=nm) l (p+(cgB nm p S q.2.flatten).1.length+1) (cgB nm p S q.2.flatten).2
  grind
theorem E3p(nm:List UInt8->Int)(M:List Md):(cgL nm 0 [] (E3 nm 0 M)).1.length<=2*(M.map Md.sz).sum/\(cgL nm 0 [] (E3 nm 0 M)).2.2.length<=2*(M.map Md.sz).sum:=by
 obtain⟨h1,h2⟩:=D3p (nm:=nm) (E3 nm 0 M) 0 [];have:=C2u nm M 0
 grind
theorem C5c(nm:List UInt8->Int)(P:List C8)(q:C8):
  ((cgL nm 0 [] (P++[q])).1,(cgL nm 0 [] (P++[q])).2.2)=D3o nm q ((cgL nm 0 [] P).1,(cgL nm 0 [] P).2.2) /\
  (cgL nm 0 [] (P++[q])).2.1=(cgL nm 0 [] P).2.1++[⟨q.1.mode,q.1.trig,q.1.ix,((cgL nm 0 [] P).1.length:Int)⟩]:=by
 rw[B8y];simp[D3o,F9]
theorem B9a(nm:List UInt8->Int):∀(l:List C8) (p:Nat) (S:List (List UInt8)),(cgL nm p S l).2.1.length<=(cgL nm p S l).1.length
 |[],p,S=>by simp[cgL]
 |q::l,p,S=>by
  rw[cgL];have:=B9a nm l (p+(cgB nm p S q.2.flatten).1.length+1) (cgB nm p S q.2.flatten).2
  grind
end Go.Pb
end
