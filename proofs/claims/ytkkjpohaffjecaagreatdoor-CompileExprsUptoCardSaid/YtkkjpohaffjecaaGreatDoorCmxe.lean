/-
  HELPERS of the claim: part 5 of its texts.
-/
import Derived.Test.YtkkjpohaffjecaaGreatDoorCmxd
import Derived.Lib.ItoaNum
import Derived.Lib.Space
import Derived.Test.YtkkjpohaffjecaaGreatDoorProg
noncomputable section
set_option linter.unusedVariables false
set_option linter.unusedSectionVars false
set_option linter.unusedSimpArgs false
namespace Go.Pb
variable [Go.Sym.Tab]
open Go.Sym
section
variable {L:List Tok} {E:Int}
theorem N9{s:Rd}{w:List UInt8}{ts:List Tok}(h:L.drop s.i=A2 w :: ts)(hok:okR s=true)(hs:O6 (A2 w)=true):D4 L E s w=A7 s :=
 C7a hok (by rw[B9 h];omega) (by rw[B9 h];rfl)
theorem A1h{s:Rd}{n:List UInt8}{ts:List Tok}(h:L.drop s.i=C4 n++ts)(hok:okR s=true)(hn:D0 n=true):A8 L E s 1=(⟨1,n,0,0⟩,A7 s):=by
 have h0:L.drop s.i=⟨1,n,0,0⟩ :: ts:=by rw[h];unfold C4;grind
 rw[A9g hok (by rw[B9 h0]),B9 h0]
theorem A9e{s:Rd}{v:Int}{ts:List Tok}(h:L.drop s.i=Q2 v++ts)(hok:okR s=true)(h0:0<=v)(h1:v<=2147483647):A8 L E s 3=(⟨3,[],v,0⟩,A7 s):=by
 have h2:L.drop s.i=⟨3,[],v,0⟩ :: ts:=by rw[h];unfold Q2;grind
 rw[A9g hok (by rw[B9 h2]),B9 h2]
theorem C3m{s:Rd}{t:List UInt8}{ts:List Tok}(h:L.drop s.i=Y7 t++ts)(hok:okR s=true)(ht:Q6 t=true):A8 L E s 4=(⟨4,t,0,0⟩,A7 s):=by
 unfold Q6 at ht;simp only[A0E,A0J]at ht;have h0:L.drop s.i=⟨4,t,0,0⟩ :: ts:=by rw[h];unfold Y7;grind
 rw[A9g hok (by rw[B9 h0]),B9 h0]
theorem T9{s:Rd}{a ts:List Tok}(h:L.drop s.i=a++ts)(ha:a.length=1):L.drop (s.i+1)=ts:=by
 rw[<- ha];exact F5 h
def C5s(E:Int)(ts:List Tok):Bool:=O6 (hd0 E ts) && (hd0 E ts).text == [101,108,115,101]
theorem B2y:∀ j:Nat,j<18->amT (A2 (B4.getD j [])) B4=(j:Int)/\O6 (A2 (B4.getD j []))=true/\(A2 (B4.getD j [])).text≠[125]/\(A2 (B4.getD j [])).text≠[101,108,115,101]:=by trivial
theorem w61:O6 (A2 [61])=true:=by rfl
theorem w59:O6 (A2 [59])=true/\Y9 (A2 [59])=0:=by trivial
theorem w44:O6 (A2 [44])=true/\Y9 (A2 [44])=0:=by trivial
theorem w123:O6 (A2 [123])=true/\Y9 (A2 [123])=0/\(A2 [123]).text≠[105,102]:=by trivial
theorem w125:O6 (A2 [125])=true/\(A2 [125]).text≠[101,108,115,101]:=by trivial
theorem C7n:O6 (A2 [101,108,115,101])=true:=by rfl
def HdS(t:Tok):Prop:=t.kind=1\/∃ j,j<18/\t=A2 (B4.getD j [])
theorem HdS.facts{t:Tok}(h:HdS t):(O6 t && t.text == [125])=false/\(O6 t && t.text == [101,108,115,101])=false/\(0<=amT t B4\/t.kind=1):=by
 rcases h with h|⟨j,hj,rfl⟩
 ·have:O6 t=false:=by unfold O6;rw[h];rfl
  grind
 ·obtain⟨h1,h2,h3,h4⟩:=B2y j hj
  grind
theorem B8l{d:Nat}{k p:Int}{n t:List UInt8}{a:List Ex}{x y:List St}(h:S0 d (.mk k n t a x y p)=true):
  (1<=k/\k<=19)/\(a.length=(K4 k).args/\a.all L0=true)/\((if (K4 k).name=true then D0 n else n == [])=true/\(if (K4 k).text=true then Q6 t else t == [])=true) /\
   (((K4 k).thn=true\/x=[])/\((K4 k).els=true\/y=[]))/\L8 x (d+1)=true/\L8 y (d+1)=true:=by
 unfold S0 at h;simp only[A0E,A0J,A1F,A0Z,List.isEmpty_iff]at h;obtain⟨⟨⟨⟨⟨h1,h2⟩,h3,h4⟩,h5,h6⟩,h7,h8⟩,h9,h10⟩:=h;refine⟨⟨h1,h2⟩,⟨h3,h4⟩,⟨h5,h6⟩,⟨h7,h8⟩,?_,?_⟩
 ·unfold L8
  grind
 ·unfold L8
  grind
theorem B5d{d:Nat}{x:St}(h:S0 d x=true):∃ t ts,stT x=t :: ts/\HdS t:=by
 cases x with|mk k n t a x y p =>
 obtain⟨⟨k1,k2⟩, -,⟨hn, -⟩, -⟩:=B8l h;unfold stT;by_cases h1:k=1
 ·subst h1;rw[if_pos rfl];have hn:D0 n=true:=hn;refine⟨⟨1,n,0,0⟩,[A2 [61]]++agT a 0++[A2 [59]],?_,.inl rfl⟩;unfold C4;grind
 rw[if_neg h1,if_neg (by omega)];dsimp only;have hw:HdS (A2 (B4.getD (k-2).toNat [])):=.inr ⟨(k-2).toNat,by omega,rfl⟩;generalize A2 (B4.getD (k-2).toNat [])=w at hw;by_cases h23:k=2\/k=3
 ·rw[if_pos h23]
  match y with
  |[]=>simp_all
  |[q] =>
   dsimp only;split
   ·exact⟨w,_,rfl,hw⟩
   simp_all
  |q :: q2 :: l=>simp_all
 rw[if_neg h23];repeat' split
 all_goals exact⟨w,_,rfl,hw⟩
def CSt(L:List Tok)(E:Int)(x:St):Prop:=∀ (d:Nat) (s:Rd) (post:List Tok),S0 d x=true->d<=8->L.drop s.i=stT x++post->okR s=true->C5s E post=false ->
 ∃ x' s',x'.plain=x.plain/\O1 L E d s (x',s')/\s'.i=s.i+(stT x).length/\okR s'=true
theorem A1e:∀ (l:List St),(∀ x∈l,CSt L E x)->∀ (acc:List St) (d:Nat) (s:Rd) (post:List Tok),K0 d l=true->acc.length+l.length<=64->(l=[]\/d<=8)->L.drop s.i=L9 l++([A2 [125]]++post)->okR s=true ->
  ∃ l' s',St.plains l'=St.plains l/\V9 L E d acc s (acc++l',s')/\s'.i=s.i+(L9 l).length+1/\okR s'=true
 |[],_,acc,d,s,post,hv,hl,hd,h,hok=>by
  have h0:L.drop s.i=A2 [125] :: post:=by trivial
  have hi:isR L E s [125]=true:=by rw[A0y hok,B9 h0,w125.1];rfl
  have hb:=V9.stop (L:=L) (E:=E) (d:=d) (l:=acc) (s:=s) (by grind);rw[N9 h0 hok w125.1]at hb;exact⟨[],A7 s,rfl,by grind,rfl,hok⟩
 |x :: l,hx,acc,d,s,post,hv,hl,hd,h,hok=>by
  rw[K0,A0E]at hv;have hd8:d<=8:=hd.resolve_left (by simp);obtain⟨t,ts,e1,e2⟩:=B5d hv.1;obtain⟨f1,f2,f3⟩:=e2.facts;have h0:L.drop s.i=stT x++(L9 l++([A2 [125]]++post)):=by rw[h,L9,A0T]
  have hp:B1 L E s=t:=B9 (ts:=ts++(L9 l++([A2 [125]]++post))) (by grind);have hels:C5s E (L9 l++([A2 [125]]++post))=false:=by
   unfold C5s;cases l with
   |nil =>
    rfl
   |cons y l =>
    have hv2:=hv.2;rw[K0,A0E]at hv2;obtain⟨u,us,g1,g2⟩:=B5d hv2.1;rw[L9,g1];exact g2.facts.2.1
  obtain⟨x',s1,p1,p2,p3,p4⟩:=hx x A0M d s _ hv.1 hd8 h0 hok hels;have hdr:L.drop s1.i=L9 l++([A2 [125]]++post):=by rw[p3];exact F5 h0
  obtain⟨l',s',q1,q2,q3,q4⟩:=A1e l (fun y hy=>hx y (A0L _ hy)) (acc++[x']) d s1 post hv.2 (by grind) (.inr hd8) hdr p4;refine⟨x' :: l',s',by rw[St.plains,St.plains,p1,q1],?_,by rw[q3,p3,L9,A0A];omega,q4⟩;refine V9.more (s1:=s1) (x:=x') ⟨hok,by rw[A0y hok,hp];omega⟩ ?_ ?_ (by grind)
  ·rintro⟨g1,g2⟩;rw[R0 hok,hp]at g1;rw[A8l hok,hp]at g2
   grind
  ·rw[A1q (by simp only[A0D]at hl;omega)];omega
theorem O0{l:List St}(hx:∀ x∈l,CSt L E x){d:Nat}{s:Rd}{post:List Tok}(hv:L8 l d=true)(h:L.drop s.i=blT l++post)(hok:okR s=true):
  ∃ l' s',St.plains l'=St.plains l/\A5b L E d s (l',s')/\s'.i=s.i+(blT l).length/\okR s'=true:=by
 unfold L8 at hv;simp only[A0E,A0J,A0Z,List.isEmpty_iff]at hv;have h0:L.drop s.i=A2 [123] :: (L9 l++([A2 [125]]++post)):=by rw[h];unfold blT;simp
 have he:=N9 (E:=E) h0 hok w123.1;obtain⟨l',s',q1,q2,q3,q4⟩:=A1e l hx [] d (A7 s) post hv.2 (by grind) hv.1.2 (E5 h0) hok;refine⟨l',s',q1,A5b.mk (by grind),?_,q4⟩;rw[q3];unfold blT;simp only[A0A,A0H];show s.i+1+_+1=_;omega
theorem A3g{a:List Ex}(h:a.length=1)(hv:a.all L0=true):∃ e,a=[e]/\L0 e=true:=by
 obtain⟨e,rfl⟩:=List.length_eq_one_iff.1 h
 grind
theorem ag0(e:Ex)(l:List Ex):agT (e :: l) 0=exT e:=rfl
theorem ag1(e e2:Ex)(l:List Ex):agT (e :: e2 :: l) 1=exT e2:=rfl
theorem B7c{k:Int}(h1:k≠1)(h2:k≠2)(h3:k≠3)(h4:k≠4)(h8:k≠8)(h9:k≠9)(h10:k≠10)(h18:k≠18)(h19:k≠19):K4 k=⟨true,false,0,false,false⟩:=by
 unfold K4
 grind
def B5j:List St->List Tok
 |[]=>[]
 |[q]=>if q.kind=2 then [A2 [101,108,115,101]]++stT q else [A2 [101,108,115,101]]++blT [q]
 |q :: q2 :: r=>[A2 [101,108,115,101]]++blT (q :: q2 :: r)
theorem B1c:∀ (m:Nat) (x:St),x.sz<m->CSt L E x:=by
 intro m
 induction m with
 |zero=>omega
 |succ m ih =>
 intro x hm d s post hv hd h hok hels;cases x with|mk k n t a x y p =>
 obtain⟨⟨k1,k2⟩,⟨ha,hav⟩,⟨hn,ht⟩,⟨hx,hy⟩,hbx,hby⟩:=B8l hv;have hcx:∀ q∈x,CSt L E q:=fun q hq=>ih q (by rw[St.sz]at hm;have:=St.szs_mem hq;omega);have hcy:∀ q∈y,CSt L E q:=fun q hq=>ih q (by rw[St.sz]at hm;have:=St.szs_mem hq;omega);have hlim:okR (C2 L E s (d:Int) 8 50)=true:=by rw[A1q (by omega)];omega
 have hcast:((d+1:Nat):Int)=(d:Int)+1:=by rfl
 by_cases hk1:k=1
 ·
  subst hk1;have hn:D0 n=true:=hn;have ht:t=[]:=by have h':(t == [])=true:=ht;grind
  have hx:x=[]:=hx.resolve_left (by decide);have hy:y=[]:=hy.resolve_left (by decide);subst ht hx hy;obtain⟨e,rfl,he⟩:=A3g ha hav;have hT:stT (.mk 1 n [] [e] [] [] p)=C4 n++[A2 [61]]++exT e++[A2 [59]]:=by rfl
  rw[hT]at h ⊢;have h0:L.drop s.i=C4 n++(A2 [61] :: (exT e++(A2 [59] :: post))):=by grind
  have h1:=T9 h0 (A0 n);have hpk:B1 L E s=⟨1,n,0,0⟩:=B9 (ts:=A2 [61] :: (exT e++(A2 [59] :: post))) (by rw[h0];unfold C4;grind);have htk:=A1h (E:=E) h0 hok hn;have h2:=E5 (s:=A7 s) h1;have he1:=N9 (E:=E) (s:=A7 s) h1 hok w61;obtain⟨e',s1,p1,p2,p3,p4⟩:=G9 (L:=L) (E:=E) he (s:=A7 (A7 s)) h2 hok (by rfl);have h3:L.drop s1.i=A2 [59] :: post:=by rw[p3];exact F5 h2
  have hst:=O1.set (L:=L) (E:=E) (d:=d) (s:=s) (s1:=s1) (e:=e') hlim (by rw[R0 hok,hpk];assumption) (by grind);rw[htk,N9 h3 p4 w59.1]at hst;refine⟨_,_,?_,hst,?_,p4⟩
  ·rw[St.plain,St.plain,Ex.plains,Ex.plains,Ex.plains,Ex.plains,p1]
  ·show s1.i+1=_;rw[p3];simp only[A0A,A0H,A0];show s.i+1+1+_+1=_;omega
 obtain⟨j,hj⟩:∃ j:Nat,k=2+(j:Int):=⟨(k-2).toNat,by omega⟩;have hj18:j<18:=by omega
 have hjn:(k-2).toNat=j:=by omega
 obtain⟨a1,a2, -, -⟩:=B2y j hj18;by_cases h23:k=2\/k=3
 ·
  have hsh:(K4 k).args=1/\(K4 k).name=false/\(K4 k).text=false/\(k=3->(K4 k).els=false):=by
   rcases h23 with rfl|rfl
   ·exact⟨rfl,rfl,rfl,fun h=>absurd h (by decide)⟩
   trivial
  rw[hsh.1]at ha;rw[hsh.2.1]at hn;rw[hsh.2.2.1]at ht;have hn:n=[]:=by grind
  have ht:t=[]:=by grind
  subst hn ht;have hy3:k=3->y=[]:=fun h=>hy.resolve_left (by grind);obtain⟨e,rfl,he⟩:=A3g ha hav;obtain⟨rest,hrest,hT⟩:∃ rest,rest=B5j y/\stT (.mk k [] [] [e] x y p)=[A2 (B4.getD j [])]++exT e++blT x++rest:=by
   refine⟨_,rfl,?_⟩;clear hy hy3 hv hm h hby hcy;rw[stT,if_neg hk1,if_neg (by omega)];dsimp only;rw[if_pos h23,hjn,ag0]
   match y with
   |[]=>simp[blT,B5j]
   |[q] =>
    unfold B5j;dsimp only;split
    ·simp[blT]
    ·simp[blT,L9]
   |q :: q2 :: r=>simp[blT,B5j]
  rw[hT]at h ⊢;generalize A2 (B4.getD j [])=w at a1 a2 h hT ⊢;have h0:L.drop s.i=w :: (exT e++(blT x++(rest++post))):=by grind
  have hpk:=B9 (E:=E) h0;have ham:B5 L E s B4=(j:Int):=by rw[R0 hok,hpk];omega
  have h1:=E5 h0;obtain⟨e',s2,p1,p2,p3,p4⟩:=G9 (L:=L) (E:=E) he (s:=A7 s) h1 hok (by rfl);have h2:L.drop s2.i=blT x++(rest++post):=by rw[p3];exact F5 h1
  obtain⟨t',s3,b1,b2,b3,b4⟩:=O0 hcx hbx h2 p4;rw[hcast]at b2;have h3:L.drop s3.i=rest++post:=by rw[b3];exact F5 h2
  have hi3:s3.i=s.i+1+(exT e).length+(blT x).length:=by rw[b3,p3];rfl
  have blkCase:¬ (B5 L E s B4=0/\isR L E s3 [101,108,115,101]=true)->y=[]->rest=[]->∃ x' s',x'.plain=(St.mk k [] [] [e] x y p).plain/\O1 L E d s (x',s')/\s'.i=s.i+([w]++exT e++blT x++rest).length/\okR s'=true:=by
   intro hc hy0 hr0;subst hy0 hr0;have hst:=O1.blk (L:=L) (E:=E) (d:=d) (s:=s) hlim (by rw[ham];omega) p2 b2 hc;refine⟨_,_,?_,hst,?_,b4⟩
   ·rw[ham, <- hj,St.plain,St.plain,Ex.plains,Ex.plains,Ex.plains,Ex.plains,p1,b1]
   grind
  by_cases hk3:k=3
  ·have hy0:=hy3 hk3;subst hy0;exact blkCase (by omega) rfl hrest
  ·have hk2:k=2:=by omega
   have hj0:j=0:=by omega
   have hd1:y≠[]->d+1<=8:=fun hne=>by
    unfold L8 at hby
    grind
   have elsCase:∀ (o':List St) (s4:Rd),St.plains o'=St.plains y->A4z L E d (A7 s3) (o',s4)->isR L E s3 [101,108,115,101]=true->s4.i=s3.i+rest.length->okR s4=true->∃ x' s',x'.plain=(St.mk k [] [] [e] x y p).plain/\O1 L E d s (x',s')/\s'.i=s.i+([w]++exT e++blT x++rest).length/\okR s'=true:=by
    intro o' s4 c1 c2 c3 c4 c5;have hst:=O1.els (L:=L) (E:=E) (d:=d) (s:=s) hlim (by rw[ham,hj0];rfl) p2 b2 c3 c2;refine⟨_,_,?_,hst,?_,c5⟩
    ·rw[hk2,St.plain,St.plain,Ex.plains,Ex.plains,Ex.plains,Ex.plains,p1,b1,c1]
    grind
   clear hy hy3 hv hm hT h h0
   match y,hcy,hby,hd1,hrest,blkCase,elsCase with
   |[],_,_,_,hrest,blkCase,_ =>
    refine blkCase ?_ rfl hrest;rintro⟨-,g⟩;rw[hrest]at h3;rw[A0y b4,A5m,h3]at g;have g:C5s E post=true:=g
    grind
   |[q],hcy,hby,hd1,hrest,_,elsCase =>
    have hrest:rest=if q.kind=2 then [A2 [101,108,115,101]]++stT q else [A2 [101,108,115,101]]++blT [q]:=hrest
    have hd1:=hd1 (by simp);by_cases hq2:q.kind=2
    ·rw[if_pos hq2]at hrest;subst hrest;have h4:L.drop s3.i=A2 [101,108,115,101] :: (stT q++post):=by grind
     have hi:isR L E s3 [101,108,115,101]=true:=by rw[A0y b4,B9 h4,C7n];rfl
     have hvq:S0 (d+1) q=true:=by
      unfold L8 at hby;simp only[A0E]at hby;have:=hby.2;rw[K0,A0E]at this
      grind
     obtain⟨q',s4,c1,c2,c3,c4⟩:=hcy q A0M (d+1) (A7 s3) post hvq hd1 (E5 h4) b4 hels;rw[hcast]at c2;have hif:isR L E (A7 s3) [105,102]=true:=by
      have h5:=E5 h4;have:∃ ts,stT q=A2 (B4.getD 0 []) :: ts:=by
       cases q with|mk kq nq tq aq xq yq pq =>
       have hq2:kq=2:=hq2;subst hq2;unfold stT;rw[if_neg (by simp),if_neg (by simp)];dsimp only;rw[if_pos (.inl rfl)]
       match yq with
       |[]=>simp
       |[q3] =>
        dsimp only;split
        ·exact⟨_,rfl⟩
        simp
       |_ :: _ :: _=>simp
      obtain⟨ts,hts⟩:=this;rw[A0y (show okR (A7 s3)=true from b4),B9 (s:=A7 s3) (t:=A2 (B4.getD 0 [])) (ts:=ts++post) (by show L.drop (s3.i+1)=_;grind),(B2y 0 (by simp)).2.1];rfl
     refine elsCase [q'] s4 (by rw[St.plains,St.plains,St.plains,St.plains,c1]) (A4z.iff hif c2) hi ?_ c4;rw[c3];simp only[A0A,A0H];show s3.i+1+_=_;omega
    ·rw[if_neg hq2]at hrest;subst hrest;have h4:L.drop s3.i=A2 [101,108,115,101] :: (blT [q]++post):=by grind
     have hi:isR L E s3 [101,108,115,101]=true:=by rw[A0y b4,B9 h4,C7n];rfl
     obtain⟨o',s4,c1,c2,c3,c4⟩:=O0 hcy hby (s:=A7 s3) (E5 h4) b4;rw[hcast]at c2;have hif:isR L E (A7 s3) [105,102]=false:=by
      rw[A0y (show okR (A7 s3)=true from b4),B9 (s:=A7 s3) (t:=A2 [123]) (ts:=L9 [q]++[A2 [125]]++post) (by show L.drop (s3.i+1)=_;rw[E5 h4];unfold blT;simp),w123.1,A1S];rfl
     refine elsCase o' s4 c1 (A4z.blk hif c2) hi ?_ c4;rw[c3];simp only[A0A,A0H];show s3.i+1+_=_;omega
   |q :: q2 :: r,hcy,hby,hd1,hrest,_,elsCase =>
    have hrest:rest=[A2 [101,108,115,101]]++blT (q :: q2 :: r):=hrest;subst hrest;have h4:L.drop s3.i=A2 [101,108,115,101] :: (blT (q :: q2 :: r)++post):=by grind
    have hi:isR L E s3 [101,108,115,101]=true:=by rw[A0y b4,B9 h4,C7n];rfl
    obtain⟨o',s4,c1,c2,c3,c4⟩:=O0 hcy hby (s:=A7 s3) (E5 h4) b4;rw[hcast]at c2;have hif:isR L E (A7 s3) [105,102]=false:=by
     rw[A0y (show okR (A7 s3)=true from b4),B9 (s:=A7 s3) (t:=A2 [123]) (ts:=L9 (q :: q2 :: r)++[A2 [125]]++post) (by show L.drop (s3.i+1)=_;rw[E5 h4];unfold blT;simp),w123.1,A1S];rfl
    refine elsCase o' s4 c1 (A4z.blk hif c2) hi ?_ c4;rw[c3];simp only[A0A,A0H];show s3.i+1+_=_;omega
 have hshx:(K4 k).thn=false/\(K4 k).els=false:=by
  unfold K4
  grind
 have hx:x=[]:=hx.resolve_left (by grind);have hy:y=[]:=hy.resolve_left (by grind);subst hx hy;have tailGo:∀ (toks:List Tok) (n' t':List UInt8) (a':List Ex) (s':Rd),stT (.mk k n t a [] [] p)=[A2 (B4.getD j [])]++toks->n'=n->t'=t->Ex.plains a'=Ex.plains a->s'.i=s.i+1+toks.length->okR s'=true ->
   (L.drop (s.i+1)=toks++post->Evt (fun f=>K2 L E f k (B1 L E s).pos (A7 s)) (.mk k n' t' a' [] [] (B1 L E s).pos,s'))->∃ x' s',x'.plain=(St.mk k n t a [] [] p).plain/\O1 L E d s (x',s')/\s'.i=s.i+(stT (.mk k n t a [] [] p)).length/\okR s'=true:=by
  intro toks n' t' a' s' c1 c2 c3 c4 c5 c6 c7;subst c2 c3;rw[c1]at h ⊢;have h0:L.drop s.i=A2 (B4.getD j []) :: (toks++post):=by rw[h];simp
  have hpk:=B9 (E:=E) h0;have ham:B5 L E s B4=(j:Int):=by rw[R0 hok,hpk];exact a1
  have hst:=O1.tail (L:=L) (E:=E) (d:=d) (s:=s) hlim (by rw[ham];omega) (by rw[ham, <- hj];exact c7 (E5 h0));refine⟨_,_,?_,hst,?_,c6⟩
  ·rw[St.plain,St.plain,c4]
  grind
 have hT:stT (.mk k n t a [] [] p)=[A2 (B4.getD j [])]++(if k=4 then agT a 0++[A2 [59]] else if k=18 then Y7 t++[A2 [44]]++agT a 0++[A2 [59]] else if k=8\/k=10 then C4 n++agT a 0++[A2 [59]] else if k=9 then C4 n++agT a 0++[A2 [44]]++agT a 1++[A2 [59]] else if k=19 then [A2 [59]] else C4 n++[A2 [59]]):=by
  unfold stT
  grind
 by_cases h4:k=4
 ·subst h4;have hn:n=[]:=by have h':(n == [])=true:=hn;grind
  have ht:t=[]:=by have h':(t == [])=true:=ht;grind
  subst hn ht;obtain⟨e,rfl,he⟩:=A3g ha hav;rw[if_pos rfl,ag0]at hT;have h0:L.drop (s.i+1)=exT e++(A2 [59] :: post):=by
   rw[hT]at h;have:L.drop s.i=A2 (B4.getD j []) :: (exT e++(A2 [59] :: post)):=by grind
   exact E5 this
  obtain⟨e',s1,p1,p2,p3,p4⟩:=G9 (L:=L) (E:=E) he (s:=A7 s) h0 hok (by rfl);have h3:L.drop s1.i=A2 [59] :: post:=by rw[p3];exact F5 h0
  refine tailGo _ [] [] [e'] (A7 s1) hT rfl rfl (by rw[Ex.plains,Ex.plains,Ex.plains,Ex.plains,p1]) (by show s1.i+1=_;grind) p4 (fun _=>p2.map fun f hf=>?_);unfold K2;rw[if_pos rfl,hf];dsimp only;rw[N9 h3 p4 w59.1]
 rw[if_neg h4]at hT;by_cases h18:k=18
 ·subst h18;have hn:n=[]:=by have h':(n == [])=true:=hn;grind
  have ht:Q6 t=true:=ht;subst hn;obtain⟨e,rfl,he⟩:=A3g ha hav;rw[if_pos rfl,ag0]at hT;have h0:L.drop (s.i+1)=Y7 t++(A2 [44] :: (exT e++(A2 [59] :: post))):=by
   rw[hT]at h;have:L.drop s.i=A2 (B4.getD j []) :: (Y7 t++(A2 [44] :: (exT e++(A2 [59] :: post)))):=by grind
   exact E5 this
  have htk:=C3m (E:=E) (s:=A7 s) h0 hok ht;have h1:=T9 (s:=A7 s) h0 (A3 t);have he1:=N9 (E:=E) (s:=A7 (A7 s)) h1 hok w44.1;have h2:=E5 (s:=A7 (A7 s)) h1;obtain⟨e',s1,p1,p2,p3,p4⟩:=G9 (L:=L) (E:=E) he (s:=A7 (A7 (A7 s))) h2 hok (by rfl);have h3:L.drop s1.i=A2 [59] :: post:=by rw[p3];exact F5 h2
  refine tailGo _ [] t [e'] (A7 s1) hT rfl rfl (by rw[Ex.plains,Ex.plains,Ex.plains,Ex.plains,p1]) (by show s1.i+1=_;grind) p4 (fun _=>p2.map fun f hf=>?_);unfold K2;rw[if_neg (by simp),if_pos rfl,htk,he1,hf];dsimp only;rw[N9 h3 p4 w59.1]
 rw[if_neg h18]at hT;by_cases h8:k=8\/k=10
 ·have hsh:K4 k=⟨true,false,1,false,false⟩:=by rcases h8 with rfl|rfl<;>rfl
  rw[hsh]at ha hn ht;have hn:D0 n=true:=hn;have ht:t=[]:=by grind
  subst ht;obtain⟨e,rfl,he⟩:=A3g ha hav;rw[if_pos h8,ag0]at hT;have h0:L.drop (s.i+1)=C4 n++(exT e++(A2 [59] :: post)):=by
   rw[hT]at h;have:L.drop s.i=A2 (B4.getD j []) :: (C4 n++(exT e++(A2 [59] :: post))):=by grind
   exact E5 this
  have htk:=A1h (E:=E) (s:=A7 s) h0 hok hn;have h1:=T9 (s:=A7 s) h0 (A0 n);obtain⟨e',s1,p1,p2,p3,p4⟩:=G9 (L:=L) (E:=E) he (s:=A7 (A7 s)) h1 hok (by rfl);have h3:L.drop s1.i=A2 [59] :: post:=by rw[p3];exact F5 h1
  refine tailGo _ n [] [e'] (A7 s1) hT rfl rfl (by rw[Ex.plains,Ex.plains,Ex.plains,Ex.plains,p1]) (by show s1.i+1=_;grind) p4 (fun _=>p2.map fun f hf=>?_);unfold K2;rw[if_neg h4,if_neg h18,if_neg (by omega)];dsimp only;rw[if_pos (by omega),htk];dsimp only;rw[hf];dsimp only;rw[if_neg (by omega),N9 h3 p4 w59.1]
 rw[if_neg h8]at hT;by_cases h9:k=9
 ·subst h9;have hn:D0 n=true:=hn;have ht:t=[]:=by have h':(t == [])=true:=ht;grind
  subst ht;obtain⟨e,e2,rfl⟩:=B6g ha;simp only[A1X,List.all_nil,A1T,A0E]at hav;rw[if_pos rfl,ag0,ag1]at hT;have h0:L.drop (s.i+1)=C4 n++(exT e++(A2 [44] :: (exT e2++(A2 [59] :: post)))):=by
   rw[hT]at h;have:L.drop s.i=A2 (B4.getD j []) :: (C4 n++(exT e++(A2 [44] :: (exT e2++(A2 [59] :: post))))):=by grind
   exact E5 this
  have htk:=A1h (E:=E) (s:=A7 s) h0 hok hn;have h1:=T9 (s:=A7 s) h0 (A0 n);obtain⟨e',s1,p1,p2,p3,p4⟩:=G9 (L:=L) (E:=E) hav.1 (s:=A7 (A7 s)) h1 hok (by rfl);have h3:L.drop s1.i=A2 [44] :: (exT e2++(A2 [59] :: post)):=by rw[p3];exact F5 h1
  have hx1:=N9 (E:=E) h3 p4 w44.1;obtain⟨e2',s2,r1,r2,r3,r4⟩:=G9 (L:=L) (E:=E) hav.2 (s:=A7 s1) (E5 h3) p4 (by rfl);have h5:L.drop s2.i=A2 [59] :: post:=by rw[r3];exact F5 (E5 h3)
  refine tailGo _ n [] [e',e2'] (A7 s2) hT rfl rfl (by rw[Ex.plains,Ex.plains,Ex.plains,Ex.plains,Ex.plains,Ex.plains,p1,r1]) (by show s2.i+1=_;grind) r4 (fun _=>p2.map2 r2 fun f hf hf2=>?_);unfold K2;rw[if_neg h4,if_neg h18,if_neg (by simp)];dsimp only;rw[if_pos (by simp),htk];dsimp only;rw[hf];dsimp only;rw[if_pos rfl,hx1,hf2];dsimp only;rw[N9 h5 r4 w59.1]
 rw[if_neg h9]at hT;by_cases h19:k=19
 ·subst h19;have hn:n=[]:=by have h':(n == [])=true:=hn;grind
  have ht:t=[]:=by have h':(t == [])=true:=ht;grind
  have ha:a=[]:=A1N ha;subst hn ht ha;rw[if_pos rfl]at hT;have h0:L.drop (s.i+1)=A2 [59] :: post:=by
   rw[hT]at h;have:L.drop s.i=A2 (B4.getD j []) :: (A2 [59] :: post):=by grind
   exact E5 this
  refine tailGo _ [] [] [] (A7 (A7 s)) hT rfl rfl rfl rfl hok (fun _=>Evt.one fun f=>?_);unfold K2;rw[if_neg (by simp),if_neg (by simp),if_pos rfl,N9 (s:=A7 s) h0 hok w59.1]
 rw[if_neg h19]at hT;have hsh:=B7c hk1 (fun h=>h23 (.inl h)) (fun h=>h23 (.inr h)) h4 (fun h=>h8 (.inl h)) h9 (fun h=>h8 (.inr h)) h18 h19;rw[hsh]at ha hn ht;have hn:D0 n=true:=hn;have ht:t=[]:=by grind
 have ha:a=[]:=A1N ha;subst ht ha;have h0:L.drop (s.i+1)=C4 n++(A2 [59] :: post):=by
  rw[hT]at h;have:L.drop s.i=A2 (B4.getD j []) :: (C4 n++(A2 [59] :: post)):=by grind
  exact E5 this
 have htk:=A1h (E:=E) (s:=A7 s) h0 hok hn;have h1:=T9 (s:=A7 s) h0 (A0 n);refine tailGo _ n [] [] (A7 (A7 (A7 s))) hT rfl rfl rfl (by simp only[A0A,A0H,A0];rfl) hok (fun _=>Evt.one fun f=>?_);unfold K2;rw[if_neg h4,if_neg h18,if_neg h19];dsimp only;rw[if_neg (by omega),htk];dsimp only;rw[N9 (s:=A7 (A7 s)) h1 hok w59.1]
theorem B0i{l:List St}{d:Nat}{s:Rd}{post:List Tok}(hv:L8 l d=true)(h:L.drop s.i=blT l++post)(hok:okR s=true):
  ∃ l' s',St.plains l'=St.plains l/\A5b L E d s (l',s')/\s'.i=s.i+(blT l).length/\okR s'=true :=
 O0 (fun x hx=>B1c (x.sz+1) x (by omega)) hv h hok
end
section
variable {L:List Tok} {E:Int}
theorem D1c:∀ j:Nat,j<8->amT (A2 (D6.getD j [])) D6=(j:Int):=by trivial
theorem C7u:∀ j:Nat,j<6->amT (A2 (E3.getD j [])) E3=(j:Int):=by trivial
theorem B8i:O6 (A2 [109,111,100,101])=true/\amT (A2 [109,111,100,101]) D6 = -1:=by trivial
theorem won:O6 (A2 [111,110])=true/\(A2 [111,110]).text≠[125]:=by trivial
theorem D5m:O6 (A2 [45])=true:=by rfl
theorem B4g{d:Dc}{k v:Int}{n:List UInt8}(h1:k=d.kind)(h2:n=d.name)(h3:v=d.value){p:Int}:Dc.plain ⟨k,n,v,p⟩=d.plain:=by
 subst h1 h2 h3;rfl
theorem B0g{d:Dc}(hv:A0x d=true){s:Rd}{post:List Tok}(h:L.drop s.i=dcT d++post)(hok:okR s=true):
  B5 L E s D6=d.kind-1/\(P4 L E (d.kind-1) s).1.plain=d.plain/\(P4 L E (d.kind-1) s).2.i=s.i+(dcT d).length/\okR (P4 L E (d.kind-1) s).2=true:=by
 unfold A0x at hv;simp only[A0E,A0J]at hv;obtain⟨⟨⟨⟨k1,k8⟩,hn⟩,v0⟩,v1⟩:=hv;obtain⟨j,hj⟩:∃ j:Nat,d.kind=1+(j:Int):=⟨(d.kind-1).toNat,by omega⟩;have hj8:j<8:=by omega
 have hjn:(d.kind-1).toNat=j:=by omega
 have a1:=D1c j hj8;have hT:dcT d=[A2 (D6.getD j [])]++C4 d.name++(if 6<d.kind then [] else if d.value<0 then [A2 [45]]++Q2 (-d.value) else Q2 d.value)++[A2 [59]]:=by
  unfold dcT
  grind
 rw[hT]at h ⊢;have h0:L.drop s.i=A2 (D6.getD j []) :: (C4 d.name++((if 6<d.kind then [] else if d.value<0 then [A2 [45]]++Q2 (-d.value) else Q2 d.value)++(A2 [59] :: post))):=by grind
 have hpk:=B9 (E:=E) h0;have h1:=E5 h0;have htk:=A1h (E:=E) (s:=A7 s) h1 hok hn;have h2:=T9 (s:=A7 s) h1 (A0 d.name);refine⟨by rw[R0 hok,hpk,a1];omega,?_⟩;unfold P4;dsimp only;rw[htk];dsimp only;by_cases h6:6<d.kind
 ·rw[if_pos h6]at h2 ⊢;rw[if_neg (by omega)];have h2:L.drop (A7 (A7 s)).i=A2 [59] :: post:=h2;rw[N9 h2 hok w59.1];refine⟨B4g (by omega) rfl ?_,?_,hok⟩
  ·omega
  ·simp only[A0A,A0H,A0,List.length_nil];rfl
 ·rw[if_neg h6]at h2 ⊢;rw[if_pos (by omega)];rw[if_neg (by omega)]at v1;by_cases hneg:d.value<0
  ·have hk6:d.kind=6:=by
    by_cases hz:d.kind=6
    ·exact hz
    ·rw[if_neg hz]at v0;omega
   rw[if_pos hk6]at v0;rw[if_pos hneg]at h2 ⊢;have h3:L.drop (A7 (A7 s)).i=A2 [45] :: (Q2 (-d.value)++(A2 [59] :: post)):=by rw[show L.drop (A7 (A7 s)).i=_ from h2];simp
   have hm:(d.kind-1+1 == 6 && isR L E (A7 (A7 s)) [45])=true:=by
    rw[A0y (show okR (A7 (A7 s))=true from hok),B9 h3,D5m,hk6];rfl
   rw[if_pos hm,if_pos hm];have h4:=E5 h3;have htk2:=A9e (E:=E) (s:=A7 (A7 (A7 s))) h4 hok (by omega) (by omega);rw[htk2];have h5:=T9 (s:=A7 (A7 (A7 s))) h4 (A5 _);have h5:L.drop (A7 (A7 (A7 (A7 s)))).i=A2 [59] :: post:=h5;dsimp only;rw[N9 h5 hok w59.1];refine⟨B4g (by omega) rfl (by omega),?_,hok⟩;simp only[A0A,A0H,A0,A5];rfl
  ·rw[if_neg hneg]at h2 ⊢;have h3:L.drop (A7 (A7 s)).i=Q2 d.value++(A2 [59] :: post):=h2;have hp3:B1 L E (A7 (A7 s))=⟨3,[],d.value,0⟩:=B9 (ts:=A2 [59] :: post) (by rw[h3];unfold Q2;rw[if_neg (by omega)];rfl);have hm:(d.kind-1+1 == 6 && isR L E (A7 (A7 s)) [45])=false:=by
    rw[A0y (show okR (A7 (A7 s))=true from hok),hp3];simp[O6]
   rw[hm];simp only[A1J,if_false];have htk2:=A9e (E:=E) (s:=A7 (A7 s)) h3 hok (by omega) (by omega);rw[htk2];have h5:=T9 (s:=A7 (A7 s)) h3 (A5 _);have h5:L.drop (A7 (A7 (A7 s))).i=A2 [59] :: post:=h5;dsimp only;rw[N9 h5 hok w59.1];refine⟨B4g (by omega) rfl rfl,?_,hok⟩;simp only[A0A,A0H,A0,A5];rfl
theorem A2h:∀ (l acc:List Dc) (s:Rd) (post:List Tok),l.all A0x=true->acc.length+l.length<=128->amT (hd0 E post) D6<0->L.drop s.i=l.flatMap dcT++post->okR s=true ->
  ∃ l' s',l'.map Dc.plain=l.map Dc.plain/\Evt (fun f=>U2 L E f acc s) (acc++l',s')/\L.drop s'.i=post/\okR s'=true
 |[],acc,s,post,hv,hl,hp,h,hok=>by
  have h:L.drop s.i=post:=h;refine⟨[],s,rfl,Evt.one fun f=>?_,h,hok⟩;rw[U2];dsimp only;rw[R0 hok,A5m,h,if_pos hp,A1B]
 |d :: l,acc,s,post,hv,hl,hp,h,hok=>by
  simp only[A1X,A0E]at hv;have h0:L.drop s.i=dcT d++(l.flatMap dcT++post):=by rw[h,A1V,A0T]
  obtain⟨e1,e2,e3,e4⟩:=B0g (E:=E) hv.1 h0 hok;have hk1:1<=d.kind:=by
   have:=hv.1;unfold A0x at this;simp only[A0E,A0J]at this;omega
  obtain⟨l',s',q1,q2,q3,q4⟩:=A2h l (acc++[(P4 L E (d.kind-1) s).1]) (P4 L E (d.kind-1) s).2 post hv.2 (by simp only[A0A,A0D,List.length_nil]at hl ⊢;omega) hp (by rw[e3];exact F5 h0) e4;refine⟨(P4 L E (d.kind-1) s).1 :: l',s',by rw[A0U,A0U,e2,q1],?_,q3,q4⟩;rw[A0T]at q2;refine q2.ext fun f hf=>?_;rw[U2];dsimp only;rw[e1,if_neg (by omega),A1q (by simp only[A0D]at hl;omega),if_pos hok]
  grind
theorem hdp{h:Hd}{b:List St}(hb:St.plains b=St.plains h.body){k:Int}{n:List UInt8}{p:Int}(hk:k=h.trig)(hn:n=h.name):Hd.plain ⟨k,n,b,p⟩=h.plain:=by
 unfold Hd.plain;grind
theorem A2o:∀ (l acc:List Hd) (s:Rd) (post:List Tok),l.all Z6=true->acc.length+l.length<=32->L.drop s.i=l.flatMap hdT++([A2 [125]]++post)->okR s=true ->
  ∃ l' s',l'.map Hd.plain=l.map Hd.plain/\Evt (fun f=>W8 L E f acc s) (acc++l',s')/\L.drop s'.i=post/\okR s'=true
 |[],acc,s,post,hv,hl,h,hok=>by
  have h:L.drop s.i=A2 [125] :: post:=h;have hi:isR L E s [125]=true:=by rw[A0y hok,B9 h,w125.1];rfl
  refine⟨[],A7 s,rfl,Evt.one fun f=>?_,E5 h,hok⟩;rw[W8,if_neg (by grind),N9 h hok w125.1,A1B]
 |x :: l,acc,s,post,hv,hl,h,hok=>by
  simp only[A1X,A0E]at hv;have hx:=hv.1;unfold Z6 at hx;simp only[A0E,A0J]at hx;obtain⟨⟨⟨t1,t6⟩,hn⟩,hb⟩:=hx;obtain⟨j,hj⟩:∃ j:Nat,x.trig=1+(j:Int):=⟨(x.trig-1).toNat,by omega⟩;have hj6:j<6:=by omega
  have hjn:(x.trig-1).toNat=j:=by omega
  have h0:L.drop s.i=A2 [111,110] :: (A2 (E3.getD j []) :: ((if 2<x.trig then C4 x.name else [])++(blT x.body++(l.flatMap hdT++([A2 [125]]++post))))):=by
   rw[h,A1V];unfold hdT;rw[hjn];simp
  have hpk:=B9 (E:=E) h0;have hi:isR L E s [125]=false:=by rw[A0y hok,hpk,won.1,A1S];simpa using won.2
  have hon:isR L E s [111,110]=true:=by rw[A0y hok,hpk,won.1];rfl
  have he:=N9 (E:=E) h0 hok won.1;have h1:=E5 h0;have h1:L.drop (A7 s).i=_:=h1;have ham:B5 L E (A7 s) E3=(j:Int):=by rw[R0 (show okR (A7 s)=true from hok),B9 h1];exact C7u j hj6
  have h2:=E5 h1;have h2:L.drop (A7 (A7 s)).i=_:=h2;have key:∃ s4,s4=(if 2<=(j:Int) then (A8 L E (A7 (A7 s)) 1).2 else A7 (A7 s))/\okR s4=true/\(if 2<=(j:Int) then (A8 L E (A7 (A7 s)) 1).1.text else [])=x.name/\L.drop s4.i=blT x.body++(l.flatMap hdT++([A2 [125]]++post)):=by
   refine⟨_,rfl,?_⟩;by_cases h2j:2<=(j:Int)
   ·rw[if_pos h2j,if_pos h2j];rw[if_pos (by omega)]at hn h2;rw[A1h (E:=E) h2 hok hn];exact⟨hok,rfl,T9 (s:=A7 (A7 s)) h2 (A0 _)⟩
   ·rw[if_neg h2j,if_neg h2j];rw[if_neg (by omega)]at hn h2;exact⟨hok,by have:x.name=[]:=(by simpa using hn);rw[this],h2⟩
  obtain⟨s4,k1,k2,k3,k4⟩:=key;obtain⟨b',s5,b1,b2,b3,b4⟩:=B0i (L:=L) (E:=E) (d:=1) hb k4 k2;obtain⟨l',s',q1,q2,q3,q4⟩:=A2o l (acc++[⟨1+(j:Int),x.name,b',(B1 L E s).pos⟩]) s5 post hv.2 (by simp only[A0A,A0D,List.length_nil]at hl ⊢;omega) (by rw[b3];exact F5 k4) b4;refine⟨⟨1+(j:Int),x.name,b',(B1 L E s).pos⟩ :: l',s',by rw[A0U,A0U,hdp b1 hj.symm rfl,q1],?_,q3,q4⟩;rw[A0T]at q2;refine Evt.ext2 b2 q2 fun f hf hf2=>?_;rw[W8,if_pos ⟨hok,hi⟩,if_neg (by rw[hon];decide)];dsimp only;rw[A1q (by simp only[A0D]at hl;omega),he,ham,if_neg (by omega), <- k1,k3]
  grind
theorem A9u{m:Md}(hv:U0 m=true){s:Rd}{post:List Tok}(h:L.drop s.i=mdT m++post)(hok:okR s=true):
  isR L E s [109,111,100,101]=true/\∃ m' s',m'.plain=m.plain/\Evt (fun f=>A2n L E f s) (m',s')/\L.drop s'.i=post/\okR s'=true:=by
 unfold U0 at hv;simp only[A0E,A0J]at hv;obtain⟨⟨⟨⟨hn,p0⟩,p1⟩,hl⟩,hh⟩:=hv;have h0:L.drop s.i=A2 [109,111,100,101] :: (C4 m.name++(Q2 m.prio++(A2 [123] :: (m.hds.flatMap hdT++([A2 [125]]++post))))):=by
  rw[h];unfold mdT;simp
 have hpk:=B9 (E:=E) h0;have he:=N9 (E:=E) h0 hok B8i.1;have h1:L.drop (A7 s).i=_:=E5 h0;have htk:=A1h (E:=E) h1 hok hn;have h2:L.drop (A7 (A7 s)).i=_:=T9 (s:=A7 s) h1 (A0 _);have htk2:=A9e (E:=E) h2 hok p0 p1;have h3:L.drop (A7 (A7 (A7 s))).i=_:=T9 (s:=A7 (A7 s)) h2 (A5 _);have he3:=N9 (E:=E) h3 hok w123.1;have h4:L.drop (A7 (A7 (A7 (A7 s)))).i=_:=E5 h3;obtain⟨l',s',q1,q2,q3,q4⟩:=A2o (L:=L) (E:=E) m.hds [] _ post hh (by grind) h4 hok;refine⟨by rw[A0y hok,hpk,B8i.1];rfl,⟨m.name,m.prio,l',(B1 L E s).pos⟩,s',?_,q2.map fun f hf=>?_,q3,q4⟩
 ·unfold Md.plain;grind
 ·unfold A2n
  grind
theorem A2g:∀ (l acc:List Md) (s:Rd),l.all U0=true->acc.length+l.length<=16->L.drop s.i=l.flatMap mdT->okR s=true ->
  ∃ l' s',l'.map Md.plain=l.map Md.plain/\Evt (fun f=>T1 L E f acc s) (acc++l',s')/\okR s'=true
 |[],acc,s,hv,hl,h,hok=>by
  have hi:¬ s.i<L.length:=fun hlt=>by
   simp_all;omega
  refine⟨[],s,rfl,Evt.one fun f=>?_,hok⟩;rw[T1,if_neg (fun h=>hi h.2),A1B]
 |m :: l,acc,s,hv,hl,h,hok=>by
  simp only[A1X,A0E]at hv;have h0:L.drop s.i=mdT m++l.flatMap mdT:=by rw[h,A1V]
  obtain⟨hm,m',s1,e1,e2,e3,e4⟩:=A9u (E:=E) hv.1 h0 hok;obtain⟨l',s',q1,q2,q4⟩:=A2g l (acc++[m']) s1 hv.2 (by simp only[A0A,A0D,List.length_nil]at hl ⊢;omega) e3 e4;refine⟨m' :: l',s',by rw[A0U,A0U,e1,q1],?_,q4⟩;rw[A0T]at q2;refine Evt.ext2 e2 q2 fun f hf hf2=>?_;rw[T1,if_pos ⟨hok,(A0a hm).2⟩,if_neg (by rw[hm];decide)];dsimp only;rw[A1q (by simp only[A0D]at hl;omega),if_pos hok,hf]
  grind
end
theorem C5l{h:Hd}(hv:Z6 h=true):Q7 h=false:=by
 unfold Z6 at hv;simp only[A0E,A0J]at hv;unfold Q7
 grind
theorem B1l{r:Ru}(hv:P9 r=true)(E:Int):okR (V6 (ruT r) E).2=true/\(V6 (ruT r) E).1.plain=r.plain:=by
 unfold P9 at hv;simp only[A0E,A0J]at hv;obtain⟨⟨⟨h1,h2⟩,h3⟩,h4⟩:=hv;have hbad:(r.modes.any fun m=>m.hds.any Q7)=false:=by
  rw[List.any_eq_false];intro m hm;have:=A0P.1 h4 m hm;unfold U0 at this;simp only[A0E]at this;rw[Bool.not_eq_true,List.any_eq_false];intro h hh;rw[C5l (A0P.1 this.2 h hh)];decide
 have hT:ruT r=r.decls.flatMap dcT++r.modes.flatMap mdT:=by unfold ruT;rw[if_neg (by rw[hbad];decide)]
 have hp:amT (hd0 E (r.modes.flatMap mdT)) D6<0:=by
  cases hm:r.modes with
  |nil=>exact (by decide:(-1:Int)<0)
  |cons m l =>
   have:hd0 E ((m :: l).flatMap mdT)=A2 [109,111,100,101]:=by rw[A1V];unfold mdT;rfl
   rw[this,B8i.2];decide
 obtain⟨ld,s1,a1,a2,a3,a4⟩:=A2h (L:=ruT r) (E:=E) r.decls [] rd0 (r.modes.flatMap mdT) h3 (by simpa using h1) hp (by rw[hT];rfl) rfl;obtain⟨lm,s2,b1,b2,b4⟩:=A2g (L:=ruT r) (E:=E) r.modes [] s1 h4 (by simpa using h2) a3 a4;have hr:Evt (fun f=>A6h (ruT r) E f rd0) (⟨ld,lm⟩,s2):=a2.map2 b2 fun f h1 h2=>by
  unfold A6h;rw[h1];dsimp only;rw[h2];rfl
 rw[(A6i (ruT r) E).uniq hr];refine⟨b4,?_⟩;unfold Ru.plain
 grind
mutual
theorem A8f:∀ e:Ex,msM e.plain=msM e
 |.mk k v n a p=>by
  rw[Ex.plain,msM,msM,A8g k 0 a,Ex.plains_map,A0F]
theorem A8g:∀ (k:Int) (i:Nat) (l:List Ex),msL k i (Ex.plains l)=msL k i l
 |k,i,[]=>rfl
 |k,i,e :: l=>by
  have hk:e.plain.kind=e.kind:=by cases e;rfl
  rw[Ex.plains,msL,msL,A8f e,A8g k (i+1) l,hk]
end
theorem A1g(e:Ex):L0 e.plain=L0 e:=by unfold L0;rw[A8f]
theorem A1m{l:List St}:(St.plains l).isEmpty=l.isEmpty:=by cases l<;>rfl
theorem A1n(l:List St):(St.plains l).length=l.length:=by rw[St.plains_map,A0F]
mutual
theorem B2u:∀ (d:Nat) (s:St),S0 d s.plain=S0 d s
 |d,.mk k n t a x y p=>by
  have ha:(Ex.plains a).all L0=a.all L0:=by
   rw[Ex.plains_map,List.all_map]
   congr 1
   funext e
   exact A1g e
  rw[St.plain,S0,S0,U6 (d+1) x,U6 (d+1) y,ha,Ex.plains_map,A0F,A1m,A1m,A1n,A1n]
theorem U6:∀ (d:Nat) (l:List St),K0 d (St.plains l)=K0 d l
 |d,[]=>rfl
 |d,s :: l=>by rw[St.plains,K0,K0,B2u d s,U6 d l]
end
theorem B2w(h:Hd):Z6 h.plain=Z6 h:=by
 unfold Z6 Hd.plain L8;dsimp only;rw[U6,A1n,A1m]
theorem B2v(m:Md):U0 m.plain=U0 m:=by
 unfold U0 Md.plain;dsimp only;rw[A0F,List.all_map]
 congr 2
 funext h
 exact B2w h
theorem A5z(r:Ru):P9 r.plain=P9 r:=by
 unfold P9 Ru.plain;dsimp only;rw[A0F,A0F,List.all_map,List.all_map]
 congr 2
 funext m
 exact B2v m
theorem C3e(r:Ru):B6x r=P9 r:=by
 cases hv:P9 r with
 |true =>
  obtain⟨h1,h2⟩:=B1l hv 0;unfold B6x
  grind
 |false =>
  cases hd:B6x r with
  |false=>rfl
  |true =>
   unfold B6x at hd;rw[A0E]at hd;have h2:=@of_decide_eq_true _ (_) hd.2;obtain⟨f,hf⟩:=(A6i (ruT r) 0).get;have h3:=B7f (fun t ht=>(C1q r t ht).1) hf hd.1;rw[<- A5z,h2,A5z,hv]at h3
   grind
mutual
theorem A1t:∀ a b:Ex,A3b true a b=true↔a.plain=b.plain
 |.mk k v n a q,.mk k' v' n' a' q'=>by
  have:=A4m a a';simp only[A3b,A0E,A1F,Bool.true_or,this,Ex.plain,Ex.mk.injEq,true_and,and_true]
theorem A4m:∀ a b:List Ex,I1 true a b=true↔Ex.plains a=Ex.plains b
 |[],[]=>by simp[I1,Ex.plains]
 |[],_ :: _=>by simp[I1,Ex.plains]
 |_ :: _,[]=>by simp[I1,Ex.plains]
 |e :: l,e' :: l'=>by
  have h1:=A1t e e';have h2:=A4m l l';simp only[I1,A0E,h1,h2,Ex.plains,List.cons.injEq]
end
theorem B8o(e:Ex):A7y e=L0 e:=by
 cases hv:L0 e with
 |true =>
  obtain⟨e',s',h1,h2,h3,h4⟩:=G9 (L:=exT e) (E:=0) hv (s:=rd0) (post:=[]) (by rw[A1B];rfl) rfl rfl;have hu:=(A5x (exT e) 0).uniq h2;unfold A7y;rw[hu];dsimp only;rw[h4,h3,(A1t e' e).2 h1,A1S,A1T];simp[rd0]
 |false =>
  cases hd:A7y e with
  |false=>rfl
  |true =>
   unfold A7y at hd;simp only[A0E]at hd;obtain⟨f,hf⟩:=(A5x (exT e) 0).get;have h3:=(I6 (fun t ht=>(B6k e t ht).1) hf hd.1).2;have h4:=(A1t _ _).1 hd.2.2;rw[<- A1g,h4,A1g,hv]at h3
   grind
mutual
theorem C6p:∀ (e:Ex) (o d:Nat),msM e=some (o,d)->o<=e.sz/\d+1<=2 * e.sz
 |.mk k v n a p,o,d,h=>by
  have hs:(Ex.mk k v n a p).sz=1+n.length+Ex.szs a:=by rfl
  obtain⟨h1,h2,h3,h4,h5,h6⟩:=A6p h;by_cases hc:H8 k=0
  ·grind
  ·obtain⟨d',hl,hd⟩:=h6 hc;have:=B3t k 0 a o d' hl
   grind
theorem B3t:∀ (k:Int) (i:Nat) (l:List Ex) (o d:Nat),msL k i l=some (o,d)->o<=Ex.szs l/\d<=2 * Ex.szs l
 |k,i,[],o,d,h=>by simp[msL]at h;omega
 |k,i,e :: l,o,d,h=>by
  rw[msL]at h;have hs:Ex.szs (e :: l)=e.sz+Ex.szs l:=by rfl
  have hp:=e.sz_pos;cases he:msM e with
  |none=>grind
  |some q =>
   obtain⟨o1,d1⟩:=q;have h1:=C6p e o1 d1 he;rw[he]at h;dsimp only at h;cases hl:msL k (i+1) l with
   |none=>grind
   |some q2 =>
    obtain⟨o2,d2⟩:=q2;have h2:=B3t k (i+1) l o2 d2 hl
    grind
end
def msV:Option (Nat × Nat)->DV
 |none=>.tup [I64 0,I64 0,.bool false]
 |some (o,d)=>.tup [I64 o,I64 d,.bool true]
theorem C9t(q:Option (Nat × Nat)):(msV q).nl=true:=by cases q<;>rfl
theorem C0s{k:Int}{a:List Ex}{i:Nat}{x:Ex}(h:a[i]? = some x):msL k i (a.drop i)=match msM x with
  |none=>none
  |some (o,d)=>match msL k (i+1) (a.drop (i+1)) with
   |none=>none
   |some (o2,d2)=>some (o+o2,max (if V5 k x.kind i=true then d+1 else d) d2):=by
 have hlt:=(A0K.1 h).1;rw[A1K hlt,(A0K.1 h).2,msL];try rfl
abbrev Er:=Option (Int × Int)
def cnD(l:List Dc)(k:Int):Nat:=l.countP (fun d=>d.kind == k)
def cnR(r:Ru)(k:Int):Nat:=if k=9 then r.modes.length else cnD r.decls k
def lkD(pre:List Dc):List Dc->List UInt8->Option (Int × Int)
 |[],_=>none
 |d :: l,n=>if d.name=n then some (d.kind,if d.kind<6 then d.value else (cnR ⟨pre,[]⟩ d.kind:Int)) else lkD (pre++[d]) l n
def lkM(i:Nat):List Md->List UInt8->Option (Int × Int)
 |[],_=>none
 |m :: l,n=>if m.name=n then some (9,(i:Int)) else lkM (i+1) l n
def T7(r:Ru)(n:List UInt8):Int × Int:=match lkD [] r.decls n with
 |some q=>q
 |none=>match lkM 0 r.modes n with
  |some q=>q
  |none=>(0,0)
def dnM(r:Ru)(n:List UInt8)(k:Int):Int:=if k=0\/(T7 r n).1=k then 0 else if (T7 r n).1=0 then 8 else 44
def dnE(r:Ru)(n:List UInt8)(k p:Int):Er:=if dnM r n k=0 then none else some (p,dnM r n k)
def kdE(k:Int):Int:=if k=2 then 6 else if k=5 then 1 else if k=6 then 9 else if k=7 then 7 else 0
def C2t(k:Int):Bool:=k == 3 || k == 4 || k == 5 || k == 6 || k == 11 || decide (17<=k)
def O2(k:Int):Int:=if C2t k=true then 2 else 1
def W0(k:Int)(a:List Ex):Int:=if k=11\/k=23\/k=24 then 2 else if k=21\/k=22 then (match a with
 |[]=>1
 |x :: _=>O2 x.kind) else 1
mutual
def erE(r:Ru):Ex->Er
 |.mk k v n a p=>((S4 r a).or (dnE r n (kdE k) p)).or (if a.all (fun x=>O2 x.kind == W0 k a)=true then none else some (p,49))
def S4(r:Ru):List Ex->Er
 |[]=>none
 |x :: l=>(erE r x).or (S4 r l)
end
def tyV(r:Ru)(e:Ex):DV:=match erE r e with
 |some (p,c)=>.tup [I64 0,I64 p,I64 c]
 |none=>.tup [I64 (O2 e.kind),I64 0,I64 0]
def B0t(r:Ru)(e:Ex):DV:=if (P9 r && L0 e)=true then tyV r e else .tup [I64 0,I64 0,I64 1]
theorem B8s(r:Ru)(e:Ex):(tyV r e).nl=true:=by unfold tyV;split<;>rfl
theorem C1d{D:List Dc}{i:Nat}{d:Dc}{n:List UInt8}(h:D[i]? = some d):lkD (D.take i) (D.drop i) n=if d.name=n then some (d.kind,if d.kind<6 then d.value else (cnR ⟨D.take i,[]⟩ d.kind:Int)) else lkD (D.take (i+1)) (D.drop (i+1)) n:=by
 have hlt:=(A0K.1 h).1;rw[A1K hlt,(A0K.1 h).2,lkD,A0S,h];rfl
theorem C1b{M:List Md}{i:Nat}{m:Md}{n:List UInt8}(h:M[i]? = some m):lkM i (M.drop i) n=if m.name=n then some (9,(i:Int)) else lkM (i+1) (M.drop (i+1)) n:=by
 have hlt:=(A0K.1 h).1;rw[A1K hlt,(A0K.1 h).2,lkM]
theorem B8a{r:Ru}{l:List Ex}{i:Nat}{x:Ex}(h:l[i]? = some x):S4 r (l.drop i)=(erE r x).or (S4 r (l.drop (i+1))):=by
 have hlt:=(A0K.1 h).1;rw[A1K hlt,(A0K.1 h).2,S4]
theorem B6z{α : Type}{l:List α}{i:Nat}{x : α}(h:l[i]? = some x):l.take i++[x]=l.take (i+1):=by
 rw[A0S,h];rfl
def NzE(e:Er):Prop:=∀ p c,e=some (p,c)->c≠0
theorem NzE.or{a b:Er}(ha:NzE a)(hb:NzE b):NzE (a.or b):=by
 intro p c h;cases a with
 |none=>exact hb p c (by grind)
 |some q=>exact ha p c (by grind)
theorem C4i:NzE none:=fun p c h=>by grind
theorem D2t{b:Prop}[Decidable b]{p c:Int}(h:c≠0):NzE (if b then none else some (p,c)):=by
 intro p' c' e;grind
theorem C6n(r:Ru)(n:List UInt8)(k p:Int):NzE (dnE r n k p):=by
 intro p' c h;unfold dnE at h;grind
mutual
theorem C0o(r:Ru):∀ e:Ex,NzE (erE r e)
 |.mk k v n a p=>by rw[erE];exact ((B1r r a).or (C6n _ _ _ _)).or (D2t (by simp))
theorem B1r(r:Ru):∀ l:List Ex,NzE (S4 r l)
 |[]=>by rw[S4];exact C4i
 |x :: l=>by rw[S4];exact (C0o r x).or (B1r r l)
end
theorem B6a{k:Int}:∀ {i:Nat} {l:List Ex} {q:Nat × Nat},msL k i l=some q->∀ x∈l, ∃ q,msM x=some q
 |i,[],q,h,x,hx=>by grind
 |i,e :: l,q,h,x,hx=>by
  rw[msL]at h;cases he:msM e with
  |none=>grind
  |some q1 =>
   rw[he]at h;dsimp only at h;cases hl:msL k (i+1) l with
   |none=>grind
   |some q2 =>
    rcases A1P.1 hx with rfl|hx
    ·grind
    ·exact B6a hl x hx
theorem B5z{e:Ex}{q:Nat × Nat}(h:msM e=some q):∀ x∈e.args, ∃ q,msM x=some q:=by
 cases e with|mk k v n a p =>
 obtain⟨o,d⟩:=q;obtain⟨m1,m2,m3,m4,m5,m6⟩:=A6p h;intro x hx;by_cases hc:H8 k=0
 ·have:a=[]:=A1N (by omega);subst this;cases hx
 ·obtain⟨d',h1, -⟩:=m6 hc;exact B6a h1 x hx
theorem C0r{e:Ex}{q:Nat × Nat}(h:msM e=some q)(hk:e.kind=21\/e.kind=22):e.args.length=2:=by
 cases e with|mk k v n a p =>
 obtain⟨o,d⟩:=q;obtain⟨m1,m2,m3,m4,m5,m6⟩:=A6p h;show a.length=2;rw[m2];rcases hk with hk|hk
 all_goals (have hk:k=_:=hk;subst hk;decide)
theorem B9c(r:Ru):r.decls.length<=r.sz:=by
 have:r.decls.length<=(r.decls.map Dc.sz).sum:=G3 fun x _=>by show 1<=1+_;omega
 show _<=(r.decls.map Dc.sz).sum+(r.modes.map Md.sz).sum;omega
theorem B9b(r:Ru):r.modes.length<=r.sz:=by
 have:r.modes.length<=(r.modes.map Md.sz).sum:=G3 fun x _=>by show 1<=1+_+_;omega
 show _<=(r.decls.map Dc.sz).sum+(r.modes.map Md.sz).sum;omega
def A7t(nm:List UInt8->Int)(k v:Int)(n:List UInt8):Ins :=
 if k=1 then ⟨1,v⟩ else if k=3 then ⟨1,1⟩ else if k=4 then ⟨1,0⟩ else if k=2 then ⟨2,nm n⟩ else if k=5 then ⟨4,nm n⟩ else if k=6 then ⟨5,nm n⟩ else if k=7 then ⟨6,nm n⟩
 else if k=8 then ⟨7,0⟩ else if k=9 then ⟨8,0⟩ else if k=10 then ⟨9,0⟩ else if k=11 then ⟨10,0⟩ else ⟨11,k⟩
mutual
def cgE(nm:List UInt8->Int):Ex->List Ins
 |.mk k v n a p=>J9 nm a++[A7t nm k v n]
def J9(nm:List UInt8->Int):List Ex->List Ins
 |[]=>[]
 |x :: l=>cgE nm x++J9 nm l
end
theorem C7d(nm:List UInt8->Int)(e:Ex):cgE nm e=J9 nm e.args++[A7t nm e.kind e.value e.name]:=by cases e;rfl
abbrev Cg:=List Ins × List (List UInt8)
structure Ky where
 mode:Int
 trig:Int
 ix:Int
deriving DecidableEq
abbrev D8w:=Ky × List (List St)
open Go.Eng (KKey)
def mkK(l:List (List UInt8 × DV)):List DV:=l.map fun p=>.str p.1
def mvV(l:List (List UInt8 × DV)):List DV:=l.map fun p=>p.2
theorem A0p{n:List UInt8}:∀ (l:List (List UInt8 × DV)) (i:Nat),match E7 (.str n) (mkK l) i with
  |some j=>i<=j/\∃ x,(mvV l)[j-i]? = some x/\l.lookup n=some x
  |none=>l.lookup n=none
 |[],i=>rfl
 |p :: l,i=>by
  obtain⟨a,x⟩:=p;show match E7 (.str n) (.str a :: mkK l) i with
   |some j=>_
   |none=>_
  rw[E7,A8j];cases h:n == a with
  |true =>
   refine⟨A0G _,x,by simp[mvV],?_⟩
   grind
  |false =>
   have ih:=A0p (n:=n) l (i+1);dsimp only;cases hf:E7 (.str n) (mkK l) (i+1) with
   |none=>grind
   |some j =>
    rw[hf]at ih;obtain⟨h1,y,h2,h3⟩:=ih;refine⟨by omega,y,?_,by grind⟩;have e:j-i=(j-(i+1))+1:=by omega
    rw[e];exact h2
theorem A5p{l:List (List UInt8 × DV)}{n:List UInt8}{x z:DV}{ok:Bool}(h:l.lookup n=some x):lkV z ok (mvV l) (E7 (.str n) (mkK l) 0)=some (match ok with
  |true=>.tup [x,.bool true]
  |false=>x):=by
 have:=A0p (n:=n) l 0;cases hf:E7 (.str n) (mkK l) 0 with
 |none=>grind
 |some j =>
  rw[hf]at this;obtain⟨-,y,h2,h3⟩:=this;rw[h3]at h;cases h;simp only[lkV]
  grind
theorem A5q{l:List (List UInt8 × DV)}{n:List UInt8}{z:DV}{ok:Bool}(h:l.lookup n=none):lkV z ok (mvV l) (E7 (.str n) (mkK l) 0)=some (match ok with
  |true=>.tup [z,.bool false]
  |false=>z):=by
 have:=A0p (n:=n) l 0;cases hf:E7 (.str n) (mkK l) 0 with
 |none=>simp only[lkV];grind
 |some j =>
  grind
theorem B6b{l:List (List UInt8 × DV)}{n:List UInt8}(h:l.lookup n=none):E7 (.str n) (mkK l) 0=none:=by
 have:=A0p (n:=n) l 0
 grind
theorem C6t{α : Type}(n:List UInt8)(a:List UInt8)(x : α):∀ l:List (List UInt8 × α),(l++[(a,x)]).lookup n=(l.lookup n).or (if n == a then some x else none)
 |[]=>by grind
 |(b,y) :: l=>by
  grind
def A3v(q:Int × Int):DV:=.agg [I64 q.1,I64 q.2]
def S2(l:List (List UInt8 × (Int × Int)))(n:List UInt8)(q:Int × Int):List (List UInt8 × (Int × Int)):=if (l.lookup n).isSome=true then l else l++[(n,q)]
def U3(l:List (List UInt8 × (Int × Int))):List (List UInt8 × DV):=l.map fun p=>(p.1,A3v p.2)
theorem T5(n:List UInt8):∀ l:List (List UInt8 × (Int × Int)),(U3 l).lookup n=(l.lookup n).map A3v
 |[]=>rfl
 |(a,x) :: l=>by
  show ((a,A3v x) :: U3 l).lookup n=_;rw[List.lookup_cons,List.lookup_cons,T5 n l]
  grind
def P0(pre:List Dc)(d:Dc):Int:=if d.kind=6\/d.kind=7\/d.kind=8 then (cnD pre d.kind:Int) else d.value
def nmD(pre:List Dc)(l:List (List UInt8 × (Int × Int))):List Dc->List (List UInt8 × (Int × Int))
 |[]=>l
 |d :: r=>nmD (pre++[d]) (S2 l d.name (d.kind,P0 pre d)) r
def nmX(i:Nat)(l:List (List UInt8 × (Int × Int))):List Md->List (List UInt8 × (Int × Int))
 |[]=>l
 |m :: r=>nmX (i+1) (S2 l m.name (9,(i:Int))) r
def nmL(r:Ru):List (List UInt8 × (Int × Int)):=nmX 0 (nmD [] [] r.decls) r.modes
def nmV(r:Ru):DV:=.mp .s (mkK (U3 (nmL r))) (mvV (U3 (nmL r)))
def ahS:List (Int × Nat)->Int->List (Int × Nat)
 |[],k=>[(k,1)]
 |(a,n) :: l,k=>if a=k then (a,n+1) :: l else (a,n) :: ahS l k
def ahM(l:List Dc):List (Int × Nat):=l.foldl (fun a d=>ahS a d.kind) []
def ahK(l:List (Int × Nat)):List DV:=l.map fun p=>I64 p.1
def ahV(l:List (Int × Nat)):List DV:=l.map fun p=>I64 (p.2:Int)
def ahN(l:List (Int × Nat))(k:Int):Nat:=match l with
 |[]=>0
 |(a,n) :: r=>if a=k then n else ahN r k
theorem B0n(k:Int):∀ (l:List (Int × Nat)) (i:Nat),match E7 (I64 k) (ahK l) i with
  |some j=>i<=j/\∃ n:Nat,(ahV l)[j-i]? = some (I64 (n:Int))/\ahN l k=n/\(ahK l).set (j-i) (I64 k)=ahK (ahS l k)/\(ahV l).set (j-i) (I64 ((n:Int)+1))=ahV (ahS l k)
  |none=>ahN l k=0/\ahK l++[I64 k]=ahK (ahS l k)/\ahV l++[I64 1]=ahV (ahS l k)
 |[],i=>⟨rfl,rfl,rfl⟩
 |(a,n) :: l,i=>by
  have e:E7 (I64 k) (ahK ((a,n) :: l)) i=if k=a then some i else E7 (I64 k) (ahK l) (i+1):=by
   show E7 (I64 k) (I64 a :: ahK l) i=_;rw[E7];show (match k == a with
    |true=>some i
    |false=>E7 (I64 k) (ahK l) (i+1))=_
   grind
  rw[e];by_cases h:k=a
  ·rw[if_pos h];subst h;refine⟨A0G _,n,?_,?_,?_,?_⟩
   ·simp[ahV]
   ·simp[ahN]
   ·simp[ahK,ahS]
   ·simp[ahV,ahS]
  ·rw[if_neg h];have ih:=B0n k l (i+1);have h':¬ a=k:=fun e=>h e.symm;have es:ahS ((a,n) :: l) k=(a,n) :: ahS l k:=by rw[ahS,if_neg h']
   have en:ahN ((a,n) :: l) k=ahN l k:=by rw[ahN,if_neg h']
   rw[es,en];cases hf:E7 (I64 k) (ahK l) (i+1) with
   |none =>
    rw[hf]at ih;obtain⟨i1,i2,i3⟩:=ih;exact⟨i1,congrArg (I64 a :: ·) i2,congrArg (I64 (n:Int) :: ·) i3⟩
   |some j =>
    rw[hf]at ih;obtain⟨i0,m,i1,i2,i3,i4⟩:=ih;have ej:j-i=(j-(i+1))+1:=by omega
    dsimp only;rw[ej];exact⟨by omega,m,i1,i2,congrArg (I64 a :: ·) i3,congrArg (I64 (n:Int) :: ·) i4⟩
theorem C7g(k a:Int):∀ l:List (Int × Nat),ahN (ahS l a) k=ahN l k+(if a=k then 1 else 0)
 |[]=>by simp[ahS,ahN]
 |(b,n) :: l=>by
  rw[ahS];by_cases h:b=a
  ·subst h;rw[if_pos rfl,ahN,ahN]
   grind
  ·rw[if_neg h,ahN,ahN,C7g k a l]
   grind
theorem A7m(l:List Dc)(d:Dc):ahM (l++[d])=ahS (ahM l) d.kind:=by
 unfold ahM;simp
theorem C2n(l:List Dc)(d:Dc)(k:Int):cnD (l++[d]) k=cnD l k+(if d.kind=k then 1 else 0):=by
 unfold cnD;simp
theorem C2y:∀ (m:Nat) (l:List Dc),l.length<=m->∀ k,ahN (ahM l) k=cnD l k:=by
 intro m
 induction m with
 |zero =>
  intro l hl k;have:l=[]:=A1N (by omega);subst this;rfl
 |succ m ih =>
  intro l hl k;by_cases h:l=[]
  ·grind
  ·obtain⟨l',d,rfl⟩:∃ l' d,l=l'++[d]:=⟨l.dropLast,l.getLast h,(List.dropLast_concat_getLast h).symm⟩;rw[A7m,C7g,C2n,ih l' (by grind)]
theorem B4s(l:List Dc)(k:Int):ahN (ahM l) k=cnD l k:=C2y _ l (A0G _) k
theorem B1w{D:List Dc}{i:Nat}{d:Dc}{l:List (List UInt8 × (Int × Int))}(h:D[i]? = some d):nmD (D.take i) l (D.drop i)=nmD (D.take (i+1)) (S2 l d.name (d.kind,P0 (D.take i) d)) (D.drop (i+1)):=by
 have hlt:=(A0K.1 h).1;rw[A1K hlt,(A0K.1 h).2,nmD,B6z h]
theorem B1v{M:List Md}{i:Nat}{m:Md}{l:List (List UInt8 × (Int × Int))}(h:M[i]? = some m):nmX i l (M.drop i)=nmX (i+1) (S2 l m.name (9,(i:Int))) (M.drop (i+1)):=by
 have hlt:=(A0K.1 h).1;rw[A1K hlt,(A0K.1 h).2,nmX]
theorem C2o(l:List Dc)(k:Int):cnD l k<=l.length:=List.countP_le_length
theorem B6r(k:Int)(a:List (Int × Nat)):Sym.lkV (I64 0) false (ahV a) (E7 (I64 k) (ahK a) 0)=some (I64 (ahN a k:Int)):=by
 have:=B0n k a 0;cases hf:E7 (I64 k) (ahK a) 0 with
 |none =>
  rw[hf]at this;obtain⟨h, -, -⟩:=this;rw[h];rfl
 |some j =>
  rw[hf]at this;obtain⟨-,n,h1,h2, -, -⟩:=this;rw[h2];simp only[Sym.lkV]
  grind
theorem C7f(k:Int)(a:List (Int × Nat))(H:Hp)(c id u:Nat):muV H c id u (.i .i64) (ahK a) (ahV a) (I64 k) (I64 ((ahN a k:Int)+1)) (E7 (I64 k) (ahK a) 0)=some (.tup [],H.upd id ⟨u,true,[.mpc (.i .i64) (ahK (ahS a k)) (ahV (ahS a k))]⟩,c):=by
 have:=B0n k a 0;cases hf:E7 (I64 k) (ahK a) 0 with
 |none =>
  rw[hf]at this;obtain⟨h,h1,h2⟩:=this;rw[h];simp only[muV]
  grind
 |some j =>
  rw[hf]at this;obtain⟨-,n,h1,h2,h3,h4⟩:=this;rw[h2];simp only[muV]
  grind
def B0o(l:List Dc):Prop:=∀ d∈l,1<=d.kind/\d.kind<=8
theorem B8n{r:Ru}(h:P9 r=true):B0o r.decls:=by
 intro d hd;unfold P9 at h;simp only[A0E]at h;have h1:=A0P.1 h.1.2 d hd;unfold A0x at h1
 grind
theorem A6e(l:List (List UInt8 × (Int × Int)))(a n:List UInt8)(q:Int × Int):(S2 l a q).lookup n=(l.lookup n).or (if n == a then some q else none):=by
 unfold S2;split
 ·rename_i h;cases hn:n == a with
  |false=>simp
  |true =>
   have e:n=a:=by simpa using hn
   subst e;cases hl:l.lookup n with
   |none=>rw[hl]at h;cases h
   |some x=>rfl
 grind
theorem A6n(n:List UInt8):∀ (M:List Md) (i:Nat) (l:List (List UInt8 × (Int × Int))),(nmX i l M).lookup n=(l.lookup n).or (lkM i M n)
 |[],i,l=>by rw[nmX,lkM,Option.or_none]
 |m :: M,i,l=>by
  rw[nmX,A6n n M,A6e,lkM,Option.or_assoc]
  grind
theorem A6o(n:List UInt8):∀ (D pre:List Dc) (l:List (List UInt8 × (Int × Int))),B0o D->(nmD pre l D).lookup n=(l.lookup n).or (lkD pre D n)
 |[],pre,l,_=>by rw[nmD,lkD,Option.or_none]
 |d :: D,pre,l,hk=>by
  obtain⟨k1,k2⟩:=hk d A0M;rw[nmD,A6o n D _ _ (fun x hx=>hk x (A0L _ hx)),A6e,lkD,Option.or_assoc];by_cases h:d.name=n
  ·rw[if_pos h,if_pos (by simp[h])];have e:P0 pre d=(if d.kind<6 then d.value else (cnR ⟨pre,[]⟩ d.kind:Int)):=by
    unfold P0 cnR;by_cases h6:d.kind<6
    ·rw[if_pos h6,if_neg (by omega)]
    ·rw[if_neg h6,if_pos (by omega),if_neg (by omega)]
   rw[e];rfl
  grind
theorem A8d{r:Ru}(hk:B0o r.decls)(n:List UInt8):(nmL r).lookup n=(lkD [] r.decls n).or (lkM 0 r.modes n):=by
 unfold nmL;rw[A6n,A6o n _ _ _ hk];simp
theorem C0w(r:Ru)(n:List UInt8):T7 r n=((lkD [] r.decls n).or (lkM 0 r.modes n)).getD (0,0):=by
 unfold T7
 grind
theorem C1c{n:List UInt8}:∀ {D pre:List Dc} {q:Int × Int},B0o D->lkD pre D n=some q->q.1≠0
 |d :: D,pre,q,hk,h=>by
  rw[lkD]at h;split at h
  ·cases h;have:=hk d A0M;omega
  ·exact C1c (fun x hx=>hk x (A0L _ hx)) h
theorem C1a{n:List UInt8}:∀ {M:List Md} {i:Nat} {q:Int × Int},lkM i M n=some q->q.1≠0
 |m :: M,i,q,h=>by
  rw[lkM]at h;split at h
  ·grind
  ·exact C1a h
theorem B5u{r:Ru}(hk:B0o r.decls){n:List UInt8}{q:Int × Int}(h:(nmL r).lookup n=some q):T7 r n=q/\q.1≠0:=by
 rw[A8d hk]at h;rw[C0w,h];refine⟨rfl,?_⟩;cases hd:lkD [] r.decls n with
 |some p=>rw[hd]at h;cases h;exact C1c hk hd
 |none=>rw[hd]at h;exact C1a h
theorem B5v{r:Ru}(hk:B0o r.decls){n:List UInt8}(h:(nmL r).lookup n=none):T7 r n=(0,0):=by
 rw[A8d hk]at h;rw[C0w,h];rfl
def upS(s:Int × Int)(o:Er):Int × Int:=if s.2=0 then o.getD s else s
theorem A8y{s:Int × Int}{a b:Er}(ha:NzE a):upS (upS s a) b=upS s (a.or b):=by
 unfold upS;by_cases h:s.2=0
 ·cases a with
  |none=>simp[h]
  |some q =>
   have:=ha q.1 q.2 rfl;simp[h,this]
 grind
theorem W4(s:Int × Int):upS s none=s:=by unfold upS;simp
theorem B8q(s:Int × Int)(p e:Int)(h:e≠0):upS (upS s (some (p,e))) (some (p,e))=upS s (some (p,e)):=by
 rw[A8y (fun a b hq=>by grind)];rfl
def C3k(k:Int):Bool:=(k == 3 || k == 4 || k == 5 || k == 6 || k == 11 || k == 23 || k == 24) || (decide (17<=k) && decide (k<=22))
theorem C3j{k:Int}(h:k<=24):C3k k=C2t k:=by
 unfold C3k C2t
 grind
theorem B5y{e:Ex}{q:Nat × Nat}(h:msM e=some q):e.kind<=24:=by
 cases e with|mk k v n a p =>
 obtain⟨o,d⟩:=q;obtain⟨m1, -⟩:=A6p h;show k<=24;unfold kOk at m1;simp only[A0Z,A0E,A0J]at m1;rcases m1 with m1|m1
 ·have:=A9x m1;omega
 omega
theorem A8p{r:Ru}{x:Ex}:∀ {l:List Ex} {i:Nat},l[i]? = some x->S4 r (l.take (i+1))=(S4 r (l.take i)).or (erE r x)
 |y :: l,0,h=>by cases h;simp[S4]
 |y :: l,i+1,h=>by
  rw[A1G,A1G,S4,S4,A8p (by simpa using h),Option.or_assoc]
theorem D4q(r:Ru)(e:Ex):erE r e=((S4 r e.args).or (dnE r e.name (kdE e.kind) e.pos)).or (if e.args.all (fun x=>O2 x.kind == W0 e.kind e.args)=true then none else some (e.pos,49)):=by
 cases e with|mk k v n a p=>rfl
def SmK(r r':Ru):Prop:=∀ n,(T7 r n).1=(T7 r' n).1
section
variable {r r':Ru} (h:SmK r r')
include h
end
section
variable {r r':Ru} (h:SmK r' r)
include h
end
abbrev nmR(r:Ru):List UInt8->Int:=fun n=>(T7 r n).2
abbrev txC(S:List (List UInt8)):List DV:=S.map DV.str
abbrev gmB(t:Nat)(a b:Option Nat)(mk:DV->DV->List DV)(x:Cg):Blk:=⟨0,true,mk (todoV a x.1.length) (todoV b x.2.length)⟩
def GM(H0:Hp)(t:Nat)(a b:Option Nat)(mk:DV->DV->List DV)(x:Cg):Hp :=
 optH (optH (H0.upd t (gmB t a b mk x)) a ⟨2,true,A1r x.1⟩) b ⟨1,true,txC x.2⟩
structure GN (H0:Hp) (t:Nat) (a b:Option Nat) (x:Cg) (c:Nat):Prop where
 tc:t<c
 ha:∀ i,a=some i->i≠t/\i<c/\H0 i=none
 hb:∀ i,b=some i->i≠t/\i<c/\H0 i=none
 ne:∀ i j,a=some i->b=some j->i≠j
 an:a=none->x.1=[]
 bn:b=none->x.2=[]
 fr:∀ j,c<=j->H0 j=none
section
variable {H0:Hp} {t c c' i:Nat} {a b:Option Nat} {mk:DV->DV->List DV} {x y:Cg}
theorem B4t(h:GN H0 t a b x c):GM H0 t a b mk x t=some (gmB t a b mk x):=by
 rw[GM,B7 (fun i hi=>Ne.symm (h.hb i hi).1),B7 (fun i hi=>Ne.symm (h.ha i hi).1),h_same]
theorem C3c(h:GN H0 t a b x c){i:Nat}(hi:a=some i):GM H0 t a b mk x i=some ⟨2,true,A1r x.1⟩:=by
 rw[GM,B7 (fun j hj=>h.ne i j hi hj)];subst hi;exact h_same
theorem D5h{i:Nat}(hi:b=some i):GM H0 t a b mk x i=some ⟨1,true,txC x.2⟩:=by
 rw[GM];subst hi;exact h_same
theorem D1n{j:Nat}(h1:j≠t)(h2:a≠some j)(h3:b≠some j):GM H0 t a b mk x j=H0 j:=by
 rw[GM,B7 (fun i hi e=>h3 (by grind)),B7 (fun i hi e=>h2 (by grind)),h_ne h1]
theorem C6g(h:GN H0 t a b x c){j:Nat}{B:Blk}(hj:H0 j=some B)(ht:j≠t):GM H0 t a b mk x j=some B:=by
 rw[D1n ht (fun e=>by have:=(h.ha j e).2.2;grind) (fun e=>by have:=(h.hb j e).2.2;grind),hj]
theorem D5g(h:GN H0 t a b x c){j:Nat}(hj:c<=j):GM H0 t a b mk x j=none:=by
 have:=h.tc;rw[D1n (by omega) (fun e=>by have:=(h.ha j e).2.1;omega) (fun e=>by have:=(h.hb j e).2.1;omega)];exact h.fr j hj
theorem C3b{X:Hp}(ht:X t=some (gmB t a b mk x))(ha:∀ i,a=some i->X i=some ⟨2,true,A1r x.1⟩)(hb:∀ i,b=some i->X i=some ⟨1,true,txC x.2⟩)(ho:∀ j B,j≠t->H0 j=some B->X j=some B):
  Sub (GM H0 t a b mk x) X:=by
 intro j B hj;rw[GM]at hj;by_cases h1:b=some j
 ·subst h1;simp only[optH]at hj;rw[h_same]at hj;rw[<- hj];exact hb j rfl
 rw[B7 (fun i hi e=>h1 (by rw[e];exact hi))]at hj;by_cases h2:a=some j
 ·subst h2;simp only[optH]at hj;rw[h_same]at hj;rw[<- hj];exact ha j rfl
 rw[B7 (fun i hi e=>h2 (by rw[e];exact hi))]at hj;by_cases h3:j=t
 ·subst h3;rw[h_same]at hj;rw[<- hj];exact ht
 rw[h_ne h3]at hj
 grind
theorem GN.le(h:GN H0 t a b x c)(hc:c<=c'):GN H0 t a b x c' :=
 ⟨by have:=h.tc;omega,fun i hi=>by have:=h.ha i hi;grind,fun i hi=>by have:=h.hb i hi;grind,h.ne,h.an,h.bn,fun j hj=>h.fr j (by omega)⟩
theorem GN.newA(h:GN H0 t a b x c)(h1:c<=i)(h2:i<c')(he:y.2=x.2):GN H0 t (some i) b y c':=by
 have:=h.tc;exact⟨by omega,fun j hj=>by cases hj;exact⟨by omega,h2,h.fr _ h1⟩,fun j hj=>by have:=h.hb j hj;grind,fun j k hj hk=>by cases hj;have:=h.hb k hk;omega,fun e=>(by grind),fun e=>(by rw[he];exact h.bn e),fun j hj=>h.fr j (by omega)⟩
end
section
variable {H0:Hp} {t c c' j:Nat} {a b:Option Nat} {mk:DV->DV->List DV} {x y:Cg} {B:Blk}
theorem D1o(h1:j≠t)(h2:a≠some j)(h3:b≠some j):(GM H0 t a b mk x).upd j B=GM (H0.upd j B) t a b mk x:=by
 funext i
 by_cases e:i=j
 ·subst e;rw[h_same,D1n h1 h2 h3,h_same]
 ·rw[h_ne e];unfold GM;cases a with
  |none =>
   cases b with
   |none=>simp only[optH,Hp.upd,if_neg e]
   |some b=>simp only[optH,Hp.upd,if_neg e]
  |some a =>
   cases b with
   |none=>simp only[optH,Hp.upd,if_neg e]
   |some b=>simp only[optH,Hp.upd,if_neg e]
theorem GN.com(h:GN H0 t a b x c)(hj:c<=j):(GM H0 t a b mk x).upd j B=GM (H0.upd j B) t a b mk x :=
 D1o (by have:=h.tc;omega) (fun e=>by have:=(h.ha j e).2.1;omega) (fun e=>by have:=(h.hb j e).2.1;omega)
theorem GN.box(h:GN H0 t a b x c)(hj:c<=j)(hc:j<c'):GN (H0.upd j B) t a b x c':=by
 have:=h.tc;exact⟨by omega,fun i hi=>by have:=h.ha i hi;exact⟨this.1,by omega,by rw[hnO];grind⟩,fun i hi=>by have:=h.hb i hi;exact⟨this.1,by omega,by rw[hnO];grind⟩,h.ne,h.an,h.bn,fun i hi=>by rw[hnO];exact h.fr i (by omega)⟩
theorem B0p(hj:H0 j=none)(ht:j≠t)(h:GN (H0.upd j B) t a b x c'):Sub (GM H0 t a b mk x) (GM (H0.upd j B) t a b mk x) :=
 C3b (B4t h) (fun i hi=>C3c h hi) (fun i hi=>D5h hi) (fun i Q hi hQ=>C6g h (by
  rw[h_ne (by rintro rfl;rw[hj]at hQ;cases hQ)];omega) hi)
theorem GN.unbox(h:GN (H0.upd j B) t a b x c')(hj:H0 j=none)(hc:c<=c')(hf:∀ i,c<=i->H0 i=none):GN H0 t a b x c' :=
 ⟨h.tc,fun i hi=>by
  have:=h.ha i hi;exact⟨this.1,this.2.1,by by_cases e:i=j;(· grind);(· have h3:=this.2.2;rw[h_ne e]at h3;omega)⟩,fun i hi=>by
  have:=h.hb i hi;exact⟨this.1,this.2.1,by by_cases e:i=j;(· grind);(· have h3:=this.2.2;rw[h_ne e]at h3;omega)⟩,h.ne,h.an,h.bn,fun i hi=>hf i (by omega)⟩
end
theorem A8m(l:List Ins)(i:Ins):A1r (l++[i])=A1r l++[I64 i.op,I64 i.A]:=by rw[C1k,C1j]
theorem C2f{H0:Hp}{t c i:Nat}{a b:Option Nat}{mk:DV->DV->List DV}{x y:Cg}{B B2 B3:Blk}(h:GN H0 t a b x c)(hi:c<i)(h2:y.2=x.2)(e2:B2=⟨2,true,A1r y.1⟩)(e3:B3=gmB t (some i) b mk y):
  Sub (GM H0 t (some i) b mk y) (((delO ((GM H0 t a b mk x).upd c B) a).upd i B2).upd t B3):=by
 have:=h.tc;refine C3b ?_ (fun j hj=>?_) (fun j hj=>?_) (fun j Q hj hQ=>?_)
 ·rw[h_same,e3]
 ·cases hj;rw[hnO,h_same,e2]
 ·have q:=h.hb j hj;rw[h_ne q.1,hnO,D1 (fun k hk e=>h.ne k j hk hj e.symm),hnO,D5h hj,h2]
 ·have q:j<c:=A3J fun hc=>by rw[h.fr j hc]at hQ;grind
  rw[h_ne hj,hnO,D1 (fun k hk e=>by have:=(h.ha k hk).2.2;grind),hnO,C6g h hQ hj]
abbrev NmL:=List (List UInt8 × (Int × Int))
def inL(l:NmL):List (List UInt8 × DV):=l.map fun p=>(p.1,I64 p.2.2)
theorem W9(n:List UInt8):∀ l:NmL,(inL l).lookup n=(l.lookup n).map fun q=>I64 q.2
 |[]=>rfl
 |p :: l=>by
  simp only[inL,A0U,List.lookup];cases n == p.1 with
  |true=>rfl
  |false=>exact W9 n l
abbrev A6m(l:NmL):Blk:=⟨0,true,[.mpc .s (mkK (inL l)) (mvV (inL l))]⟩
abbrev bgC(o2:Option Nat)(ps:List Int)(o:Option Nat)(vs:List Int)(t n:Int)(m:DV):List DV:=[.snil,.snil,.snil,todoV o2 ps.length,todoV o vs.length,I64 t,I64 n,m]
def bgM(D:List Dc)(M:List Md)(l:NmL)(a:List (Int × Nat))(o2:Option Nat)(ps:List Int)(o:Option Nat)(vs:List Int):Hp :=
 optH (optH ((((nil.upd 0 ⟨0,true,[C5 D,E4 M]⟩).upd 1 (A6m l)).upd 2 ⟨0,true,bgC o2 ps o vs 0 0 (.mid 1)⟩).upd 3 ⟨0,true,[.mpc (.i .i64) (ahK a) (ahV a)]⟩) o2 ⟨1,true,ps.map I64⟩) o ⟨1,true,vs.map I64⟩
structure BN (o2:Option Nat) (ps:List Int) (o:Option Nat) (vs:List Int) (c:Nat):Prop where
 c4:4<=c
 h2:∀ i,o2=some i->4<=i/\i<c
 ho:∀ i,o=some i->4<=i/\i<c
 ne:∀ i j,o2=some i->o=some j->i≠j
 n2:o2=none->ps=[]
 no:o=none->vs=[]
section
variable {D:List Dc} {M:List Md} {l:NmL} {a:List (Int × Nat)} {o2 o:Option Nat} {ps vs:List Int} {c:Nat} {X:Hp}
theorem B6o(h:BN o2 ps o vs c){j:Nat}(hj:j<4):bgM D M l a o2 ps o vs j=((((nil.upd 0 ⟨0,true,[C5 D,E4 M]⟩).upd 1 (A6m l)).upd 2 ⟨0,true,bgC o2 ps o vs 0 0 (.mid 1)⟩).upd 3 ⟨0,true,[.mpc (.i .i64) (ahK a) (ahV a)]⟩) j:=by
 rw[bgM,B7 (fun i hi=>by have:=h.ho i hi;omega),B7 (fun i hi=>by have:=h.h2 i hi;omega)]
theorem bg0(h:BN o2 ps o vs c):bgM D M l a o2 ps o vs 0=some ⟨0,true,[C5 D,E4 M]⟩:=by rw[B6o h (by simp)];rfl
theorem bg1(h:BN o2 ps o vs c):bgM D M l a o2 ps o vs 1=some (A6m l):=by rw[B6o h (by simp)];rfl
theorem bg2(h:BN o2 ps o vs c):bgM D M l a o2 ps o vs 2=some ⟨0,true,bgC o2 ps o vs 0 0 (.mid 1)⟩:=by rw[B6o h (by simp)];rfl
theorem bg3(h:BN o2 ps o vs c):bgM D M l a o2 ps o vs 3=some ⟨0,true,[.mpc (.i .i64) (ahK a) (ahV a)]⟩:=by rw[B6o h (by simp)];rfl
theorem bgP(h:BN o2 ps o vs c){i:Nat}(hi:o2=some i):bgM D M l a o2 ps o vs i=some ⟨1,true,ps.map I64⟩:=by
 rw[bgM,B7 (fun j hj=>h.ne i j hi hj)];subst hi;exact h_same
theorem bgV{i:Nat}(hi:o=some i):bgM D M l a o2 ps o vs i=some ⟨1,true,vs.map I64⟩:=by
 rw[bgM];subst hi;exact h_same
theorem bgN(h:BN o2 ps o vs c){j:Nat}(hj:c<=j):bgM D M l a o2 ps o vs j=none:=by
 have:=h.c4;rw[bgM,B7 (fun i hi=>by have:=h.ho i hi;omega),B7 (fun i hi=>by have:=h.h2 i hi;omega),hnO,hnO,hnO,hnO];rfl
theorem A7i(h0:X 0=some ⟨0,true,[C5 D,E4 M]⟩)(h1:X 1=some (A6m l))(h2:X 2=some ⟨0,true,bgC o2 ps o vs 0 0 (.mid 1)⟩)(h3:X 3=some ⟨0,true,[.mpc (.i .i64) (ahK a) (ahV a)]⟩)
  (hp:∀ i,o2=some i->X i=some ⟨1,true,ps.map I64⟩) (hv:∀ i,o=some i->X i=some ⟨1,true,vs.map I64⟩):Sub (bgM D M l a o2 ps o vs) X:=by
 intro j B hj;rw[bgM]at hj;by_cases e1:o=some j
 ·subst e1;simp only[optH]at hj;rw[h_same]at hj
  grind
 rw[B7 (fun i hi e=>e1 (by grind))]at hj;by_cases e2:o2=some j
 ·subst e2;simp only[optH]at hj;rw[h_same]at hj
  grind
 rw[B7 (fun i hi e=>e2 (by grind))]at hj;by_cases e3:j=3
 ·subst e3;rw[h_same]at hj;grind
 rw[h_ne e3]at hj;by_cases e4:j=2
 ·subst e4;rw[h_same]at hj;grind
 rw[h_ne e4]at hj;by_cases e5:j=1
 ·subst e5;rw[h_same]at hj;grind
 rw[h_ne e5]at hj;by_cases e6:j=0
 ·subst e6;rw[h_same]at hj;grind
 rw[h_ne e6]at hj;cases hj
theorem BN.le{c':Nat}(h:BN o2 ps o vs c)(hc:c<=c'):BN o2 ps o vs c' :=
 ⟨by have:=h.c4;omega,fun i hi=>by have:=h.h2 i hi;omega,fun i hi=>by have:=h.ho i hi;omega,h.ne,h.n2,h.no⟩
theorem BN.newV{c' i:Nat}{vs':List Int}(h:BN o2 ps o vs c)(h1:c<=i)(h2:i<c'):BN o2 ps (some i) vs' c':=by
 have:=h.c4;exact⟨by omega,fun j hj=>by have:=h.h2 j hj;omega,fun j hj=>by grind,fun j k hj hk=>by cases hk;have:=h.h2 j hj;omega,h.n2,fun e=>(by grind)⟩
theorem BN.newP{c' i:Nat}{ps':List Int}(h:BN o2 ps o vs c)(h1:c<=i)(h2:i<c'):BN (some i) ps' o vs c':=by
 have:=h.c4;exact⟨by omega,fun j hj=>by grind,fun j hj=>by have:=h.ho j hj;omega,fun j k hj hk=>by cases hj;have:=h.ho k hk;omega,fun e=>(by grind),h.no⟩
end
theorem B1s{l:NmL}{n:List UInt8}{y q:Int × Int}(hl:l.lookup n=some y):S2 l n q=l/\lkV (I64 0) true (mvV (inL l)) (E7 (.str n) (mkK (inL l)) 0)=some (.tup [I64 y.2,.bool true]) :=
 ⟨by rw[S2,if_pos (by grind)],A5p (ok:=true) (by rw[W9,hl];rfl)⟩
theorem B1t{l:NmL}{n:List UInt8}{q:Int × Int}(hl:l.lookup n=none):A6m (S2 l n q)=⟨0,true,[.mpc .s (mkK (inL l)++[.str n]) (mvV (inL l)++[I64 q.2])]⟩ /\
  lkV (I64 0) true (mvV (inL l)) (E7 (.str n) (mkK (inL l)) 0)=some (.tup [I64 0,.bool false])/\E7 (.str n) (mkK (inL l)) 0=none:=by
 have h:(inL l).lookup n=none:=by rw[W9,hl];rfl
 refine⟨?_,A5q (ok:=true) h,B6b h⟩;rw[S2,if_neg (by grind)];simp[A6m,inL,mkK,mvV]
theorem C9l{r:Ru}(hk:B0o r.decls)(n:List UInt8):lkV (I64 0) false (mvV (inL (nmL r))) (E7 (.str n) (mkK (inL (nmL r))) 0)=some (I64 (T7 r n).2):=by
 cases hl:(nmL r).lookup n with
 |some q =>
  obtain⟨h1,h2⟩:=B5u hk hl;rw[h1];exact A5p (ok:=false) (by rw[W9,hl];rfl)
 |none =>
  rw[B5v hk hl];exact A5q (ok:=false) (by rw[W9,hl];rfl)
end Go.Pb
namespace Go.Sym
variable [Go.Sym.Tab]
open Go.Eng (KKey)
theorem B9d{α : Type}{pre suf:List α}{x y v : α}{i:Nat}(h:(pre++[y]++suf)[i]? = some v):(i=pre.length/\v=y/\(pre++[x]++suf)[i]? = some x)\/(pre++[x]++suf)[i]? = some v:=by
 grind
theorem GL.frzmC{H H':Hp}{ds:List DV}{id k u u':Nat}{kd:KKey}{ks vs pre suf:List DV}(hb:H id=some ⟨u,true,[.mpc kd ks vs]⟩)(hk:H k=some ⟨u',true,pre++[.mid id]++suf⟩)(hne:k≠id)
  (hk':H' k=some ⟨u',true,pre++[.mp kd ks vs]++suf⟩) (hH:∀ j,j≠k->H' j=none\/(j≠id/\H' j=H j)):GL H ds H' ds:=by
 have back:∀ j bj,H' j=some bj->j≠id/\∃ b0,H j=some b0/\b0.own=bj.own:=by
  grind
 refine⟨fun j hj=>?_,fun ρ w a2 hR hA=>?_⟩
 ·grind
 obtain⟨t,ht,hB⟩:=hR.blk id _ hb;rcases hB with ⟨hm,c,e,fr, -, -, -, -,g5, -⟩|⟨hm, -,hs,es,cl,kd',ks',vs',g1,g2,g3,g6⟩
 ·have:=(g5 0 _ rfl).1
  trivial
 cases g2;have hnone : ρ.fm t.block=none:=by
  cases hf : ρ.fm t.block with
  |none=>rfl
  |some es'=>exact absurd rfl ((hR.frm _ _ hf).2 id _ t hb rfl ht)
 obtain⟨ρ2,hρ⟩:∃ ρ2:Ren, ρ2=⟨ρ.nm, ρ.fz, ρ.tab,fun k=>if k=t.block then some es else ρ.fm k⟩:=⟨_,rfl⟩;have n1 : ρ2.nm = ρ.nm:=by grind
 have n2 : ρ2.fz = ρ.fz:=by grind
 have n3:∀ k r, ρ2.fm k=some r->(k=t.block/\r=es) \/ ρ.fm k=some r:=by
  intro k r hk;rw[hρ]at hk
  grind
 have n4 : ρ2.fm t.block=some es:=by simp_all
 have hle : ρ.le ρ2:=⟨fun i x h=>by grind,fun b r h=>by grind,fun b r h=>by
  rw[hρ]
  grind⟩
 have hval:∀ v,VRel ρ (.mid id) v->VRel ρ2 (.mp kd ks vs) v:=by
  intro v hv;obtain⟨t',ht', -,rfl⟩:=hv.mid_inv;rw[ht]at ht';cases ht';obtain⟨a1,a2,a3,a4,a5⟩:=g3;exact .mp kd ks vs t.block es n4 a1 a2 a3 (fun i x e hx he=>(a4 i x e hx he).mono hle) (fun i x e hx he=>(a5 i x e hx he).mono hle)
 refine⟨ρ2,n1,⟨fun j bj hj=>?_,fun i j bi bj ti tj hi hj hij h1 h2 ho=>?_,fun k r hk=>?_,fun j bj tj hj ho hjt=>?_,fun k r hk=>?_⟩,⟨hA.1,fun i x y hx hy=>(hA.2 i x y hx hy).mono hle⟩,?_⟩
 ·rw[n1];by_cases ej:j=k
  ·subst ej;rw[hk']at hj;cases hj;obtain⟨tj,q1,q2⟩:=hR.blk j _ hk;refine⟨tj,q1,?_⟩;rcases q2 with ⟨gm,c,e,fr,p1,p2,p3,p4,p5,p6⟩|⟨-, -, -,es2,cl2,kd2,ks2,vs2, -,p2, -⟩
   ·refine .inl ⟨gm,c,e,fr,p1,p2,by grind,p4,fun i v hv=>?_,p6⟩;rcases B9d (x:=.mid id) hv with ⟨h1,rfl,h3⟩|h1
    ·obtain⟨q1,v',q2,q3⟩:=p5 i _ h3;exact⟨rfl,v',q2,hval v' q3⟩
    ·obtain⟨q1,v',q2,q3⟩:=p5 i v h1;exact⟨q1,v',q2,q3.mono hle⟩
   ·exfalso;have h3:(DV.mid id)∈[DV.mpc kd2 ks2 vs2]:=by rw[<- p2];simp
    grind
  ·rcases hH j ej with h0|⟨-,h0⟩
   ·grind
   ·obtain⟨tj,q1,q2⟩:=hR.blk j bj (by grind);exact⟨tj,q1,q2.mono hle⟩
 ·rw[n1]at h1 h2;obtain⟨-,b1,e1,e4⟩:=back i bi hi;obtain⟨-,b2,f1, -⟩:=back j bj hj;exact hR.sep i j b1 b2 ti tj e1 f1 hij h1 h2 (e4.trans ho)
 ·rw[n2]at hk;exact hR.frz k r hk
 ·rw[n1]at hjt;rw[n2];obtain⟨-,b1,e1,e4⟩:=back j bj hj;exact hR.dis j b1 tj e1 (e4.trans ho) hjt
 ·rcases n3 k r hk with ⟨rfl,rfl⟩|h1
  ·refine⟨⟨cl,g1,g6⟩,fun j bj tj hj ho hjt=>?_⟩;rw[n1]at hjt;obtain⟨hne,b1,e1,e4⟩:=back j bj hj;exact hR.sep j id b1 _ tj t e1 hb hne hjt ht (e4.trans ho)
  ·refine⟨(hR.frm k r h1).1,fun j bj tj hj ho hjt=>?_⟩;rw[n1]at hjt;obtain⟨-,b1,e1,e4⟩:=back j bj hj;exact (hR.frm k r h1).2 j b1 tj e1 (e4.trans ho) hjt
 ·refine⟨hle,rfl,rfl,rfl,A0G _,fun _ _ _=>rfl,fun j bj tj hj hjt=>?_,fun k r hk=>.inl (by rw[<- n2];exact hk),fun k r hk=>?_⟩
  ·rw[n1]at hjt;obtain⟨-,b1,e1,e4⟩:=back j bj hj;exact .inr ⟨j,b1,tj,e1,fun h=>e4.trans h,hjt,rfl⟩
  grind
end Go.Sym
namespace Go.Pb
variable [Go.Sym.Tab]
open Go.Sym
variable {nm:List UInt8->Int}
mutual
theorem B0h:∀ e:Ex,(cgE nm e).length<=e.sz
 |.mk k v n a p=>by
  rw[cgE,Ex.sz,A0A,A0H];have:=B6n a;omega
theorem B6n:∀ l:List Ex,(J9 nm l).length<=Ex.szs l
 |[]=>by simp[J9]
 |e :: l=>by
  rw[J9,Ex.szs,A0A];have:=B0h e;have:=B6n l;omega
end
end Go.Pb
namespace Go.Pb
variable [Go.Sym.Tab]
theorem C1u{H:Sym.Hp}{k u u' n:Nat}{o:Option Nat}{pre suf xs ds:List Sym.DV}(hk:H k=some ⟨0,true,pre++[Sym.todoV o n]++suf⟩)(ho:∀ i,o=some i->H i=some ⟨u,true,Sym.cellsL xs⟩/\i≠k)
  (hn:o=none->xs=[]) (h1:∀ d∈pre++suf,d.one=true) (hl:xs.length=n) (hu:∀ x∈xs,x.cells.length=u') :
  Sym.GL H ds ((Go.Pb.delO H o).upd k ⟨0,true,pre++[.lst xs]++suf⟩) ds:=by
 cases o with
 |none =>
  have e:H=Sym.optH (H.upd k ⟨0,true,pre++[Sym.todoV none n]++suf⟩) none ⟨u',true,Sym.cellsL xs⟩:=by
   funext j
   by_cases ej:j=k
   ·subst ej;simp only[Sym.optH];rw[Sym.h_same,hk]
   ·simp only[Sym.optH];rw[Sym.h_ne ej]
  have g:=Sym.g_fin (Hb:=H) (ci:=k) (o:=none) (n:=n) (ds:=ds) h1 hn (fun i h=>by grind) hl hu;rw[<- e]at g;exact g
 |some i =>
  obtain⟨h2,h3⟩:=ho i rfl;exact Sym.g_cell (junk:=[]) hk (by rw[A1B];exact h2) h1 hl hu h3
end Go.Pb
namespace Go.Sym
variable [Go.Sym.Tab]
open Go.Eng (Opd FOp AOp EOp IOp IOper DReg IC RV IFn J0 A4r isNew)
mutual
def G8:DV->DV->Bool
 |.bot,.bot=>true
 |.bool a,.bool b=>a == b
 |.int k n,.int l m=>k == l && n == m
 |.str a,.str b=>a == b
 |.pnil,.pnil=>true
 |.ptr a b,.ptr c d=>a == c && b == d
 |.snil,.snil=>true
 |.slc a b c,.slc x y z=>a == x && b == y && c == z
 |.lst a,.lst b=>Y8 a b
 |.fptr a,.fptr b=>Y8 a b
 |.agg a,.agg b=>Y8 a b
 |.tup a,.tup b=>Y8 a b
 |.mid a,.mid b=>a == b
 |.mnil,.mnil=>true
 |.func f a c,.func g b d=>f == g && Y8 a b && Y8 c d
 |_,_=>false
def Y8:List DV->List DV->Bool
 |[],[]=>true
 |a :: l,b :: m=>G8 a b && Y8 l m
 |_,_=>false
end
mutual
theorem A6g:∀ (a b:DV),G8 a b=true->a=b
 |.bot,b,h=>by cases b<;>simp[G8]at h ⊢
 |.bool _,b,h=>by cases b<;>simp_all[G8]
 |.int _ _,b,h=>by cases b<;>simp_all[G8]
 |.str _,b,h=>by cases b<;>simp_all[G8]
 |.pnil,b,h=>by cases b<;>simp[G8]at h ⊢
 |.ptr _ _,b,h=>by cases b<;>simp_all[G8]
 |.snil,b,h=>by cases b<;>simp[G8]at h ⊢
 |.slc _ _ _,b,h=>by cases b<;>simp_all[G8]
 |.lst a,b,h=>by cases b with
  |lst b=>simp only[G8]at h;rw[Q1 a b h]
  |_=>simp[G8]at h
 |.fptr a,b,h=>by cases b with
  |fptr b=>simp only[G8]at h;rw[Q1 a b h]
  |_=>simp[G8]at h
 |.fnil,b,h=>by cases b<;>simp[G8]at h
 |.func f a c,b,h=>by cases b with
  |func g b d=>simp only[G8,A0E,A1F]at h;rw[h.1.1,Q1 a b h.1.2,Q1 c d h.2]
  |_=>simp[G8]at h
 |.inil,b,h=>by cases b<;>simp[G8]at h
 |.iface _ _,b,h=>by cases b<;>simp[G8]at h
 |.agg a,b,h=>by cases b with
  |agg b=>simp only[G8]at h;rw[Q1 a b h]
  |_=>simp[G8]at h
 |.tup a,b,h=>by cases b with
  |tup b=>simp only[G8]at h;rw[Q1 a b h]
  |_=>simp[G8]at h
 |.mpc _ _ _,b,h=>by cases b<;>simp[G8]at h
 |.mid _,b,h=>by cases b<;>simp_all[G8]
 |.mp _ _ _,b,h=>by cases b<;>simp[G8]at h
 |.mnil,b,h=>by cases b<;>simp[G8]at h ⊢
 |.ub,b,h=>by cases b<;>simp[G8]at h
theorem Q1:∀ (a b:List DV),Y8 a b=true->a=b
 |[],[],_=>rfl
 |[],_ :: _,h=>by simp[Y8]at h
 |_ :: _,[],h=>by simp[Y8]at h
 |a :: l,b :: m,h=>by
  simp only[Y8,A0E]at h;rw[A6g a b h.1,Q1 l m h.2]
end
def B1h:Option Blk->Option Blk->Bool
 |none,none=>true
 |some a,some b=>a.unit == b.unit && a.own == b.own && Y8 a.cells b.cells
 |_,_=>false
theorem B9s:∀ (a b:Option Blk),B1h a b=true->a=b
 |none,none,_=>rfl
 |none,some _,h=>by simp[B1h]at h
 |some _,none,h=>by simp[B1h]at h
 |some ⟨a,b,c⟩,some ⟨x,y,z⟩,h=>by
  simp only[B1h,A0E,A1F]at h;rw[h.1.1,h.1.2,Q1 c z h.2]
def fcN(n:Nat)(k:Nat->Bool):Bool:=match n with
 |0=>k 0
 |n+1=>k (n+1)
theorem A3y(n:Nat)(k:Nat->Bool):fcN n k=k n:=by cases n<;>rfl
def fcI(z:Int)(k:Int->Bool):Bool:=match z with
 |.ofNat n=>fcN n fun n=>k (.ofNat n)
 |.negSucc n=>fcN n fun n=>k (.negSucc n)
theorem D0r(z:Int)(k:Int->Bool):fcI z k=k z:=by cases z<;>simp only[fcI,A3y]<;>rfl
def fcV(v:DV)(k:DV->Bool):Bool:=match v with
 |.bool b=>match b with
  |true=>k (.bool true)
  |false=>k (.bool false)
 |.int t z=>fcI z fun z=>k (.int t z)
 |.ptr i o=>fcN i fun i=>fcN o fun o=>k (.ptr i o)
 |.slc i o n=>fcN i fun i=>fcN o fun o=>fcN n fun n=>k (.slc i o n)
 |v=>k v
theorem B4d(v:DV)(k:DV->Bool):fcV v k=k v:=by
 cases v with
 |bool b=>cases b<;>rfl
 |int t z=>simp only[fcV,D0r]
 |ptr i o=>simp only[fcV,A3y]
 |slc i o n=>simp only[fcV,A3y]
 |_=>rfl
abbrev Tl:=List (Nat × DV)
def Q8(a:List DV):Tl->Tm
 |[],j=>A1x a j
 |(e,w) :: r,j=>match Nat.beq e j with
  |true=>w
  |false=>Q8 a r j
def B3i(d:Nat)(v:DV):Tl->Tl
 |[]=>[(d,v)]
 |(e,w) :: r=>match Nat.beq e d with
  |true=>(d,v) :: r
  |false=>(e,w) :: B3i d v r
def C4a(d:Nat)(v:DV):Tl->(Tl->Bool)->Bool
 |[],k=>k [(d,v)]
 |(e,w) :: r,k=>match Nat.beq e d with
  |true=>k ((d,v) :: r)
  |false=>C4a d v r fun r'=>k ((e,w) :: r')
theorem B5m(d:Nat)(v:DV):∀ (l:Tl) (k:Tl->Bool),C4a d v l k=k (B3i d v l)
 |[],k=>rfl
 |(e,w) :: r,k=>by
  unfold C4a B3i;cases Nat.beq e d with
  |true=>rfl
  |false=>exact B5m d v r _
theorem get_put(a:List DV)(d:Nat)(v:DV):∀ l:Tl,Q8 a (B3i d v l)=(Q8 a l).upd d v
 |[]=>by
  funext j
  show (match Nat.beq d j with|true=>v|false=>A1x a j)=if j=d then v else A1x a j
  cases h:Nat.beq d j with
  |true=>rw[if_pos (A2V h).symm]
  |false=>rw[if_neg fun e=>Nat.ne_of_beq_eq_false h e.symm]
 |(e,w) :: r=>by
  funext j
  have ih:=congrFun (get_put a d v r) j;show Q8 a (match Nat.beq e d with|true=>(d,v) :: r|false=>(e,w) :: B3i d v r) j=if j=d then v else Q8 a ((e,w) :: r) j
  cases h:Nat.beq e d with
  |true =>
   obtain rfl:=A2V h;show (match Nat.beq e j with|true=>v|false=>Q8 a r j)=if j=e then v else (match Nat.beq e j with|true=>w|false=>Q8 a r j)
   cases h2:Nat.beq e j with
   |true=>rw[if_pos (A2V h2).symm]
   |false=>rw[if_neg fun x=>Nat.ne_of_beq_eq_false h2 x.symm]
  |false =>
   show (match Nat.beq e j with|true=>w|false=>Q8 a (B3i d v r) j)=if j=d then v else (match Nat.beq e j with|true=>w|false=>Q8 a r j)
   cases h2:Nat.beq e j with
   |true=>rw[if_neg fun x=>Nat.ne_of_beq_eq_false h ((A2V h2).trans x)]
   |false=>exact ih
def B8p(d:Option Nat)(v:DV)(l:Tl)(k:Tl->Bool):Bool:=match d with
 |some d=>C4a d v l k
 |none=>k l
abbrev A4q:=Nat->List DV->Hp->Nat->(DV->Hp->Nat->Bool)->Bool
def B3o(call:A4q)(T:Tm)(H:Hp)(c:Nat)(k:DV->Hp->Nat->Bool):IOp->Bool
 |.pur f=>match fev H (ev T) f with
  |some v=>fcV v fun v=>k v H c
  |none=>false
 |.new f=>match aev (ev T) f with
  |some (m,b)=>fcN (c+1) fun c'=>k (mkv c m) (H.upd c b) c'
  |none=>false
 |.eff f=>match eev H c (ev T) f with
  |some (v,H',c')=>fcV v fun v=>fcN c' fun c'=>k v H' c'
  |none=>false
 |.call f args=>call f (args.map (ev T)) H c k
 |.callv x args=>match ev T x with
  |.func f a c'=>call f (a++args.map (ev T)++c') H c k
  |_=>false
abbrev Kn:=Tl->Hp->Nat->Bool
def evR(call:A4q)(a:List DV)(k:Kn):List IOper->Tl->Hp->Nat->Bool
 |[],l,H,c=>k l H c
 |o :: os,l,H,c=>match M6 (Q8 a l) o.guard with
  |some true=>B3o call (Q8 a l) H c (fun v H' c'=>B8p o.dst v l fun l'=>evR call a k os l' H' c') o.op
  |some false=>B8p o.dst (.tup []) l fun l'=>evR call a k os l' H c
  |none=>false
def D0z(call:A4q)(T:Tm)(H:Hp)(c:Nat)(o:IOper)(k:DV->Hp->Nat->Bool):Bool :=
 match M6 T o.guard with
 |some true=>B3o call T H c k o.op
 |some false=>k (.tup []) H c
 |none=>false
def agE(io:List IOper)(c0:Nat)(s:St)(j:Nat):Bool:=match io[j]? with
 |some o=>match Z0 s (c0+j) o with
  |some (v,ob)=>(match o.dst with
   |some d=>G8 (s.T d) v
   |none=>true) && B1h (s.H (c0+j)) ob
  |none=>false
 |none=>false
def evD(call:A4q)(a:List DV)(k:Kn)(io:List IOper)(c0:Nat):List (Nat × Option (List Nat))->Tl->Hp->Nat->Bool
 |[],l,H,c=>k l H c
 |(i,none) :: r,l,H,c=>match io[i]? with
  |some o=>match Z0 ⟨Q8 a l,H,c⟩ (c0+i) o with
   |some (v,ob)=>fcV v fun v=>B8p o.dst v l fun l'=>evD call a k io c0 r l' (X7 H (c0+i) ob) c
   |none=>false
  |none=>false
 |(i,some pend) :: r,l,H,c=>match io[i]? with
  |some o=>D0z call (Q8 a l) (K7 H ((pend.filter (isNew io)).map (c0 + ·))) c o fun v H' c'=>B8p o.dst v l fun l' =>
    (pend.all fun j=>agE io c0 ⟨Q8 a l',G5 ((pend.filter (isNew io)).map (c0 + ·)) H H',c'⟩ j) &&
    evD call a k io c0 r l' (G5 ((pend.filter (isNew io)).map (c0 + ·)) H H') c'
  |none=>false
abbrev Ke:=Exit->Tl->Hp->Nat->Bool
def lpE(body:Tl->Hp->Nat->Ke->Bool)(k:Ke):Nat->Tl->Hp->Nat->Bool
 |0,_,_,_=>false
 |n+1,l,H,c=>body l H c fun e l' H' c'=>match e with
  |.normal=>lpE body k n l' H' c'
  |e=>k e l' H' c'
def evI(call:A4q)(F:Nat)(a:List DV):IC->Tl->Hp->Nat->Ke->Bool
 |.skip,l,H,c,k=>k .normal l H c
 |.reg ops,l,H,c,k=>evR call a (k .normal) ops l H c
 |.drw n d,l,H,c,k=>fcN (c+n) fun c'=>evD call a (k .normal) d.ops c d.plan l H c'
 |.seq x y,l,H,c,k=>evI call F a x l H c fun e l' H' c'=>match e with
  |.normal=>evI call F a y l' H' c' k
  |e=>k e l' H' c'
 |.cond o x y,l,H,c,k=>match ev (Q8 a l) o with
  |.bool b=>match b with
   |true=>evI call F a x l H c k
   |false=>evI call F a y l H c k
  |_=>false
 |.blk id x,l,H,c,k=>evI call F a x l H c fun e l' H' c'=>match e with
  |.exit i=>if i=id then k .normal l' H' c' else k (.exit i) l' H' c'
  |e=>k e l' H' c'
 |.loop x,l,H,c,k=>lpE (evI call F a x) k F l H c
 |.exit id,l,H,c,k=>k (.exit id) l H c
 |.ret,l,H,c,k=>k .ret l H c
 |.bad,_,_,_,_=>false
 |.rg _,_,_,_,_=>false
def clE(P:Program)(F:Nat)(O:Nat->List DV->Option DV):Nat->A4q
 |0,_,_,_,_,_=>false
 |n+1,f,args,H,c,k=>match O f args with
  |some r=>k r H c
  |none=>match (P.funcs[f]?).bind (A4r P) with
   |some i=>Nat.ble args.length i.n && evI (clE P F O n) F args i.body [] H c fun e l H' c'=>match e with
    |.normal=>(match A1j ⟨Q8 args l,H',c'⟩ i.res with
     |some v=>k v H' c'
     |none=>false)
    |.ret=>(match A1j ⟨Q8 args l,H',c'⟩ i.res with
     |some v=>k v H' c'
     |none=>false)
    |_=>false
   |none=>false
section
variable {P:Program} {call:A4q} {F N:Nat} {a:List DV}
def A4e(P:Program)(call:A4q):Prop:=∀ f args H c k,call f args H c k=true->AC P f args H c fun v H' c'=>k v H' c'=true
theorem A5c{d:Option Nat}{v:DV}{l:Tl}{k:Tl->Bool}(h:B8p d v l k=true):∃ l',k l'=true/\Q8 a l'=F2 (Q8 a l) d v:=by
 cases d with
 |none=>exact⟨l,h,rfl⟩
 |some d=>exact⟨B3i d v l,(B5m d v l k).symm.trans h,get_put a d v l⟩
theorem B5s(hc:A4e P call){T:Tm}{H:Hp}{c:Nat}{k:DV->Hp->Nat->Bool}{K:DV->Hp->Nat->Prop}(hk:∀ v H c,k v H c=true->K v H c):∀ {i:IOp},B3o call T H c k i=true->L1 P ⟨T,H,c⟩ K i
 |.pur f,h=>by
  simp only[B3o]at h;simp only[L1];split at h
  ·rename_i v hv;rw[B4d]at h;simp only[hv];exact hk _ _ _ h
  ·cases h
 |.new f,h=>by
  simp only[B3o]at h;simp only[L1];split at h
  ·rename_i m b hv;rw[A3y]at h;simp only[hv];exact hk _ _ _ h
  ·cases h
 |.eff f,h=>by
  simp only[B3o]at h;simp only[L1];split at h
  ·rename_i v H' c' hv;rw[B4d,A3y]at h;simp only[hv];exact hk _ _ _ h
  ·cases h
 |.call f args,h=>(hc _ _ _ _ _ h).mono hk
 |.callv x args,h=>by
  simp only[B3o]at h;simp only[L1];split at h
  ·rename_i f a c hv;simp only[hv];exact (hc _ _ _ _ _ h).mono hk
  ·cases h
theorem B4e(hc:A4e P call){k:Kn}{Q:St->Prop}(hk:∀ l H c,k l H c=true->Q ⟨Q8 a l,H,c⟩):∀ (os:List IOper) (l:Tl) (H:Hp) (c:Nat),evR call a k os l H c=true->rwp P Q os ⟨Q8 a l,H,c⟩
 |[],l,H,c,h=>hk l H c h
 |o :: os,l,H,c,h=>by
  simp only[evR]at h;unfold rwp;split at h
  ·rename_i hw;simp only[hw];exact B5s hc (fun v H c h=>by
    obtain⟨l',h1,h2⟩:=A5c (a:=a) h;rw[<- h2];exact B4e hc hk os _ _ _ h1) h
  ·rename_i hw;simp only[hw];obtain⟨l',h1,h2⟩:=A5c (a:=a) h;rw[<- h2];exact B4e hc hk os _ _ _ h1
  ·cases h
theorem C5t(hc:A4e P call){T:Tm}{H:Hp}{c:Nat}{o:IOper}{k:DV->Hp->Nat->Bool}{K:DV->Hp->Nat->Prop}(hk:∀ v H c,k v H c=true->K v H c)(h:D0z call T H c o k=true):B2m P ⟨T,H,c⟩ o K:=by
 unfold D0z at h;unfold B2m;split at h
 ·rename_i hw;simp only[hw];exact B5s hc hk h
 ·rename_i hw;simp only[hw];exact hk _ _ _ h
 ·cases h
theorem D1l{io:List IOper}{c0:Nat}{s:St}{j:Nat}(h:agE io c0 s j=true):A0h io c0 s j:=by
 unfold agE at h;unfold A0h;split at h
 ·rename_i o ho;split at h
  ·rename_i v ob hv;simp only[ho,hv];rw[A0E]at h;refine⟨fun d hd=>?_,B9s _ _ h.2⟩;have h1:=h.1;rw[hd]at h1;exact A6g _ _ h1
  ·cases h
 ·cases h
theorem C3a{io:List IOper}{c0:Nat}{s:St}:∀ {l:List Nat},l.all (fun j=>agE io c0 s j)=true->R5 io c0 s l
 |[],_=>trivial
 |j :: l,h=>by
  rw[A1X,A0E]at h;exact⟨D1l h.1,C3a h.2⟩
theorem B4f(hc:A4e P call){k:Kn}{Q:St->Prop}(hk:∀ l H c,k l H c=true->Q ⟨Q8 a l,H,c⟩){io:List IOper}{c0:Nat}:∀ (p:List (Nat × Option (List Nat))) (l:Tl) (H:Hp) (c:Nat),evD call a k io c0 p l H c=true->dwp P Q io c0 p ⟨Q8 a l,H,c⟩
 |[],l,H,c,h=>hk l H c h
 |(i,none) :: r,l,H,c,h=>by
  simp only[evD]at h;unfold dwp;split at h
  ·rename_i o ho;split at h
   ·rename_i v ob hv;rw[B4d]at h;simp only[ho,hv];obtain⟨l',h1,h2⟩:=A5c (a:=a) h;rw[<- h2];exact B4f hc hk r _ _ _ h1
   ·cases h
  ·cases h
 |(i,some pend) :: r,l,H,c,h=>by
  simp only[evD]at h;unfold dwp;split at h
  ·rename_i o ho;simp only[ho];refine C5t hc (fun v H c h=>?_) h;obtain⟨l',h1,h2⟩:=A5c (a:=a) h;rw[A0E]at h1;rw[<- h2];exact⟨C3a h1.1,B4f hc hk r _ _ _ h1.2⟩
  ·cases h
theorem IW.seq{x y:IC}{s:St}{Q:Exit->St->Prop}(h:IW P N x s (A4g (fun s'=>IW P N y s' Q) Q)):IW P N (.seq x y) s Q:=by
 intro hm c hc;cases c<;>simp only[Go.Eng.trC]at hc<;>(try (cases hc;done))
 case seq a b =>
  split at hc
  ·rename_i x' y' hx hy;cases hc;refine .seq ((h hm a hx).mono fun e s' q=>?_);cases e with
   |normal=>exact q hm b hy
   |_=>exact q
  ·cases hc
 all_goals (repeat' (split at hc))<;>(try (cases hc;done))
 all_goals simp at hc
theorem IW.blk{id:Nat}{x:IC}{s:St}{Q:Exit->St->Prop}(h:IW P N x s (B4o id Q)):IW P N (.blk id x) s Q:=by
 intro hm c hc;cases c<;>simp only[Go.Eng.trC]at hc<;>(try (cases hc;done))
 case block i b =>
  simp only[A0N]at hc;obtain⟨x',hx,he⟩:=hc;cases he;exact .block (h hm b hx)
 all_goals (repeat' (split at hc))<;>(try (cases hc;done))
 all_goals simp at hc
theorem D0v(hc:A4e P call):∀ (ic:IC) (l:Tl) (H:Hp) (c:Nat) (k:Ke) (Q:Exit->St->Prop),(∀ e l H c,k e l H c=true->Q e ⟨Q8 a l,H,c⟩)->evI call F a ic l H c k=true->IW P N ic ⟨Q8 a l,H,c⟩ Q:=by
 intro ic
 induction ic with
 |skip=>intro l H c k Q hk h;exact IW.of (hk _ _ _ _ h)
 |reg ops=>intro l H c k Q hk h;exact IW.of (B4e hc (hk .normal) ops l H c h)
 |drw n d =>
  intro l H c k Q hk h;simp only[evI,A3y]at h;exact IW.of (B4f hc (hk .normal) _ _ _ _ h)
 |seq x y ihx ihy =>
  intro l H c k Q hk h;simp only[evI]at h;refine IW.seq (ihx l H c _ (A4g _ Q) (fun e l' H' c' h=>?_) h);cases e with
  |normal=>exact ihy l' H' c' k Q hk h
  |_=>exact hk _ _ _ _ h
 |cond o x y ihx ihy =>
  intro l H c k Q hk h;simp only[evI]at h;split at h
  ·rename_i b hb;refine IW.of ?_;unfold wpI;simp only[hb];cases b with
   |true=>exact⟨fun _=>ihx l H c k Q hk h,fun e=>(by cases e)⟩
   |false=>exact⟨fun e=>(by cases e),fun _=>ihy l H c k Q hk h⟩
  ·cases h
 |blk id x ih =>
  intro l H c k Q hk h;simp only[evI]at h;refine IW.blk (ih l H c _ (B4o id Q) (fun e l' H' c' h=>?_) h);cases e with
  |exit i =>
   simp only[B4o]at h ⊢;by_cases e:i=id
   ·rw[if_pos e]at h ⊢;exact hk _ _ _ _ h
   ·rw[if_neg e]at h ⊢;exact hk _ _ _ _ h
  |_=>exact hk _ _ _ _ h
 |loop x ih =>
  intro l H c k Q hk h;refine IW.loop (fun n s => ∃ l,s.T=Q8 a l/\lpE (evI call F a x) k n l s.H s.c=true) F ⟨l,rfl,h⟩ fun n s ⟨l,e,h⟩=>?_;obtain⟨T,H,c⟩:=s;simp only at e h;subst e;cases n with
  |zero=>cases h
  |succ n =>
   refine ih l H c _ (A4g _ Q) (fun e l' H' c' h=>?_) h;cases e with
   |normal=>exact⟨n,A1Y _,l',rfl,h⟩
   |_=>exact hk _ _ _ _ h
 |exit id=>intro l H c k Q hk h;exact IW.of (hk _ _ _ _ h)
 |ret=>intro l H c k Q hk h;exact IW.of (hk _ _ _ _ h)
 |bad=>intro l H c k Q hk h;cases h
 |rg r=>intro l H c k Q hk h;cases h
def D1m(P:Program)(O:Nat->List DV->Option DV):Prop:=∀ f args r,O f args=some r->PC P f args r
theorem C2p(hm:P.follows .mixedOrders=true){O:Nat->List DV->Option DV}(hO:D1m P O):∀ n,A4e P (clE P F O n)
 |0,_,_,_,_,_,h=>by cases h
 |n+1,f,args,H,c,k,h=>by
  simp only[clE]at h;split at h
  ·rename_i r hr;exact ((hO f args r hr).at H c).mono fun v H' c' ⟨h1,h2,h3⟩=>by rw[h1,h2,h3];exact h
  ·split at h
   ·rename_i i hi;rw[A0E]at h;refine AC.of hm (i:=i) hi (A0B h.1) (D0v (a:=args) (C2p hm hO n) _ [] H c _ _ (fun e l H' c' h=>?_) h.2);cases e<;>simp only[B3f]at h ⊢ <;> (try (cases h;done));all_goals (split at h<;>simp_all)
   ·cases h
theorem PC.run(hm:P.follows .mixedOrders=true)(O:Nat->List DV->Option DV)(hO:D1m P O)(F n f:Nat)(args:List DV)(r:DV)(na:DV.nlL args=true)(nr:r.nl=true)(h:clE P F O n f args nil 0 (fun v _ _=>G8 v r)=true):PC P f args r :=
 ⟨na,nr,(C2p hm hO n _ _ _ _ _ h).mono fun v H' c' e=>A6g _ _ e⟩
end
end Go.Sym
namespace Go.Pb
open Go.Sym
variable [Go.Sym.Tab]
def cxM(r:Ru)(e:Ex):List Ins × Int × Int :=
 if (P9 r && L0 e)=true then
  match erE r e with
  |some (p,c)=>([],p,c)
  |none=>(cgE (nmR r) e,0,0)
 else ([],0,1)
abbrev cxV(q:List Ins × Int × Int):Sym.DV:=.tup [C1h q.1,I64 q.2.1,I64 q.2.2]
theorem C2l(q:List Ins × Int × Int):(cxV q).nl=true:=by simp[cxV,Sym.DV.nlL,Sym.DV.nl,B3r]
theorem C3f{ρ : Sym.Ren}{v:Value}{p c:Int}(h:Sym.VRel ρ (.tup [.snil,I64 p,I64 c]) v):Sym.VRel ρ (cxV ([],p,c)) v:=by
 obtain⟨bb,rfl,k1,k2⟩:=h.tup_inv;refine .tup _ _ k1 fun j x y hx hy=>?_
 match j with
 |0=>cases hx;exact (k2 0 _ y rfl hy).snil_lst
 |1=>cases hx;exact k2 1 _ y rfl hy
 |2=>cases hx;exact k2 2 _ y rfl hy
 |_+3=>cases hx
theorem A2k{H:Sym.Hp}{p c:Int}:∃ H2,Sym.GL H [.tup [.snil,I64 p,I64 c]] H2 [cxV ([],p,c)] :=
 ⟨H,Sym.GL.view fun ρ vs hA=>Sym.arel_one (fun v h=>C3f h) vs hA⟩
theorem B8m{r:Ru}(h:P9 r=true):r.decls.length<=128/\r.modes.length<=16:=by
 unfold P9 at h;simp only[A0E,A0J]at h;exact⟨h.1.1.1,h.1.1.2⟩
def nxK(L:List UInt8)(n i:Nat):Nat × Nat:=if h:i<L.length then ((L[i]).toNat % n,i+1) else (0,i)
def W1:List (List UInt8):=[[115,119,48],[99,111,105,108,48],[108,97,109,112,48],[118,48],[116,109,48],[101,118,48],[109,111,100,101,48],[110,111,110,101],[115,110,100,48],[115,104,111,119,48]]
def nmK(L:List UInt8)(w:Nat)(p:List UInt8)(n i:Nat):List UInt8 × Nat :=
 let a:=nxK L w i
 if 0<w/\a.1+1=w then
  let b:=nxK L 10 a.2
  (W1.getD b.1 [],b.2)
 else
  let b:=nxK L n (if 0<w then a.2 else i)
  (p++O3 (b.1:Int),b.2)
theorem A9r(L:List UInt8)(n i:Nat):i<=(nxK L n i).2:=by unfold nxK;grind
theorem O8(L:List UInt8){n:Nat}(i:Nat)(h:0<n):(nxK L n i).1<n:=by
 unfold nxK;split
 ·exact Nat.mod_lt _ h
 omega
abbrev Mk:=List UInt8 × Nat
def D1g:List (List UInt8):=[[50,49,52,55,52,56,51,54,52,55],[49,48,48,48,48,48,48],[54,53,53,51,54],[49,48,48,48,48,48]]
def B4r:List (List UInt8):=[[43],[45],[42],[47],[37]]
def B8g:List (List UInt8):=[[60],[60,61],[62],[62,61],[61,61],[33,61]]
def bl0(L:List UInt8)(w i:Nat):Mk :=
 let k:=nxK L 5 i
 if k.1=0 then ([116,114,117,101],k.2)
 else if k.1=1 then ([102,97,108,115,101],k.2)
 else if k.1=2 then let a:=nmK L w [109,111,100,101] 3 k.2;([97,99,116,105,118,101,32]++a.1,a.2)
 else let a:=nmK L w [115,119] 4 k.2;([99,108,111,115,101,100,32]++a.1,a.2)
def in1(L:List UInt8)(w i:Nat):Mk :=
 let k:=nxK L 7 i
 if k.1=0\/k.1=1 then nmK L w [118] 3 k.2
 else if k.1=2 then ([112,108,97,121,101,114],k.2)
 else if k.1=3 then ([98,97,108,108],k.2)
 else if k.1=4 then let a:=nmK L w [116,109] 2 k.2;([108,101,102,116,32]++a.1,a.2)
 else if k.1=5 then let j:=nxK L 4 k.2;(D1g.getD j.1 [],j.2)
 else let j:=nxK L 12 k.2;(O3 (j.1:Int),j.2)
def wlK(L:List UInt8)(w:Nat)(f g:Nat->Mk)(i:Nat):Mk :=
 let k:=nxK L (4 * w) i
 if 0<w/\k.1=1 then f k.2 else g (if 0<w then k.2 else i)
def in0(L:List UInt8)(w:Nat):Nat->Mk:=wlK L w (bl0 L w) (in1 L w)
mutual
def inK(L:List UInt8)(w:Nat):Nat->Nat->Mk
 |0,i=>in0 L w i
 |d+1,i=>wlK L w (blK L w d) (fun i =>
   let k:=nxK L 5 i
   if k.1=0 then in0 L w k.2
   else if k.1=1 then let a:=in0 L w k.2;([45]++a.1,a.2)
   else
    let a:=inK L w d k.2
    let c:=inK L w d a.2
    let o:=nxK L 5 c.2
    (((((([40]++a.1)++[32])++B4r.getD o.1 [])++[32])++c.1)++[41],o.2)) i
def blK(L:List UInt8)(w:Nat):Nat->Nat->Mk
 |0,i=>bl0 L w i
 |d+1,i =>
  let k:=nxK L 6 i
  if k.1=0 then let a:=bl0 L w k.2;([33]++a.1,a.2)
  else if k.1=1 then
   let a:=blK L w d k.2
   let c:=blK L w d a.2
   (((([40]++a.1)++[32,38,38,32])++c.1)++[41],c.2)
  else if k.1=2 then
   let a:=blK L w d k.2
   let c:=blK L w d a.2
   (((([40]++a.1)++[32,124,124,32])++c.1)++[41],c.2)
  else
   let a:=inK L w d k.2
   let o:=nxK L 6 a.2
   let c:=inK L w d o.2
   (((a.1++[32])++B8g.getD o.1 [])++[32]++c.1,c.2)
end
theorem S3(L:List UInt8)(n i:Nat):i<=(nxK L n i).2/\((nxK L n i).1=0\/i+1<=(nxK L n i).2):=by
 unfold nxK;grind
def Pot(f:Nat->Mk):Prop:=∀ i,(f i).1.length+50 * i<=5+50 * (f i).2
theorem A0s{l:List (List UInt8)}{n:Nat}(h:∀ x∈l,x.length<=n)(k:Nat):(l.getD k []).length<=n:=by
 grind
theorem A0o(L:List UInt8)(w:Nat){p:List UInt8}{n:Nat}(hp:p.length<=4)(hn:0<n)(hn2:n<=1000):Pot (nmK L w p n):=by
 intro i;unfold nmK;dsimp only;obtain⟨h1,h2⟩:=S3 L w i;split
 ·have h3:=A0s (l:=W1) (n:=5) (by decide) (nxK L 10 (nxK L w i).2).1;have h4:=A9r L 10 (nxK L w i).2
  grind
 ·have key:∀ j,i<=j->(p++O3 ((nxK L n j).1:Int)).length+50 * i<=5+50 * (nxK L n j).2:=by
   intro j hj;obtain⟨h3,h4⟩:=S3 L n j;have hlt:=O8 L j hn;rw[A0A];rcases h4 with h4|h4
   ·rw[h4];have:(O3 ((0:Nat):Int)).length=1:=by rw[B6l (by decide) (by decide)];rfl
    omega
   ·have:=L6 (n:=((nxK L n j).1:Int)) (by omega) (by omega);omega
  grind
theorem B0j(L:List UInt8)(w:Nat):Pot (bl0 L w):=by
 intro i;unfold bl0;dsimp only;obtain⟨h1,h2⟩:=S3 L 5 i;split
 ·grind
 ·split
  ·simp;omega
  ·split
   ·have:=A0o L w (p:=[109,111,100,101]) (n:=3) (by decide) (by decide) (by decide) (nxK L 5 i).2
    grind
   ·have:=A0o L w (p:=[115,119]) (n:=4) (by decide) (by decide) (by decide) (nxK L 5 i).2
    grind
theorem C5h(L:List UInt8)(w:Nat):Pot (in1 L w):=by
 intro i;unfold in1;dsimp only;obtain⟨h1,h2⟩:=S3 L 7 i;split
 ·have:=A0o L w (p:=[118]) (n:=3) (by simp) (by simp) (by simp) (nxK L 7 i).2;omega
 ·split
  ·simp;omega
  ·split
   ·grind
   ·split
    ·have:=A0o L w (p:=[116,109]) (n:=2) (by decide) (by decide) (by decide) (nxK L 7 i).2
     grind
    ·split
     ·have h3:=A0s (l:=D1g) (n:=10) (by decide) (nxK L 4 (nxK L 7 i).2).1;have h4:=A9r L 4 (nxK L 7 i).2
      grind
     ·obtain⟨h3,h4⟩:=S3 L 12 (nxK L 7 i).2;have hlt:=O8 L (nxK L 7 i).2 (n:=12) (by decide);have:=L6 (n:=((nxK L 12 (nxK L 7 i).2).1:Int)) (by omega) (by omega)
      grind
theorem B8k(L:List UInt8)(w:Nat){f g:Nat->Mk}(hf:Pot f)(hg:Pot g):Pot (wlK L w f g):=by
 intro i;unfold wlK;dsimp only;obtain⟨h1,h2⟩:=S3 L (4 * w) i;split
 ·have:=hf (nxK L (4 * w) i).2;omega
 ·split
  ·have:=hg (nxK L (4 * w) i).2;omega
  ·exact hg i
theorem A9y(L:List UInt8)(w:Nat):Pot (in0 L w):=B8k L w (B0j L w) (C5h L w)
theorem C1l(L:List UInt8)(w:Nat):∀ d,Pot (inK L w d)/\Pot (blK L w d)
 |0=>⟨fun i=>by rw[inK];exact A9y L w i,fun i=>by rw[blK];exact B0j L w i⟩
 |d+1=>by
  obtain⟨h1,h2⟩:=C1l L w d;refine⟨fun i=>?_,fun i=>?_⟩
  ·rw[inK];refine B8k L w h2 (fun i=>?_) i;dsimp only;obtain⟨k1,k2⟩:=S3 L 5 i;split
   ·have:=A9y L w (nxK L 5 i).2;omega
   ·split
    ·have:=A9y L w (nxK L 5 i).2
     grind
    ·have ha:=h1 (nxK L 5 i).2;have hc:=h1 (inK L w d (nxK L 5 i).2).2;have ho:=A9r L 5 (inK L w d (inK L w d (nxK L 5 i).2).2).2;have hg:=A0s (l:=B4r) (n:=5) (by decide) (nxK L 5 (inK L w d (inK L w d (nxK L 5 i).2).2).2).1
     grind
  ·rw[blK];dsimp only;obtain⟨k1,k2⟩:=S3 L 6 i;split
   ·have:=B0j L w (nxK L 6 i).2;have e:0<L.length\/True:=.inr trivial;simp only[A0A,A0D,List.length_nil];unfold bl0 at this ⊢;dsimp only at this ⊢;obtain⟨q1,q2⟩:=S3 L 5 (nxK L 6 i).2;split
    ·grind
    ·split
     ·grind
     ·split
      ·have:=A0o L w (p:=[109,111,100,101]) (n:=3) (by decide) (by decide) (by decide) (nxK L 5 (nxK L 6 i).2).2
       grind
      ·have:=A0o L w (p:=[115,119]) (n:=4) (by decide) (by decide) (by decide) (nxK L 5 (nxK L 6 i).2).2
       grind
   ·split
    ·have ha:=h2 (nxK L 6 i).2;have hc:=h2 (blK L w d (nxK L 6 i).2).2
     grind
    ·split
     ·have ha:=h2 (nxK L 6 i).2;have hc:=h2 (blK L w d (nxK L 6 i).2).2
      grind
     ·have ha:=h1 (nxK L 6 i).2;have ho:=A9r L 6 (inK L w d (nxK L 6 i).2).2;have hc:=h1 (nxK L 6 (inK L w d (nxK L 6 i).2).2).2;have hg:=A0s (l:=B8g) (n:=5) (by decide) (nxK L 6 (inK L w d (nxK L 6 i).2).2).1
      grind
end Go.Pb
namespace Go.Proofs.YtkkjpohaffjecaaGreatDoor
instance tabI:Go.Sym.Tab:=⟨[(0,fun r=>r=(Lib.pow10Tab.map fun z=>Value.int .u64 z).toArray),(1,fun r=>r=(Lib.asciiSpaceTab.map fun z=>Value.int .u8 z).toArray),(7,fun r => ∃ te pe,r = #[.iface te pe])]⟩
end Go.Proofs.YtkkjpohaffjecaaGreatDoor
set_option maxHeartbeats 4000000
set_option maxRecDepth 100000
namespace Go.Proofs.YtkkjpohaffjecaaGreatDoor
open Go.Eng (IC IOper DReg IFn J0)
open Go.Sym
theorem A4:Tryz.prog.follows .mixedOrders=true:=by kernel_rfl
abbrev x198:XT Tryz.prog 198:=mkF
instance t198:FT Tryz.prog 198 x198.d:=x198.ft
abbrev x267:XT Tryz.prog 267:=mkF
instance t267:FT Tryz.prog 267 x267.d:=x267.ft
abbrev x200:XT Tryz.prog 200:=mkF
instance t200:FT Tryz.prog 200 x200.d:=x200.ft
abbrev x199:XT Tryz.prog 199:=mkF
instance t199:FT Tryz.prog 199 x199.d:=x199.ft
abbrev x216:XT Tryz.prog 216:=mkF
instance t216:FT Tryz.prog 216 x216.d:=x216.ft
abbrev x201:XT Tryz.prog 201:=mkF
instance t201:FT Tryz.prog 201 x201.d:=x201.ft
abbrev x133:XT Tryz.prog 133:=mkF
instance t133:FT Tryz.prog 133 x133.d:=x133.ft
abbrev x187:XT Tryz.prog 187:=mkF
instance t187:FT Tryz.prog 187 x187.d:=x187.ft
abbrev x189:XT Tryz.prog 189:=mkF
instance t189:FT Tryz.prog 189 x189.d:=x189.ft
abbrev x272:XT Tryz.prog 272:=mkF
instance t272:FT Tryz.prog 272 x272.d:=x272.ft
abbrev x192:XT Tryz.prog 192:=mkF
instance t192:FT Tryz.prog 192 x192.d:=x192.ft
abbrev x205:XT Tryz.prog 205:=mkF
instance t205:FT Tryz.prog 205 x205.d:=x205.ft
abbrev x206:XT Tryz.prog 206:=mkF
instance t206:FT Tryz.prog 206 x206.d:=x206.ft
abbrev x123:XT Tryz.prog 123:=mkF
instance t123:FT Tryz.prog 123 x123.d:=x123.ft
abbrev x188:XT Tryz.prog 188:=mkF
instance t188:FT Tryz.prog 188 x188.d:=x188.ft
abbrev x190:XT Tryz.prog 190:=mkF
instance t190:FT Tryz.prog 190 x190.d:=x190.ft
abbrev x191:XT Tryz.prog 191:=mkF
instance t191:FT Tryz.prog 191 x191.d:=x191.ft
abbrev x124:XT Tryz.prog 124:=mkF
instance t124:FT Tryz.prog 124 x124.d:=x124.ft
abbrev x58:XT Tryz.prog 58:=mkF
instance t58:FT Tryz.prog 58 x58.d:=x58.ft
abbrev x62:XT Tryz.prog 62:=mkF
instance t62:FT Tryz.prog 62 x62.d:=x62.ft
abbrev x60:XT Tryz.prog 60:=mkF
instance t60:FT Tryz.prog 60 x60.d:=x60.ft
abbrev x162:XT Tryz.prog 162:=mkF
instance t162:FT Tryz.prog 162 x162.d:=x162.ft
abbrev x163:XT Tryz.prog 163:=mkF
instance t163:FT Tryz.prog 163 x163.d:=x163.ft
abbrev x129:XT Tryz.prog 129:=mkF
instance t129:FT Tryz.prog 129 x129.d:=x129.ft
abbrev x264:XT Tryz.prog 264:=mkF
instance t264:FT Tryz.prog 264 x264.d:=x264.ft
abbrev x84:XT Tryz.prog 84:=mkF
instance t84:FT Tryz.prog 84 x84.d:=x84.ft
abbrev x127:XT Tryz.prog 127:=mkF
instance t127:FT Tryz.prog 127 x127.d:=x127.ft
abbrev x195:XT Tryz.prog 195:=mkF
instance t195:FT Tryz.prog 195 x195.d:=x195.ft
abbrev x194:XT Tryz.prog 194:=mkF
instance t194:FT Tryz.prog 194 x194.d:=x194.ft
abbrev x193:XT Tryz.prog 193:=mkF
instance t193:FT Tryz.prog 193 x193.d:=x193.ft
abbrev x125:XT Tryz.prog 125:=mkF
instance t125:FT Tryz.prog 125 x125.d:=x125.ft
abbrev x126:XT Tryz.prog 126:=mkF
instance t126:FT Tryz.prog 126 x126.d:=x126.ft
abbrev x141:XT Tryz.prog 141:=mkF
instance t141:FT Tryz.prog 141 x141.d:=x141.ft
abbrev x265:XT Tryz.prog 265:=mkF
instance t265:FT Tryz.prog 265 x265.d:=x265.ft
abbrev x238:XT Tryz.prog 238:=mkF
instance t238:FT Tryz.prog 238 x238.d:=x238.ft
abbrev x239:XT Tryz.prog 239:=mkF
instance t239:FT Tryz.prog 239 x239.d:=x239.ft
abbrev x161:XT Tryz.prog 161:=mkF
instance t161:FT Tryz.prog 161 x161.d:=x161.ft
abbrev x237:XT Tryz.prog 237:=mkF
instance t237:FT Tryz.prog 237 x237.d:=x237.ft
abbrev x298:XT Tryz.prog 298:=mkF
instance t298:FT Tryz.prog 298 x298.d:=x298.ft
abbrev x83:XT Tryz.prog 83:=mkF
instance t83:FT Tryz.prog 83 x83.d:=x83.ft
abbrev x196:XT Tryz.prog 196:=mkF
instance t196:FT Tryz.prog 196 x196.d:=x196.ft
abbrev x266:XT Tryz.prog 266:=mkF
instance t266:FT Tryz.prog 266 x266.d:=x266.ft
abbrev x128:XT Tryz.prog 128:=mkF
instance t128:FT Tryz.prog 128 x128.d:=x128.ft
abbrev x130:XT Tryz.prog 130:=mkF
instance t130:FT Tryz.prog 130 x130.d:=x130.ft
abbrev x59:XT Tryz.prog 59:=mkF
instance t59:FT Tryz.prog 59 x59.d:=x59.ft
abbrev x23:XT Tryz.prog 23:=mkF
instance t23:FT Tryz.prog 23 x23.d:=x23.ft
abbrev x37:XT Tryz.prog 37:=mkF
instance t37:FT Tryz.prog 37 x37.d:=x37.ft
open Go.Sym Go.Pb
theorem A9t{H:Hp}{cc j:Nat}{b:Blk}(hfr:∀ i,cc<=i->H i=none)(h:H j=some b):j≠cc:=by
 rintro rfl;rw[hfr _ (A0G _)]at h;cases h
theorem A3w{H:Hp}{cc:Nat}{b:Blk}{ds:List DV}(hfr:∀ i,cc<=i->H i=none):GL (H.upd cc b) ds H ds:=GL.less' fun j b hj=>by rw[h_ne (A9t hfr hj)];exact hj
theorem O5{K H':Hp}{cc:Nat}{ds:List DV}(hK:∀ i,cc<=i->K i=none)(h:∀ j,j<cc->H' j=K j):GL H' ds K ds:=GL.less fun j=>by
 by_cases hj:j<cc
 ·exact .inr (h j hj).symm
 ·exact .inl (hK j (by omega))
theorem C8{H:Hp}{cc t:Nat}{b:Blk}(hfr:∀ i,cc<=i->H i=none)(htc:t<cc):∀ i,cc<=i->H.upd t b i=none:=fun i hi=>by rw[hnO];exact hfr i hi
theorem rv4{s:Sym.St}{x i u:Nat}{a b c d:DV}{o:Bool}(h:s.T x=.ptr i 0)(hb:s.H i=some ⟨u,o,[a,b,c,d]⟩):A1j s [.cell x 4 true]=some (.agg [a,b,c,d]):=by
 simp only[A1j,A1l,h,ldv,hb];rfl
theorem c_rdok(L:List Tok)(E:Int)(s:Rd)(H:Hp)(cc t:Nat)(ht:H t=some (rdR L E s))(htc:t<cc):AC Tryz.prog 60 [.ptr t 0] H cc (fun v H' c'=>v=.bool (okR s)/\H'=H):=by
 refine AC.bodyT A4 rfl (A0B rfl) fun hfr=>?_;repeat' (apply wr<;>try simp only[go_sem,seval,ht])
 exact⟨_,_,GL.refl _ _,rfl,rfl⟩
theorem c_peek(L:List Tok)(E:Int)(s:Rd)(H:Hp)(cc t:Nat)(ht:H t=some (rdR L E s))(htc:t<cc):AC Tryz.prog 163 [.ptr t 0] H cc (fun v H' c'=>v=(B1 L E s).v/\H'=H):=by
 refine AC.bodyT A4 rfl (A0B rfl) fun hfr=>?_;have ne0:=R3 t cc (by omega);by_cases hlt:s.i<L.length
 ·have hd:decide ((s.i:Int)<L.length)=true:=by simpa using hlt
  have hg:=A0C hlt;have e:B1 L E s=L[s.i]:=by unfold B1;rw[A0Y,hg];rfl
  rw[e];generalize L[s.i]=a at hg;repeat' (apply wr<;>try simp only[go_sem,seval,ht,hd,hg,ne0,h_same,A1])
  rw[E0 (v:=a.v) (rv4 rfl h_same)];exact⟨_,_,A3w hfr,rfl,rfl⟩
 ·have hd:decide ((s.i:Int)<L.length)=false:=by simpa using hlt
  have e:B1 L E s=⟨0,[],0,E⟩:=by unfold B1;rw[A0Y,A2M (by omega)];rfl
  rw[e];repeat' (apply wr<;>try simp only[go_sem,seval,ht,hd,ne0,h_same,A1])
  rw[E0 (v:=Tok.v ⟨0,[],0,E⟩) (rv4 rfl h_same)];exact⟨_,_,A3w hfr,rfl,rfl⟩
theorem c_fail(L:List Tok)(E:Int)(s:Rd)(H:Hp)(cc t:Nat)(ht:H t=some (rdR L E s))(htc:t<cc)(p e:Int):AC Tryz.prog 162 [.ptr t 0,I64 p,I64 e] H cc (fun v H' c'=>v=.tup []/\H'=H.upd t (rdR L E (J7 s p e))):=by
 refine AC.bodyT A4 rfl (A0B rfl) fun hfr=>?_;cases h:okR s with
 |true =>
  have e0:J7 s p e = { s with e:=e,pos:=p }:=by rw[J7,if_pos h]
  have h':(s.e == 0)=true:=h;rw[e0];repeat' (apply wr<;>try simp only[go_sem,seval,ht,h',h_same,A1])
  exact⟨_,_,GL.refl _ _,rfl,rfl⟩
 |false =>
  have e0:J7 s p e=s:=by rw[J7,if_neg (by simp[h])]
  have h':(s.e == 0)=false:=h;rw[e0];repeat' (apply wr<;>try simp only[go_sem,seval,ht,h'])
  refine⟨_,_,GL.refl _ _,rfl,?_⟩
  funext j
  by_cases ej:j=t
  ·subst ej;rw[h_same,ht]
  ·rw[h_ne ej]
theorem upd_same{H:Hp}{t:Nat}{b:Blk}(h:H t=some b):H.upd t b=H:=by
 funext j
 by_cases ej:j=t
 ·subst ej;rw[h_same,h]
 ·rw[h_ne ej]
theorem c_is(L:List Tok)(E:Int)(s:Rd)(H:Hp)(cc t:Nat)(ht:H t=some (rdR L E s))(htc:t<cc)(x:List UInt8):AC Tryz.prog 129 [.ptr t 0,.str x] H cc (fun v H' c'=>v=.bool (isR L E s x)/\H'=H):=by
 refine AC.bodyT A4 rfl (A0B rfl) fun hfr=>?_;repeat' (apply wr<;>try simp only[go_sem,seval])
 refine AC.call (c_peek L E s _ _ t ht (by omega)) ?_;rintro v H' c1 ⟨rfl,rfl⟩ hc;have ne0:=R3 t c1 (by omega);simp only[go_sem,seval,h_same,A1];repeat' (apply wr<;>try simp only[go_sem,seval])
 refine AC.call (c_rdok L E s _ _ t (by rw[hnO];exact ht) (by omega)) ?_;rintro v H' c2 ⟨rfl,rfl⟩ hc2;simp only[go_sem,seval];repeat' ((with_reducible first|refine wr ?_|refine wb2 ?_ ?_<;>(intro hb;try simp only[hb])|fail)<;>try simp only[go_sem,seval,h_same])
 all_goals exact⟨_,_,A3w (fun i hi=>hfr i (by omega)),by simp_all[isR],rfl⟩
theorem c_isKind(L:List Tok)(E:Int)(s:Rd)(H:Hp)(cc t:Nat)(ht:H t=some (rdR L E s))(htc:t<cc)(k:Int):AC Tryz.prog 264 [.ptr t 0,I64 k] H cc (fun v H' c'=>v=.bool (H7 L E s k)/\H'=H):=by
 refine AC.bodyT A4 rfl (A0B rfl) fun hfr=>?_;repeat' (apply wr<;>try simp only[go_sem,seval])
 refine AC.call (c_rdok L E s _ _ t ht (by omega)) ?_;rintro v H' c1 ⟨rfl,rfl⟩ hc;by_cases h:okR s=true
 ·simp only[go_sem,seval,h];repeat' (apply wr<;>try simp only[go_sem,seval,h])
  refine AC.call (c_peek L E s _ _ t ht (by omega)) ?_;rintro v H' c2 ⟨rfl,rfl⟩ hc2;simp only[go_sem,seval];repeat' (apply wr<;>try simp only[go_sem,seval])
  exact⟨_,_,GL.refl _ _,by rw[H7,h];rfl,rfl⟩
 ·have h:okR s=false:=by simpa using h
  simp only[go_sem,seval,h];repeat' (apply wr<;>try simp only[go_sem,seval])
  exact⟨_,_,GL.refl _ _,by rw[H7,h];rfl,rfl⟩
theorem c_syntax(L:List Tok)(E:Int)(s:Rd)(H:Hp)(cc t:Nat)(ht:H t=some (rdR L E s))(htc:t<cc):AC Tryz.prog 84 [.ptr t 0] H cc (fun v H' c'=>v=.tup []/\H'=H.upd t (rdR L E (K3 L E s))):=by
 refine AC.bodyT A4 rfl (A0B rfl) fun hfr=>?_;repeat' (apply wr<;>try simp only[go_sem,seval])
 refine AC.call (c_peek L E s _ _ t ht (by omega)) ?_;rintro v H' c1 ⟨rfl,rfl⟩ hc;simp only[go_sem,seval];repeat' (apply wr<;>try simp only[go_sem,seval])
 refine AC.call (c_fail L E s _ _ t ht (by omega) _ _) ?_;rintro v H' c2 ⟨rfl,rfl⟩ hc2;simp only[go_sem,seval];repeat' (apply wr<;>try simp only[go_sem,seval])
 exact⟨_,_,GL.refl _ _,rfl,rfl⟩
theorem c_limit(L:List Tok)(E:Int)(s:Rd)(H:Hp)(cc t:Nat)(ht:H t=some (rdR L E s))(htc:t<cc)(n m e:Int):AC Tryz.prog 127 [.ptr t 0,I64 n,I64 m,I64 e] H cc (fun v H' c'=>v=.tup []/\H'=H.upd t (rdR L E (C2 L E s n m e))):=by
 refine AC.bodyT A4 rfl (A0B rfl) fun hfr=>?_;by_cases h:m<n
 ·have hd:decide (n>m)=true:=by simpa using h
  have e0:C2 L E s n m e=J7 s (B1 L E s).pos e:=by rw[C2,if_pos h]
  rw[e0];repeat' (apply wr<;>try simp only[go_sem,seval,hd])
  refine AC.call (c_peek L E s _ _ t ht (by omega)) ?_;rintro v H' c1 ⟨rfl,rfl⟩ hc;simp only[go_sem,seval];repeat' (apply wr<;>try simp only[go_sem,seval])
  refine AC.call (c_fail L E s _ _ t ht (by omega) _ _) ?_;rintro v H' c2 ⟨rfl,rfl⟩ hc2;simp only[go_sem,seval];repeat' (apply wr<;>try simp only[go_sem,seval])
  exact⟨_,_,GL.refl _ _,rfl,rfl⟩
 ·have hd:decide (n>m)=false:=by simpa using h
  have e0:C2 L E s n m e=s:=by rw[C2,if_neg h]
  rw[e0];repeat' (apply wr<;>try simp only[go_sem,seval,hd])
  exact⟨_,_,GL.refl _ _,rfl,(upd_same ht).symm⟩
theorem c_expect(L:List Tok)(E:Int)(s:Rd)(H:Hp)(cc t:Nat)(ht:H t=some (rdR L E s))(htc:t<cc)(hi:s.i<=10000000000)(x:List UInt8):AC Tryz.prog 195 [.ptr t 0,.str x] H cc (fun v H' c'=>v=.tup []/\H'=H.upd t (rdR L E (D4 L E s x))):=by
 refine AC.bodyT A4 rfl (A0B rfl) fun hfr=>?_;repeat' (apply wr<;>try simp only[go_sem,seval])
 refine AC.call (c_is L E s _ _ t ht (by omega) x) ?_;rintro v H' c1 ⟨rfl,rfl⟩ hc;cases h:isR L E s x with
 |false =>
  have e0:D4 L E s x=K3 L E s:=by rw[D4,if_pos h]
  rw[e0];simp only[go_sem,seval];repeat' (apply wr<;>try simp only[go_sem,seval])
  refine AC.call (c_syntax L E s _ _ t ht (by omega)) ?_;rintro v H' c2 ⟨rfl,rfl⟩ hc2;simp only[go_sem,seval];repeat' (apply wr<;>try simp only[go_sem,seval])
  exact⟨_,_,GL.refl _ _,rfl,rfl⟩
 |true =>
  have hw:IntKind.i64.wrap ((s.i:Int)+1)=((s.i+1:Nat):Int):=by rw[w6z (by omega)];omega
  have e0:D4 L E s x=A7 s:=by rw[D4,if_neg (by simp[h])]
  rw[e0];simp only[go_sem,seval];repeat' (apply wr<;>try simp only[go_sem,seval,ht,hw])
  exact⟨_,_,GL.refl _ _,rfl,rfl⟩
theorem c_take(L:List Tok)(E:Int)(s:Rd)(H:Hp)(cc t:Nat)(ht:H t=some (rdR L E s))(htc:t<cc)(hi:s.i<=10000000000)(k:Int):AC Tryz.prog 194 [.ptr t 0,I64 k] H cc (fun v H' c'=>v=(A8 L E s k).1.v/\H'=H.upd t (rdR L E (A8 L E s k).2)):=by
 refine AC.bodyT A4 rfl (A0B rfl) fun hfr=>?_;repeat' (apply wr<;>try simp only[go_sem,seval])
 refine AC.call (c_peek L E s _ _ t (by rw[hnO];exact ht) (by omega)) ?_;rintro v H' c1 ⟨rfl,rfl⟩ hc;have ne0:=Q3 t cc c1 (by omega);simp only[go_sem,seval,h_same];repeat' (apply wr<;>try simp only[go_sem,seval])
 refine AC.call (c_isKind L E s _ _ t (by rw[hnO,hnO,hnO];exact ht) (by omega) k) ?_;rintro v H' c2 ⟨rfl,rfl⟩ hc2;cases h:H7 L E s k with
 |false =>
  have e0:A8 L E s k=(S8,K3 L E s):=by rw[A8,if_pos h]
  rw[e0];simp only[go_sem,seval,A1];repeat' (apply wr<;>try simp only[go_sem,seval])
  refine AC.call (c_syntax L E s _ _ t (by rw[hnO,hnO];exact ht) (by omega)) ?_;rintro v H' c3 ⟨rfl,rfl⟩ hc3;simp only[go_sem,seval];repeat' (apply wr<;>try simp only[go_sem,seval,ne0,h_same])
  rw[E0 (v:=S8.v) (rv4 rfl h_same)];exact⟨_,_,O5 (C8 hfr htc) (fun j hj=>by simp[Hp.upd,show ¬j=cc by omega,show ¬j=c1 by omega]),rfl,rfl⟩
 |true =>
  have hw:IntKind.i64.wrap ((s.i:Int)+1)=((s.i+1:Nat):Int):=by rw[w6z (by omega)];omega
  have e0:A8 L E s k=(B1 L E s,A7 s):=by rw[A8,if_neg (by simp[h])]
  rw[e0];simp only[go_sem,seval,A1];repeat' (apply wr<;>try simp only[go_sem,seval,ne0,ht,hw,h_same])
  rw[E0 (v:=(B1 L E s).v) (rv4 rfl h_same)];exact⟨_,_,O5 (C8 hfr htc) (fun j hj=>by simp[Hp.upd,show ¬j=cc by omega,show ¬j=c1 by omega];rfl),rfl,rfl⟩
theorem c_name(L:List Tok)(E:Int)(s:Rd)(H:Hp)(cc t:Nat)(ht:H t=some (rdR L E s))(htc:t<cc)(hi:s.i<=10000000000):AC Tryz.prog 193 [.ptr t 0] H cc (fun v H' c'=>v=.str (A8 L E s 1).1.text/\H'=H.upd t (rdR L E (A8 L E s 1).2)):=by
 refine AC.bodyT A4 rfl (A0B rfl) fun hfr=>?_;repeat' (apply wr<;>try simp only[go_sem,seval])
 refine AC.call (c_take L E s _ _ t ht (by omega) hi 1) ?_;rintro v H' c1 ⟨rfl,rfl⟩ hc;simp only[go_sem,seval];repeat' (apply wr<;>try simp only[go_sem,seval])
 exact⟨_,_,GL.refl _ _,rfl,rfl⟩
abbrev A1b(l:List (List UInt8)):DV:=.lst (l.map DV.str)
theorem c_among(L:List Tok)(E:Int)(s:Rd)(H:Hp)(cc t:Nat)(ht:H t=some (rdR L E s))(htc:t<cc)(l:List (List UInt8))(hl:l.length<=1000000):AC Tryz.prog 125 [.ptr t 0,A1b l] H cc (fun v H' c'=>v=I64 (B5 L E s l)/\H'=H):=by
 refine AC.bodyT A4 rfl (A0B rfl) fun hfr=>?_;repeat' (apply wr<;>try simp only[go_sem,seval])
 refine C1 (fun k:Nat=>[(0,.ptr t 0),(1,A1b l),(5,I64 k)]) (fun _=>H) (fun k c=>cc<=c/\k<=l.length/\B5 L E s l=Y6 L E s k (l.drop k)) (fun k=>l.length-k) 0 (by simp[C6,tm,Tm.upd]) (Sub.refl _) ⟨by omega,by simp,rfl⟩ ?_;rintro k c ⟨hc,hk,hv⟩;by_cases hlt:k<l.length
 ·have hd:=dtz hlt;have hg:=A0C hlt;have hw:IntKind.i64.wrap ((k:Int)+1)=((k+1:Nat):Int):=by rw[w6z (by omega)];omega
  rw[A1K hlt,Y6]at hv;generalize l[k]=a at hg hv;repeat' (apply wr<;>try simp only[go_sem,seval,hd,hg])
  refine AC.call (c_is L E s _ _ t ht (by omega) a) ?_;rintro v H' c1 ⟨rfl,rfl⟩ hc1;cases h:isR L E s a with
  |true =>
   rw[if_pos h]at hv;rw[hv];simp only[go_sem,seval];repeat' (apply wr<;>try simp only[go_sem,seval])
   exact⟨_,_,GL.refl _ _,rfl,rfl⟩
  |false =>
   rw[if_neg (by simp[h])]at hv;simp only[go_sem,seval];repeat' (apply wr<;>try simp only[go_sem,seval,hw])
   exact⟨k+1,rfl,Sub.refl _,inv ⟨by omega,hlt,hv⟩,by omega⟩
 ·have hd:=dfz hlt;have hk:k=l.length:=by omega
  rw[hk,List.drop_length,Y6]at hv;rw[hv];repeat' (apply wr<;>try simp only[go_sem,seval,hd])
  exact⟨_,_,GL.refl _ _,rfl,rfl⟩
theorem B4j(l:List (List UInt8)):cellsL (l.map DV.str)=l.map DV.str:=V2 (fun _=>rfl) l
theorem c_amongO(L:List Tok)(E:Int)(s:Rd)(K:Hp)(cc t b:Nat)(hK:K b=none)(ht:K t=some (rdR L E s))(htc:t<cc)(l:List (List UInt8))(hl:l.length<=1000000):
  AC Tryz.prog 125 [.ptr t 0,.slc b 0 l.length] (K.upd b ⟨1,true,l.map DV.str⟩) cc (fun v H' c'=>v=I64 (B5 L E s l)/\H'=K) :=
 AC.ghost (GL.frzS (id:=b) h_same rfl (fun j=>by
  by_cases e:j=b
  ·subst e;exact .inl hK
  ·exact .inr ⟨e,(h_ne e).symm⟩) (.cons _ _ _ _ (.same _) (.cons _ _ _ _ (P1 (u:=1) (by simp) (L3 _) ⟨[],by rw[A1B,B4j]⟩) .nil))) (c_among L E s K cc t ht htc l hl)
theorem D1u{ρ : Ren}{v:Value}{a b c e:DV}(h:VRel ρ (.agg [a,b,c,.snil,e]) v):VRel ρ (.agg [a,b,c,.lst [],e]) v:=by
 obtain⟨bb,rfl,k1,k2⟩:=h.agg_inv;refine .agg _ _ k1 fun j x y hx hy=>?_
 match j with
 |0=>cases hx;exact k2 0 _ y rfl hy
 |1=>cases hx;exact k2 1 _ y rfl hy
 |2=>cases hx;exact k2 2 _ y rfl hy
 |3=>cases hx;exact (k2 3 _ y rfl hy).snil_lst
 |4=>cases hx;exact k2 4 _ y rfl hy
 |_+5=>cases hx
theorem A6x{K H':Hp}{cc:Nat}{a b c e:DV}(hK:∀ i,cc<=i->K i=none)(h:∀ j,j<cc->H' j=K j):GL H' [.agg [a,b,c,.snil,e]] K [.agg [a,b,c,.lst [],e]] :=
 (O5 hK h).trans (GL.view fun ρ vs hA=>arel_one (fun v h=>D1u h) vs hA)
theorem rv5{s:Sym.St}{x i u:Nat}{a b c d e:DV}{o:Bool}(h:s.T x=.ptr i 0)(hb:s.H i=some ⟨u,o,[a,b,c,d,e]⟩):A1j s [.cell x 5 true]=some (.agg [a,b,c,d,e]):=by
 simp only[A1j,A1l,h,ldv,hb];rfl
theorem A1y(L:List Tok)(E:Int)(s:Rd):∀ (l:List (List UInt8)) (k:Nat), -1<=Y6 L E s k l/\Y6 L E s k l<((k+l.length:Nat):Int)
 |[],k=>by simp[Y6];omega
 |x :: l,k=>by
  have:=A1y L E s l (k+1);unfold Y6;split
  ·simp only[A0D];omega
  ·simp only[A0D];omega
theorem D2z{L:List Tok}{E:Int}{s:Rd}{n m e:Int}:(C2 L E s n m e).i=s.i:=by unfold C2 J7;split<;>(try split)<;>rfl
abbrev tkB(a:Tok):Blk:=⟨0,true,[I64 a.kind,.str a.text,I64 a.value,I64 a.pos]⟩
abbrev C2a:Blk:=⟨0,true,[I64 0,I64 0,.str [],.snil,I64 0]⟩
theorem c_primary(L:List Tok)(E:Int)(s:Rd)(H:Hp)(cc t:Nat)(ht:H t=some (rdR L E s))(htc:t<cc)(hi:s.i<=9999999999)(ho:0<=s.ops/\s.ops<=100):AC Tryz.prog 298 [.ptr t 0] H cc (fun v H' c'=>v=(H4 L E s).1.v/\H'=H.upd t (rdR L E (H4 L E s).2)):=by
 refine AC.bodyT A4 rfl (A0B rfl) fun hfr=>?_;repeat' (apply wr<;>try simp only[go_sem,seval])
 refine AC.call (c_peek L E s _ _ t (by rw[hnO];exact ht) (by omega)) ?_;rintro v H' c1 ⟨rfl,rfl⟩ hc;have ne0:=W7 t cc c1 (c1+1) (by omega);simp only[go_sem,seval,h_same,A1];repeat' (apply wr<;>try simp only[go_sem,seval])
 have ham:=c_amongO L E s ((H.upd cc ⟨0,true,[I64 0,I64 0,.str [],.snil,I64 0]⟩).upd c1 ⟨0,true,[I64 (B1 L E s).kind,.str (B1 L E s).text,I64 (B1 L E s).value,I64 (B1 L E s).pos]⟩) (c1+1+1) t (c1+1) (by rw[hnO,hnO];exact hfr _ (by omega)) (by rw[hnO,hnO];exact ht) (by omega) O7 (by decide);refine AC.call ham ?_;rintro v H' c2 ⟨rfl,rfl⟩ hc2;have hpr:H4 L E s=H4 L E s:=rfl
 conv at hpr=>rhs;unfold H4
 have hkr : -1<=B5 L E s O7/\B5 L E s O7<7:=A1y L E s O7 0;generalize B5 L E s O7=k at hpr hkr;have hk0 : -1<=k/\k<7:=hkr;have hw:IntKind.i64.wrap (s.ops+1)=s.ops+1:=w6z (by omega);have tail:∀ c3,c2<=c3->¬(k<0/\H7 L E s 3=false/\H7 L E s 1=false)->IW Tryz.prog 78 (pz Tryz.prog 298 (.i (.o (.o (.o .h))))) ⟨tm [(0,.ptr t 0),(2,.ptr cc 0),(3,.ptr c1 0),(4,I64 k),(22,.bool false)],(H.upd cc C2a).upd c1 (tkB (B1 L E s)),c3⟩ (rt [.cell 2 5 true] fun v H' c' => ∃ v2 H2,GL H' [v] H2 [v2]/\v2=(H4 L E s).1.v/\H2=H.upd t (rdR L E (H4 L E s).2)):=by
  intro c3 hc3 hcd;rw[if_neg hcd]at hpr;dsimp only at hpr;repeat' (apply wr<;>try simp only[go_sem,seval,ht,hw,ne0,h_same])
  refine AC.call (c_limit L E { s with ops:=s.ops+1 } _ _ t h_same (by omega) _ _ _) ?_;rintro v H' c4 ⟨rfl,rfl⟩ hc4;have hi2:(C2 L E { s with ops:=s.ops+1 } (s.ops+1) 32 9).i=s.i:=D2z;generalize C2 L E { s with ops:=s.ops+1 } (s.ops+1) 32 9=s2 at *;simp only[go_sem,seval,A1];repeat' (apply wr<;>try simp only[go_sem,seval])
  refine AC.call (c_rdok L E s2 _ _ t h_same (by omega)) ?_;rintro v H' c5 ⟨rfl,rfl⟩ hc5;have hG:∀ (b5:Blk) (j:Nat),j<cc->(((H.upd cc b5).upd c1 (tkB (B1 L E s))).upd t (rdR L E s2)) j=(H.upd t (rdR L E s2)) j:=fun b5 j hj=>by simp[Hp.upd,show ¬j=cc by omega,show ¬j=c1 by omega]
  cases h2:okR s2 with
  |false =>
   rw[if_pos h2]at hpr;rw[hpr];simp only[go_sem,seval];repeat' (apply wr<;>try simp only[go_sem,seval,ne0,h_same])
   rw[E0 (v:=.agg [I64 0,I64 0,.str [],.snil,I64 0]) (rv5 rfl h_same)];refine⟨_,_,A6x (cc:=cc) (C8 hfr htc) (fun j hj=>?_),rfl,rfl⟩;simp[Hp.upd,show ¬j=cc by omega,show ¬j=c1 by omega]
  |true =>
   rw[if_neg (by simp[h2])]at hpr;have hw2:IntKind.i64.wrap ((s2.i:Int)+1)=((s2.i+1:Nat):Int):=by rw[w6z (by omega)];omega
   simp only[go_sem,seval];by_cases hk1:0<=k
   ·rw[if_pos hk1]at hpr;have hd1:decide (k≥0)=true:=by simpa using hk1
    have ne0:=A1p t cc c1 c5 (c5+7) (by omega);by_cases h4:4<=k
    ·rw[if_pos h4]at hpr;rw[hpr];rcases (show k=4\/k=5\/k=6 by omega) with rfl|rfl|rfl
     all_goals
      repeat' (apply wr<;>try simp only[go_sem,seval,hw2,ne0,h_same,A1])
      refine AC.call (c_name L E (A7 s2) _ _ t (by repeat (first|exact h_same|rw[hnO])) (by omega) (by show s2.i+1<=10000000000;omega)) ?_;rintro v H' c6 ⟨rfl,rfl⟩ hc6;simp only[go_sem,seval,ne0,h_same];repeat' (apply wr<;>try simp only[go_sem,seval,ne0,h_same])
      rw[E0 (rv5 rfl h_same)];refine⟨_,_,A6x (cc:=cc) (C8 hfr htc) (fun j hj=>?_),rfl,rfl⟩;simp[Hp.upd,show ¬j=cc by omega,show ¬j=c1 by omega,show ¬j=c5 by omega,show ¬j=c5+7 by omega];try (split<;>rfl)
    ·rw[if_neg h4]at hpr;rw[hpr];rcases (show k=0\/k=1\/k=2\/k=3 by omega) with rfl|rfl|rfl|rfl
     all_goals
      repeat' (apply wr<;>try simp only[go_sem,seval,hw2,ne0,h_same,A1])
      rw[E0 (rv5 rfl h_same)];refine⟨_,_,A6x (cc:=cc) (C8 hfr htc) (fun j hj=>?_),rfl,rfl⟩;simp[Hp.upd,show ¬j=cc by omega,show ¬j=c1 by omega,show ¬j=c5 by omega,show ¬j=c5+7 by omega];rfl
   ·rw[if_neg hk1]at hpr;have hd1:decide (k≥0)=false:=by simpa using hk1
    by_cases h3:(B1 L E s).kind=3
    ·rw[if_pos h3]at hpr;rw[hpr];have hd3:((B1 L E s).kind == 3)=true:=by simpa using h3
     repeat' (apply wr<;>try simp only[go_sem,seval,hw2,hd1,hd3,ne0,h_same,A1])
     rw[E0 (v:=.agg [I64 1,I64 (B1 L E s).value,.str [],.snil,I64 (B1 L E s).pos]) (rv5 rfl h_same)];refine⟨_,_,A6x (cc:=cc) (C8 hfr htc) (fun j hj=>?_),rfl,rfl⟩;simp[Hp.upd,show ¬j=cc by omega,show ¬j=c1 by omega];rfl
    ·rw[if_neg h3]at hpr;rw[hpr];have hd3:((B1 L E s).kind == 3)=false:=by simpa using h3
     repeat' (apply wr<;>try simp only[go_sem,seval,hw2,hd1,hd3,ne0,h_same,A1])
     rw[E0 (v:=.agg [I64 2,I64 0,.str (B1 L E s).text,.snil,I64 (B1 L E s).pos]) (rv5 rfl h_same)];refine⟨_,_,A6x (cc:=cc) (C8 hfr htc) (fun j hj=>?_),rfl,rfl⟩;simp[Hp.upd,show ¬j=cc by omega,show ¬j=c1 by omega];rfl
 have hGt:∀ b5:Blk,((H.upd cc b5).upd c1 (tkB (B1 L E s))) t=some (rdR L E s):=fun b5=>by rw[hnO,hnO];exact ht
 by_cases hk1:k<0
 ·have hd:decide (k<0)=true:=by simpa using hk1
  simp only[go_sem,seval];repeat' (apply wr<;>try simp only[go_sem,seval,hd])
  refine AC.call (c_isKind L E s _ _ t (hGt _) (by omega) 3) ?_;rintro v H' c3 ⟨rfl,rfl⟩ hc3;cases h3:H7 L E s 3 with
  |true =>
   simp only[go_sem,seval];repeat' ((with_reducible first|refine G0 (p:=IW _ _ (pz Tryz.prog 298 (.i (.o (.o (.o .h))))) _ _) ?_|refine wr ?_|fail)<;>try simp only[go_sem,seval])
   exact tail _ (by omega) (by simp[h3])
  |false =>
   simp only[go_sem,seval];repeat' (apply wr<;>try simp only[go_sem,seval,h3])
   refine AC.call (c_isKind L E s _ _ t (hGt _) (by omega) 1) ?_;rintro v H' c4 ⟨rfl,rfl⟩ hc4;cases h1:H7 L E s 1 with
   |true =>
    simp only[go_sem,seval];repeat' ((with_reducible first|refine G0 (p:=IW _ _ (pz Tryz.prog 298 (.i (.o (.o (.o .h))))) _ _) ?_|refine wr ?_|fail)<;>try simp only[go_sem,seval])
    exact tail _ (by omega) (by simp[h1])
   |false =>
    rw[if_pos ⟨hk1,h3,h1⟩]at hpr;rw[hpr];simp only[go_sem,seval];repeat' (apply wr<;>try simp only[go_sem,seval])
    refine AC.call (c_syntax L E s _ _ t (hGt _) (by omega)) ?_;rintro v H' c5 ⟨rfl,rfl⟩ hc5;simp only[go_sem,seval];repeat' (apply wr<;>try simp only[go_sem,seval,ne0,h_same])
    rw[E0 (rv5 rfl h_same)];refine⟨_,_,A6x (cc:=cc) (C8 hfr htc) (fun j hj=>?_),rfl,rfl⟩;simp[Hp.upd,show ¬j=cc by omega,show ¬j=c1 by omega]
 ·have hd:decide (k<0)=false:=by simpa using hk1
  simp only[go_sem,seval];repeat' ((with_reducible first|refine G0 (p:=IW _ _ (pz Tryz.prog 298 (.i (.o (.o (.o .h))))) _ _) ?_|refine wr ?_|fail)<;>try simp only[go_sem,seval,hd])
  exact tail _ (by omega) fun h=>hk1 h.1
theorem c_level(k:Int):PC Tryz.prog 239 [I64 k] (I64 (B0 k)):=by
 refine PC.go A4 ?_;repeat' ((with_reducible first|refine wr ?_|refine wb2 ?_ ?_<;>(intro hb;try simp only[hb])|fail)<;>try simp only[go_sem,seval])
 all_goals
  refine A6 (congrArg I64 ?_);simp only[A1F,beq_eq_false_iff_ne,A0J,A1M]at *;unfold B0;repeat' split
  all_goals omega
theorem c_signs31:PC Tryz.prog 238 [] (A1b C9):=by
 refine PC.ofT A4 rfl (A0B rfl) rfl (N4 _) ?_;repeat' (apply wr<;>try simp only[go_sem,seval])
 exact K5 (xs:=C9.map DV.str) (u:=1) h_same rfl rfl (L3 _) ⟨[],rfl⟩
theorem c_decls31:PC Tryz.prog 126 [] (A1b D6):=by
 refine PC.ofT A4 rfl (A0B rfl) rfl (N4 _) ?_;repeat' (apply wr<;>try simp only[go_sem,seval])
 exact K5 (xs:=D6.map DV.str) (u:=1) h_same rfl rfl (L3 _) ⟨[],rfl⟩
theorem c_trigs31:PC Tryz.prog 141 [] (A1b E3):=by
 refine PC.ofT A4 rfl (A0B rfl) rfl (N4 _) ?_;repeat' (apply wr<;>try simp only[go_sem,seval])
 exact K5 (xs:=E3.map DV.str) (u:=1) h_same rfl rfl (L3 _) ⟨[],rfl⟩
theorem c_stmts31:PC Tryz.prog 265 [] (A1b B4):=by
 refine PC.ofT A4 rfl (A0B rfl) rfl (N4 _) ?_;repeat' (apply wr<;>try simp only[go_sem,seval])
 exact K5 (xs:=B4.map DV.str) (u:=1) h_same rfl rfl (L3 _) ⟨[],rfl⟩
theorem C6z{K H':Hp}{cc b:Nat}{a b' c e:DV}(l:List Ex)(hK:∀ i,cc<=i->K i=none)(hb0:cc<=b)(hb:H' b=some ⟨5,true,cellsL (l.map Ex.v)⟩)(h:∀ j,j<cc->H' j=K j):
  GL H' [.agg [a,b',c,.slc b 0 l.length,e]] K [.agg [a,b',c,F7 l,e]] :=
 GL.frzS (id:=b) hb rfl (fun j=>by
  by_cases hj:j<cc
  ·exact .inr ⟨by omega,(h j hj).symm⟩
  ·exact .inl (hK j (by omega))) (.cons _ _ _ _ (.agg _ _ (.cons _ _ _ _ (.same _) (.cons _ _ _ _ (.same _) (.cons _ _ _ _ (.same _) (.cons _ _ _ _ (P1 (u:=5) (by simp) (A2y l) ⟨[],by simp⟩) (.cons _ _ _ _ (.same _) .nil)))))) .nil)
theorem A2z(e:Ex):cellsL ([e].map Ex.v)=[I64 e.kind,I64 e.value,.str e.name,F7 e.args,I64 e.pos]:=by
 rw[A0U,Ex.v_w];rfl
theorem C1y(e x:Ex):cellsL ([e,x].map Ex.v)=[I64 e.kind,I64 e.value,.str e.name,F7 e.args,I64 e.pos,I64 x.kind,I64 x.value,.str x.name,F7 x.args,I64 x.pos]:=by
 rw[A0U,A0U,Ex.v_w,Ex.v_w];rfl
abbrev RdC(L:List Tok)(E:Int)(f:Nat)(vs:List DV)(s:Rd)(r:DV × Rd):Prop :=
 ∀ (H:Hp) (cc t:Nat),H t=some (rdR L E s)->t<cc->AC Tryz.prog f (.ptr t 0 :: vs) H cc (fun v H' c'=>v=r.1/\H'=H.upd t (rdR L E r.2))
theorem c_unary(L:List Tok)(E:Int)(hL:L.length<=1000000000)(f:Nat)
  (ib:∀ n s r,1<=n->n<=6->I4 L E f n s=some r->RI L s->RdC L E 161 [I64 n] s (r.1.v,r.2))
  (iu:∀ s r,U1 L E f s=some r->RI L s->RdC L E 237 [] s (r.1.v,r.2))
  (s:Rd) (r:Ex × Rd) (h:U1 L E (f+1) s=some r) (hR:RI L s):RdC L E 237 [] s (r.1.v,r.2):=by
 intro H cc t ht htc;have hri:=hR.i;have hro:=hR.o0;have hro1:=hR.o1;have hp0:=hR.p0;have hp1:=hR.p1;refine AC.bodyT A4 rfl (A0B rfl) fun hfr=>?_;repeat' (apply wr<;>try simp only[go_sem,seval])
 refine AC.call (c_peek L E s _ _ t (by rw[hnO];exact ht) (by omega)) ?_;rintro v H' c1 ⟨rfl,rfl⟩ hc;have ne0:=W7 t cc c1 (c1+1) (by omega);simp only[go_sem,seval,h_same,A1];repeat' (apply wr<;>try simp only[go_sem,seval])
 have ham:=c_amongO L E s ((H.upd cc C2a).upd c1 (tkB (B1 L E s))) (c1+1+1) t (c1+1) (by rw[hnO,hnO];exact hfr _ (by omega)) (by rw[hnO,hnO];exact ht) (by omega) M5 (by decide);refine AC.call ham ?_;rintro v H' c2 ⟨rfl,rfl⟩ hc2;unfold U1 at h;dsimp only at h;have hkr : -1<=B5 L E s M5/\B5 L E s M5<3:=A1y L E s M5 0;have hnn:0<=B5 L E s M5->s.i<L.length:=fun h=>(F6 h).2.1;generalize B5 L E s M5=k at h hkr hnn;have hGt:((H.upd cc C2a).upd c1 (tkB (B1 L E s))) t=some (rdR L E s):=by rw[hnO,hnO];exact ht
 by_cases hk:k<0
 ·rw[if_pos hk]at h;cases h;have hd:decide (k<0)=true:=by simpa using hk
  simp only[go_sem,seval];repeat' (apply wr<;>try simp only[go_sem,seval,hd])
  refine AC.call (c_primary L E s _ _ t hGt (by omega) (by omega) (by omega)) ?_;rintro v H' c3 ⟨rfl,rfl⟩ hc3;simp only[go_sem,seval,ne0,h_same,Ex.v_w];repeat' (apply wr<;>try simp only[go_sem,seval])
  rw[E0 (rv5 rfl h_same)];refine⟨_,_,O5 (cc:=cc) (C8 hfr htc) (fun j hj=>?_),rfl,rfl⟩;simp[Hp.upd,show ¬j=cc by omega,show ¬j=c1 by omega]
 ·rw[if_neg hk]at h;have hd:decide (k<0)=false:=by simpa using hk
  have hw:IntKind.i64.wrap (s.par+1)=s.par+1:=w6z (by omega);have hw2:IntKind.i64.wrap ((s.i:Int)+1)=((s.i+1:Nat):Int):=by rw[w6z (by omega)];omega
  have hw3:IntKind.i64.wrap (10+k)=10+k:=w6z (by omega);simp only[go_sem,seval];repeat' (apply wr<;>try simp only[go_sem,seval,ne0,hd,ht,hw])
  refine AC.call (c_limit L E s _ _ t hGt (by omega) _ _ _) ?_;rintro v H' c3 ⟨rfl,rfl⟩ hc3;simp only[go_sem,seval];repeat' (apply wr<;>try simp only[go_sem,seval])
  refine AC.call (c_rdok L E _ _ _ t h_same (by omega)) ?_;rintro v H' c4 ⟨rfl,rfl⟩ hc4;cases h2:okR (C2 L E s (s.par+1) 16 50) with
  |false =>
   rw[if_pos h2]at h;cases h;simp only[go_sem,seval];repeat' (apply wr<;>try simp only[go_sem,seval,ne0,h_same])
   rw[E0 (rv5 rfl h_same)];refine⟨_,_,A6x (cc:=cc) (C8 hfr htc) (fun j hj=>?_),rfl,rfl⟩;simp[Hp.upd,show ¬j=cc by omega,show ¬j=c1 by omega]
  |true =>
   rw[if_neg (by simp[h2])]at h;obtain⟨h3,h4,h5⟩:=F4 (by decide) h2;rw[h5]at h h2 ⊢;simp only[go_sem,seval];have ne0:=W7 t cc c1 c4 (by omega);have k2:RI L { s with i:=s.i+1,par:=s.par+1 }:=⟨hnn (by omega),hro,hro1,hR.o2,by show 0<=s.par+1;omega,h4⟩;by_cases hk2:k=2
   ·subst hk2;rw[if_pos rfl]at h;cases hb:I4 L E f 1 { s with i:=s.i+1,par:=s.par+1 } with
    |none=>rw[hb]at h;cases h
    |some q =>
     obtain⟨e,s3⟩:=q;rw[hb]at h;dsimp only at h;obtain⟨a1,a2⟩:=(RI.all f).1 _ _ _ hb k2;obtain⟨b1,b2⟩:=a1.exp (E:=E) (x:=[41]);have hi3:=a1.i;dsimp only at a2 b2 hi3;repeat' (apply wr<;>try simp only[go_sem,seval,hw,hw2,h_same,A1])
     refine AC.call (ib 1 _ (e,s3) (by decide) (by decide) hb k2 _ _ t (by rw[hnO,h_same]) (by omega)) ?_;rintro v H' c5 ⟨rfl,rfl⟩ hc5;dsimp only;simp only[go_sem,seval,ne0,h_same,Ex.v_w];repeat' (apply wr<;>try simp only[go_sem,seval])
     refine AC.call (c_expect L E s3 _ _ t (by repeat (first|exact h_same|rw[hnO])) (by omega) (by omega) _) ?_;rintro v H' c6 ⟨rfl,rfl⟩ hc6;obtain⟨s4,hs4⟩:∃ s4,s4=D4 L E s3 [41]:=⟨_,rfl⟩;rw[<- hs4]at h b1 b2 ⊢;have hw5:IntKind.i64.wrap (s4.par-1)=s4.par-1:=w6z (by omega);cases h;simp only[go_sem,seval];repeat' (apply wr<;>try simp only[go_sem,seval,hw5,ne0,h_same,A1])
     rw[E0 (rv5 rfl h_same)];refine⟨_,_,O5 (cc:=cc) (C8 hfr htc) (fun j hj=>?_),rfl,rfl⟩;simp[Hp.upd,show ¬j=cc by omega,show ¬j=c1 by omega,show ¬j=c4 by omega];try (split<;>rfl)
   ·rw[if_neg hk2]at h;have hd2:(k == 2)=false:=by simpa using hk2
    cases hb:U1 L E f { s with i:=s.i+1,par:=s.par+1 } with
    |none=>rw[hb]at h;cases h
    |some q =>
     obtain⟨e,s3⟩:=q;rw[hb]at h;dsimp only at h;obtain⟨a1,a2⟩:=(RI.all f).2.2 _ _ hb k2;dsimp only at a2;repeat' (apply wr<;>try simp only[go_sem,seval,hw,hw2,hw3,hd2,ne0,h_same,A1])
     refine AC.call (iu _ (e,s3) hb k2 _ _ t (by rw[hnO,h_same]) (by omega)) ?_;rintro v H' c5 ⟨rfl,rfl⟩ hc5;have hw5:IntKind.i64.wrap (s3.par-1)=s3.par-1:=w6z (by omega);cases h;have ne0:=A1p t cc c1 c4 (c4+1+4) (by omega);simp only[go_sem,seval,ne0,h_same,Ex.v_w];repeat' (apply wr<;>try simp only[go_sem,seval,ne0,h_same,A1])
     and_intros
     all_goals try (first|rw[hw3]|((repeat rw[hnO]);exact hfr _ (by omega)))
     repeat' (apply wr<;>try simp only[go_sem,seval,hw5,ne0,h_same])
     rw[E0 (rv5 rfl h_same)];refine⟨_,_,C6z (cc:=cc) (b:=c4+1+4) [e] (C8 hfr htc) (by omega) ?_ (fun j hj=>?_),rfl,rfl⟩
     ·rw[A2z];dsimp only
      repeat (first|exact h_same|rw[hnO])
     simp[Hp.upd,show ¬j=cc by omega,show ¬j=c1 by omega,show ¬j=c4 by omega,show ¬j=c4+1+4 by omega];try (split<;>rfl)
abbrev exB(e:Ex):Blk:=⟨0,true,[I64 e.kind,I64 e.value,.str e.name,F7 e.args,I64 e.pos]⟩
theorem c_binary(L:List Tok)(E:Int)(hL:L.length<=1000000000)(f:Nat)
  (ib:∀ g,g<=f->∀ n s r,1<=n->n<=6->I4 L E g n s=some r->RI L s->RdC L E 161 [I64 n] s (r.1.v,r.2))
  (iu:∀ s r,U1 L E f s=some r->RI L s->RdC L E 237 [] s (r.1.v,r.2))
  (n:Int) (s:Rd) (r:Ex × Rd) (hn1:1<=n) (hn6:n<=6) (h:I4 L E (f+1) n s=some r) (hR:RI L s):RdC L E 161 [I64 n] s (r.1.v,r.2):=by
 intro H cc t ht htc;refine AC.bodyT A4 rfl (A0B rfl) fun hfr=>?_;unfold I4 at h;have ne0:=R3 t cc (by omega);by_cases h5:5<n
 ·rw[if_pos h5]at h;have hd:decide (n>5)=true:=by simpa using h5
  repeat' (apply wr<;>try simp only[go_sem,seval,hd])
  refine AC.call (iu _ _ h hR _ _ t (by rw[hnO];exact ht) (by omega)) ?_;rintro v H' c1 ⟨rfl,rfl⟩ hc1;dsimp only;simp only[go_sem,seval,ne0,h_same,Ex.v_w];repeat' (apply wr<;>try simp only[go_sem,seval])
  rw[E0 (rv5 rfl h_same)];refine⟨_,_,O5 (cc:=cc) (C8 hfr htc) (fun j hj=>?_),rfl,rfl⟩;simp[Hp.upd,show ¬j=cc by omega]
 rw[if_neg h5]at h;have hd:decide (n>5)=false:=by simpa using h5
 have hw:IntKind.i64.wrap (n+1)=n+1:=w6z (by omega);cases hb:I4 L E f (n+1) s with
 |none=>rw[hb]at h;cases h
 |some q =>
  obtain⟨e,s1⟩:=q;rw[hb]at h;dsimp only at h;obtain⟨a1,a2⟩:=(RI.all f).1 _ _ _ hb hR;dsimp only at a1;repeat' (apply wr<;>try simp only[go_sem,seval,hd,hw])
  refine AC.call (ib f (A0G _) (n+1) _ _ (by omega) (by omega) hb hR _ _ t (by rw[hnO];exact ht) (by omega)) ?_;rintro v H' c1 ⟨rfl,rfl⟩ hc1;dsimp only;have ne0:=Q3 t cc c1 (by omega);simp only[go_sem,seval,h_same,A1,Ex.v_w];repeat' (apply wr<;>try simp only[go_sem,seval])
  refine C5j (fun _:Nat × Ex × Rd=>[(0,.ptr t 0),(1,I64 n),(4,.ptr cc 0),(5,.ptr c1 0)]) (fun q=>((H.upd cc C2a).upd t (rdR L E q.2.2)).upd c1 (exB q.2.1))
   (fun q c=>c1+1<=c/\q.1<=f/\Q4 L E q.1 n q.2.1 q.2.2=some r/\RI L q.2.2) (fun q=>q.1) (f,e,s1) (fun b=>by simp[C6,tm,Tm.upd]) (by simp[C6,tm,Tm.upd]) (Sub.refl _) ⟨A0G _,A0G _,h,a1⟩ ?_
  clear h hb a1 a2 s1 e;rintro⟨g,e,s1⟩ c ⟨hc,hg,hv,k1⟩;dsimp only at hc hg hv k1 ⊢;have hri:=k1.i;cases g with
  |zero=>simp[Q4]at hv
  |succ g =>
  unfold Q4 at hv;dsimp only at hv;have hTt:∀ b:Blk,(((H.upd cc C2a).upd t (rdR L E s1)).upd c1 b) t=some (rdR L E s1):=fun b=>by rw[hnO,h_same]
  repeat' ((with_reducible first|apply wr|refine cpc c_signs31 ?_|fail)<;>try simp only[go_sem,seval])
  refine AC.call (c_among L E s1 _ _ t (hTt _) (by omega) C9 (by decide)) ?_;rintro v H' c2 ⟨rfl,rfl⟩ hc2;have hkr : -1<=B5 L E s1 C9/\B5 L E s1 C9<13:=A1y L E s1 C9 0;have hnn:0<=B5 L E s1 C9->s1.i<L.length:=fun h=>(F6 h).2.1;generalize B5 L E s1 C9=k at hv hkr hnn;have hwk:IntKind.i64.wrap (12+k)=12+k:=w6z (by omega);by_cases hk:k<0
  ·rw[if_pos (.inl hk)]at hv;cases hv;have hdk:decide (k<0)=true:=by simpa using hk
   simp only[go_sem,seval];repeat' (apply wr<;>try simp only[go_sem,seval,ne0,hdk,h_same])
   rw[E0 (rv5 rfl h_same)];refine⟨_,_,O5 (cc:=cc) (C8 hfr htc) (fun j hj=>?_),rfl,rfl⟩;simp[Hp.upd,show ¬j=cc by omega,show ¬j=c1 by omega]
  have hdk:decide (k<0)=false:=by simpa using hk
  by_cases hl:B0 (12+k)=n
  ·rw[if_neg (by omega)]at hv;have hdl:(B0 (12+k) != n)=false:=by simp[hl]
   simp only[go_sem,seval];repeat' ((with_reducible first|refine wr ?_|refine cpc (c_level _) ?_|fail)<;>try simp only[go_sem,seval,hdk,hwk,hdl])
   cases hb:I4 L E g (n+1) (A7 s1) with
   |none=>rw[hb]at hv;cases hv
   |some q =>
    obtain⟨x,s2⟩:=q;rw[hb]at hv;dsimp only at hv;have k2:=k1.nxt (hnn (by omega));obtain⟨b1,b2⟩:=(RI.all g).1 _ _ _ hb k2;dsimp only at b1;have hw2:IntKind.i64.wrap ((s1.i:Int)+1)=((s1.i+1:Nat):Int):=by rw[w6z (by omega)];omega
    refine AC.call (c_peek L E s1 _ _ t (hTt _) (by omega)) ?_;rintro v H' c3 ⟨rfl,rfl⟩ hc3;have ne0:=A1p t cc c1 c3 (c3+7) (by omega);simp only[go_sem,seval];repeat' (apply wr<;>try simp only[go_sem,seval,hw2,hwk,hw,ne0,h_same])
    refine AC.call (ib g (by omega) (n+1) (A7 s1) (x,s2) (by omega) (by omega) hb k2 _ _ t (by repeat (first|exact h_same|rw[hnO])) (by omega)) ?_;rintro v H' c4 ⟨rfl,rfl⟩ hc4;dsimp only;simp only[go_sem,seval,ne0,h_same,A1,Ex.v_w];repeat' (apply wr<;>try simp only[go_sem,seval,ne0,h_same,A1])
    and_intros
    all_goals try (first|rw[hwk]|((repeat rw[hnO]);exact hfr _ (by omega)))
    by_cases h3:n=3
    ·rw[if_pos h3]at hv;cases hv;have hd3:(n == 3)=true:=by simpa using h3
     repeat' (apply wr<;>try simp only[go_sem,seval,hd3,ne0,h_same])
     rw[E0 (rv5 rfl h_same)];refine⟨_,_,C6z (cc:=cc) (b:=c3+7) [e,x] (C8 hfr htc) (by omega) ?_ (fun j hj=>?_),rfl,rfl⟩
     ·rw[C1y];dsimp only
      repeat (first|exact h_same|rw[hnO])
     simp[Hp.upd,show ¬j=cc by omega,show ¬j=c1 by omega,show ¬j=c3+7 by omega];try (split<;>rfl)
    ·rw[if_neg h3]at hv;have hd3:(n == 3)=false:=by simpa using h3
     repeat' (apply wr<;>try simp only[go_sem,seval,hd3])
     refine⟨(g,.mk (12+k) 0 [] [e,x] (B1 L E s1).pos,s2),?_,inv ⟨by omega,by simp only;omega,hv,b1⟩,by simp only;omega⟩;refine GL.frzT (id:=c3+7) (b:=⟨5,true,cellsL ([e,x].map Ex.v)⟩) ?_ rfl (fun j=>?_) (FzL.refl _)
     ·rw[C1y]
      repeat (first|exact h_same|rw[hnO])
     by_cases j1:j=c1
     ·subst j1;refine .inr ⟨by omega,.inr ⟨_,_,h_same,h_same,rfl,rfl,.cons _ _ _ _ (.same _) (.cons _ _ _ _ (.same _) (.cons _ _ _ _ (.same _) (.cons _ _ _ _ (P1 (u:=5) (xs:=[e,x].map Ex.v) (by simp) (A2y _) ⟨[],by simp⟩) (.cons _ _ _ _ (.same _) .nil)))),by simp[DV.one]⟩⟩
     ·by_cases j2:j=c3+7
      ·subst j2;left
       repeat rw[hnO]
       exact hfr _ (by omega)
      ·refine .inr ⟨j2,.inl ?_⟩;simp[Hp.upd,j1,j2];try (split<;>rfl)
  ·rw[if_pos (.inr hl)]at hv;cases hv;have hdl:(B0 (12+k) != n)=true:=by simpa using hl
   simp only[go_sem,seval];repeat' ((with_reducible first|refine wr ?_|refine cpc (c_level _) ?_|fail)<;>try simp only[go_sem,seval,ne0,hdk,hwk,hdl,h_same])
   rw[E0 (rv5 rfl h_same)];refine⟨_,_,O5 (cc:=cc) (C8 hfr htc) (fun j hj=>?_),rfl,rfl⟩;simp[Hp.upd,show ¬j=cc by omega,show ¬j=c1 by omega]
theorem c_bu(L:List Tok)(E:Int)(hL:L.length<=1000000000):∀ f:Nat,(∀ n s r,1<=n->n<=6->I4 L E f n s=some r->RI L s->RdC L E 161 [I64 n] s (r.1.v,r.2))/\(∀ s r,U1 L E f s=some r->RI L s->RdC L E 237 [] s (r.1.v,r.2)):=by
 intro f
 induction f using Nat.strongRecOn with
 |_ f ih =>
  cases f with
  |zero=>exact⟨fun n s r _ _ h=>by simp[I4]at h,fun s r h=>by simp[U1]at h⟩
  |succ f =>
   exact⟨fun n s r h1 h2 h hR=>c_binary L E hL f (fun g hg=>(ih g (by omega)).1) (ih f (by omega)).2 n s r h1 h2 h hR,
    fun s r h hR=>c_unary L E hL f (ih f (by omega)).1 (ih f (by omega)).2 s r h hR⟩
theorem c_expression(L:List Tok)(E:Int)(hL:L.length<=1000000000)(f:Nat)(s:Rd)(r:Ex × Rd)(h:N8 L E f s=some r)(hi:s.i<=L.length):RdC L E 83 [] s (r.1.v,r.2):=by
 intro H cc t ht htc;refine AC.bodyT A4 rfl (A0B rfl) fun hfr=>?_;have ne0:=R3 t cc (by omega);repeat' (apply wr<;>try simp only[go_sem,seval,ht,ne0,h_same,A1])
 refine AC.call ((c_bu L E hL f).1 1 { s with ops:=0,par:=0 } r (by decide) (by decide) h ⟨hi,A3Q 0,(by decide:(0:Int)<=33),fun _=>(by decide:(0:Int)<=32),A3Q 0,(by decide:(0:Int)<=16)⟩ _ _ t (by exact h_same) (by omega)) ?_;rintro v H' c1 ⟨rfl,rfl⟩ hc1;dsimp only;simp only[go_sem,seval,ne0,h_same,A1,Ex.v_w];repeat' (apply wr<;>try simp only[go_sem,seval])
 rw[E0 (rv5 rfl h_same)];refine⟨_,_,O5 (cc:=cc) (C8 hfr htc) (fun j hj=>?_),rfl,rfl⟩;simp[Hp.upd,show ¬j=cc by omega];try (split<;>rfl)
abbrev x318:XT Tryz.prog 318:=mkF
instance t318:FT Tryz.prog 318 x318.d:=x318.ft
theorem C1t{K H':Hp}{cc b:Nat}(l:List Pb.St)(hK:∀ i,cc<=i->K i=none)(hb0:cc<=b)(hb:H' b=some ⟨7,true,cellsL (l.map Pb.St.v)⟩)(h:∀ j,j<cc->H' j=K j):
  GL H' [.slc b 0 l.length] K [H3 l] :=
 GL.frzS (id:=b) hb rfl (fun j=>by
  by_cases hj:j<cc
  ·exact .inr ⟨by omega,(h j hj).symm⟩
  ·exact .inl (hK j (by omega))) (.cons _ _ _ _ (P1 (u:=7) (by simp) (A5h l) ⟨[],by simp⟩) .nil)
theorem B9g(e:Pb.St):cellsL ([e].map Pb.St.v)=[I64 e.kind,.str e.name,.str e.text,F7 e.args,H3 e.thn,H3 e.els,I64 e.pos]:=by
 rw[A0U,Pb.St.v_w];rfl
theorem c_other(L:List Tok)(E:Int)(hL:L.length<=1000000000)(f:Nat)
  (is:∀ d s r,0<=d->d<=100->S1 L E f d s=some r->s.i<=L.length->RdC L E 266 [I64 d] s (r.1.v,r.2))
  (ib:∀ d s r,0<=d->d<=100->M4 L E f d s=some r->s.i<=L.length->RdC L E 196 [I64 d] s (H3 r.1,r.2))
  (d:Int) (s:Rd) (r:List Pb.St × Rd) (hd0:0<=d) (hd:d<=99) (h:R6 L E (f+1) d s=some r) (hi:s.i<=L.length):RdC L E 318 [I64 d] s (H3 r.1,r.2):=by
 intro H cc t ht htc;refine AC.bodyT A4 rfl (A0B rfl) fun hfr=>?_;unfold R6 at h;have hw:IntKind.i64.wrap (d+1)=d+1:=w6z (by omega);repeat' (apply wr<;>try simp only[go_sem,seval])
 refine AC.call (c_is L E s _ _ t ht (by omega) _) ?_;rintro v H' c1 ⟨rfl,rfl⟩ hc1;cases hq:isR L E s [105,102] with
 |true =>
  rw[if_pos hq]at h;cases hs:S1 L E f (d+1) s with
  |none=>rw[hs]at h;cases h
  |some q =>
   obtain⟨x,s1⟩:=q;rw[hs]at h;cases h;simp only[go_sem,seval];repeat' (apply wr<;>try simp only[go_sem,seval,hw])
   refine AC.call (is (d+1) s (x,s1) (by omega) (by omega) hs hi _ _ t ht (by omega)) ?_;rintro v H' c2 ⟨rfl,rfl⟩ hc2;dsimp only;simp only[go_sem,seval,Pb.St.v_w];repeat' (apply wr<;>try simp only[go_sem,seval])
   exact⟨_,_,C1t (cc:=cc) [x] (C8 hfr htc) (by omega) (by rw[B9g];exact h_same) (fun j hj=>by rw[hnO]),rfl,rfl⟩
 |false =>
  rw[if_neg (by simp[hq])]at h;simp only[go_sem,seval];repeat' (apply wr<;>try simp only[go_sem,seval,hw])
  refine AC.call (ib (d+1) s r (by omega) (by omega) h hi _ _ t ht (by omega)) ?_;rintro v H' c2 ⟨rfl,rfl⟩ hc2;simp only[go_sem,seval];repeat' (apply wr<;>try simp only[go_sem,seval])
  exact⟨_,_,GL.refl _ _,rfl,rfl⟩
theorem B2h{K H':Hp}{cc:Nat}{o:Option Nat}(l:List Pb.St)(hK:∀ i,cc<=i->K i=none)(ho:∀ i,o=some i->cc<=i)(hno:o=none->l=[])(hb:∀ i,o=some i->H' i=some ⟨7,true,cellsL (l.map Pb.St.v)⟩)(h:∀ j,j<cc->H' j=K j):
  GL H' [todoV o l.length] K [H3 l]:=by
 cases o with
 |none =>
  obtain rfl:=hno rfl;exact (O5 hK h).trans (GL.view fun ρ vs hA=>arel_one (fun v h=>h.snil_lst) vs hA)
 |some b=>exact C1t l hK (ho b rfl) (hb b rfl) h
theorem c_block(L:List Tok)(E:Int)(hL:L.length<=1000000000)(f:Nat)
  (is:∀ g,g<=f->∀ d s r,0<=d->d<=100->S1 L E g d s=some r->s.i<=L.length->RdC L E 266 [I64 d] s (r.1.v,r.2))
  (d:Int) (s:Rd) (r:List Pb.St × Rd) (hd0:0<=d) (hd:d<=100) (h:M4 L E (f+1) d s=some r) (hi:s.i<=L.length):RdC L E 196 [I64 d] s (H3 r.1,r.2):=by
 intro H cc t ht htc;refine AC.bodyT A4 rfl (A0B rfl) fun hfr=>?_;unfold M4 at h;repeat' (apply wr<;>try simp only[go_sem,seval])
 refine AC.call (c_expect L E s _ _ t ht (by omega) (by omega) _) ?_;rintro v H' c1 ⟨rfl,rfl⟩ hc1;simp only[go_sem,seval];repeat' (apply wr<;>try simp only[go_sem,seval])
 refine C1 (fun q:Nat × Option Nat × List Pb.St × Rd=>[(0,.ptr t 0),(1,I64 d),(5,todoV q.2.1 q.2.2.1.length)]) (fun q=>optH (H.upd t (rdR L E q.2.2.2)) q.2.1 ⟨7,true,cellsL (q.2.2.1.map Pb.St.v)⟩)
  (fun q c=>cc<=c/\q.1<=f/\q.2.2.2.i<=L.length/\(q.2.1=none->q.2.2.1=[])/\(∀ i,q.2.1=some i->cc<=i/\i<c)/\q.2.2.1.length<=65/\(okR q.2.2.2=true->q.2.2.1.length<=64)/\R9 L E q.1 d q.2.2.1 q.2.2.2=some r) (fun q=>q.1) (f,none,[],D4 L E s [123])
  (by simp[C6,tm,Tm.upd,todoV]) (Sub.refl _) ⟨hc1,A0G _,H6 hi,fun _=>rfl,(fun i hi=>by cases hi),by simp,fun _=>by simp,h⟩ ?_
 clear h hi;rintro⟨g,o,l,u⟩ c ⟨hc,hg,hi,hno,ho,hl1,hl2,hv⟩;dsimp only at hc hg hi hno ho hl1 hl2 hv ⊢;have hHt:optH (H.upd t (rdR L E u)) o ⟨7,true,cellsL (l.map Pb.St.v)⟩ t=some (rdR L E u):=by rw[B7 (fun i hi=>by have:=ho i hi;omega),h_same]
 have hfin:∀ (z:Rd) (j:Nat),j<cc->((optH (H.upd t (rdR L E u)) o ⟨7,true,cellsL (l.map Pb.St.v)⟩).upd t (rdR L E z)) j=(H.upd t (rdR L E z)) j:=fun z j hj=>by
  by_cases ej:j=t
  ·subst ej;rw[h_same,h_same]
  ·rw[h_ne ej,h_ne ej,B7 (fun i hi=>by have:=ho i hi;omega),h_ne ej]
 have hbo:∀ (z:Rd) (i:Nat),o=some i->((optH (H.upd t (rdR L E u)) o ⟨7,true,cellsL (l.map Pb.St.v)⟩).upd t (rdR L E z)) i=some ⟨7,true,cellsL (l.map Pb.St.v)⟩:=fun z i hi=>by
  have:=ho i hi;rw[hnO];subst hi;exact h_same
 cases g with
 |zero=>simp[R9]at hv
 |succ g =>
 unfold R9 at hv;repeat' (apply wr<;>try simp only[go_sem,seval])
 refine AC.call (c_rdok L E u _ _ t hHt (by omega)) ?_;rintro v H' c2 ⟨rfl,rfl⟩ hc2;cases hok:okR u with
 |false =>
  rw[if_neg (by simp[hok])]at hv;cases hv;simp only[go_sem,seval];repeat' (apply wr<;>try simp only[go_sem,seval])
  refine AC.call (c_expect L E u _ _ t hHt (by omega) (by omega) _) ?_;rintro v H' c3 ⟨rfl,rfl⟩ hc3;simp only[go_sem,seval];repeat' (apply wr<;>try simp only[go_sem,seval])
  exact⟨_,_,B2h (cc:=cc) l (C8 hfr htc) (fun i hi=>(ho i hi).1) hno (hbo _) (hfin _),rfl,rfl⟩
 |true =>
  simp only[go_sem,seval];repeat' (apply wr<;>try simp only[go_sem,seval,hok])
  refine AC.call (c_is L E u _ _ t hHt (by omega) _) ?_;rintro v H' c3 ⟨rfl,rfl⟩ hc3;cases hq:isR L E u [125] with
  |true =>
   rw[if_neg (by simp[hq])]at hv;cases hv;simp only[go_sem,seval];repeat' (apply wr<;>try simp only[go_sem,seval])
   refine AC.call (c_expect L E u _ _ t hHt (by omega) (by omega) _) ?_;rintro v H' c4 ⟨rfl,rfl⟩ hc4;simp only[go_sem,seval];repeat' (apply wr<;>try simp only[go_sem,seval])
   exact⟨_,_,B2h (cc:=cc) l (C8 hfr htc) (fun i hi=>(ho i hi).1) hno (hbo _) (hfin _),rfl,rfl⟩
  |false =>
   rw[if_pos ⟨hok,hq⟩]at hv;simp only[go_sem,seval];repeat' ((with_reducible first|apply wr|refine cpc c_stmts31 ?_|fail)<;>try simp only[go_sem,seval])
   refine AC.call (c_among L E u _ _ t hHt (by omega) B4 (by decide)) ?_;rintro v H' c4 ⟨rfl,rfl⟩ hc4;generalize B5 L E u B4=k at hv;have hlen:A4u (todoV o l.length)=some (I64 l.length):=by
    cases o with
    |none=>rw[hno rfl];rfl
    |some b=>rfl
   have hwl:IntKind.i64.wrap ((l.length:Int)+1)=(l.length:Int)+1:=w6z (by omega);by_cases hsy:k<0/\H7 L E u 1=false
   ·rw[if_pos hsy]at hv;cases hv;have hdk:decide (k<0)=true:=by simpa using hsy.1
    have h1:=hsy.2;simp only[go_sem,seval,hdk];repeat' (apply wr<;>try simp only[go_sem,seval,hdk])
    refine AC.call (c_isKind L E u _ _ t hHt (by omega) 1) ?_;rintro v H' c5 ⟨rfl,rfl⟩ hc5;simp only[go_sem,seval,h1];repeat' (apply wr<;>try simp only[go_sem,seval])
    refine AC.call (c_syntax L E u _ _ t hHt (by omega)) ?_;rintro v H' c6 ⟨rfl,rfl⟩ hc6;simp only[go_sem,seval];repeat' (apply wr<;>try simp only[go_sem,seval])
    exact⟨_,_,(O5 (cc:=cc) (C8 hfr htc) (hfin _)).trans (GL.view fun ρ vs hA=>arel_one (fun v h=>h.snil_lst) vs hA),rfl,rfl⟩
   rw[if_neg hsy]at hv;cases hs:S1 L E g d (C2 L E u ((l.length:Int)+1) 64 9) with
   |none=>rw[hs]at hv;cases hv
   |some q =>
   obtain⟨x,s1⟩:=q;rw[hs]at hv;dsimp only at hv;have hix:=(II.all g).2.2.1 _ _ _ hs (by rw[F0];exact hi);have hnok:=C8c hs;have hll:=hl2 hok;have hlk:okR s1=true->l.length+1<=64:=fun h=>by
    cases hz:okR (C2 L E u ((l.length:Int)+1) 64 9) with
    |false=>rw[hnok hz]at h;cases h
    |true=>have:=(F4 (by decide) hz).2.1;omega
   rcases (show ¬ k<0\/(k<0/\H7 L E u 1=true) by
    by_cases hk:k<0
    ·exact .inr ⟨hk,by cases h1:H7 L E u 1 with|true=>rfl|false=>exact absurd ⟨hk,h1⟩ hsy⟩
    ·exact .inl hk) with hk|⟨hk,h1⟩
   case' inl =>
    have hdk:decide (k<0)=false:=by simpa using hk
    simp only[go_sem,seval,hdk];repeat' ((with_reducible first|refine G0 (p:=IW _ _ (pz Tryz.prog 196 (.i (.i (.o (.i .h))))) _ _) ?_|refine wr ?_|fail)<;>try simp only[go_sem,seval])
    obtain⟨c5,hc5,e5⟩:∃ c5,c4<=c5/\c5=c4:=⟨c4,A0G _,rfl⟩;rw[<- e5];clear e5 hdk hk
   case' inr =>
    have hdk:decide (k<0)=true:=by simpa using hk
    simp only[go_sem,seval,hdk];repeat' (apply wr<;>try simp only[go_sem,seval,hdk])
    refine AC.call (c_isKind L E u _ _ t hHt (by omega) 1) ?_;rintro v H' c5 ⟨rfl,rfl⟩ hc5;simp only[go_sem,seval,h1];repeat' ((with_reducible first|refine G0 (p:=IW _ _ (pz Tryz.prog 196 (.i (.i (.o (.i .h))))) _ _) ?_|refine wr ?_|fail)<;>try simp only[go_sem,seval])
    clear hdk hk h1
   all_goals
    unfold A7u;repeat' (apply wr<;>try simp only[go_sem,seval,hlen,hwl])
    refine AC.call (c_limit L E u _ _ t hHt (by omega) _ _ _) ?_;rintro v H' c6 ⟨rfl,rfl⟩ hc6;simp only[go_sem,seval];repeat' (apply wr<;>try simp only[go_sem,seval])
    refine AC.call (is g (by omega) d _ (x,s1) hd0 hd hs (by rw[F0];exact hi) _ _ t h_same (by omega)) ?_;rintro v H' c7 ⟨rfl,rfl⟩ hc7;dsimp only;have ne0:=Q3 t c7 (c7+1) (by omega);simp only[go_sem,seval,A1,Pb.St.v_w];repeat' (apply wr<;>try simp only[go_sem,seval,ne0])
    refine E9 (D8 (cs:=cellsL (l.map Pb.St.v)) (fun e=>by rw[hno e];exact⟨rfl,rfl⟩) (fun i hi=>?_) (by rw[B6 (u:=7) (A5h _)];simp) (by omega) (by omega) (by omega)) ?_
    ·have:=ho i hi;rw[hnO];exact hbo _ i hi
    simp only[go_sem,seval];repeat' (apply wr<;>try simp only[go_sem,seval,ne0])
    refine⟨(g,some (c7+1),l++[x],s1),by simp only[A0A,A0H];rfl,?_,inv ⟨by omega,by simp only;omega,hix,(fun h=>by cases h),(fun i hi=>by cases hi;omega),by simp only[A0A,A0H];omega,(fun h=>by have:=hlk h;simp only[A0A,A0H];omega),hv⟩,by simp only;omega⟩;intro jj b hj;simp only[optH]at hj;by_cases e1:jj=c7+1
    ·subst e1;rw[h_same]at hj ⊢;rw[<- hj,A0R,B8,B9g]
    ·rw[h_ne e1]at hj ⊢;by_cases e2:jj=t
     ·subst e2;rw[h_same]at hj;rw[D1 (fun i hi=>by have:=ho i hi;omega),hnO,h_same];exact hj
     ·rw[h_ne e2]at hj;have hjc:jj<cc:=Classical.byContradiction fun h=>by rw[hfr jj (by omega)]at hj;cases hj
      rw[D1 (fun i hi=>by have:=ho i hi;omega),hnO,h_ne e2,B7 (fun i hi=>by have:=ho i hi;omega),h_ne e2];exact hj
end Go.Proofs.YtkkjpohaffjecaaGreatDoor
set_option maxHeartbeats 8000000
namespace Go.Proofs.YtkkjpohaffjecaaGreatDoor
open Go.Eng (IC IOper DReg IFn J0)
open Go.Sym Go.Pb
def NlR(a b:DV):Prop:=b=a\/(a=.snil/\b=.lst [])
theorem NlR.v{ρ : Ren}{v:Value}{a b:DV}(h:NlR a b)(k:VRel ρ a v):VRel ρ b v:=by
 rcases h with rfl|⟨rfl,rfl⟩
 ·exact k
 ·exact k.snil_lst
theorem D1s{ρ : Ren}{v:Value}{a b c d e f g d' e' f':DV}(hd:NlR d d')(he:NlR e e')(hf:NlR f f')(h:VRel ρ (.agg [a,b,c,d,e,f,g]) v):VRel ρ (.agg [a,b,c,d',e',f',g]) v:=by
 obtain⟨bb,rfl,k1,k2⟩:=h.agg_inv;refine .agg _ _ k1 fun j x y hx hy=>?_
 match j with
 |0=>cases hx;exact k2 0 _ y rfl hy
 |1=>cases hx;exact k2 1 _ y rfl hy
 |2=>cases hx;exact k2 2 _ y rfl hy
 |3=>cases hx;exact hd.v (k2 3 _ y rfl hy)
 |4=>cases hx;exact he.v (k2 4 _ y rfl hy)
 |5=>cases hx;exact hf.v (k2 5 _ y rfl hy)
 |6=>cases hx;exact k2 6 _ y rfl hy
 |_+7=>cases hx
theorem C1s{K H':Hp}{cc:Nat}{a b c d e f g d' e' f':DV}(hd:NlR d d')(he:NlR e e')(hf:NlR f f')(hK:∀ i,cc<=i->K i=none)(h:∀ j,j<cc->H' j=K j):GL H' [.agg [a,b,c,d,e,f,g]] K [.agg [a,b,c,d',e',f',g]] :=
 (O5 hK h).trans (GL.view fun ρ vs hA=>arel_one (fun v h=>D1s hd he hf h) vs hA)
theorem A0b{K H':Hp}{cc i:Nat}{a b c e f g e' f':DV}(l:List Ex)(he:NlR e e')(hf:NlR f f')(hK:∀ i,cc<=i->K i=none)(hi0:cc<=i)(hb:H' i=some ⟨5,true,cellsL (l.map Ex.v)⟩)(h:∀ j,j<cc->H' j=K j):GL H' [.agg [a,b,c,.slc i 0 l.length,e,f,g]] K [.agg [a,b,c,F7 l,e',f',g]] :=
 (GL.frzS (id:=i) hb rfl (fun j=>by
  by_cases hj:j<cc
  ·exact .inr ⟨by omega,(h j hj).symm⟩
  ·exact .inl (hK j (by omega))) (.cons _ _ _ _ (.agg _ _ (.cons _ _ _ _ (.same _) (.cons _ _ _ _ (.same _) (.cons _ _ _ _ (.same _) (.cons _ _ _ _ (P1 (u:=5) (by simp) (A2y l) ⟨[],by simp⟩) (.cons _ _ _ _ (.same _) (.cons _ _ _ _ (.same _) (.cons _ _ _ _ (.same _) .nil)))))))) .nil)).trans (GL.view fun ρ vs hA=>arel_one (fun v h=>D1s (.inl rfl) he hf h) vs hA)
theorem rv7{s:Sym.St}{x i u:Nat}{a b c d e f g:DV}{o:Bool}(h:s.T x=.ptr i 0)(hb:s.H i=some ⟨u,o,[a,b,c,d,e,f,g]⟩):A1j s [.cell x 7 true]=some (.agg [a,b,c,d,e,f,g]):=by
 simp only[A1j,A1l,h,ldv,hb];rfl
theorem c_statement(L:List Tok)(E:Int)(hL:L.length<=1000000000)(f:Nat)
  (ib:∀ d s r,0<=d->d<=100->M4 L E f d s=some r->s.i<=L.length->RdC L E 196 [I64 d] s (H3 r.1,r.2))
  (io:∀ d s r,0<=d->d<=99->R6 L E f d s=some r->s.i<=L.length->RdC L E 318 [I64 d] s (H3 r.1,r.2))
  (d:Int) (s0:Rd) (r:Pb.St × Rd) (hd0:0<=d) (hd:d<=100) (h:S1 L E (f+1) d s0=some r) (hi:s0.i<=L.length):RdC L E 266 [I64 d] s0 (r.1.v,r.2):=by
 intro H cc t ht htc;refine AC.bodyT A4 rfl (A0B rfl) fun hfr=>?_;unfold S1 at h;dsimp only at h;repeat' (apply wr<;>try simp only[go_sem,seval])
 refine AC.call (c_limit L E s0 _ _ t (by rw[hnO];exact ht) (by omega) _ _ _) ?_;rintro v H' c1 ⟨rfl,rfl⟩ hc1;have his:(C2 L E s0 d 8 50).i<=L.length:=by rw[F0];exact hi
 generalize hsq:C2 L E s0 d 8 50=s at *;have ne0:=R3 t cc (by omega);simp only[go_sem,seval];repeat' (apply wr<;>try simp only[go_sem,seval])
 refine AC.call (c_rdok L E s _ _ t h_same (by omega)) ?_;rintro v H' c2 ⟨rfl,rfl⟩ hc2;cases hok:okR s with
 |false =>
  rw[if_pos hok]at h;cases h;simp only[go_sem,seval];repeat' (apply wr<;>try simp only[go_sem,seval,ne0,h_same])
  rw[E0 (rv7 rfl h_same)];refine⟨_,_,C1s (cc:=cc) (.inr ⟨rfl,rfl⟩) (.inr ⟨rfl,rfl⟩) (.inr ⟨rfl,rfl⟩) (C8 hfr htc) (fun j hj=>?_),rfl,rfl⟩;simp[Hp.upd,show ¬j=cc by omega]
 |true =>
  rw[if_neg (by simp[hok])]at h;have hd8:d<=8:=by rw[<- hsq]at hok;exact (F4 (by decide) hok).2.1
  simp only[go_sem,seval];repeat' (apply wr<;>try simp only[go_sem,seval])
  refine AC.call (c_peek L E s _ _ t h_same (by omega)) ?_;rintro v H' c3 ⟨rfl,rfl⟩ hc3;have ne0:=Q3 t cc c3 (by omega);simp only[go_sem,seval];repeat' ((with_reducible first|apply wr|refine cpc c_stmts31 ?_|fail)<;>try simp only[go_sem,seval,A1])
  refine AC.call (c_among L E s _ _ t (by rw[hnO];exact h_same) (by omega) B4 (by decide)) ?_;rintro v H' c4 ⟨rfl,rfl⟩ hc4;have hkr : -1<=B5 L E s B4/\B5 L E s B4<18:=A1y L E s B4 0;have hnn:0<=B5 L E s B4->s.i<L.length:=fun h=>(F6 h).2.1;generalize B5 L E s B4=k at h hkr hnn;generalize (B1 L E s).pos=p at h ⊢;have hti:=I9 (E:=E) (x:=1) (by decide) his;by_cases hk:k<0
  ·rw[if_pos hk]at h;have hdk:decide (k<0)=true:=by simpa using hk
   cases hz5:N8 L E f (D4 L E (A8 L E s 1).2 [61]) with
   |none=>rw[hz5]at h;cases h
   |some qhz5 =>
    obtain⟨e,s1⟩:=qhz5;rw[hz5]at h;dsimp only at h;cases h;simp only[go_sem,seval];repeat' (apply wr<;>try simp only[go_sem,seval,hdk])
    refine AC.call (c_name L E s _ _ t (by repeat (first|exact h_same|rw[hnO]|rw[F1 (by omega)])) (by omega) (by have:=his;omega)) ?_;rintro v H' c6 ⟨rfl,rfl⟩ hc6;try dsimp only
    simp only[go_sem,seval,ne0,h_same,A1];repeat' (apply wr<;>try simp only[go_sem,seval])
    refine AC.call (c_expect L E (A8 L E s 1).2 _ _ t (by repeat (first|exact h_same|rw[hnO]|rw[F1 (by omega)])) (by omega) (by have:=hti;omega) _) ?_;rintro v H' c7 ⟨rfl,rfl⟩ hc7;try dsimp only
    simp only[go_sem,seval];repeat' (apply wr<;>try simp only[go_sem,seval])
    refine AC.call (c_expression L E hL f (D4 L E (A8 L E s 1).2 [61]) (e,s1) hz5 (H6 hti) _ _ t (by repeat (first|exact h_same|rw[hnO]|rw[F1 (by omega)])) (by omega)) ?_;rintro v H' c8 ⟨rfl,rfl⟩ hc8;have ne0:=W7 t cc c3 c8 (by omega);try dsimp only
    simp only[go_sem,seval,Ex.v_w,ne0,h_same,A1];repeat' (apply wr<;>try simp only[go_sem,seval])
    have h1i:=M0 hz5 (H6 hti);dsimp only at h1i;refine AC.call (c_expect L E s1 _ _ t (by repeat (first|exact h_same|rw[hnO]|rw[F1 (by omega)])) (by omega) (by have:=h1i;omega) _) ?_;rintro v H' c9 ⟨rfl,rfl⟩ hc9;try dsimp only
    simp only[go_sem,seval];repeat' (apply wr<;>try simp only[go_sem,seval,ne0,h_same])
    rw[E0 (rv7 rfl h_same)];refine⟨_,_,A0b (cc:=cc) (i:=c8) [e] (.inr ⟨rfl,rfl⟩) (.inr ⟨rfl,rfl⟩) (C8 hfr htc) (by omega) ?_ (fun j hj=>?_),(by first|rfl|(rw[Pb.St.v_w];done)|(rw[Pb.St.v_w];rfl)),rfl⟩
    ·rw[A2z];dsimp only
     repeat (first|exact h_same|rw[hnO]|rw[F1 (by omega)])
    simp[Hp.upd,show ¬j=cc by omega,show ¬j=c3 by omega,show ¬j=c8 by omega];try (split<;>rfl)
  rw[if_neg hk]at h;have hdk:decide (k<0)=false:=by simpa using hk
  have hw2:IntKind.i64.wrap ((s.i:Int)+1)=((s.i+1:Nat):Int):=by rw[w6z (by omega)];omega
  have hwk:IntKind.i64.wrap (2+k)=2+k:=w6z (by omega);have hwd:IntKind.i64.wrap (d+1)=d+1:=w6z (by omega);have hn:(A7 s).i<=L.length:=hnn (by omega);simp only[go_sem,seval];have u2:IntKind.i64.wrap 2=2:=w6z (by omega);have u3:IntKind.i64.wrap 3=3:=w6z (by omega);have u4:IntKind.i64.wrap 4=4:=w6z (by omega);have u8:IntKind.i64.wrap 8=8:=w6z (by omega);have u9:IntKind.i64.wrap 9=9:=w6z (by omega);have u10:IntKind.i64.wrap 10=10:=w6z (by omega);have u18:IntKind.i64.wrap 18=18:=w6z (by omega);have u19:IntKind.i64.wrap 19=19:=w6z (by omega);by_cases hb:k=0\/k=1
  ·rw[if_pos hb]at h;cases hz10:N8 L E f (A7 s) with
   |none=>rw[hz10]at h;cases h
   |some qhz10 =>
    obtain⟨e,s2⟩:=qhz10;rw[hz10]at h;dsimp only at h;cases hz11:M4 L E f (d+1) s2 with
    |none=>rw[hz11]at h;cases h
    |some qhz11 =>
     obtain⟨tt,s3⟩:=qhz11;rw[hz11]at h;dsimp only at h;have h2i:=M0 hz10 hn;dsimp only at h2i;have h3i:=(II.all f).1 _ _ _ hz11 h2i;dsimp only at h3i;have hw3:IntKind.i64.wrap ((s3.i:Int)+1)=((s3.i+1:Nat):Int):=by rw[w6z (by omega)];omega
     rcases hb with rfl|rfl
     ·repeat' (apply wr<;>try simp only[go_sem,seval,hw2,u2,ne0,h_same])
      refine AC.call (c_expression L E hL f (A7 s) (e,s2) hz10 (hn) _ _ t (by repeat (first|exact h_same|rw[hnO]|rw[F1 (by omega)])) (by omega)) ?_;rintro v H' c12 ⟨rfl,rfl⟩ hc12;have ne0:=W7 t cc c3 c12 (by omega);try dsimp only
      simp only[go_sem,seval,Ex.v_w,ne0,h_same];repeat' (apply wr<;>try simp only[go_sem,seval])
      try simp only[hwd]
      refine AC.call (ib (d+1) s2 (tt,s3) (by omega) (by omega) hz11 h2i _ _ t (by repeat (first|exact h_same|rw[hnO]|rw[F1 (by omega)])) (by omega)) ?_;rintro v H' c13 ⟨rfl,rfl⟩ hc13;try dsimp only
      simp only[go_sem,seval,ne0,h_same];repeat' (apply wr<;>try simp only[go_sem,seval,h_same])
      refine AC.call (c_is L E s3 _ _ t (by repeat (first|exact h_same|rw[hnO]|rw[F1 (by omega)])) (by omega) _) ?_;rintro v H' c14 ⟨rfl,rfl⟩ hc14;cases hq:isR L E s3 [101,108,115,101] with
      |true =>
       rw[if_pos ⟨rfl,hq⟩]at h;cases hz15:R6 L E f d (A7 s3) with
       |none=>rw[hz15]at h;cases h
       |some qhz15 =>
        obtain⟨oo,s4⟩:=qhz15;rw[hz15]at h;dsimp only at h;cases h;simp only[go_sem,seval];repeat' (apply wr<;>try simp only[go_sem,seval,hw3,ne0,h_same])
        refine AC.call (io d (A7 s3) (oo,s4) hd0 (by omega) hz15 (A0a hq).2 _ _ t (by repeat (first|exact h_same|rw[hnO]|rw[F1 (by omega)])) (by omega)) ?_;rintro v H' c16 ⟨rfl,rfl⟩ hc16;try dsimp only
        simp only[go_sem,seval,ne0,h_same,A1];repeat' (apply wr<;>try simp only[go_sem,seval,ne0,h_same])
        rw[E0 (rv7 rfl h_same)];refine⟨_,_,A0b (cc:=cc) (i:=c12) [e] (.inl rfl) (.inl rfl) (C8 hfr htc) (by omega) ?_ (fun j hj=>?_),(by first|rfl|(rw[Pb.St.v_w];done)|(rw[Pb.St.v_w];rfl)),rfl⟩
        ·rw[A2z];dsimp only
         repeat (first|exact h_same|rw[hnO]|rw[F1 (by omega)])
        simp[Hp.upd,show ¬j=cc by omega,show ¬j=c3 by omega,show ¬j=c12 by omega];try (split<;>rfl)
      |false =>
       rw[if_neg (by simp[hq])]at h;cases h;simp only[go_sem,seval];repeat' (apply wr<;>try simp only[go_sem,seval,ne0,h_same])
       rw[E0 (rv7 rfl h_same)];refine⟨_,_,A0b (cc:=cc) (i:=c12) [e] (.inl rfl) (.inr ⟨rfl,rfl⟩) (C8 hfr htc) (by omega) ?_ (fun j hj=>?_),(by first|rfl|(rw[Pb.St.v_w];done)|(rw[Pb.St.v_w];rfl)),rfl⟩
       ·rw[A2z];dsimp only
        repeat (first|exact h_same|rw[hnO]|rw[F1 (by omega)])
       simp[Hp.upd,show ¬j=cc by omega,show ¬j=c3 by omega,show ¬j=c12 by omega];try (split<;>rfl)
     ·repeat' (apply wr<;>try simp only[go_sem,seval,hw2,u3,ne0,h_same])
      refine AC.call (c_expression L E hL f (A7 s) (e,s2) hz10 (hn) _ _ t (by repeat (first|exact h_same|rw[hnO]|rw[F1 (by omega)])) (by omega)) ?_;rintro v H' c17 ⟨rfl,rfl⟩ hc17;have ne0:=W7 t cc c3 c17 (by omega);try dsimp only
      simp only[go_sem,seval,Ex.v_w,ne0,h_same];repeat' (apply wr<;>try simp only[go_sem,seval])
      try simp only[hwd]
      refine AC.call (ib (d+1) s2 (tt,s3) (by omega) (by omega) hz11 h2i _ _ t (by repeat (first|exact h_same|rw[hnO]|rw[F1 (by omega)])) (by omega)) ?_;rintro v H' c18 ⟨rfl,rfl⟩ hc18;try dsimp only
      simp only[go_sem,seval,ne0,h_same];repeat' (apply wr<;>try simp only[go_sem,seval,ne0,h_same])
      rw[if_neg (by simp)]at h;cases h;rw[E0 (rv7 rfl h_same)];refine⟨_,_,A0b (cc:=cc) (i:=c17) [e] (.inl rfl) (.inr ⟨rfl,rfl⟩) (C8 hfr htc) (by omega) ?_ (fun j hj=>?_),(by first|rfl|(rw[Pb.St.v_w];done)|(rw[Pb.St.v_w];rfl)),rfl⟩
      ·rw[A2z];dsimp only
       repeat (first|exact h_same|rw[hnO]|rw[F1 (by omega)])
      simp[Hp.upd,show ¬j=cc by omega,show ¬j=c3 by omega,show ¬j=c17 by omega];try (split<;>rfl)
  rw[if_neg hb]at h;unfold K2 at h;dsimp only at h;by_cases k2:k=2
  ·subst k2;rw[if_pos (by decide)]at h;cases hz19:N8 L E f (A7 s) with
   |none=>rw[hz19]at h;cases h
   |some qhz19 =>
    obtain⟨e,s1⟩:=qhz19;rw[hz19]at h;dsimp only at h;cases h;have h1i:=M0 hz19 hn;dsimp only at h1i;repeat' (apply wr<;>try simp only[go_sem,seval,hw2,u4,ne0,h_same])
    refine AC.call (c_expression L E hL f (A7 s) (e,s1) hz19 (hn) _ _ t (by repeat (first|exact h_same|rw[hnO]|rw[F1 (by omega)])) (by omega)) ?_;rintro v H' c20 ⟨rfl,rfl⟩ hc20;have ne0:=W7 t cc c3 c20 (by omega);try dsimp only
    simp only[go_sem,seval,Ex.v_w,ne0,h_same];repeat' (apply wr<;>try simp only[go_sem,seval])
    refine AC.call (c_expect L E s1 _ _ t (by repeat (first|exact h_same|rw[hnO]|rw[F1 (by omega)])) (by omega) (by have:=h1i;omega) _) ?_;rintro v H' c21 ⟨rfl,rfl⟩ hc21;try dsimp only
    simp only[go_sem,seval];repeat' (apply wr<;>try simp only[go_sem,seval,ne0,h_same])
    rw[E0 (rv7 rfl h_same)];refine⟨_,_,A0b (cc:=cc) (i:=c20) [e] (.inr ⟨rfl,rfl⟩) (.inr ⟨rfl,rfl⟩) (C8 hfr htc) (by omega) ?_ (fun j hj=>?_),(by first|rfl|(rw[Pb.St.v_w];done)|(rw[Pb.St.v_w];rfl)),rfl⟩
    ·rw[A2z];dsimp only
     repeat (first|exact h_same|rw[hnO]|rw[F1 (by omega)])
    simp[Hp.upd,show ¬j=cc by omega,show ¬j=c3 by omega,show ¬j=c20 by omega];try (split<;>rfl)
  rw[if_neg (by omega)]at h;by_cases k16:k=16
  ·subst k16;rw[if_pos (by decide)]at h;have h4i:=I9 (E:=E) (x:=4) (by decide) hn;cases hz22:N8 L E f (D4 L E (A8 L E (A7 s) 4).2 [44]) with
   |none=>rw[hz22]at h;cases h
   |some qhz22 =>
    obtain⟨e,s1⟩:=qhz22;rw[hz22]at h;dsimp only at h;cases h;have h1i:=M0 hz22 (H6 h4i);dsimp only at h1i;repeat' (apply wr<;>try simp only[go_sem,seval,hw2,u18,ne0,h_same])
    refine AC.call (c_take L E (A7 s) _ _ t (by repeat (first|exact h_same|rw[hnO]|rw[F1 (by omega)])) (by omega) (by omega) 4) ?_;rintro v H' c23 ⟨rfl,rfl⟩ hc23;try dsimp only
    simp only[go_sem,seval,ne0,h_same];repeat' (apply wr<;>try simp only[go_sem,seval])
    refine AC.call (c_expect L E (A8 L E (A7 s) 4).2 _ _ t (by repeat (first|exact h_same|rw[hnO]|rw[F1 (by omega)])) (by omega) (by have:=h4i;omega) _) ?_;rintro v H' c24 ⟨rfl,rfl⟩ hc24;try dsimp only
    simp only[go_sem,seval];repeat' (apply wr<;>try simp only[go_sem,seval])
    refine AC.call (c_expression L E hL f (D4 L E (A8 L E (A7 s) 4).2 [44]) (e,s1) hz22 (H6 h4i) _ _ t (by repeat (first|exact h_same|rw[hnO]|rw[F1 (by omega)])) (by omega)) ?_;rintro v H' c25 ⟨rfl,rfl⟩ hc25;have ne0:=W7 t cc c3 c25 (by omega);try dsimp only
    simp only[go_sem,seval,Ex.v_w,ne0,h_same,A1];repeat' (apply wr<;>try simp only[go_sem,seval])
    refine AC.call (c_expect L E s1 _ _ t (by repeat (first|exact h_same|rw[hnO]|rw[F1 (by omega)])) (by omega) (by have:=h1i;omega) _) ?_;rintro v H' c26 ⟨rfl,rfl⟩ hc26;try dsimp only
    simp only[go_sem,seval];repeat' (apply wr<;>try simp only[go_sem,seval,ne0,h_same])
    rw[E0 (rv7 rfl h_same)];refine⟨_,_,A0b (cc:=cc) (i:=c25) [e] (.inr ⟨rfl,rfl⟩) (.inr ⟨rfl,rfl⟩) (C8 hfr htc) (by omega) ?_ (fun j hj=>?_),(by first|rfl|(rw[Pb.St.v_w];done)|(rw[Pb.St.v_w];rfl)),rfl⟩
    ·rw[A2z];dsimp only
     repeat (first|exact h_same|rw[hnO]|rw[F1 (by omega)])
    simp[Hp.upd,show ¬j=cc by omega,show ¬j=c3 by omega,show ¬j=c25 by omega];try (split<;>rfl)
  rw[if_neg (by omega)]at h;by_cases k17:k=17
  ·subst k17;rw[if_pos (by decide)]at h;cases h;repeat' (apply wr<;>try simp only[go_sem,seval,hw2,u19,ne0,h_same])
   refine AC.call (c_expect L E (A7 s) _ _ t (by repeat (first|exact h_same|rw[hnO]|rw[F1 (by omega)])) (by omega) (by have:=hn;omega) _) ?_;rintro v H' c27 ⟨rfl,rfl⟩ hc27;try dsimp only
   simp only[go_sem,seval];repeat' (apply wr<;>try simp only[go_sem,seval,ne0,h_same])
   rw[E0 (rv7 rfl h_same)];refine⟨_,_,C1s (cc:=cc) (.inr ⟨rfl,rfl⟩) (.inr ⟨rfl,rfl⟩) (.inr ⟨rfl,rfl⟩) (C8 hfr htc) (fun j hj=>?_),(by first|rfl|(rw[Pb.St.v_w];done)|(rw[Pb.St.v_w];rfl)),rfl⟩;simp[Hp.upd,show ¬j=cc by omega,show ¬j=c3 by omega];try (split<;>rfl)
  rw[if_neg (by omega)]at h;have hti2:=I9 (E:=E) (x:=1) (by decide) hn;by_cases k7:k=7
  ·subst k7;rw[if_pos (by omega)]at h;cases hz28:N8 L E f (A8 L E (A7 s) 1).2 with
   |none=>rw[hz28]at h;cases h
   |some qhz28 =>
    obtain⟨e,s1⟩:=qhz28;rw[hz28]at h;dsimp only at h;rw[if_pos (by decide)]at h;have h1i:=M0 hz28 hti2;dsimp only at h1i;cases hz29:N8 L E f (D4 L E s1 [44]) with
    |none=>rw[hz29]at h;cases h
    |some qhz29 =>
     obtain⟨e2,s2⟩:=qhz29;rw[hz29]at h;dsimp only at h;cases h;have h2i:=M0 hz29 (H6 h1i);dsimp only at h2i;repeat' (apply wr<;>try simp only[go_sem,seval,hw2,u9,ne0,h_same])
     refine AC.call (c_name L E (A7 s) _ _ t (by repeat (first|exact h_same|rw[hnO]|rw[F1 (by omega)])) (by omega) (by have:=hn;omega)) ?_;rintro v H' c30 ⟨rfl,rfl⟩ hc30;try dsimp only
     simp only[go_sem,seval,ne0,h_same];repeat' (apply wr<;>try simp only[go_sem,seval,h_same])
     refine AC.call (c_expression L E hL f (A8 L E (A7 s) 1).2 (e,s1) hz28 (hti2) _ _ t (by repeat (first|exact h_same|rw[hnO]|rw[F1 (by omega)])) (by omega)) ?_;rintro v H' c31 ⟨rfl,rfl⟩ hc31;have ne0:=W7 t cc c3 c31 (by omega);try dsimp only
     simp only[go_sem,seval,Ex.v_w,ne0,h_same];repeat' (apply wr<;>try simp only[go_sem,seval,h_same])
     refine AC.call (c_expect L E s1 _ _ t (by repeat (first|exact h_same|rw[hnO]|rw[F1 (by omega)])) (by omega) (by have:=h1i;omega) _) ?_;rintro v H' c32 ⟨rfl,rfl⟩ hc32;try dsimp only
     simp only[go_sem,seval];repeat' (apply wr<;>try simp only[go_sem,seval,ne0,h_same])
     have hgx:=H6 (E:=E) (x:=[44]) h1i;refine AC.call (c_expression L E hL f (D4 L E s1 [44]) (e2,s2) hz29 (H6 h1i) _ _ t (by repeat (first|exact h_same|rw[hnO]|rw[F1 (by omega)])) (by omega)) ?_;rintro v H' c33 ⟨rfl,rfl⟩ hc33;have ne0:=A1p t cc c3 c31 (c32+4) (by omega);try dsimp only
     simp only[go_sem,seval,Ex.v_w,ne0,h_same,A1];repeat' (apply wr<;>try simp only[go_sem,seval,ne0,h_same,A1])
     refine⟨?_,?_⟩
     ·and_intros
      all_goals ((repeat rw[hnO]);exact hfr _ (by omega))
     have ne0:=A4t t cc c3 c31 (c32+4) c33 (by omega);try simp only[go_sem,seval,delO,F1,A5s,ne0,h_same,A1]
     repeat' (apply wr<;>try simp only[go_sem,seval,delO,F1,A5s,ne0,h_same,A1])
     refine B2t (Y5 (by rfl) (by omega) (by omega)) ?_;try simp only[go_sem,seval,F1,ne0,h_same]
     repeat' (apply wr<;>try simp only[go_sem,seval])
     refine AC.call (c_expect L E s2 _ _ t (by repeat (first|exact h_same|rw[hnO]|rw[F1 (by omega)])) (by omega) (by have:=h2i;omega) _) ?_;rintro v H' c34 ⟨rfl,rfl⟩ hc34;try dsimp only
     simp only[go_sem,seval];repeat' (apply wr<;>try simp only[go_sem,seval,ne0,h_same])
     rw[E0 (rv7 rfl h_same)];refine⟨_,_,A0b (cc:=cc) (i:=c33) [e,e2] (.inr ⟨rfl,rfl⟩) (.inr ⟨rfl,rfl⟩) (C8 hfr htc) (by omega) ?_ (fun j hj=>?_),(by first|rfl|(rw[Pb.St.v_w];done)|(rw[Pb.St.v_w];rfl)),rfl⟩
     ·rw[C1y];dsimp only
      repeat (first|exact h_same|rw[hnO]|rw[F1 (by omega)])
     simp[Hp.upd,Hp.del,show ¬j=cc by omega,show ¬j=c3 by omega,show ¬j=c31 by omega,show ¬j=c32+4 by omega,show ¬j=c33 by omega];try (split<;>rfl)
  by_cases k68:k=6\/k=8
  ·rw[if_pos (by omega)]at h;cases hz35:N8 L E f (A8 L E (A7 s) 1).2 with
   |none=>rw[hz35]at h;cases h
   |some qhz35 =>
    obtain⟨e,s1⟩:=qhz35;rw[hz35]at h;dsimp only at h;rw[if_neg (by omega)]at h;cases h;have h1i:=M0 hz35 hti2;dsimp only at h1i;rcases k68 with rfl|rfl
    all_goals
     repeat' (apply wr<;>try simp only[go_sem,seval,hw2,u8,u10,ne0,h_same])
     refine AC.call (c_name L E (A7 s) _ _ t (by repeat (first|exact h_same|rw[hnO]|rw[F1 (by omega)])) (by omega) (by have:=hn;omega)) ?_;rintro v H' c36 ⟨rfl,rfl⟩ hc36;try dsimp only
     simp only[go_sem,seval,ne0,h_same];repeat' (apply wr<;>try simp only[go_sem,seval,h_same])
     refine AC.call (c_expression L E hL f (A8 L E (A7 s) 1).2 (e,s1) hz35 (hti2) _ _ t (by repeat (first|exact h_same|rw[hnO]|rw[F1 (by omega)])) (by omega)) ?_;rintro v H' c37 ⟨rfl,rfl⟩ hc37;have ne0:=W7 t cc c3 c37 (by omega);try dsimp only
     simp only[go_sem,seval,Ex.v_w,ne0,h_same];repeat' (apply wr<;>try simp only[go_sem,seval,h_same])
     refine AC.call (c_expect L E s1 _ _ t (by repeat (first|exact h_same|rw[hnO]|rw[F1 (by omega)])) (by omega) (by have:=h1i;omega) _) ?_;rintro v H' c38 ⟨rfl,rfl⟩ hc38;try dsimp only
     simp only[go_sem,seval];repeat' (apply wr<;>try simp only[go_sem,seval,ne0,h_same])
     rw[E0 (rv7 rfl h_same)];refine⟨_,_,A0b (cc:=cc) (i:=c37) [e] (.inr ⟨rfl,rfl⟩) (.inr ⟨rfl,rfl⟩) (C8 hfr htc) (by omega) ?_ (fun j hj=>?_),(by first|rfl|(rw[Pb.St.v_w];done)|(rw[Pb.St.v_w];rfl)),rfl⟩
     ·rw[A2z];dsimp only
      repeat (first|exact h_same|rw[hnO]|rw[F1 (by omega)])
     simp[Hp.upd,show ¬j=cc by omega,show ¬j=c3 by omega,show ¬j=c37 by omega];try (split<;>rfl)
  rw[if_neg (by omega)]at h;cases h;have e2:(2+k == 2)=false:=by simp;omega
  have e3:(2+k == 3)=false:=by simp;omega
  have e4:(2+k == 4)=false:=by simp;omega
  have e18:(2+k == 18)=false:=by simp;omega
  have e19:(2+k == 19)=false:=by simp;omega
  have e8:(2+k == 8)=false:=by simp;omega
  have e9:(2+k == 9)=false:=by simp;omega
  have e10:(2+k == 10)=false:=by simp;omega
  repeat' (apply wr<;>try simp only[go_sem,seval,hdk,hw2,hwk,e2,e3,e4,e18,e19,ne0,h_same])
  refine AC.call (c_name L E (A7 s) _ _ t (by repeat (first|exact h_same|rw[hnO]|rw[F1 (by omega)])) (by omega) (by have:=hn;omega)) ?_;rintro v H' c39 ⟨rfl,rfl⟩ hc39;try dsimp only
  simp only[go_sem,seval,ne0,h_same];repeat' (apply wr<;>try simp only[go_sem,seval,e8,e9,e10,h_same])
  refine AC.call (c_expect L E (A8 L E (A7 s) 1).2 _ _ t (by repeat (first|exact h_same|rw[hnO]|rw[F1 (by omega)])) (by omega) (by have:=hti2;omega) _) ?_;rintro v H' c40 ⟨rfl,rfl⟩ hc40;try dsimp only
  simp only[go_sem,seval];repeat' (apply wr<;>try simp only[go_sem,seval,ne0,h_same])
  rw[E0 (rv7 rfl h_same)];refine⟨_,_,C1s (cc:=cc) (.inr ⟨rfl,rfl⟩) (.inr ⟨rfl,rfl⟩) (.inr ⟨rfl,rfl⟩) (C8 hfr htc) (fun j hj=>?_),(by first|rfl|(rw[Pb.St.v_w];done)|(rw[Pb.St.v_w];rfl)),rfl⟩;simp[Hp.upd,show ¬j=cc by omega,show ¬j=c3 by omega];try (split<;>rfl)
end Go.Proofs.YtkkjpohaffjecaaGreatDoor
set_option maxHeartbeats 4000000
namespace Go.Proofs.YtkkjpohaffjecaaGreatDoor
open Go.Eng (IC IOper DReg IFn J0)
open Go.Sym Go.Pb
theorem c_stm(L:List Tok)(E:Int)(hL:L.length<=1000000000):∀ f:Nat,
  (∀ d s r,0<=d->d<=100->S1 L E f d s=some r->s.i<=L.length->RdC L E 266 [I64 d] s (r.1.v,r.2)) /\
  (∀ d s r,0<=d->d<=100->M4 L E f d s=some r->s.i<=L.length->RdC L E 196 [I64 d] s (H3 r.1,r.2)) /\
  (∀ d s r,0<=d->d<=99->R6 L E f d s=some r->s.i<=L.length->RdC L E 318 [I64 d] s (H3 r.1,r.2)):=by
 intro f
 induction f using Nat.strongRecOn with
 |_ f ih =>
  cases f with
  |zero=>exact⟨fun d s r _ _ h=>by simp[S1]at h,fun d s r _ _ h=>by simp[M4]at h,fun d s r _ _ h=>by simp[R6]at h⟩
  |succ f =>
   have i0:=ih f (by omega);exact⟨fun d s r h1 h2 h hi=>c_statement L E hL f i0.2.1 i0.2.2 d s r h1 h2 h hi,
    fun d s r h1 h2 h hi=>c_block L E hL f (fun g hg=>(ih g (by omega)).1) d s r h1 h2 h hi,
    fun d s r h1 h2 h hi=>c_other L E hL f i0.1 i0.2.1 d s r h1 h2 h hi⟩
theorem c_declaration(L:List Tok)(E:Int)(s:Rd)(H:Hp)(cc t:Nat)(ht:H t=some (rdR L E s))(htc:t<cc)(hL:L.length<=1000000000)(hv:∀ x∈L,0<=x.value/\x.value<=9223372036854775807)(k:Int)(hk0:0<=k)(hk:k<8)(hi:s.i<L.length):AC Tryz.prog 128 [.ptr t 0,I64 k] H cc (fun v H' c'=>v=(P4 L E k s).1.v/\H'=H.upd t (rdR L E (P4 L E k s).2)):=by
 refine AC.bodyT A4 rfl (A0B rfl) fun hfr=>?_;have hwk:IntKind.i64.wrap (1+k)=1+k:=w6z (by omega);have hw:IntKind.i64.wrap ((s.i:Int)+1)=((s.i+1:Nat):Int):=by rw[w6z (by omega)];omega
 have hn:(A7 s).i<=L.length:=hi;have hti:=I9 (E:=E) (x:=1) (by decide) hn;repeat' (apply wr<;>try simp only[go_sem,seval])
 refine AC.call (c_peek L E s _ _ t (by rw[hnO];exact ht) (by omega)) ?_;rintro v H' c1 ⟨rfl,rfl⟩ hc1;have ne0:=Q3 t cc c1 (by omega);simp only[go_sem,seval,hwk];repeat' (apply wr<;>try simp only[go_sem,seval,ht,hw,ne0,A1])
 refine AC.call (c_name L E (A7 s) _ _ t (by repeat (first|exact h_same|rw[hnO])) (by omega) (by omega)) ?_;rintro v H' c2 ⟨rfl,rfl⟩ hc2;have hval:∀ z,0<=(A8 L E z 3).1.value/\(A8 L E z 3).1.value<=9223372036854775807:=fun z=>by
  unfold A8;split
  ·exact⟨A3Q 0,(by decide:(0:Int)<=9223372036854775807)⟩
  ·show 0<=(B1 L E z).value/\(B1 L E z).value<=9223372036854775807;unfold B1;rw[A0Y];cases hg:L[z.i]? with
   |none=>exact⟨A3Q 0,(by decide:(0:Int)<=9223372036854775807)⟩
   |some x=>exact hv x (A0V hg)
 obtain⟨D,hD⟩:∃ D,D=P4 L E k s:=⟨_,rfl⟩;rw[<- hD];unfold P4 at hD;dsimp only at hD;generalize (B1 L E s).pos=p at hD ⊢;generalize (A8 L E (A7 s) 1).1.text=n at hD ⊢;generalize (A8 L E (A7 s) 1).2=s2 at hD hti ⊢;by_cases h6:k+1<=6
 ·rw[if_pos h6]at hD;have hd6:decide (1+k<=6)=true:=by simp;omega
  have hw2:IntKind.i64.wrap ((s2.i:Int)+1)=((s2.i+1:Nat):Int):=by rw[w6z (by omega)];omega
  by_cases h5:k=5
  ·subst h5;simp only[go_sem,seval,ne0,h_same,A1];repeat' (apply wr<;>try simp only[go_sem,seval,h_same])
   refine AC.call (c_is L E s2 _ _ t (by repeat (first|exact h_same|rw[hnO])) (by omega) _) ?_;rintro v H' c3 ⟨rfl,rfl⟩ hc3;cases hq:isR L E s2 [45] with
   |true =>
    rw[hq]at hD;have hn2:(A7 s2).i<=L.length:=(A0a hq).2;have hv2:=hval (A7 s2);have hneg:IntKind.i64.wrap (0-(A8 L E (A7 s2) 3).1.value) = -(A8 L E (A7 s2) 3).1.value:=by rw[w6z (by omega)];omega
    simp only[go_sem,seval];repeat' (apply wr<;>try simp only[go_sem,seval,hw2,ne0,h_same])
    have h4i:=I9 (E:=E) (x:=3) (by decide) hn2;subst hD;refine AC.call (c_take L E (A7 s2) _ _ t (by repeat (first|exact h_same|rw[hnO])) (by omega) (by omega) 3) ?_;rintro v H' c4 ⟨rfl,rfl⟩ hc4;try dsimp only
    simp only[go_sem,seval,ne0,h_same,A1];repeat' (apply wr<;>try simp only[go_sem,seval,hneg,h_same,A1])
    refine AC.call (c_expect L E (A8 L E (A7 s2) 3).2 _ _ t (by repeat (first|exact h_same|rw[hnO])) (by omega) (by omega) _) ?_;rintro v H' c9 ⟨rfl,rfl⟩ hc9;simp only[go_sem,seval];repeat' (apply wr<;>try simp only[go_sem,seval,ne0,h_same])
    rw[E0 (rv4 rfl h_same)];refine⟨_,_,O5 (cc:=cc) (C8 hfr htc) (fun j hj=>?_),rfl,rfl⟩;simp[Hp.upd,show ¬j=cc by omega,show ¬j=c1 by omega];try (split<;>rfl)
   |false =>
    rw[hq]at hD;simp only[go_sem,seval];repeat' (apply wr<;>try simp only[go_sem,seval])
    have h4i:=I9 (E:=E) (x:=3) (by decide) hti;subst hD;refine AC.call (c_take L E s2 _ _ t (by repeat (first|exact h_same|rw[hnO])) (by omega) (by omega) 3) ?_;rintro v H' c4 ⟨rfl,rfl⟩ hc4;try dsimp only
    simp only[go_sem,seval,ne0,h_same];repeat' (apply wr<;>try simp only[go_sem,seval])
    refine AC.call (c_expect L E (A8 L E s2 3).2 _ _ t (by repeat (first|exact h_same|rw[hnO])) (by omega) (by omega) _) ?_;rintro v H' c9 ⟨rfl,rfl⟩ hc9;simp only[go_sem,seval];repeat' (apply wr<;>try simp only[go_sem,seval,ne0,h_same])
    rw[E0 (rv4 rfl h_same)];refine⟨_,_,O5 (cc:=cc) (C8 hfr htc) (fun j hj=>?_),rfl,rfl⟩;simp[Hp.upd,show ¬j=cc by omega,show ¬j=c1 by omega];try (split<;>rfl)
  ·have hd5:(1+k == 6)=false:=by simp;omega
   have hm:(k+1 == 6)=false:=by simp;omega
   rw[hm]at hD;simp only[go_sem,seval,ne0,h_same,A1];repeat' (apply wr<;>try simp only[go_sem,seval,hd6,hd5,h_same])
   have h4i:=I9 (E:=E) (x:=3) (by decide) hti;subst hD;refine AC.call (c_take L E s2 _ _ t (by repeat (first|exact h_same|rw[hnO])) (by omega) (by omega) 3) ?_;rintro v H' c4 ⟨rfl,rfl⟩ hc4;try dsimp only
   simp only[go_sem,seval,ne0,h_same];repeat' (apply wr<;>try simp only[go_sem,seval])
   refine AC.call (c_expect L E (A8 L E s2 3).2 _ _ t (by repeat (first|exact h_same|rw[hnO])) (by omega) (by omega) _) ?_;rintro v H' c9 ⟨rfl,rfl⟩ hc9;simp only[go_sem,seval];repeat' (apply wr<;>try simp only[go_sem,seval,ne0,h_same])
   rw[E0 (rv4 rfl h_same)];refine⟨_,_,O5 (cc:=cc) (C8 hfr htc) (fun j hj=>?_),rfl,rfl⟩;simp[Hp.upd,show ¬j=cc by omega,show ¬j=c1 by omega];try (split<;>rfl)
 ·rw[if_neg h6]at hD;have hd6:decide (1+k<=6)=false:=by simp;omega
  subst hD;simp only[go_sem,seval,ne0,h_same,A1];repeat' (apply wr<;>try simp only[go_sem,seval,hd6,h_same])
  refine AC.call (c_expect L E s2 _ _ t (by repeat (first|exact h_same|rw[hnO])) (by omega) (by omega) _) ?_;rintro v H' c3 ⟨rfl,rfl⟩ hc3;simp only[go_sem,seval];repeat' (apply wr<;>try simp only[go_sem,seval,ne0,h_same])
  rw[E0 (rv4 rfl h_same)];refine⟨_,_,O5 (cc:=cc) (C8 hfr htc) (fun j hj=>?_),rfl,rfl⟩;simp[Hp.upd,show ¬j=cc by omega,show ¬j=c1 by omega];try (split<;>rfl)
theorem D5q{ρ : Ren}{v:Value}{a b e:DV}(h:VRel ρ (.agg [a,b,.snil,e]) v):VRel ρ (.agg [a,b,.lst [],e]) v:=by
 obtain⟨bb,rfl,k1,k2⟩:=h.agg_inv;refine .agg _ _ k1 fun j x y hx hy=>?_
 match j with
 |0=>cases hx;exact k2 0 _ y rfl hy
 |1=>cases hx;exact k2 1 _ y rfl hy
 |2=>cases hx;exact (k2 2 _ y rfl hy).snil_lst
 |3=>cases hx;exact k2 3 _ y rfl hy
 |_+4=>cases hx
theorem C6y{K H':Hp}{cc:Nat}{o:Option Nat}{a b e:DV}(l:List Hd)(hK:∀ i,cc<=i->K i=none)(ho:∀ i,o=some i->cc<=i)(hno:o=none->l=[])(hb:∀ i,o=some i->H' i=some ⟨4,true,cellsL (l.map Hd.v)⟩)(h:∀ j,j<cc->H' j=K j):
  GL H' [.agg [a,b,todoV o l.length,e]] K [.agg [a,b,A0z l,e]]:=by
 cases o with
 |none =>
  obtain rfl:=hno rfl;exact (O5 hK h).trans (GL.view fun ρ vs hA=>arel_one (fun v h=>D5q h) vs hA)
 |some i =>
  have:=ho i rfl;exact GL.frzS (id:=i) (hb i rfl) rfl (fun j=>by
   by_cases hj:j<cc
   ·exact .inr ⟨by omega,(h j hj).symm⟩
   ·exact .inl (hK j (by omega))) (.cons _ _ _ _ (.agg _ _ (.cons _ _ _ _ (.same _) (.cons _ _ _ _ (.same _) (.cons _ _ _ _ (P1 (u:=4) (by simp) (A2u l) ⟨[],by simp⟩) (.cons _ _ _ _ (.same _) .nil))))) .nil)
theorem c_mode(L:List Tok)(E:Int)(hL:L.length<=1000000000)(f:Nat)(s:Rd)(r:Md × Rd)(h:A2n L E f s=some r)(hi:s.i<=L.length):RdC L E 130 [] s (r.1.v,r.2):=by
 intro H cc t ht htc;refine AC.bodyT A4 rfl (A0B rfl) fun hfr=>?_;unfold A2n at h;dsimp only at h;have i1:=H6 (E:=E) (x:=[109,111,100,101]) hi;generalize hs1:D4 L E s [109,111,100,101]=s1 at h i1;have i2:=I9 (E:=E) (x:=1) (by decide) i1;have i3:=I9 (E:=E) (x:=3) (by decide) i2;have i4:=H6 (E:=E) (x:=[123]) i3;repeat' (apply wr<;>try simp only[go_sem,seval])
 refine AC.call (c_peek L E s _ _ t (by rw[hnO];exact ht) (by omega)) ?_;rintro v H' c1 ⟨rfl,rfl⟩ hc1;have ne0:=Q3 t cc c1 (by omega);simp only[go_sem,seval];repeat' (apply wr<;>try simp only[go_sem,seval,A1])
 refine AC.call (c_expect L E s _ _ t (by repeat (first|exact ht|rw[hnO])) (by omega) (by omega) _) ?_;rintro v H' c2 ⟨rfl,rfl⟩ hc2;rw[hs1];simp only[go_sem,seval];repeat' (apply wr<;>try simp only[go_sem,seval])
 refine AC.call (c_name L E s1 _ _ t (by repeat (first|exact h_same|rw[hnO])) (by omega) (by omega)) ?_;rintro v H' c3 ⟨rfl,rfl⟩ hc3;generalize (A8 L E s1 1).1.text=n at h ⊢;generalize (A8 L E s1 1).2=s2 at h i2 i3 i4 ⊢;simp only[go_sem,seval,ne0,h_same,A1];repeat' (apply wr<;>try simp only[go_sem,seval])
 refine AC.call (c_take L E s2 _ _ t (by repeat (first|exact h_same|rw[hnO])) (by omega) (by omega) 3) ?_;rintro v H' c4 ⟨rfl,rfl⟩ hc4;try dsimp only
 simp only[go_sem,seval,ne0,h_same];repeat' (apply wr<;>try simp only[go_sem,seval])
 refine AC.call (c_expect L E (A8 L E s2 3).2 _ _ t (by repeat (first|exact h_same|rw[hnO])) (by omega) (by omega) _) ?_;rintro v H' c5 ⟨rfl,rfl⟩ hc5;generalize (A8 L E s2 3).1.value=z at h ⊢;generalize D4 L E (A8 L E s2 3).2 [123]=s3 at h i4 ⊢;generalize (B1 L E s).pos=p at h ⊢;cases hm:W8 L E f [] s3 with
 |none=>rw[hm]at h;cases h
 |some q =>
  obtain⟨hl,s4⟩:=q;rw[hm]at h;dsimp only at h;cases h;simp only[go_sem,seval];repeat' (apply wr<;>try simp only[go_sem,seval])
  refine C1 (fun _:Nat × Option Nat × List Hd × Rd=>[(0,.ptr t 0),(2,.ptr cc 0),(3,.ptr c1 0)]) (fun q=>optH (((H.upd cc ⟨0,true,[.str [],I64 0,.snil,I64 0]⟩).upd c1 ⟨0,true,[.str n,I64 z,todoV q.2.1 q.2.2.1.length,I64 p]⟩).upd t (rdR L E q.2.2.2)) q.2.1 ⟨4,true,cellsL (q.2.2.1.map Hd.v)⟩)
   (fun q c=>c1+1<=c/\q.1<=f/\q.2.2.2.i<=L.length/\(q.2.1=none->q.2.2.1=[])/\(∀ i,q.2.1=some i->c1<i/\i<c)/\q.2.2.1.length<=32/\W8 L E q.1 q.2.2.1 q.2.2.2=some (hl,s4)) (fun q=>q.1) (f,none,[],s3)
   (by simp[C6,tm,Tm.upd]) (fun j b hj=>?_) ⟨by omega,A0G _,i4,fun _=>rfl,(fun i hi=>by cases hi),by simp,hm⟩ ?_
  ·simp only[optH,A9d]at hj;by_cases e1:j=t
   ·subst e1;rw[h_same]at hj ⊢;exact hj
   ·rw[h_ne e1]at hj ⊢;by_cases e2:j=c1
    ·subst e2;rw[h_same]at hj ⊢;exact hj
    ·rw[h_ne e2]at hj ⊢;simp only[h_ne e1,h_ne e2];exact hj
  clear hm i1 i2 i3 i4;rintro⟨g,o,l,u⟩ c ⟨hc,hg,hi5,hno,ho,hl1,hv⟩;dsimp only at hc hg hi5 hno ho hl1 hv ⊢;cases g with
  |zero=>simp[W8]at hv
  |succ g =>
  unfold W8 at hv;dsimp only at hv;have hHt:optH (((H.upd cc ⟨0,true,[.str [],I64 0,.snil,I64 0]⟩).upd c1 ⟨0,true,[.str n,I64 z,todoV o l.length,I64 p]⟩).upd t (rdR L E u)) o ⟨4,true,cellsL (l.map Hd.v)⟩ t=some (rdR L E u):=by rw[B7 (fun i hi=>by have:=ho i hi;omega),h_same]
  repeat' (apply wr<;>try simp only[go_sem,seval])
  refine AC.call (c_rdok L E u _ _ t hHt (by omega)) ?_;rintro v H' c6 ⟨rfl,rfl⟩ hc6;have hbx:(optH (((H.upd cc ⟨0,true,[.str [],I64 0,.snil,I64 0]⟩).upd c1 ⟨0,true,[.str n,I64 z,todoV o l.length,I64 p]⟩).upd t (rdR L E u)) o ⟨4,true,cellsL (l.map Hd.v)⟩) c1=some ⟨0,true,[.str n,I64 z,todoV o l.length,I64 p]⟩:=by rw[B7 (fun i hi=>by have:=ho i hi;omega),hnO,h_same]
  have hbo:∀ i:Nat,o=some i->(optH (((H.upd cc ⟨0,true,[.str [],I64 0,.snil,I64 0]⟩).upd c1 ⟨0,true,[.str n,I64 z,todoV o l.length,I64 p]⟩).upd t (rdR L E u)) o ⟨4,true,cellsL (l.map Hd.v)⟩) i=some ⟨4,true,cellsL (l.map Hd.v)⟩:=fun i hi=>by subst hi;exact h_same
  have hbj:∀ j:Nat,j<cc->¬ j=t->(optH (((H.upd cc ⟨0,true,[.str [],I64 0,.snil,I64 0]⟩).upd c1 ⟨0,true,[.str n,I64 z,todoV o l.length,I64 p]⟩).upd t (rdR L E u)) o ⟨4,true,cellsL (l.map Hd.v)⟩) j=H j:=fun j h1 h2=>by rw[B7 (fun i hi=>by have:=ho i hi;omega),h_ne h2,hnO,hnO]
  have hb0:(optH (((H.upd cc ⟨0,true,[.str [],I64 0,.snil,I64 0]⟩).upd c1 ⟨0,true,[.str n,I64 z,todoV o l.length,I64 p]⟩).upd t (rdR L E u)) o ⟨4,true,cellsL (l.map Hd.v)⟩) cc=some ⟨0,true,[.str [],I64 0,.snil,I64 0]⟩:=by rw[B7 (fun i hi=>by have:=ho i hi;omega),hnO,hnO,h_same]
  have hT:(todoV o l.length).one=true:=by cases o<;>rfl
  generalize hHH:optH (((H.upd cc ⟨0,true,[.str [],I64 0,.snil,I64 0]⟩).upd c1 ⟨0,true,[.str n,I64 z,todoV o l.length,I64 p]⟩).upd t (rdR L E u)) o ⟨4,true,cellsL (l.map Hd.v)⟩=HH at hHt hbx hbo hbj hb0 ⊢;have fin:∀ (u2:Rd) (e:DV) (x:Blk) (q1 q2:DV),GL ((HH.upd t (rdR L E u2)).upd cc x) [.agg [q1,q2,todoV o l.length,e]] (H.upd t (rdR L E u2)) [.agg [q1,q2,A0z l,e]]:=fun u2 e x q1 q2 =>
   C6y (cc:=cc) l (C8 hfr htc) (fun i hi=>by have:=ho i hi;omega) hno (fun i hi=>by have:=ho i hi;rw[hnO,hnO];exact hbo i hi) (fun j hj=>by
    rw[hnO];by_cases e1:j=t
    ·subst e1;rw[h_same,h_same]
    ·rw[h_ne e1,h_ne e1,hbj j hj e1])
  cases hok:okR u with
  |false =>
   rw[if_neg (by simp[hok])]at hv;have e1:l=hl:=congrArg Prod.fst (Option.some.inj hv);have e2:D4 L E u [125]=s4:=congrArg Prod.snd (Option.some.inj hv);subst e1 e2;simp only[go_sem,seval];repeat' (apply wr<;>try simp only[go_sem,seval])
   refine AC.call (c_expect L E u _ _ t hHt (by omega) (by omega) _) ?_;rintro v H' c7 ⟨rfl,rfl⟩ hc7;simp only[go_sem,seval];repeat' (apply wr<;>try simp only[go_sem,seval,ne0,hbx,hb0])
   refine E9 (B0l (by rfl) (by decide) (by clear hHH;cases o<;>rfl)) ?_;simp only[go_sem,seval];repeat' (apply wr<;>try simp only[go_sem,seval])
   rw[E0 (rv4 rfl h_same)];exact⟨_,_,fin _ _ _ _ _,rfl,rfl⟩
  |true =>
   simp only[go_sem,seval];repeat' (apply wr<;>try simp only[go_sem,seval,hok])
   refine AC.call (c_is L E u _ _ t hHt (by omega) _) ?_;rintro v H' c7 ⟨rfl,rfl⟩ hc7;cases hq:isR L E u [125] with
   |true =>
    rw[if_neg (by simp[hq])]at hv;have e1:l=hl:=congrArg Prod.fst (Option.some.inj hv);have e2:D4 L E u [125]=s4:=congrArg Prod.snd (Option.some.inj hv);subst e1 e2;simp only[go_sem,seval];repeat' (apply wr<;>try simp only[go_sem,seval])
    refine AC.call (c_expect L E u _ _ t hHt (by omega) (by omega) _) ?_;rintro v H' c8 ⟨rfl,rfl⟩ hc8;simp only[go_sem,seval];repeat' (apply wr<;>try simp only[go_sem,seval,ne0,hbx,hb0])
    refine E9 (B0l (by rfl) (by decide) (by clear hHH;cases o<;>rfl)) ?_;simp only[go_sem,seval];repeat' (apply wr<;>try simp only[go_sem,seval])
    rw[E0 (rv4 rfl h_same)];exact⟨_,_,fin _ _ _ _ _,rfl,rfl⟩
   |false =>
    rw[if_pos ⟨hok,hq⟩]at hv;simp only[go_sem,seval];repeat' (apply wr<;>try simp only[go_sem,seval])
    refine AC.call (c_is L E u _ _ t hHt (by omega) _) ?_;rintro v H' c8 ⟨rfl,rfl⟩ hc8;cases hon:isR L E u [111,110] with
    |false =>
     rw[if_pos hon]at hv;have e1:l=hl:=congrArg Prod.fst (Option.some.inj hv);have e2:K3 L E u=s4:=congrArg Prod.snd (Option.some.inj hv);subst e1 e2;simp only[go_sem,seval];repeat' (apply wr<;>try simp only[go_sem,seval])
     refine AC.call (c_syntax L E u _ _ t hHt (by omega)) ?_;rintro v H' c9 ⟨rfl,rfl⟩ hc9;simp only[go_sem,seval];repeat' (apply wr<;>try simp only[go_sem,seval,ne0,hbx,hb0])
     refine E9 (B0l (by rfl) (by decide) (by clear hHH;cases o<;>rfl)) ?_;simp only[go_sem,seval];repeat' (apply wr<;>try simp only[go_sem,seval])
     rw[E0 (rv4 rfl h_same)];exact⟨_,_,fin _ _ _ _ _,rfl,rfl⟩
    |true =>
     rw[if_neg (by simp[hon])]at hv;have hlen:A4u (todoV o l.length)=some (I64 l.length):=by
      cases o with
      |none=>rw[hno rfl];rfl
      |some b=>rfl
     have hwl:IntKind.i64.wrap ((l.length:Int)+1)=(l.length:Int)+1:=w6z (by omega);simp only[go_sem,seval];repeat' (apply wr<;>try simp only[go_sem,seval,hbx,hlen,hwl])
     refine AC.call (c_limit L E u _ _ t hHt (by omega) _ _ _) ?_;rintro v H' c9 ⟨rfl,rfl⟩ hc9;have j1:(C2 L E u ((l.length:Int)+1) 32 9).i<=L.length:=by rw[F0];exact hi5
     generalize hlq:C2 L E u ((l.length:Int)+1) 32 9=u1 at hv j1 ⊢;have j2:=H6 (E:=E) (x:=[111,110]) j1;simp only[go_sem,seval];repeat' (apply wr<;>try simp only[go_sem,seval])
     refine AC.call (c_peek L E u1 _ _ t h_same (by omega)) ?_;rintro v H' c10 ⟨rfl,rfl⟩ hc10;have ne0:=W7 t cc c1 c10 (by omega);simp only[go_sem,seval];repeat' (apply wr<;>try simp only[go_sem,seval,A1])
     refine AC.call (c_expect L E u1 _ _ t (by repeat (first|exact h_same|rw[hnO])) (by omega) (by omega) _) ?_;rintro v H' c11 ⟨rfl,rfl⟩ hc11;generalize hu2:D4 L E u1 [111,110]=u2 at hv j2 ⊢;simp only[go_sem,seval];repeat' ((with_reducible first|apply wr|refine cpc c_trigs31 ?_|fail)<;>try simp only[go_sem,seval])
     refine AC.call (c_among L E u2 _ _ t (by repeat (first|exact h_same|rw[hnO])) (by omega) E3 (by decide)) ?_;rintro v H' c12 ⟨rfl,rfl⟩ hc12;have hkr : -1<=B5 L E u2 E3/\B5 L E u2 E3<6:=A1y L E u2 E3 0;have hnn:0<=B5 L E u2 E3->okR u2=true/\u2.i<L.length:=fun h=>⟨(F6 h).1,(F6 h).2.1⟩;generalize B5 L E u2 E3=k at hv hkr hnn;by_cases hk:k<0
     ·rw[if_pos hk]at hv;have e1:l=hl:=congrArg Prod.fst (Option.some.inj hv);have e2:K3 L E u2=s4:=congrArg Prod.snd (Option.some.inj hv);subst e1 e2;have hdk:decide (k<0)=true:=by simpa using hk
      simp only[go_sem,seval];repeat' (apply wr<;>try simp only[go_sem,seval,hdk])
      refine AC.call (c_syntax L E u2 _ _ t (by repeat (first|exact h_same|rw[hnO])) (by omega)) ?_;rintro v H' c13 ⟨rfl,rfl⟩ hc13;simp only[go_sem,seval];repeat' (apply wr<;>try simp only[go_sem,seval,ne0,hbx,hb0])
      refine E9 (B0l (by rfl) (by decide) (by clear hHH;cases o<;>rfl)) ?_;simp only[go_sem,seval];repeat' (apply wr<;>try simp only[go_sem,seval])
      rw[E0 (rv4 rfl h_same)];refine⟨_,_,C6y (cc:=cc) l (C8 hfr htc) (fun i hi=>by have:=ho i hi;omega) hno (fun i hi=>?_) (fun j hj=>?_),rfl,rfl⟩
      ·have:=ho i hi;dsimp only
       repeat rw[hnO]
       exact hbo i hi
      ·by_cases e1:j=t
       ·subst e1;dsimp only;rw[hnO,h_same,h_same]
       ·dsimp only
        repeat rw[hnO]
        exact hbj j hj e1
     rw[if_neg hk]at hv;have hdk:decide (k<0)=false:=by simpa using hk
     obtain⟨hok2,hi2⟩:=hnn (by omega);have hw2:IntKind.i64.wrap ((u2.i:Int)+1)=((u2.i+1:Nat):Int):=by rw[w6z (by omega)];omega
     have hwk:IntKind.i64.wrap (1+k)=1+k:=w6z (by omega);have hn2:(A7 u2).i<=L.length:=hi2;have ht2:=I9 (E:=E) (x:=1) (by decide) hn2;have hl32:l.length+1<=32:=by
      have hok1:okR u1=true:=by
       cases hz:okR u1 with
       |true=>rfl
       |false =>
        have:D4 L E u1 [111,110]=K3 L E u1:=by unfold D4 isR;rw[hz];rfl
        rw[<- hu2,this,A1i]at hok2;cases hok2
      have:=(F4 (L:=L) (E:=E) (s:=u) (n:=(l.length:Int)+1) (m:=32) (e:=9) (by decide) (by rw[hlq];exact hok1)).2.1;omega
     simp only[go_sem,seval];by_cases hk2:2<=k
     ·rw[if_pos hk2,if_pos hk2]at hv;have hd2:decide (k≥2)=true:=by simpa using hk2
      repeat' (apply wr<;>try simp only[go_sem,seval,hdk,hd2,hw2,hwk,ne0,h_same,A1])
      refine AC.call (c_name L E (A7 u2) _ _ t (by repeat (first|exact h_same|rw[hnO])) (by omega) (by omega)) ?_;rintro v H' c14 ⟨rfl,rfl⟩ hc14;simp only[go_sem,seval,ne0,h_same];repeat' (apply wr<;>try simp only[go_sem,seval])
      cases hb:M4 L E g 1 (A8 L E (A7 u2) 1).2 with
      |none=>rw[hb]at hv;cases hv
      |some qb =>
       obtain⟨bd,s6⟩:=qb;rw[hb]at hv;dsimp only at hv;have j6:=(II.all g).1 _ _ _ hb ht2;refine AC.call ((c_stm L E hL g).2.1 1 (A8 L E (A7 u2) 1).2 (bd,s6) (by decide) (by decide) hb ht2 _ _ t (by repeat (first|exact h_same|rw[hnO])) (by omega)) ?_;rintro v H' c15 ⟨rfl,rfl⟩ hc15;try dsimp only
       have ne0:=A1p t cc c1 c10 c15 (by omega);simp only[go_sem,seval,ne0,h_same];repeat' (apply wr<;>try simp only[go_sem,seval,ne0,h_same,hbx])
       have hl4:(cellsL (l.map Hd.v)).length=l.length * 4:=B6 (u:=4) (A2u _) |>.trans (by simp);refine E9 (D8 (cs:=cellsL (l.map Hd.v)) (fun e=>by rw[hno e];exact⟨rfl,rfl⟩) (fun i hi=>?_) hl4 (by omega) (by omega) (by omega)) ?_
       ·have:=ho i hi
        repeat rw[hnO]
        exact hbo i hi
       have hdx:∀ X:Hp,delO X o c1=X c1:=fun X=>D1 (fun i hi=>by have:=ho i hi;omega);have ne0:=A4t t cc c1 c10 c15 (c15+1) (by omega);simp only[go_sem,seval,ne0,hdx,hbx];repeat' (apply wr<;>try simp only[go_sem,seval,ne0,h_same,A1,hdx,hbx])
       refine⟨(g,some (c15+1),l++[⟨1+k,(A8 L E (A7 u2) 1).1.text,bd,(B1 L E u1).pos⟩],s6),?_,inv ⟨by omega,by simp only;omega,j6,(fun h=>by cases h),(fun i hi=>by cases hi;omega),by simp only[A0A,A0H];omega,hv⟩,by simp only;omega⟩;intro j b hj;simp only[optH,A3i,A0A,A0H,A0R,B8]at hj;by_cases e1:j=c15+1
       ·subst e1;rw[h_same]at hj;rw[hnO,h_same, <- hj];rfl
       rw[h_ne e1]at hj;by_cases e2:j=t
       ·subst e2;rw[h_same]at hj;rw[hnO,hnO,D1 (fun i hi=>by have:=ho i hi;omega),hnO,hnO,h_same];exact hj
       rw[h_ne e2]at hj;by_cases e3:j=c1
       ·subst e3;rw[h_same]at hj ⊢;exact hj
       rw[h_ne e3]at hj ⊢;by_cases e4:j=cc
       ·subst e4;rw[h_same]at hj;rw[hnO,D1 (fun i hi=>by have:=ho i hi;omega)]
        repeat rw[hnO]
        rw[hb0];exact hj
       ·rw[h_ne e4]at hj;have hjc:j<cc:=Classical.byContradiction fun h=>by rw[hfr j (by omega)]at hj;cases hj
        rw[hnO,D1 (fun i hi=>by have:=ho i hi;omega)]
        repeat rw[hnO]
        rw[hbj j hjc e2];exact hj
     ·rw[if_neg hk2,if_neg hk2]at hv;have hd2:decide (k≥2)=false:=by simpa using hk2
      repeat' (apply wr<;>try simp only[go_sem,seval,hdk,hd2,hw2,hwk,ne0,h_same,A1])
      cases hb:M4 L E g 1 (A7 u2) with
      |none=>rw[hb]at hv;cases hv
      |some qb =>
       obtain⟨bd,s6⟩:=qb;rw[hb]at hv;dsimp only at hv;have j6:=(II.all g).1 _ _ _ hb hn2;refine AC.call ((c_stm L E hL g).2.1 1 (A7 u2) (bd,s6) (by decide) (by decide) hb hn2 _ _ t (by repeat (first|exact h_same|rw[hnO])) (by omega)) ?_;rintro v H' c15 ⟨rfl,rfl⟩ hc15;try dsimp only
       have ne0:=A1p t cc c1 c10 c15 (by omega);simp only[go_sem,seval,ne0,h_same];repeat' (apply wr<;>try simp only[go_sem,seval,ne0,h_same,hbx])
       have hl4:(cellsL (l.map Hd.v)).length=l.length * 4:=B6 (u:=4) (A2u _) |>.trans (by simp);refine E9 (D8 (cs:=cellsL (l.map Hd.v)) (fun e=>by rw[hno e];exact⟨rfl,rfl⟩) (fun i hi=>?_) hl4 (by omega) (by omega) (by omega)) ?_
       ·have:=ho i hi
        repeat rw[hnO]
        exact hbo i hi
       have hdx:∀ X:Hp,delO X o c1=X c1:=fun X=>D1 (fun i hi=>by have:=ho i hi;omega);have ne0:=A4t t cc c1 c10 c15 (c15+1) (by omega);simp only[go_sem,seval,ne0,hdx,hbx];repeat' (apply wr<;>try simp only[go_sem,seval,ne0,h_same,A1,hdx,hbx])
       refine⟨(g,some (c15+1),l++[⟨1+k,[],bd,(B1 L E u1).pos⟩],s6),?_,inv ⟨by omega,by simp only;omega,j6,(fun h=>by cases h),(fun i hi=>by cases hi;omega),by simp only[A0A,A0H];omega,hv⟩,by simp only;omega⟩;intro j b hj;simp only[optH,A3i,A0A,A0H,A0R,B8]at hj;by_cases e1:j=c15+1
       ·subst e1;rw[h_same]at hj;rw[hnO,h_same, <- hj];rfl
       rw[h_ne e1]at hj;by_cases e2:j=t
       ·subst e2;rw[h_same]at hj;rw[hnO,hnO,D1 (fun i hi=>by have:=ho i hi;omega),hnO,hnO,h_same];exact hj
       rw[h_ne e2]at hj;by_cases e3:j=c1
       ·subst e3;rw[h_same]at hj ⊢;exact hj
       rw[h_ne e3]at hj ⊢;by_cases e4:j=cc
       ·subst e4;rw[h_same]at hj;rw[hnO,D1 (fun i hi=>by have:=ho i hi;omega)]
        repeat rw[hnO]
        rw[hb0];exact hj
       ·rw[h_ne e4]at hj;have hjc:j<cc:=Classical.byContradiction fun h=>by rw[hfr j (by omega)]at hj;cases hj
        rw[hnO,D1 (fun i hi=>by have:=ho i hi;omega)]
        repeat rw[hnO]
        rw[hbj j hjc e2];exact hj
theorem D5p{ρ : Ren}{v:Value}{a:DV}(h:VRel ρ (.agg [a,.snil]) v):VRel ρ (.agg [a,.lst []]) v:=by
 obtain⟨bb,rfl,k1,k2⟩:=h.agg_inv;refine .agg _ _ k1 fun j x y hx hy=>?_
 match j with
 |0=>cases hx;exact k2 0 _ y rfl hy
 |1=>cases hx;exact (k2 1 _ y rfl hy).snil_lst
 |_+2=>cases hx
theorem C6x{K H':Hp}{cc:Nat}{o:Option Nat}{a:DV}(l:List Md)(hK:∀ i,cc<=i->K i=none)(ho:∀ i,o=some i->cc<=i)(hno:o=none->l=[])(hb:∀ i,o=some i->H' i=some ⟨4,true,cellsL (l.map Md.v)⟩)(h:∀ j,j<cc->H' j=K j):
  GL H' [.agg [a,todoV o l.length]] K [.agg [a,E4 l]]:=by
 cases o with
 |none =>
  obtain rfl:=hno rfl;exact (O5 hK h).trans (GL.view fun ρ vs hA=>arel_one (fun v h=>D5p h) vs hA)
 |some i =>
  have:=ho i rfl;exact GL.frzS (id:=i) (hb i rfl) rfl (fun j=>by
   by_cases hj:j<cc
   ·exact .inr ⟨by omega,(h j hj).symm⟩
   ·exact .inl (hK j (by omega))) (.cons _ _ _ _ (.agg _ _ (.cons _ _ _ _ (.same _) (.cons _ _ _ _ (P1 (u:=4) (by simp) (A9v l) ⟨[],by simp⟩) .nil))) .nil)
theorem rv2{s:Sym.St}{x i u:Nat}{a b:DV}{o:Bool}(h:s.T x=.ptr i 0)(hb:s.H i=some ⟨u,o,[a,b]⟩):A1j s [.cell x 2 true]=some (.agg [a,b]):=by
 simp only[A1j,A1l,h,ldv,hb];rfl
theorem c_rules(L:List Tok)(E:Int)(hL:L.length<=1000000000)(hv:∀ x∈L,0<=x.value/\x.value<=9223372036854775807)(f:Nat)(s:Rd)(r:Ru × Rd)(h:A6h L E f s=some r)(hi:s.i<=L.length):RdC L E 59 [] s (r.1.v,r.2):=by
 intro H cc t ht htc;refine AC.bodyT A4 rfl (A0B rfl) fun hfr=>?_;unfold A6h at h;cases hd:U2 L E f [] s with
 |none=>rw[hd]at h;cases h
 |some q =>
 obtain⟨dl,s1⟩:=q;rw[hd]at h;dsimp only at h;cases hm:T1 L E f [] s1 with
 |none=>rw[hm]at h;cases h
 |some q =>
 obtain⟨ml,s2⟩:=q;rw[hm]at h;cases h;have ne0:=Q3 t cc (cc+1) (by omega);repeat' ((with_reducible first|apply wr|refine cpc c_decls31 ?_|fail)<;>try simp only[go_sem,seval])
 refine AC.call (c_among L E s _ _ t (by repeat (first|exact ht|rw[hnO])) (by omega) D6 (by decide)) ?_;rintro v H' c1 ⟨rfl,rfl⟩ hc1;simp only[go_sem,seval];repeat' (apply wr<;>try simp only[go_sem,seval])
 refine C1 (fun q:Nat × Option Nat × List Dc × Rd=>[(0,.ptr t 0),(2,.ptr cc 0),(3,.ptr (cc+1) 0),(4,I64 (B5 L E q.2.2.2 D6))]) (fun q=>optH (((H.upd cc ⟨0,true,[.snil,.snil]⟩).upd t (rdR L E q.2.2.2)).upd (cc+1) ⟨0,true,[todoV q.2.1 q.2.2.1.length,.snil]⟩) q.2.1 ⟨4,true,cellsL (q.2.2.1.map Dc.v)⟩)
  (fun q c=>cc+2<=c/\q.1<=f/\q.2.2.2.i<=L.length/\(q.2.1=none->q.2.2.1=[])/\(∀ i,q.2.1=some i->cc+1<i/\i<c)/\q.2.2.1.length<=128/\U2 L E q.1 q.2.2.1 q.2.2.2=some (dl,s1)) (fun q=>q.1) (f,none,[],s)
  (by simp[C6,tm,Tm.upd]) (fun j b hj=>?_) ⟨by omega,A0G _,hi,fun _=>rfl,(fun i hi=>by cases hi),by simp,hd⟩ ?_
 ·simp only[optH,A9d]at hj;by_cases e1:j=cc+1
  ·subst e1;rw[h_same]at hj ⊢;exact hj
  ·rw[h_ne e1]at hj ⊢;by_cases e2:j=t
   ·subst e2;rw[h_same]at hj;rw[hnO,ht];exact hj
   ·rw[h_ne e2]at hj;exact hj
 clear hd;rintro⟨g,o,l,u⟩ c ⟨hc,hg,hi5,hno,ho,hl1,hv0⟩;dsimp only at hc hg hi5 hno ho hl1 hv0 ⊢;cases g with
 |zero=>simp[U2]at hv0
 |succ g =>
 unfold U2 at hv0;dsimp only at hv0;have hkr : -1<=B5 L E u D6/\B5 L E u D6<8:=A1y L E u D6 0;have hw:IntKind.i64.wrap ((l.length:Int)+1)=(l.length:Int)+1:=w6z (by omega);have hlen:A4u (todoV o l.length)=some (I64 l.length):=by
  cases o with
  |none=>rw[hno rfl];rfl
  |some b=>rfl
 by_cases hk:B5 L E u D6<0
 ·rw[if_pos hk]at hv0;have hdk:decide (B5 L E u D6≥0)=false:=by simp;omega
  have e1:l=dl:=congrArg Prod.fst (Option.some.inj hv0);have e2:u=s1:=congrArg Prod.snd (Option.some.inj hv0);subst e1 e2;repeat' (apply wr<;>try simp only[go_sem,seval,hdk])
  clear hdk hkr hk hv0;refine IW.keep [0,2,3] [.ptr t 0,.ptr cc 0,.ptr (cc+1) 0] (g_fin (Hb:=(H.upd cc ⟨0,true,[.snil,.snil]⟩).upd t (rdR L E u)) (ci:=cc+1) (u:=4) (pre:=[]) (suf:=[.snil]) (xs:=l.map Dc.v) (by simp[DV.one]) (fun h=>by rw[hno h];rfl) (fun i hi=>by have:=ho i hi;exact⟨by omega,by rw[hnO,hnO];exact hfr i (by omega)⟩) (by simp) (A3c _)) ?_;refine C1 (fun q:Nat × Option Nat × List Md × Rd=>[(0,.ptr t 0),(2,.ptr cc 0),(3,.ptr (cc+1) 0)]) (fun q=>optH (((H.upd cc ⟨0,true,[.snil,.snil]⟩).upd t (rdR L E q.2.2.2)).upd (cc+1) ⟨0,true,[C5 l,todoV q.2.1 q.2.2.1.length]⟩) q.2.1 ⟨4,true,cellsL (q.2.2.1.map Md.v)⟩)
   (fun q c=>cc+2<=c/\q.1<=f/\q.2.2.2.i<=L.length/\(q.2.1=none->q.2.2.1=[])/\(∀ i,q.2.1=some i->cc+1<i/\i<c)/\q.2.2.1.length<=16/\T1 L E q.1 q.2.2.1 q.2.2.2=some (ml,s2)) (fun q=>q.1) (f,none,[],u)
   (by simp[C6,tm,Tm.upd]) (fun j b hj=>hj) ⟨by omega,A0G _,hi5,fun _=>rfl,(fun i hi=>by cases hi),by simp,hm⟩ ?_
  clear hm hlen hw;clear hno ho hl1 hi5;rintro⟨g,o,m,u⟩ c ⟨hc,hg,hi5,hno,ho,hl1,hv⟩;dsimp only at hc hg hi5 hno ho hl1 hv ⊢;cases g with
  |zero=>simp[T1]at hv
  |succ g =>
  unfold T1 at hv;dsimp only at hv;have hw:IntKind.i64.wrap ((m.length:Int)+1)=(m.length:Int)+1:=w6z (by omega);have hlen:A4u (todoV o m.length)=some (I64 m.length):=by
   cases o with
   |none=>rw[hno rfl];rfl
   |some b=>rfl
  have hHt:optH (((H.upd cc ⟨0,true,[.snil,.snil]⟩).upd t (rdR L E u)).upd (cc+1) ⟨0,true,[C5 l,todoV o m.length]⟩) o ⟨4,true,cellsL (m.map Md.v)⟩ t=some (rdR L E u):=by rw[B7 (fun i hi=>by have:=ho i hi;omega),hnO,h_same]
  have hbx:optH (((H.upd cc ⟨0,true,[.snil,.snil]⟩).upd t (rdR L E u)).upd (cc+1) ⟨0,true,[C5 l,todoV o m.length]⟩) o ⟨4,true,cellsL (m.map Md.v)⟩ (cc+1)=some ⟨0,true,[C5 l,todoV o m.length]⟩:=by rw[B7 (fun i hi=>by have:=ho i hi;omega),h_same]
  have hbo:∀ i:Nat,o=some i->optH (((H.upd cc ⟨0,true,[.snil,.snil]⟩).upd t (rdR L E u)).upd (cc+1) ⟨0,true,[C5 l,todoV o m.length]⟩) o ⟨4,true,cellsL (m.map Md.v)⟩ i=some ⟨4,true,cellsL (m.map Md.v)⟩:=fun i hi=>by subst hi;exact h_same
  have hbj:∀ j:Nat,j<cc->¬ j=t->optH (((H.upd cc ⟨0,true,[.snil,.snil]⟩).upd t (rdR L E u)).upd (cc+1) ⟨0,true,[C5 l,todoV o m.length]⟩) o ⟨4,true,cellsL (m.map Md.v)⟩ j=H j:=fun j h1 h2=>by rw[B7 (fun i hi=>by have:=ho i hi;omega),hnO,h_ne h2,hnO]
  have hb0:optH (((H.upd cc ⟨0,true,[.snil,.snil]⟩).upd t (rdR L E u)).upd (cc+1) ⟨0,true,[C5 l,todoV o m.length]⟩) o ⟨4,true,cellsL (m.map Md.v)⟩ cc=some ⟨0,true,[.snil,.snil]⟩:=by rw[B7 (fun i hi=>by have:=ho i hi;omega),hnO,hnO,h_same]
  have hbn:∀ j:Nat,c<=j->optH (((H.upd cc ⟨0,true,[.snil,.snil]⟩).upd t (rdR L E u)).upd (cc+1) ⟨0,true,[C5 l,todoV o m.length]⟩) o ⟨4,true,cellsL (m.map Md.v)⟩ j=none:=fun j h1=>by rw[B7 (fun i hi=>by have:=ho i hi;omega),hnO,hnO,hnO];exact hfr j (by omega)
  have hT:(todoV o m.length).one=true:=by cases o<;>rfl
  generalize hHH:optH (((H.upd cc ⟨0,true,[.snil,.snil]⟩).upd t (rdR L E u)).upd (cc+1) ⟨0,true,[C5 l,todoV o m.length]⟩) o ⟨4,true,cellsL (m.map Md.v)⟩=HH at hHt hbx hbo hbj hb0 hbn ⊢;have fin:∀ (u2:Rd) (x:Blk),GL ((HH.upd t (rdR L E u2)).upd cc x) [.agg [C5 l,todoV o m.length]] (H.upd t (rdR L E u2)) [.agg [C5 l,E4 m]]:=fun u2 x =>
   C6x (cc:=cc) m (C8 hfr htc) (fun i hi=>by have:=ho i hi;omega) hno (fun i hi=>by have:=ho i hi;rw[hnO,hnO];exact hbo i hi) (fun j hj=>by
    rw[hnO];by_cases e1:j=t
    ·subst e1;rw[h_same,h_same]
    ·rw[h_ne e1,h_ne e1,hbj j hj e1])
  have fin0:∀ (x:Blk),GL (HH.upd cc x) [.agg [C5 l,todoV o m.length]] (H.upd t (rdR L E u)) [.agg [C5 l,E4 m]]:=fun x=>by
   have h1:=fin u x
   rwa [upd_same hHt]at h1
  repeat' (apply wr<;>try simp only[go_sem,seval])
  refine AC.call (c_rdok L E u _ _ t hHt (by omega)) ?_;rintro v H' c2 ⟨rfl,rfl⟩ hc2;cases hok:okR u with
  |false =>
   rw[if_neg (by simp[hok])]at hv;have e1:m=ml:=congrArg Prod.fst (Option.some.inj hv);have e2:u=s2:=congrArg Prod.snd (Option.some.inj hv);subst e1 e2;have ne0:=Q3 t cc (cc+1) (by omega);simp only[go_sem,seval];repeat' (apply wr<;>try simp only[go_sem,seval,hbx])
   rw[hb0];refine E9 (B0l (by rfl) (by decide) (by clear hHH;cases o<;>rfl)) ?_;simp only[go_sem,seval];repeat' (apply wr<;>try simp only[go_sem,seval])
   rw[E0 (rv2 rfl h_same)];exact⟨_,_,fin0 _,rfl,rfl⟩
  |true =>
   by_cases hlt:u.i<L.length
   ·rw[if_pos ⟨hok,hlt⟩]at hv;have hdl:decide ((u.i:Int)<(L.length:Int))=true:=by simpa using hlt
    simp only[go_sem,seval,hHt,hdl];repeat' (apply wr<;>try simp only[go_sem,seval])
    refine AC.call (c_is L E u _ _ t hHt (by omega) _) ?_;rintro v H' c3 ⟨rfl,rfl⟩ hc3;cases hmo:isR L E u [109,111,100,101] with
    |false =>
     rw[if_pos hmo]at hv;have e1:m=ml:=congrArg Prod.fst (Option.some.inj hv);have e2:K3 L E u=s2:=congrArg Prod.snd (Option.some.inj hv);subst e1 e2;have ne0:=Q3 t cc (cc+1) (by omega);simp only[go_sem,seval];repeat' (apply wr<;>try simp only[go_sem,seval])
     refine AC.call (c_syntax L E u _ _ t hHt (by omega)) ?_;rintro v H' c4 ⟨rfl,rfl⟩ hc4;simp only[go_sem,seval];repeat' (apply wr<;>try simp only[go_sem,seval,ne0,hbx,hb0])
     refine E9 (B0l (by rfl) (by decide) (by clear hHH;cases o<;>rfl)) ?_;simp only[go_sem,seval];repeat' (apply wr<;>try simp only[go_sem,seval])
     rw[E0 (rv2 rfl h_same)];exact⟨_,_,fin _ _,rfl,rfl⟩
    |true =>
     rw[if_neg (by rw[hmo];decide)]at hv;simp only[go_sem,seval];repeat' (apply wr<;>try simp only[go_sem,seval,hbx,hlen,hw])
     refine AC.call (c_limit L E u _ _ t hHt (by omega) _ _ _) ?_;rintro v H' c4 ⟨rfl,rfl⟩ hc4;have j1:(C2 L E u ((m.length:Int)+1) 16 9).i=u.i:=F0;have j2:=fun h=>F4 (L:=L) (E:=E) (s:=u) (n:=(m.length:Int)+1) (m:=16) (e:=9) (by decide) h;generalize C2 L E u ((m.length:Int)+1) 16 9=u1 at hv j1 j2 ⊢;simp only[go_sem,seval];repeat' (apply wr<;>try simp only[go_sem,seval])
     refine AC.call (c_rdok L E u1 _ _ t h_same (by omega)) ?_;rintro v H' c5 ⟨rfl,rfl⟩ hc5;cases hok1:okR u1 with
     |false =>
      rw[if_neg (by rw[hok1];decide)]at hv;simp only[go_sem,seval];repeat' (apply wr<;>try simp only[go_sem,seval])
      refine⟨(g,o,m,u1),?_,inv ⟨by omega,by simp only;omega,by rw[j1];exact hi5,hno,(fun i hi=>by have:=ho i hi;omega),hl1,hv⟩,by simp only;omega⟩;intro j b hj;by_cases e2:j=t
      ·subst e2;rw[B7 (fun i hi=>by have:=ho i hi;omega),hnO,h_same]at hj;rw[h_same];exact hj
      ·rw[h_ne e2, <- hHH];cases o with
       |none =>
        simp only[optH]at hj ⊢;by_cases e1:j=cc+1
        ·subst e1;rw[h_same]at hj ⊢;exact hj
        ·rw[h_ne e1,h_ne e2]at hj ⊢;exact hj
       |some i =>
        simp only[optH]at hj ⊢;by_cases e0:j=i
        ·subst e0;rw[h_same]at hj ⊢;exact hj
        rw[h_ne e0]at hj ⊢;by_cases e1:j=cc+1
        ·subst e1;rw[h_same]at hj ⊢;exact hj
        ·rw[h_ne e1,h_ne e2]at hj ⊢;exact hj
     |true =>
      rw[if_pos hok1]at hv;obtain⟨-,j3,rfl⟩:=j2 hok1;cases hmd:A2n L E g u1 with
      |none=>rw[hmd]at hv;cases hv
      |some qm =>
       obtain⟨md,u2⟩:=qm;rw[hmd]at hv;dsimp only at hv;have j6:=C6q hmd hi5;have ne0:=Q3 t cc (cc+1) (by omega);simp only[go_sem,seval];repeat' (apply wr<;>try simp only[go_sem,seval,ne0,hbx])
       refine AC.call (c_mode L E hL g u1 (md,u2) hmd hi5 _ _ t h_same (by omega)) ?_;rintro v H' c6 ⟨rfl,rfl⟩ hc6;dsimp only;have ne0:=A1p t cc (cc+1) c6 (c6+1) (by omega);simp only[go_sem,seval,ne0,h_same,A1,hbx];repeat' (apply wr<;>try simp only[go_sem,seval,ne0,h_same,A1,hbx])
       refine⟨⟨by rw[hnO];exact hbn _ (by omega),by rw[hnO];exact hbn _ (by omega)⟩,?_⟩;have hl4:(cellsL (m.map Md.v)).length=m.length * 4:=B6 (u:=4) (A9v _) |>.trans (by simp);repeat' (apply wr<;>try simp only[go_sem,seval,ne0,h_same,A1,hbx])
       rw[D8 (cs:=cellsL (m.map Md.v)) (fun e=>by rw[hno e];exact⟨rfl,rfl⟩) (fun i hi=>by have:=ho i hi;rw[hnO,hnO];exact hbo i hi) hl4 (by omega) (by omega) (by omega)];have hdx:∀ X:Hp,delO X o (cc+1)=X (cc+1):=fun X=>D1 (fun i hi=>by have:=ho i hi;omega);have ne0:=A1p t cc (cc+1) (c5+4) c6 (by omega);simp only[go_sem,seval,ne0,hdx,hbx];repeat' (apply wr<;>try simp only[go_sem,seval,ne0,h_same,A1,hdx,hbx])
       refine⟨(g,some c6,m++[md],u2),?_,inv ⟨by omega,by simp only;omega,j6,(fun h=>by cases h),(fun i hi=>by cases hi;omega),by simp only[A0A,A0H];omega,hv⟩,by simp only;omega⟩;intro j b hj;simp only[optH,A3i,A0A,A0H,A0R,B8]at hj;by_cases e1:j=cc+1
       ·subst e1;by_cases e3:cc+1=c6
        ·omega
        rw[h_ne e3,h_same]at hj;rw[h_same];exact hj
       rw[h_ne e1];by_cases e0:j=c6
       ·subst e0;rw[h_same]at hj;rw[h_same, <- hj];rfl
       rw[h_ne e0]at hj ⊢;rw[h_ne e1]at hj;by_cases e2:j=t
       ·subst e2;rw[h_same]at hj;rw[D1 (fun i hi=>by have:=ho i hi;omega),hnO,h_same];exact hj
       rw[h_ne e2]at hj;by_cases e4:j=cc
       ·subst e4;rw[h_same]at hj;rw[D1 (fun i hi=>by have:=ho i hi;omega)]
        repeat rw[hnO]
        rw[hb0];exact hj
       ·rw[h_ne e4]at hj;have hjc:j<cc:=Classical.byContradiction fun h=>by rw[hfr j (by omega)]at hj;cases hj
        rw[D1 (fun i hi=>by have:=ho i hi;omega)]
        repeat rw[hnO]
        rw[hbj j hjc e2];exact hj
   ·rw[if_neg (by simp[hlt])]at hv;have hdl:decide ((u.i:Int)<(L.length:Int))=false:=by simpa using hlt
    have e1:m=ml:=congrArg Prod.fst (Option.some.inj hv);have e2:u=s2:=congrArg Prod.snd (Option.some.inj hv);subst e1 e2;have ne0:=Q3 t cc (cc+1) (by omega);simp only[go_sem,seval,hHt,hdl];repeat' (apply wr<;>try simp only[go_sem,seval,hbx])
    rw[hb0];refine E9 (B0l (by rfl) (by decide) (by clear hHH;cases o<;>rfl)) ?_;simp only[go_sem,seval];repeat' (apply wr<;>try simp only[go_sem,seval])
    rw[E0 (rv2 rfl h_same)];exact⟨_,_,fin0 _,rfl,rfl⟩
 ·rw[if_neg hk]at hv0;have hdk:decide (B5 L E u D6≥0)=true:=by simp;omega
  have hHt:optH (((H.upd cc ⟨0,true,[.snil,.snil]⟩).upd t (rdR L E u)).upd (cc+1) ⟨0,true,[todoV o l.length,.snil]⟩) o ⟨4,true,cellsL (l.map Dc.v)⟩ t=some (rdR L E u):=by rw[B7 (fun i hi=>by have:=ho i hi;omega),hnO,h_same]
  have hbx:optH (((H.upd cc ⟨0,true,[.snil,.snil]⟩).upd t (rdR L E u)).upd (cc+1) ⟨0,true,[todoV o l.length,.snil]⟩) o ⟨4,true,cellsL (l.map Dc.v)⟩ (cc+1)=some ⟨0,true,[todoV o l.length,.snil]⟩:=by rw[B7 (fun i hi=>by have:=ho i hi;omega),h_same]
  have hbo:∀ i:Nat,o=some i->optH (((H.upd cc ⟨0,true,[.snil,.snil]⟩).upd t (rdR L E u)).upd (cc+1) ⟨0,true,[todoV o l.length,.snil]⟩) o ⟨4,true,cellsL (l.map Dc.v)⟩ i=some ⟨4,true,cellsL (l.map Dc.v)⟩:=fun i hi=>by subst hi;exact h_same
  have hbj:∀ j:Nat,j<cc->¬ j=t->optH (((H.upd cc ⟨0,true,[.snil,.snil]⟩).upd t (rdR L E u)).upd (cc+1) ⟨0,true,[todoV o l.length,.snil]⟩) o ⟨4,true,cellsL (l.map Dc.v)⟩ j=H j:=fun j h1 h2=>by rw[B7 (fun i hi=>by have:=ho i hi;omega),hnO,h_ne h2,hnO]
  have hb0:optH (((H.upd cc ⟨0,true,[.snil,.snil]⟩).upd t (rdR L E u)).upd (cc+1) ⟨0,true,[todoV o l.length,.snil]⟩) o ⟨4,true,cellsL (l.map Dc.v)⟩ cc=some ⟨0,true,[.snil,.snil]⟩:=by rw[B7 (fun i hi=>by have:=ho i hi;omega),hnO,hnO,h_same]
  have hbn:∀ j:Nat,c<=j->optH (((H.upd cc ⟨0,true,[.snil,.snil]⟩).upd t (rdR L E u)).upd (cc+1) ⟨0,true,[todoV o l.length,.snil]⟩) o ⟨4,true,cellsL (l.map Dc.v)⟩ j=none:=fun j h1=>by rw[B7 (fun i hi=>by have:=ho i hi;omega),hnO,hnO,hnO];exact hfr j (by omega)
  obtain⟨hok0,hi0, -⟩:=F6 (show 0<=B5 L E u D6 by omega);generalize hHH:optH (((H.upd cc ⟨0,true,[.snil,.snil]⟩).upd t (rdR L E u)).upd (cc+1) ⟨0,true,[todoV o l.length,.snil]⟩) o ⟨4,true,cellsL (l.map Dc.v)⟩=HH at hHt hbx hbo hbj hb0 hbn ⊢;generalize hkk:B5 L E u D6=k at hv0 hk hdk hkr ⊢;repeat' (apply wr<;>try simp only[go_sem,seval,hdk,hbx,hlen,hw])
  refine AC.call (c_limit L E u _ _ t hHt (by omega) _ _ _) ?_;rintro v H' c2 ⟨rfl,rfl⟩ hc2;have j1:(C2 L E u ((l.length:Int)+1) 128 9).i=u.i:=F0;have j2:=fun h=>F4 (L:=L) (E:=E) (s:=u) (n:=(l.length:Int)+1) (m:=128) (e:=9) (by decide) h;generalize C2 L E u ((l.length:Int)+1) 128 9=u1 at hv0 j1 j2 ⊢;simp only[go_sem,seval];repeat' (apply wr<;>try simp only[go_sem,seval])
  refine AC.call (c_rdok L E u1 _ _ t h_same (by omega)) ?_;rintro v H' c3 ⟨rfl,rfl⟩ hc3;cases hok:okR u1 with
  |false =>
   rw[if_neg (by rw[hok];decide)]at hv0;simp only[go_sem,seval];repeat' ((with_reducible first|apply wr|refine cpc c_decls31 ?_|fail)<;>try simp only[go_sem,seval])
   refine AC.call (c_among L E u1 _ _ t h_same (by omega) D6 (by decide)) ?_;rintro v H' c4 ⟨rfl,rfl⟩ hc4;simp only[go_sem,seval];repeat' (apply wr<;>try simp only[go_sem,seval])
   refine⟨(g,o,l,u1),by simp[],?_,inv ⟨by omega,by simp only;omega,by rw[j1];exact hi5,hno,(fun i hi=>by have:=ho i hi;omega),hl1,hv0⟩,by simp only;omega⟩;intro j b hj;by_cases e2:j=t
   ·subst e2;rw[B7 (fun i hi=>by have:=ho i hi;omega),hnO,h_same]at hj;rw[h_same];exact hj
   ·rw[h_ne e2, <- hHH];cases o with
    |none =>
     simp only[optH]at hj ⊢;by_cases e1:j=cc+1
     ·subst e1;rw[h_same]at hj ⊢;exact hj
     ·rw[h_ne e1,h_ne e2]at hj ⊢;exact hj
    |some i =>
     simp only[optH]at hj ⊢;by_cases e0:j=i
     ·subst e0;rw[h_same]at hj ⊢;exact hj
     rw[h_ne e0]at hj ⊢;by_cases e1:j=cc+1
     ·subst e1;rw[h_same]at hj ⊢;exact hj
     ·rw[h_ne e1,h_ne e2]at hj ⊢;exact hj
  |true =>
   rw[if_pos hok]at hv0;obtain⟨-,j3,rfl⟩:=j2 hok;simp only[go_sem,seval];have ne0:=Q3 t cc (cc+1) (by omega);repeat' (apply wr<;>try simp only[go_sem,seval,ne0,hbx])
   refine AC.call (c_declaration L E u1 _ _ t h_same (by omega) hL hv k (by omega) (by omega) (by omega)) ?_;rintro v H' c4 ⟨rfl,rfl⟩ hc4;have ne0:=A1p t cc (cc+1) c4 (c4+1) (by omega);simp only[go_sem,seval,ne0,h_same,A1,hbx];repeat' (apply wr<;>try simp only[go_sem,seval,ne0,h_same,A1,hbx])
   refine⟨⟨by rw[hnO];exact hbn _ (by omega),by rw[hnO];exact hbn _ (by omega)⟩,?_⟩;have hl4:(cellsL (l.map Dc.v)).length=l.length * 4:=B6 (u:=4) (A3c _) |>.trans (by simp);repeat' (apply wr<;>try simp only[go_sem,seval,ne0,h_same,A1,hbx])
   rw[D8 (cs:=cellsL (l.map Dc.v)) (fun e=>by rw[hno e];exact⟨rfl,rfl⟩) (fun i hi=>by have:=ho i hi;rw[hnO,hnO];exact hbo i hi) hl4 (by omega) (by omega) (by omega)];have hdx:∀ X:Hp,delO X o (cc+1)=X (cc+1):=fun X=>D1 (fun i hi=>by have:=ho i hi;omega);have ne0:=A1p t cc (cc+1) (c3+5) c4 (by omega);simp only[go_sem,seval,ne0,hdx,hbx];repeat' ((with_reducible first|apply wr|refine cpc c_decls31 ?_|fail)<;>try simp only[go_sem,seval])
   refine AC.call (c_among L E (P4 L E k u1).2 _ _ t (by rw[hnO,hnO,D1 (fun i hi=>by have:=ho i hi;omega),hnO,h_same]) (by omega) D6 (by decide)) ?_;rintro v H' c5 ⟨rfl,rfl⟩ hc5;simp only[go_sem,seval];repeat' (apply wr<;>try simp only[go_sem,seval])
   refine⟨(g,some c4,l++[(P4 L E k u1).1],(P4 L E k u1).2),by simp[],?_,inv ⟨by omega,by simp only;omega,C7c (by omega),(fun h=>by cases h),(fun i hi=>by cases hi;omega),by simp only[A0A,A0H];omega,hv0⟩,by simp only;omega⟩;intro j b hj;simp only[optH,A3i,A0A,A0H,A0R,B8]at hj;by_cases e1:j=cc+1
   ·subst e1;by_cases e3:cc+1=c4
    ·omega
    rw[h_ne e3,h_same]at hj;rw[h_same];exact hj
   rw[h_ne e1];by_cases e0:j=c4
   ·subst e0;rw[h_same]at hj;rw[h_same, <- hj];rfl
   rw[h_ne e0]at hj ⊢;rw[h_ne e1]at hj;by_cases e2:j=t
   ·subst e2;rw[h_same]at hj;rw[D1 (fun i hi=>by have:=ho i hi;omega),hnO,h_same];exact hj
   rw[h_ne e2]at hj;by_cases e4:j=cc
   ·subst e4;rw[h_same]at hj;rw[D1 (fun i hi=>by have:=ho i hi;omega)]
    repeat rw[hnO]
    rw[hb0];exact hj
   ·rw[h_ne e4]at hj;have hjc:j<cc:=Classical.byContradiction fun h=>by rw[hfr j (by omega)]at hj;cases hj
    rw[D1 (fun i hi=>by have:=ho i hi;omega)]
    repeat rw[hnO]
    rw[hbj j hjc e2];exact hj
theorem c_letter(c:UInt8):PC Tryz.prog 198 [.int .u8 c.toNat] (.bool (ltB c)):=by
 refine PC.go A4 ?_;repeat' ((with_reducible first|refine wr ?_|refine wb2 ?_ ?_<;>(intro hb;try simp only[hb])|fail)<;>try simp only[go_sem,seval])
 all_goals (refine A6 (congrArg DV.bool ?_);rw[A2O];simp_all[ltB]<;>omega)
theorem c_digit(c:UInt8):PC Tryz.prog 267 [.int .u8 c.toNat] (.bool (dgB c)):=by
 refine PC.go A4 ?_;repeat' ((with_reducible first|refine wr ?_|refine wb2 ?_ ?_<;>(intro hb;try simp only[hb])|fail)<;>try simp only[go_sem,seval])
 all_goals (refine A6 (congrArg DV.bool ?_);rw[A2O];simp_all[dgB]<;>omega)
theorem c_letterR(c:UInt8):PC Tryz.prog 187 [.int .u8 c.toNat] (.bool (ltB c)):=by
 refine PC.go A4 ?_;repeat' ((with_reducible first|refine wr ?_|refine wb2 ?_ ?_<;>(intro hb;try simp only[hb])|fail)<;>try simp only[go_sem,seval])
 all_goals (refine A6 (congrArg DV.bool ?_);rw[A2O];simp_all[ltB]<;>omega)
theorem c_digitR(c:UInt8):PC Tryz.prog 189 [.int .u8 c.toNat] (.bool (dgB c)):=by
 refine PC.go A4 ?_;repeat' ((with_reducible first|refine wr ?_|refine wb2 ?_ ?_<;>(intro hb;try simp only[hb])|fail)<;>try simp only[go_sem,seval])
 all_goals (refine A6 (congrArg DV.bool ?_);rw[A2O];simp_all[dgB]<;>omega)
theorem c_part(c:UInt8):PC Tryz.prog 200 [.int .u8 c.toNat] (.bool (ptB c)):=by
 refine PC.go A4 ?_;repeat' ((with_reducible first|refine wr ?_|refine cpc (c_letter c) ?_|refine cpc (c_digit c) ?_|refine wb2 ?_ ?_<;>(intro hb;try simp only[hb])|fail)<;>try simp only[go_sem,seval])
 all_goals (refine A6 (congrArg DV.bool ?_);rw[A2O];simp_all[ptB]<;>omega)
theorem c_span{p:UInt8->Bool}{f:Nat}{a cs:List DV}(s:List UInt8)(hs:s.length<=9223372036854775807)(na:DV.nlL a=true)(ncs:DV.nlL cs=true)(hf:∀ x∈s,PC Tryz.prog f (a++[.int .u8 x.toNat]++cs) (.bool (p x))):
  PC Tryz.prog 199 [.str s,.func f a cs] (I64 (D2 p s)):=by
 refine PC.ofT A4 rfl (A0B rfl) (by simp[DV.nlL,DV.nl,na,ncs]) rfl ?_;repeat' (apply wr<;>try simp only[go_sem,seval])
 refine C1 (fun k:Nat=>[(0,.str s),(1,.func f a cs),(5,I64 k)]) (fun _=>nil) (fun k _=>k<=s.length/\k<=D2 p s) (fun k=>s.length-k) 0 (by simp[C6,tm,Tm.upd]) (Sub.nil _) (by simp) ?_;rintro k c ⟨hk,he⟩;by_cases hlt:k<s.length
 ·have hd:=dtz hlt;have hg:=A0C hlt;have hw:=w64 (n:=(k:Int)+1);have hst:=A5j hg he;have hc:=hf s[k] (A0Q hlt);repeat' ((with_reducible first|refine wr ?_|refine cpc hc ?_|refine wb2 ?_ ?_<;>(intro hb;try simp only[hb])|fail)<;>try simp only[go_sem,seval,hd,hg,hw])
  ·exact⟨k+1,rfl,Sub.refl _,inv ⟨by omega,hst.1 hb⟩,by omega⟩
  ·refine A6 ?_;rw[hst.2 hb]
 ·have hd:=dfz hlt;repeat' (apply wr<;>try simp only[go_sem,seval,hd])
  refine A6 ?_;rw[B1d (by omega) he]
theorem c_spanPt(s:List UInt8)(hs:s.length<=9223372036854775807):PC Tryz.prog 199 [.str s,.func 200 [] []] (I64 (D2 ptB s)) :=
 c_span s hs rfl rfl fun x _=>c_part x
end Go.Proofs.YtkkjpohaffjecaaGreatDoor
end
