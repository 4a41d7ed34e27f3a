/-
  HELPERS of the claim: part 5 of its texts.
-/
import Derived.Test.YtmmjlijdfhkdcaaGreatDoorMmdd
import Derived.Lib.ItoaNum
import Derived.Lib.Space
import Derived.Test.YtmmjlijdfhkdcaaGreatDoorProg
noncomputable section
set_option linter.unusedVariables false
set_option linter.unusedSectionVars false
set_option linter.unusedSimpArgs false
namespace Go.Pb
variable [Go.Sym.Tab]
open Go.Sym
def S8(t:Tok):Bool:=t.kind == 5 || t.kind == 2
def ixA:Nat->List (List UInt8)->List UInt8->Int
 |_,[],_ => -1
 |k,t :: l,x=>if x == t then (k:Int) else ixA (k+1) l x
def amT(t:Tok)(l:List (List UInt8)):Int:=if S8 t=true then ixA 0 l t.text else -1
def hd0(E:Int)(ts:List Tok):Tok:=ts.headD ⟨0,[],0,E⟩
def A1j(t:Tok):Int:=if amT t D3<0 then 0 else B5 (12+amT t D3)
abbrev lvo(E:Int)(ts:List Tok):Int:=A1j (hd0 E ts)
section
variable {L:List Tok} {E:Int}
theorem A7d(s:Rd):C2 L E s=hd0 E (L.drop s.i):=by
 unfold C2 hd0;simp
theorem D1{s:Rd}{t:Tok}{ts:List Tok}(h:L.drop s.i=t :: ts):C2 L E s=t:=by rw[A7d,h];rfl
theorem E8{s:Rd}{t:Tok}{ts:List Tok}(h:L.drop s.i=t :: ts):L.drop (s.i+1)=ts:=by
 rw[<- A3U,h];rfl
theorem G1{i:Nat}{a b:List Tok}(h:L.drop i=a++b):L.drop (i+a.length)=b:=by
 rw[<- A3U,h,List.drop_left]
theorem C7w{s:Rd}(hok:okR s=true):∀ (l:List (List UInt8)) (k:Nat),A1g L E s k l=if S8 (C2 L E s)=true then ixA k l (C2 L E s).text else -1
 |[],k=>by simp[A1g,ixA]
 |t :: l,k=>by
  have ih:=C7w hok l (k+1);have hi:isR L E s t=(S8 (C2 L E s) && (C2 L E s).text == t):=by unfold isR S8;rw[hok,A2B]
  rw[A1g,ixA,ih,hi]
  grind
theorem V2{s:Rd}(hok:okR s=true)(l:List (List UInt8)):C3 L E s l=amT (C2 L E s) l:=C7w hok l 0
theorem A3h{s:Rd}(hok:okR s=true)(t:List UInt8):isR L E s t=(S8 (C2 L E s) && (C2 L E s).text == t):=by unfold isR S8;grind
theorem A9v{s:Rd}(hok:okR s=true)(k:Int):I8 L E s k=((C2 L E s).kind == k):=by unfold I8;grind
theorem C7t{s:Rd}{t:List UInt8}(hok:okR s=true)(h1:S8 (C2 L E s)=true)(h2:(C2 L E s).text=t):D6 L E s t=B2 s:=by
 unfold D6;rw[A3h hok,h1,h2,if_neg (by simp)]
theorem B0o{s:Rd}{k:Int}(hok:okR s=true)(h1:(C2 L E s).kind=k):B4 L E s k=(C2 L E s,B2 s):=by
 unfold B4;rw[A9v hok,if_neg (by grind)]
def adv(s:Rd)(k:Nat)(o:Nat):Rd:={ s with i:=s.i+k,ops:=s.ops+(o:Int) }
theorem A2e{s:Rd}{k o:Nat}(h:okR s=true):okR (adv s k o)=true:=h
theorem X8{n:Int}{e:Ex}{s:Rd}(hok:okR s=true)(hn:1<=n)(h:lvo E (L.drop s.i)≠n):Lop L E n e s (e,s):=by
 refine Lop.stop ?_;rw[V2 hok,A7d];unfold lvo A1j at h;omega
theorem A8p{s s1:Rd}{e:Ex}(hok:okR s1=true):∀ (j:Nat) {m n:Int} {r:Ex × Rd},m-n<=j->Bin L E m s (e,s1)->1<=n->n<m->m<=6->lvo E (L.drop s1.i)<=n->Lop L E n e s1 r->Bin L E n s r
 |0,m,n,r,hj,h,h1,h2,h3,h4,hr=>by omega
 |j+1,m,n,r,hj,h,h1,h2,h3,h4,hr=>by
  by_cases he:n+1=m
  ·exact Bin.go (by omega) (by grind) hr
  ·refine Bin.go (by omega) ?_ hr;exact A8p hok j (m:=m) (n:=n+1) (by omega) h (by omega) (by omega) h3 (by omega) (X8 hok (by omega) (by omega))
theorem B0i{s s1:Rd}{e:Ex}{n:Int}{r:Ex × Rd}(hok:okR s1=true)(h:Un L E s (e,s1))(h1:1<=n)(h2:n<=5)(h4:lvo E (L.drop s1.i)<=n)(hr:Lop L E n e s1 r):Bin L E n s r :=
 A8p hok 6 (m:=6) (by omega) (Bin.un (by simp) h) h1 (by omega) (by omega) h4 hr
theorem C8f{s s1:Rd}{e:Ex}{n:Int}(hok:okR s1=true)(h:Un L E s (e,s1))(h1:1<=n)(h2:n<=5)(h4:lvo E (L.drop s1.i)<n):Bin L E n s (e,s1) :=
 B0i hok h h1 h2 (by omega) (X8 hok h1 (by omega))
theorem B7z{t:Tok}(l:List (List UInt8))(h:S8 t=false):amT t l = -1:=by unfold amT;grind
theorem C1p{s:Rd}{v:Int}{ts:List Tok}(hok:okR s=true)(h:L.drop s.i=⟨3,[],v,0⟩ :: ts)(ho:s.ops+1<=32):Un L E s (.mk 1 v [] [] 0,adv s 1 1):=by
 have hp:=D1 (E:=E) h;have ha:∀ l,C3 L E s l = -1:=fun l=>by rw[V2 hok,hp];exact B7z l rfl
 have h1:=Un.prim (L:=L) (E:=E) (s:=s) (by rw[ha];decide);have h2:J2 L E s=(.mk 1 v [] [] 0,adv s 1 1):=by
  unfold J2;dsimp only;rw[ha,hp,A9v hok,A9v hok,hp,if_neg (by simp),show C9 L E { s with ops:=s.ops+1 } (s.ops+1) 32 9 = { s with ops:=s.ops+1 } from if_neg (by omega),if_neg (by show ¬ okR s=false;rw[hok];decide),if_neg (by decide),if_pos rfl];rfl
 grind
theorem C1o{s:Rd}{n:List UInt8}{ts:List Tok}(hok:okR s=true)(h:L.drop s.i=⟨1,n,0,0⟩ :: ts)(ho:s.ops+1<=32):Un L E s (.mk 2 0 n [] 0,adv s 1 1):=by
 have hp:=D1 (E:=E) h;have ha:∀ l,C3 L E s l = -1:=fun l=>by rw[V2 hok,hp];exact B7z l rfl
 have h1:=Un.prim (L:=L) (E:=E) (s:=s) (by rw[ha];decide);have h2:J2 L E s=(.mk 2 0 n [] 0,adv s 1 1):=by
  unfold J2;dsimp only;rw[ha,hp,A9v hok,A9v hok,hp,if_neg (by simp),show C9 L E { s with ops:=s.ops+1 } (s.ops+1) 32 9 = { s with ops:=s.ops+1 } from if_neg (by omega),if_neg (by show ¬ okR s=false;rw[hok];decide),if_neg (by decide),if_neg (by show ¬ (1:Int)=3;decide)];rfl
 grind
theorem A2l{s:Rd}{w:List UInt8}{ts:List Tok}{j:Nat}(hok:okR s=true)(h:L.drop s.i=A5 w :: ts)(ho:s.ops+1<=32)(hj:j<4)(hi:amT (A5 w) I3=(j:Int))(hpre:amT (A5 w) Q1<0):
  Un L E s (.mk (J9.getD j 0) 0 [] [] 0,adv s 1 1):=by
 have hp:=D1 (E:=E) h;have h1:=Un.prim (L:=L) (E:=E) (s:=s) (by rw[V2 hok,hp];exact hpre);have ha:C3 L E s I3=(j:Int):=by rw[V2 hok,hp];exact hi
 have h2:J2 L E s=(.mk (J9.getD j 0) 0 [] [] 0,adv s 1 1):=by
  unfold J2;dsimp only;rw[ha,hp,if_neg (by omega),show C9 L E { s with ops:=s.ops+1 } (s.ops+1) 32 9 = { s with ops:=s.ops+1 } from if_neg (by omega),if_neg (by show ¬ okR s=false;rw[hok];decide),if_pos (by omega),if_neg (by omega)];rfl
 grind
theorem A5l{s:Rd}{w n:List UInt8}{ts:List Tok}{j:Nat}(hok:okR s=true)(h:L.drop s.i=A5 w :: ⟨1,n,0,0⟩ :: ts)(ho:s.ops+1<=32)(hj4:4<=j)(hj:j<7)(hi:amT (A5 w) I3=(j:Int))(hpre:amT (A5 w) Q1<0):
  Un L E s (.mk (J9.getD j 0) 0 n [] 0,adv s 2 1):=by
 have hp:=D1 (E:=E) h;have hd:=E8 h;have h1:=Un.prim (L:=L) (E:=E) (s:=s) (by rw[V2 hok,hp];exact hpre);have ha:C3 L E s I3=(j:Int):=by rw[V2 hok,hp];exact hi
 have hp2:C2 L E (B2 { s with ops:=s.ops+1 })=⟨1,n,0,0⟩:=D1 hd;have ht:B4 L E (B2 { s with ops:=s.ops+1 }) 1=(⟨1,n,0,0⟩,B2 (B2 { s with ops:=s.ops+1 })):=by
  rw[B0o (show okR (B2 { s with ops:=s.ops+1 })=true from hok) (by rw[hp2]),hp2]
 have h2:J2 L E s=(.mk (J9.getD j 0) 0 n [] 0,adv s 2 1):=by
  unfold J2;dsimp only;rw[ha,hp,if_neg (by omega),show C9 L E { s with ops:=s.ops+1 } (s.ops+1) 32 9 = { s with ops:=s.ops+1 } from if_neg (by omega),if_neg (by show ¬ okR s=false;rw[hok];decide),if_pos (by omega),if_pos (by omega),ht];rfl
 grind
def CE(L:List Tok)(E:Int)(e:Ex):Prop:=∀ o d,msM e=some (o,d)->∀ (s:Rd) (post:List Tok),L.drop s.i=exT e++post->okR s=true->s.ops+(o:Int)<=32->s.par+(d:Int)<=16 ->
 ∃ e',e'.plain=e.plain/\(6<=B5 e.kind->Un L E s (e',adv s (exT e).length o)) /\
  (∀ n,1<=n->n<=5->n<=B5 e.kind->lvo E post<=n->(n=3->lvo E post≠3)->∀ r,Lop L E n e' (adv s (exT e).length o) r->Bin L E n s r)
theorem D2h:amT (A5 [40]) Q1=2:=by rfl
theorem C3q:amT (A5 [45]) Q1=0:=by rfl
theorem C6x:amT (A5 [33]) Q1=1:=by rfl
theorem B7o:A1j (A5 [41])=0:=by rfl
theorem C4m:S8 (A5 [41])=true:=by rfl
theorem A3u{s:Rd}{n m e:Int}(h:n<=m):C9 L E s n m e=s:=if_neg (by omega)
theorem C7e{x:Ex}(hx:CE L E x){o d:Nat}(hm:msM x=some (o,d)){s:Rd}{post:List Tok}(h:L.drop s.i=[A5 [40]]++exT x++[A5 [41]]++post)(hok:okR s=true)(ho:s.ops+(o:Int)<=32)(hp:s.par+((d+1:Nat):Int)<=16):
  ∃ x',x'.plain=x.plain/\Un L E s (x',adv s ([A5 [40]]++exT x++[A5 [41]]).length o):=by
 have h0:L.drop s.i=A5 [40] :: (exT x++([A5 [41]]++post)):=by rw[h];simp
 have h1:=E8 h0;have hpk:=D1 (E:=E) h0;obtain⟨x',e1, -,e3⟩:=hx o d hm { s with i:=s.i+1,par:=s.par+1 } ([A5 [41]]++post) h1 hok ho (by show s.par+1+(d:Int)<=16;omega);have hd2:L.drop (s.i+1+(exT x).length)=A5 [41] :: post:=G1 h1;have hb:=e3 1 (by decide) (by decide) (by have:=T3 x.kind;omega) (by show A1j (A5 [41])<=1;rw[B7o];decide) (fun h=>absurd h (by decide)) _ (X8 (show okR s=true from hok) (by decide) (by show A1j (hd0 E (L.drop (s.i+1+(exT x).length)))≠1;rw[hd2];show A1j (A5 [41])≠1;rw[B7o];decide));have hu:=Un.par (by rw[V2 hok,hpk];exact D2h) (by rw[A3u (by omega)];exact hok) hb;refine⟨x',e1,?_⟩;have hpk2:C2 L E (adv { s with i:=s.i+1,par:=s.par+1 } (exT x).length o)=A5 [41]:=D1 hd2;rw[C7t (show okR (adv { s with i:=s.i+1,par:=s.par+1 } (exT x).length o)=true from hok) (by rw[hpk2];exact C4m) (by rw[hpk2];rfl)]at hu;have e4:({ B2 (adv { s with i:=s.i+1,par:=s.par+1 } (exT x).length o) with par:=(B2 (adv { s with i:=s.i+1,par:=s.par+1 } (exT x).length o)).par-1 }:Rd)=adv s ([A5 [40]]++exT x++[A5 [41]]).length o:=by
  have a1:s.i+1+(exT x).length+1=s.i+([A5 [40]]++exT x++[A5 [41]]).length:=by simp;omega
  have a2:s.par+1-1=s.par:=by omega
  show Rd.mk (s.i+1+(exT x).length+1) s.e s.pos (s.ops+(o:Int)) (s.par+1-1)=Rd.mk (s.i+([A5 [40]]++exT x++[A5 [41]]).length) s.e s.pos (s.ops+(o:Int)) s.par;rw[a1,a2]
 grind
theorem B1a{x:Ex}(hx:CE L E x){o d:Nat}{least:Int}(hm:msM x=some (o,d)){s:Rd}{post:List Tok}(h:L.drop s.i=E1 (x.kind,exT x) least++post)(hok:okR s=true)(ho:s.ops+(o:Int)<=32)(hp:s.par+((if B5 x.kind<least then d+1 else d:Nat):Int)<=16)(h1:1<=least)(h6:least<=6)(hl:lvo E post<least):
  ∃ x',x'.plain=x.plain/\(least<=5->Bin L E least s (x',adv s (E1 (x.kind,exT x) least).length o))/\(least=6->Un L E s (x',adv s (E1 (x.kind,exT x) least).length o)):=by
 have hdp:=G1 h;unfold E1 at h hdp ⊢;dsimp only at h hdp ⊢;by_cases hlt:B5 x.kind<least
 ·rw[if_pos hlt]at h hp hdp ⊢;obtain⟨x',e1,e2⟩:=C7e hx hm h hok ho hp;exact⟨x',e1,fun h5=>C8f (A2e hok) e2 h1 h5 (by show lvo E (L.drop (s.i+_))<least;grind),fun _=>e2⟩
 ·rw[if_neg hlt]at h hp hdp ⊢;obtain⟨x',e1,e2,e3⟩:=hx o d hm s post h hok ho hp;refine⟨x',e1,fun h5=>?_,fun h=>e2 (by omega)⟩;refine e3 least h1 h5 (by omega) (by omega) (by omega) _ (X8 (A2e hok) h1 ?_);show lvo E (L.drop (s.i+_))≠least
  grind
theorem C5t{x:Ex}(hx:CE L E x){o d:Nat}{q:Int}(hm:msM x=some (o,d)){s:Rd}{post:List Tok}(h:L.drop s.i=E1 (x.kind,exT x) (if q=3 then 4 else q)++post)(hok:okR s=true)(ho:s.ops+(o:Int)<=32)(hp:s.par+((if B5 x.kind<(if q=3 then 4 else q) then d+1 else d:Nat):Int)<=16)(h1:1<=q)(h5:q<=5)(hl:lvo E post=q):
  ∃ x',x'.plain=x.plain/\∀ r,Lop L E q x' (adv s (E1 (x.kind,exT x) (if q=3 then 4 else q)).length o) r->Bin L E q s r:=by
 have hdp:=G1 h;by_cases h3:q=3
 ·subst h3;rw[if_pos rfl]at h hp hdp ⊢;obtain⟨x',e1,e2, -⟩:=B1a hx hm h hok ho hp (by simp) (by simp) (by omega);exact⟨x',e1,fun r hr=>Bin.go (by simp) (e2 (by simp)) hr⟩
 ·rw[if_neg h3]at h hp hdp ⊢;unfold E1 at h hdp ⊢;dsimp only at h hdp ⊢;by_cases hlt:B5 x.kind<q
  ·rw[if_pos hlt]at h hp hdp ⊢;obtain⟨x',e1,e2⟩:=C7e hx hm h hok ho hp;exact⟨x',e1,fun r hr=>B0i (A2e hok) e2 h1 h5 (by show lvo E (L.drop (s.i+_))<=q;grind) hr⟩
  ·rw[if_neg hlt]at h hp hdp ⊢;obtain⟨x',e1,e2,e3⟩:=hx o d hm s post h hok ho hp
   grind
theorem B5d{k v:Int}{n:List UInt8}{a:List Ex}{p:Int}{o d:Nat}(h:msM (.mk k v n a p)=some (o,d)):
  kOk k=true/\a.length=I0 k/\A0j k n=true/\A1q k v=true/\(I0 k=0->o=1/\d=0)/\(I0 k≠0->∃ d',msL k 0 a=some (o,d')/\d=if I0 k=1 then d'+1 else d'):=by
 unfold msM at h
 grind
theorem C0q:∀ j:Nat,j<13->amT (A5 (D3.getD j [])) D3=(j:Int)/\S8 (A5 (D3.getD j []))=true:=by trivial
theorem nm0{k:Int}{n:List UInt8}(h:A0j k n=true)(h2:k≠2)(h5:A0k k=false):n=[]:=by
 unfold A0j at h
 grind
theorem vl0{k v:Int}(h:A1q k v=true)(h1:k≠1):v=0:=by
 unfold A1q at h
 grind
theorem B7r{α : Type}{l:List α}(h:l.length=2):∃ x y,l=[x,y]:=by
 match l,h with
 |[x,y],_=>simp
theorem B3j:∀ (m:Nat) (e:Ex),e.sz<m->CE L E e:=by
 intro m
 induction m with
 |zero=>omega
 |succ m ih =>
 intro e hm o d hms s post h hok ho hp;cases e with|mk k v n a p =>
 obtain⟨h1,h2,h3,h4,h5,h6⟩:=B5d hms;have hlr:=T3 k
 have viaUn:∀ e':Ex,e'.plain=(Ex.mk k v n a p).plain->Un L E s (e',adv s (exT (.mk k v n a p)).length o) ->
   ∃ e',e'.plain=(Ex.mk k v n a p).plain/\(6<=B5 k->Un L E s (e',adv s (exT (.mk k v n a p)).length o)) /\
    (∀ n',1<=n'->n'<=5->n'<=B5 k->lvo E post<=n'->(n'=3->lvo E post≠3)->∀ r,Lop L E n' e' (adv s (exT (.mk k v n a p)).length o) r->Bin L E n' s r):=fun e' he hu =>
  ⟨e',he,fun _=>hu,fun n' q1 q2 _ q4 _ r hr=>B0i (A2e hok) hu q1 q2 (by show lvo E (L.drop (s.i+_))<=n';rw[G1 h];omega) hr⟩
 by_cases hc0:I0 k=0
 ·obtain⟨rfl,rfl⟩:=h5 hc0;have ha:a=[]:=A1K (by omega);subst ha;have hl7:B5 k=7:=by
   unfold I0 at hc0
   grind
  have hk9:1<=k/\k<=9:=by
   unfold kOk at h1;simp only[A1C,A0D,A0F]at h1;have hk24:1<=k/\k<=24:=by omega
   refine⟨hk24.1,?_⟩;apply Classical.byContradiction;intro hc;unfold B5 at hl7;omega
  refine (show ∃ e',_ from ?_);have hT:exT (.mk k v n [] p)=F1 k v n []:=by rfl
  rw[hT]at h viaUn ⊢;have ho1:s.ops+1<=32:=ho;have:k=1\/k=2\/k=3\/k=4\/k=5\/k=6\/k=7\/k=8\/k=9:=by omega
  rcases this with rfl|rfl|rfl|rfl|rfl|rfl|rfl|rfl|rfl
  ·have hn:=nm0 h3 (by simp) (by rfl);subst hn;have hv:¬ (v<0\/2147483647<v):=by
    unfold A1q at h4
    grind
   have hb:F1 1 v [] []=[⟨3,[],v,0⟩]:=by unfold F1;dsimp only;rw[if_pos rfl];unfold N9;grind
   rw[hb]at h viaUn ⊢;exact viaUn (.mk 1 v [] [] 0) rfl (C1p hok h ho1)
  ·have hv:=vl0 h4 (by simp);subst hv;have hn:C4 n=true:=h3;have hb:F1 2 0 n []=[⟨1,n,0,0⟩]:=by unfold F1;dsimp only;rw[if_neg (by decide),if_pos rfl];unfold C8;grind
   rw[hb]at h viaUn ⊢;exact viaUn (.mk 2 0 n [] 0) rfl (C1o hok h ho1)
  ·have hv:=vl0 h4 (by simp);have hn:=nm0 h3 (by simp) (by rfl);subst hv hn;have hb:F1 3 0 [] []=[A5 [116,114,117,101]]:=rfl;rw[hb]at h viaUn ⊢;exact viaUn (.mk 3 0 [] [] 0) rfl (A2l (j:=0) hok h ho1 (by simp) (by rfl) (by trivial))
  ·have hv:=vl0 h4 (by simp);have hn:=nm0 h3 (by simp) (by rfl);subst hv hn;have hb:F1 4 0 [] []=[A5 [102,97,108,115,101]]:=rfl;rw[hb]at h viaUn ⊢;exact viaUn (.mk 4 0 [] [] 0) rfl (A2l (j:=1) hok h ho1 (by simp) (by rfl) (by trivial))
  ·have hv:=vl0 h4 (by simp);subst hv;have hn:C4 n=true:=h3;have hb:F1 5 0 n []=[A5 [99,108,111,115,101,100],⟨1,n,0,0⟩]:=by
    show [A5 [99,108,111,115,101,100]]++C8 n=_;unfold C8;grind
   rw[hb]at h viaUn ⊢;exact viaUn (.mk 5 0 n [] 0) rfl (A5l (j:=4) hok h ho1 (by simp) (by simp) (by rfl) (by trivial))
  ·have hv:=vl0 h4 (by simp);subst hv;have hn:C4 n=true:=h3;have hb:F1 6 0 n []=[A5 [97,99,116,105,118,101],⟨1,n,0,0⟩]:=by
    show [A5 [97,99,116,105,118,101]]++C8 n=_;unfold C8;grind
   rw[hb]at h viaUn ⊢;exact viaUn (.mk 6 0 n [] 0) rfl (A5l (j:=5) hok h ho1 (by simp) (by simp) (by rfl) (by trivial))
  ·have hv:=vl0 h4 (by simp);subst hv;have hn:C4 n=true:=h3;have hb:F1 7 0 n []=[A5 [108,101,102,116],⟨1,n,0,0⟩]:=by
    show [A5 [108,101,102,116]]++C8 n=_;unfold C8;grind
   rw[hb]at h viaUn ⊢;exact viaUn (.mk 7 0 n [] 0) rfl (A5l (j:=6) hok h ho1 (by simp) (by simp) (by rfl) (by trivial))
  ·have hv:=vl0 h4 (by simp);have hn:=nm0 h3 (by simp) (by rfl);subst hv hn;have hb:F1 8 0 [] []=[A5 [112,108,97,121,101,114]]:=rfl;rw[hb]at h viaUn ⊢;exact viaUn (.mk 8 0 [] [] 0) rfl (A2l (j:=2) hok h ho1 (by simp) (by rfl) (by trivial))
  ·have hv:=vl0 h4 (by simp);have hn:=nm0 h3 (by simp) (by rfl);subst hv hn;have hb:F1 9 0 [] []=[A5 [98,97,108,108]]:=rfl;rw[hb]at h viaUn ⊢;exact viaUn (.mk 9 0 [] [] 0) rfl (A2l (j:=3) hok h ho1 (by simp) (by rfl) (by trivial))
 obtain⟨d',hl,hd'⟩:=h6 hc0;clear h5 h6;have hv:=vl0 h4 (by rintro rfl;trivial);have hn:=nm0 h3 (by rintro rfl;trivial) (by
  cases hz:A0k k with
  |false=>rfl
  |true =>
   unfold A0k at hz;simp only[A1C,A1I]at hz;rcases hz with rfl|rfl|rfl<;>exact absurd rfl hc0)
 subst hv hn;by_cases hl6:B5 k=6
 ·
  have hk:k=10\/k=11:=by
   unfold B5 at hl6;omega
  have hc1:I0 k=1:=by unfold I0;grind
  rw[hc1]at h2 hd';rw[if_pos rfl]at hd';obtain⟨x,rfl⟩:∃ x,a=[x]:=A2C.1 h2;have hxc:=ih x (by rw[Ex.sz,Ex.szs,Ex.szs]at hm;omega);unfold msL at hl;cases hx:msM x with
  |none=>grind
  |some q =>
   obtain⟨o1,d1⟩:=q;rw[hx]at hl;dsimp only at hl;unfold msL at hl;dsimp only at hl;simp only[Option.some.injEq,Prod.mk.injEq,A2V,Nat.max_zero]at hl;obtain⟨rfl,hd1⟩:=hl;have hwr:P2 k x.kind 0=decide (B5 x.kind<6):=by
    unfold P2;rw[hl6];simp
   rw[hwr]at hd1;have hT:exT (.mk k 0 [] [x] p)=[A5 (if k=10 then [45] else [33])]++E1 (x.kind,exT x) 6:=by
    rw[exT,A8j,A8j];rcases hk with rfl|rfl<;>rfl
   rw[hT]at h viaUn ⊢;have h0:L.drop s.i=A5 (if k=10 then [45] else [33]) :: (E1 (x.kind,exT x) 6++post):=by rw[h];simp
   have hdn:=E8 h0;have hpk:=D1 (E:=E) h0;have ham:C3 L E s Q1=k-10:=by
    rw[V2 hok,hpk];rcases hk with rfl|rfl
    ·exact C3q
    ·exact C6x
   have hlt6:lvo E post<6:=by
    unfold lvo A1j;split
    ·decide
    ·rename_i hz;have:=T3 (12+amT (hd0 E post) D3);have h13:amT (hd0 E post) D3<13:=by
      have gen:∀ (l:List (List UInt8)) (j:Nat) (w:List UInt8),ixA j l w<((j+l.length:Nat):Int):=by
       intro l
       induction l with
       |nil=>intro j w;simp[ixA];omega
       |cons a l ih =>
        intro j w;have:=ih (j+1) w;simp only[ixA,A0I];split<;>omega
      unfold amT;split
      ·exact gen D3 0 _
      ·decide
     exact C5s (by omega) h13
   obtain⟨x',e1, -,e3⟩:=B1a (least:=6) hxc hx (s:={ s with i:=s.i+1,par:=s.par+1 }) hdn hok ho (by
    show s.par+1+_<=16;have:((if B5 x.kind<6 then d1+1 else d1:Nat):Int)=(d':Int):=by
     rw[<- hd1];by_cases hz:B5 x.kind<6
     ·rw[if_pos hz,if_pos (by simpa using hz)]
     ·rw[if_neg hz,if_neg (by simpa using hz)]
    rw[this];omega) (by decide) (by decide) hlt6
   have hu:=Un.pre (L:=L) (E:=E) (s:=s) (by rw[ham];omega) (by rw[ham];omega) (by rw[A3u (by omega)];exact hok) (e3 rfl);rw[ham,hpk]at hu;have e4:({ adv { s with i:=s.i+1,par:=s.par+1 } (E1 (x.kind,exT x) 6).length o1 with par:=(adv { s with i:=s.i+1,par:=s.par+1 } (E1 (x.kind,exT x) 6).length o1).par-1 }:Rd)=adv s ([A5 (if k=10 then [45] else [33])]++E1 (x.kind,exT x) 6).length o1:=by
    have a1:s.i+1+(E1 (x.kind,exT x) 6).length=s.i+([A5 (if k=10 then [45] else [33])]++E1 (x.kind,exT x) 6).length:=by simp;omega
    have a2:s.par+1-1=s.par:=by omega
    show Rd.mk (s.i+1+(E1 (x.kind,exT x) 6).length) s.e s.pos (s.ops+(o1:Int)) (s.par+1-1)=Rd.mk (s.i+_) s.e s.pos (s.ops+(o1:Int)) s.par;rw[a1,a2]
   rw[e4]at hu;refine viaUn _ ?_ hu;rw[Ex.plain,Ex.plain,Ex.plains,Ex.plains,Ex.plains,Ex.plains,e1]
   grind
 ·
  have hl5:B5 k<=5:=by
   unfold I0 at hc0
   grind
  have hc2:I0 k=2:=by unfold I0;grind
  rw[hc2]at h2 hd';rw[if_neg (by simp)]at hd';subst hd';obtain⟨x,y,rfl⟩:∃ x y,a=[x,y]:=B7r h2;have hxc:=ih x (by rw[Ex.sz,Ex.szs,Ex.szs]at hm;omega);have hyc:=ih y (by rw[Ex.sz,Ex.szs,Ex.szs,Ex.szs]at hm;omega);unfold msL at hl;cases hx:msM x with
  |none=>grind
  |some q =>
   obtain⟨o1,d1⟩:=q;rw[hx]at hl;dsimp only at hl;unfold msL at hl;cases hy:msM y with
   |none=>grind
   |some q2 =>
    obtain⟨o2,d2⟩:=q2;rw[hy]at hl;dsimp only at hl;unfold msL at hl;dsimp only at hl;simp only[Option.some.injEq,Prod.mk.injEq,A2V,Nat.max_zero]at hl;obtain⟨rfl,hdd⟩:=hl;have hlk:=B1e (k:=k) (by omega);have hk12:12<=k:=by
     apply Classical.byContradiction;intro hc;have:k=10\/k=11:=by omega
     exact hl6 (Z1 this)
    obtain⟨j,hj⟩:∃ j:Nat,k=12+(j:Int):=⟨(k-12).toNat,by omega⟩;have hj13:j<13:=by omega
    have hjn:(k-12).toNat=j:=by omega
    obtain⟨hs1,hs2⟩:=C0q j hj13;have hT:exT (.mk k 0 [] [x,y] p)=E1 (x.kind,exT x) (if B5 k=3 then 4 else B5 k)++[A5 (D3.getD j [])]++E1 (y.kind,exT y) (B5 k+1):=by
     rw[exT,A8j,A8j,A8j];unfold F1
     grind
    rw[hT]at h ⊢;generalize A5 (D3.getD j [])=sg at hs1 hs2 hT h ⊢;have hsl:A1j sg=B5 k:=by unfold A1j;grind
    have hdx:((if B5 x.kind<(if B5 k=3 then 4 else B5 k) then d1+1 else d1:Nat):Int)<=(d:Int):=by
     have hwr:(P2 k x.kind 0=true)↔B5 x.kind<(if B5 k=3 then 4 else B5 k):=by
      unfold P2;simp only[A1C,A0D,A0F,A1I];by_cases h3:B5 k=3
      ·rw[if_pos h3];omega
      ·rw[if_neg h3];omega
     grind
    have hdy:((if B5 y.kind<B5 k+1 then d2+1 else d2:Nat):Int)<=(d:Int):=by
     have hwr:(P2 k y.kind (0+1)=true)↔B5 y.kind<B5 k+1:=by
      unfold P2;rw[show ((0+1:Nat) == 1)=true from rfl,Bool.true_or,A1X];simp only[A1C,A0F,A1I];omega
     grind
    have h0:L.drop s.i=E1 (x.kind,exT x) (if B5 k=3 then 4 else B5 k)++(sg :: (E1 (y.kind,exT y) (B5 k+1)++post)):=by grind
    obtain⟨x',e1,e2⟩:=C5t hxc hx h0 hok (by omega) (by omega) hlr.1 hl5 (by assumption);have hd1:=G1 h0;have hpk:C2 L E (adv s (E1 (x.kind,exT x) (if B5 k=3 then 4 else B5 k)).length o1)=sg:=D1 hd1;have hd2:=E8 (s:=adv s (E1 (x.kind,exT x) (if B5 k=3 then 4 else B5 k)).length o1) hd1;have ham:C3 L E (adv s (E1 (x.kind,exT x) (if B5 k=3 then 4 else B5 k)).length o1) D3=(j:Int):=by rw[V2 (A2e hok),hpk];omega
    have hfin:s.i+(E1 (x.kind,exT x) (if B5 k=3 then 4 else B5 k)).length+1+(E1 (y.kind,exT y) (B5 k+1)).length=s.i+(E1 (x.kind,exT x) (if B5 k=3 then 4 else B5 k)++[sg]++E1 (y.kind,exT y) (B5 k+1)).length:=by grind
    have hadv:adv (B2 (adv s (E1 (x.kind,exT x) (if B5 k=3 then 4 else B5 k)).length o1)) (E1 (y.kind,exT y) (B5 k+1)).length o2=adv s (E1 (x.kind,exT x) (if B5 k=3 then 4 else B5 k)++[sg]++E1 (y.kind,exT y) (B5 k+1)).length (o1+o2):=by
     have a2:s.ops+(o1:Int)+(o2:Int)=s.ops+((o1+o2:Nat):Int):=by omega
     show Rd.mk (s.i+_+1+_) s.e s.pos (s.ops+(o1:Int)+(o2:Int)) s.par=Rd.mk (s.i+_) s.e s.pos (s.ops+((o1+o2:Nat):Int)) s.par
     grind
    have hdr:=G1 h;have main:lvo E post<=B5 k->∃ y',y'.plain=y.plain/\Bin L E (B5 k+1) (B2 (adv s (E1 (x.kind,exT x) (if B5 k=3 then 4 else B5 k)).length o1)) (y',adv s (E1 (x.kind,exT x) (if B5 k=3 then 4 else B5 k)++[sg]++E1 (y.kind,exT y) (B5 k+1)).length (o1+o2)):=by
     intro hlv;obtain⟨y',f1,f2,f3⟩:=B1a (least:=B5 k+1) hyc hy (s:=B2 (adv s (E1 (x.kind,exT x) (if B5 k=3 then 4 else B5 k)).length o1)) hd2 hok (by show s.ops+(o1:Int)+(o2:Int)<=32;omega) (by show s.par+_<=16;omega) (by omega) (by omega) (by omega);rw[hadv]at f2 f3;refine⟨y',f1,?_⟩;by_cases h5':B5 k+1<=5
     ·grind
     ·exact Bin.un (by omega) (f3 (by omega))
    by_cases hlv:lvo E post<=B5 k
    ·obtain⟨y',f1,f2⟩:=main hlv;refine⟨.mk k 0 [] [x',y'] sg.pos,?_,fun h=>absurd h (by show ¬ 6<=B5 k;omega),?_⟩
     ·rw[Ex.plain,Ex.plain,Ex.plains,Ex.plains,Ex.plains,Ex.plains,Ex.plains,Ex.plains,e1,f1]
     ·intro n' q1 q2 q3 q4 q5 r hr;have q3:n'<=B5 k:=q3;have key:∀ r',Lop L E (B5 k) (.mk k 0 [] [x',y'] sg.pos) (adv s (E1 (x.kind,exT x) (if B5 k=3 then 4 else B5 k)++[sg]++E1 (y.kind,exT y) (B5 k+1)).length (o1+o2)) r'->(B5 k=3->lvo E post≠3)->Bin L E (B5 k) s r':=by
       intro r' hr' h33;refine e2 r' ?_;by_cases h3:B5 k=3
       ·have hst:=X8 (L:=L) (E:=E) (n:=B5 k) (e:=.mk k 0 [] [x',y'] sg.pos) (s:=adv s (E1 (x.kind,exT x) (if B5 k=3 then 4 else B5 k)++[sg]++E1 (y.kind,exT y) (B5 k+1)).length (o1+o2)) (A2e hok) hlr.1 (by show lvo E (L.drop (s.i+_))≠B5 k;rw[hdr,h3];exact h33 h3);have:=Evt.uniq hr' hst;rw[this];have ht:=Lop.three (L:=L) (E:=E) (n:=B5 k) (e:=x') (x:=y') (s:=adv s (E1 (x.kind,exT x) (if B5 k=3 then 4 else B5 k)).length o1) (by rw[ham];omega) (by rw[ham, <- hj]) h3 f2
        grind
       ·refine Lop.more (by rw[ham];omega) (by rw[ham, <- hj]) h3 f2 ?_
        grind
      by_cases hnq:n'=B5 k
      ·simp_all
      ·refine A8p (A2e hok) 6 (m:=B5 k) (by omega) (key _ (X8 (A2e hok) hlr.1 ?_) (by omega)) q1 (by omega) (by omega) ?_ hr
       ·show lvo E (L.drop (s.i+_))≠B5 k
        grind
       ·show lvo E (L.drop (s.i+_))<=n'
        grind
    ·refine⟨.mk k 0 [] [x,y] p,rfl,fun h=>absurd h (by show ¬ 6<=B5 k;omega),?_⟩;intro n' q1 q2 q3 q4 q5 r hr;have q3:n'<=B5 k:=q3;omega
theorem K5{e:Ex}(hv:V5 e=true){s:Rd}{post:List Tok}(h:L.drop s.i=exT e++post)(hok:okR s=true)(hl:lvo E post=0):
  ∃ e' s',e'.plain=e.plain/\Xpn L E s (e',s')/\s'.i=s.i+(exT e).length/\okR s'=true:=by
 unfold V5 at hv;cases hms:msM e with
 |none=>grind
 |some q =>
  obtain⟨o,d⟩:=q;rw[hms]at hv;simp only[A0D,A0F]at hv;obtain⟨e',e1, -,e3⟩:=B3j (L:=L) (E:=E) (e.sz+1) e (by omega) o d hms { s with ops:=0,par:=0 } post h hok (by grind) (by grind);refine⟨e',adv { s with ops:=0,par:=0 } (exT e).length o,e1,?_,rfl,hok⟩;refine e3 1 (by simp) (by simp) (T3 _).1 (by omega) (fun h=>absurd h (by simp)) _ (X8 (show okR s=true from hok) (by simp) ?_);show lvo E (L.drop (s.i+_))≠1;rw[G1 h];omega
end
section
variable {L:List Tok} {E:Int}
theorem R9{s:Rd}{w:List UInt8}{ts:List Tok}(h:L.drop s.i=A5 w :: ts)(hok:okR s=true)(hs:S8 (A5 w)=true):D6 L E s w=B2 s :=
 C7t hok (by rw[D1 h];omega) (by rw[D1 h];rfl)
theorem A3n{s:Rd}{n:List UInt8}{ts:List Tok}(h:L.drop s.i=C8 n++ts)(hok:okR s=true)(hn:C4 n=true):B4 L E s 1=(⟨1,n,0,0⟩,B2 s):=by
 have h0:L.drop s.i=⟨1,n,0,0⟩ :: ts:=by rw[h];unfold C8;grind
 rw[B0o hok (by rw[D1 h0]),D1 h0]
theorem B0m{s:Rd}{v:Int}{ts:List Tok}(h:L.drop s.i=N9 v++ts)(hok:okR s=true)(h0:0<=v)(h1:v<=2147483647):B4 L E s 3=(⟨3,[],v,0⟩,B2 s):=by
 have h2:L.drop s.i=⟨3,[],v,0⟩ :: ts:=by rw[h];unfold N9;grind
 rw[B0o hok (by rw[D1 h2]),D1 h2]
theorem C3z{s:Rd}{t:List UInt8}{ts:List Tok}(h:L.drop s.i=Q6 t++ts)(hok:okR s=true)(ht:P1 t=true):B4 L E s 4=(⟨4,t,0,0⟩,B2 s):=by
 unfold P1 at ht;simp only[A0D,A0F]at ht;have h0:L.drop s.i=⟨4,t,0,0⟩ :: ts:=by rw[h];unfold Q6;grind
 rw[B0o hok (by rw[D1 h0]),D1 h0]
theorem Y1{s:Rd}{a ts:List Tok}(h:L.drop s.i=a++ts)(ha:a.length=1):L.drop (s.i+1)=ts:=by
 rw[<- ha];exact G1 h
def C6k(E:Int)(ts:List Tok):Bool:=S8 (hd0 E ts) && (hd0 E ts).text == [101,108,115,101]
theorem B4f:∀ j:Nat,j<18->amT (A5 (B8.getD j [])) B8=(j:Int)/\S8 (A5 (B8.getD j []))=true/\(A5 (B8.getD j [])).text≠[125]/\(A5 (B8.getD j [])).text≠[101,108,115,101]:=by trivial
theorem w61:S8 (A5 [61])=true:=by rfl
theorem w59:S8 (A5 [59])=true/\A1j (A5 [59])=0:=by trivial
theorem w44:S8 (A5 [44])=true/\A1j (A5 [44])=0:=by trivial
theorem w123:S8 (A5 [123])=true/\A1j (A5 [123])=0/\(A5 [123]).text≠[105,102]:=by trivial
theorem w125:S8 (A5 [125])=true/\(A5 [125]).text≠[101,108,115,101]:=by trivial
theorem C8d:S8 (A5 [101,108,115,101])=true:=by rfl
def HdS(t:Tok):Prop:=t.kind=1\/∃ j,j<18/\t=A5 (B8.getD j [])
theorem HdS.facts{t:Tok}(h:HdS t):(S8 t && t.text == [125])=false/\(S8 t && t.text == [101,108,115,101])=false/\(0<=amT t B8\/t.kind=1):=by
 rcases h with h|⟨j,hj,rfl⟩
 ·have:S8 t=false:=by unfold S8;rw[h];rfl
  grind
 ·obtain⟨h1,h2,h3,h4⟩:=B4f j hj
  grind
theorem B9v{d:Nat}{k p:Int}{n t:List UInt8}{a:List Ex}{x y:List St}(h:Q3 d (.mk k n t a x y p)=true):
  (1<=k/\k<=19)/\(a.length=(G4 k).args/\a.all V5=true)/\((if (G4 k).name=true then C4 n else n == [])=true/\(if (G4 k).text=true then P1 t else t == [])=true) /\
   (((G4 k).thn=true\/x=[])/\((G4 k).els=true\/y=[]))/\O8 x (d+1)=true/\O8 y (d+1)=true:=by
 unfold Q3 at h;simp only[A0D,A0F,A1I,A1C,List.isEmpty_iff]at h;obtain⟨⟨⟨⟨⟨h1,h2⟩,h3,h4⟩,h5,h6⟩,h7,h8⟩,h9,h10⟩:=h;refine⟨⟨h1,h2⟩,⟨h3,h4⟩,⟨h5,h6⟩,⟨h7,h8⟩,?_,?_⟩
 ·unfold O8
  grind
 ·unfold O8
  grind
theorem B6o{d:Nat}{x:St}(h:Q3 d x=true):∃ t ts,stT x=t :: ts/\HdS t:=by
 cases x with|mk k n t a x y p =>
 obtain⟨⟨k1,k2⟩, -,⟨hn, -⟩, -⟩:=B9v h;unfold stT;by_cases h1:k=1
 ·subst h1;rw[if_pos rfl];have hn:C4 n=true:=hn;refine⟨⟨1,n,0,0⟩,[A5 [61]]++agT a 0++[A5 [59]],?_,.inl rfl⟩;unfold C8;grind
 rw[if_neg h1,if_neg (by omega)];dsimp only;have hw:HdS (A5 (B8.getD (k-2).toNat [])):=.inr ⟨(k-2).toNat,by omega,rfl⟩;generalize A5 (B8.getD (k-2).toNat [])=w at hw;by_cases h23:k=2\/k=3
 ·rw[if_pos h23]
  match y with
  |[]=>simp_all
  |[q] =>
   dsimp only;split
   ·exact⟨w,_,rfl,hw⟩
   simp_all
  |q :: q2 :: l=>simp_all
 rw[if_neg h23];repeat' split
 all_goals exact⟨w,_,rfl,hw⟩
def CSt(L:List Tok)(E:Int)(x:St):Prop:=∀ (d:Nat) (s:Rd) (post:List Tok),Q3 d x=true->d<=8->L.drop s.i=stT x++post->okR s=true->C6k E post=false ->
 ∃ x' s',x'.plain=x.plain/\S4 L E d s (x',s')/\s'.i=s.i+(stT x).length/\okR s'=true
theorem A3l:∀ (l:List St),(∀ x∈l,CSt L E x)->∀ (acc:List St) (d:Nat) (s:Rd) (post:List Tok),K8 d l=true->acc.length+l.length<=64->(l=[]\/d<=8)->L.drop s.i=L6 l++([A5 [125]]++post)->okR s=true ->
  ∃ l' s',St.plains l'=St.plains l/\A0d L E d acc s (acc++l',s')/\s'.i=s.i+(L6 l).length+1/\okR s'=true
 |[],_,acc,d,s,post,hv,hl,hd,h,hok=>by
  have h0:L.drop s.i=A5 [125] :: post:=by trivial
  have hi:isR L E s [125]=true:=by rw[A3h hok,D1 h0,w125.1];rfl
  have hb:=A0d.stop (L:=L) (E:=E) (d:=d) (l:=acc) (s:=s) (by grind);rw[R9 h0 hok w125.1]at hb;exact⟨[],B2 s,rfl,by grind,rfl,hok⟩
 |x :: l,hx,acc,d,s,post,hv,hl,hd,h,hok=>by
  rw[K8,A0D]at hv;have hd8:d<=8:=hd.resolve_left (by simp);obtain⟨t,ts,e1,e2⟩:=B6o hv.1;obtain⟨f1,f2,f3⟩:=e2.facts;have h0:L.drop s.i=stT x++(L6 l++([A5 [125]]++post)):=by rw[h,L6,A0T]
  have hp:C2 L E s=t:=D1 (ts:=ts++(L6 l++([A5 [125]]++post))) (by grind);have hels:C6k E (L6 l++([A5 [125]]++post))=false:=by
   unfold C6k;cases l with
   |nil =>
    rfl
   |cons y l =>
    have hv2:=hv.2;rw[K8,A0D]at hv2;obtain⟨u,us,g1,g2⟩:=B6o hv2.1;rw[L6,g1];exact g2.facts.2.1
  obtain⟨x',s1,p1,p2,p3,p4⟩:=hx x A0K d s _ hv.1 hd8 h0 hok hels;have hdr:L.drop s1.i=L6 l++([A5 [125]]++post):=by rw[p3];exact G1 h0
  obtain⟨l',s',q1,q2,q3,q4⟩:=A3l l (fun y hy=>hx y (A0H _ hy)) (acc++[x']) d s1 post hv.2 (by grind) (.inr hd8) hdr p4;refine⟨x' :: l',s',by rw[St.plains,St.plains,p1,q1],?_,by rw[q3,p3,L6,A0A];omega,q4⟩;refine A0d.more (s1:=s1) (x:=x') ⟨hok,by rw[A3h hok,hp];omega⟩ ?_ ?_ (by grind)
  ·rintro⟨g1,g2⟩;rw[V2 hok,hp]at g1;rw[A9v hok,hp]at g2
   grind
  ·rw[A3u (by simp only[A0I]at hl;omega)];omega
theorem S2{l:List St}(hx:∀ x∈l,CSt L E x){d:Nat}{s:Rd}{post:List Tok}(hv:O8 l d=true)(h:L.drop s.i=blT l++post)(hok:okR s=true):
  ∃ l' s',St.plains l'=St.plains l/\A6r L E d s (l',s')/\s'.i=s.i+(blT l).length/\okR s'=true:=by
 unfold O8 at hv;simp only[A0D,A0F,A1C,List.isEmpty_iff]at hv;have h0:L.drop s.i=A5 [123] :: (L6 l++([A5 [125]]++post)):=by rw[h];unfold blT;simp
 have he:=R9 (E:=E) h0 hok w123.1;obtain⟨l',s',q1,q2,q3,q4⟩:=A3l l hx [] d (B2 s) post hv.2 (by grind) hv.1.2 (E8 h0) hok;refine⟨l',s',q1,A6r.mk (by grind),?_,q4⟩;rw[q3];unfold blT;simp only[A0A,A0G];show s.i+1+_+1=_;omega
theorem A5d{a:List Ex}(h:a.length=1)(hv:a.all V5=true):∃ e,a=[e]/\V5 e=true:=by
 obtain⟨e,rfl⟩:=A2C.1 h
 grind
theorem ag0(e:Ex)(l:List Ex):agT (e :: l) 0=exT e:=rfl
theorem ag1(e e2:Ex)(l:List Ex):agT (e :: e2 :: l) 1=exT e2:=rfl
theorem B8i{k:Int}(h1:k≠1)(h2:k≠2)(h3:k≠3)(h4:k≠4)(h8:k≠8)(h9:k≠9)(h10:k≠10)(h18:k≠18)(h19:k≠19):G4 k=⟨true,false,0,false,false⟩:=by
 unfold G4
 grind
def B6x:List St->List Tok
 |[]=>[]
 |[q]=>if q.kind=2 then [A5 [101,108,115,101]]++stT q else [A5 [101,108,115,101]]++blT [q]
 |q :: q2 :: r=>[A5 [101,108,115,101]]++blT (q :: q2 :: r)
theorem B2d:∀ (m:Nat) (x:St),x.sz<m->CSt L E x:=by
 intro m
 induction m with
 |zero=>omega
 |succ m ih =>
 intro x hm d s post hv hd h hok hels;cases x with|mk k n t a x y p =>
 obtain⟨⟨k1,k2⟩,⟨ha,hav⟩,⟨hn,ht⟩,⟨hx,hy⟩,hbx,hby⟩:=B9v hv;have hcx:∀ q∈x,CSt L E q:=fun q hq=>ih q (by rw[St.sz]at hm;have:=St.szs_mem hq;omega);have hcy:∀ q∈y,CSt L E q:=fun q hq=>ih q (by rw[St.sz]at hm;have:=St.szs_mem hq;omega);have hlim:okR (C9 L E s (d:Int) 8 50)=true:=by rw[A3u (by omega)];omega
 have hcast:((d+1:Nat):Int)=(d:Int)+1:=by rfl
 by_cases hk1:k=1
 ·
  subst hk1;have hn:C4 n=true:=hn;have ht:t=[]:=by have h':(t == [])=true:=ht;grind
  have hx:x=[]:=hx.resolve_left (by decide);have hy:y=[]:=hy.resolve_left (by decide);subst ht hx hy;obtain⟨e,rfl,he⟩:=A5d ha hav;have hT:stT (.mk 1 n [] [e] [] [] p)=C8 n++[A5 [61]]++exT e++[A5 [59]]:=by rfl
  rw[hT]at h ⊢;have h0:L.drop s.i=C8 n++(A5 [61] :: (exT e++(A5 [59] :: post))):=by grind
  have h1:=Y1 h0 (A4 n);have hpk:C2 L E s=⟨1,n,0,0⟩:=D1 (ts:=A5 [61] :: (exT e++(A5 [59] :: post))) (by rw[h0];unfold C8;grind);have htk:=A3n (E:=E) h0 hok hn;have h2:=E8 (s:=B2 s) h1;have he1:=R9 (E:=E) (s:=B2 s) h1 hok w61;obtain⟨e',s1,p1,p2,p3,p4⟩:=K5 (L:=L) (E:=E) he (s:=B2 (B2 s)) h2 hok (by rfl);have h3:L.drop s1.i=A5 [59] :: post:=by rw[p3];exact G1 h2
  have hst:=S4.set (L:=L) (E:=E) (d:=d) (s:=s) (s1:=s1) (e:=e') hlim (by rw[V2 hok,hpk];assumption) (by grind);rw[htk,R9 h3 p4 w59.1]at hst;refine⟨_,_,?_,hst,?_,p4⟩
  ·rw[St.plain,St.plain,Ex.plains,Ex.plains,Ex.plains,Ex.plains,p1]
  ·show s1.i+1=_;rw[p3];simp only[A0A,A0G,A4];show s.i+1+1+_+1=_;omega
 obtain⟨j,hj⟩:∃ j:Nat,k=2+(j:Int):=⟨(k-2).toNat,by omega⟩;have hj18:j<18:=by omega
 have hjn:(k-2).toNat=j:=by omega
 obtain⟨a1,a2, -, -⟩:=B4f j hj18;by_cases h23:k=2\/k=3
 ·
  have hsh:(G4 k).args=1/\(G4 k).name=false/\(G4 k).text=false/\(k=3->(G4 k).els=false):=by
   rcases h23 with rfl|rfl
   ·exact⟨rfl,rfl,rfl,fun h=>absurd h (by decide)⟩
   trivial
  rw[hsh.1]at ha;rw[hsh.2.1]at hn;rw[hsh.2.2.1]at ht;have hn:n=[]:=by grind
  have ht:t=[]:=by grind
  subst hn ht;have hy3:k=3->y=[]:=fun h=>hy.resolve_left (by grind);obtain⟨e,rfl,he⟩:=A5d ha hav;obtain⟨rest,hrest,hT⟩:∃ rest,rest=B6x y/\stT (.mk k [] [] [e] x y p)=[A5 (B8.getD j [])]++exT e++blT x++rest:=by
   refine⟨_,rfl,?_⟩;clear hy hy3 hv hm h hby hcy;rw[stT,if_neg hk1,if_neg (by omega)];dsimp only;rw[if_pos h23,hjn,ag0]
   match y with
   |[]=>simp[blT,B6x]
   |[q] =>
    unfold B6x;dsimp only;split
    ·simp[blT]
    ·simp[blT,L6]
   |q :: q2 :: r=>simp[blT,B6x]
  rw[hT]at h ⊢;generalize A5 (B8.getD j [])=w at a1 a2 h hT ⊢;have h0:L.drop s.i=w :: (exT e++(blT x++(rest++post))):=by grind
  have hpk:=D1 (E:=E) h0;have ham:C3 L E s B8=(j:Int):=by rw[V2 hok,hpk];omega
  have h1:=E8 h0;obtain⟨e',s2,p1,p2,p3,p4⟩:=K5 (L:=L) (E:=E) he (s:=B2 s) h1 hok (by rfl);have h2:L.drop s2.i=blT x++(rest++post):=by rw[p3];exact G1 h1
  obtain⟨t',s3,b1,b2,b3,b4⟩:=S2 hcx hbx h2 p4;rw[hcast]at b2;have h3:L.drop s3.i=rest++post:=by rw[b3];exact G1 h2
  have hi3:s3.i=s.i+1+(exT e).length+(blT x).length:=by rw[b3,p3];rfl
  have blkCase:¬ (C3 L E s B8=0/\isR L E s3 [101,108,115,101]=true)->y=[]->rest=[]->∃ x' s',x'.plain=(St.mk k [] [] [e] x y p).plain/\S4 L E d s (x',s')/\s'.i=s.i+([w]++exT e++blT x++rest).length/\okR s'=true:=by
   intro hc hy0 hr0;subst hy0 hr0;have hst:=S4.blk (L:=L) (E:=E) (d:=d) (s:=s) hlim (by rw[ham];omega) p2 b2 hc;refine⟨_,_,?_,hst,?_,b4⟩
   ·rw[ham, <- hj,St.plain,St.plain,Ex.plains,Ex.plains,Ex.plains,Ex.plains,p1,b1]
   grind
  by_cases hk3:k=3
  ·have hy0:=hy3 hk3;subst hy0;exact blkCase (by omega) rfl hrest
  ·have hk2:k=2:=by omega
   have hj0:j=0:=by omega
   have hd1:y≠[]->d+1<=8:=fun hne=>by
    unfold O8 at hby
    grind
   have elsCase:∀ (o':List St) (s4:Rd),St.plains o'=St.plains y->A6q L E d (B2 s3) (o',s4)->isR L E s3 [101,108,115,101]=true->s4.i=s3.i+rest.length->okR s4=true->∃ x' s',x'.plain=(St.mk k [] [] [e] x y p).plain/\S4 L E d s (x',s')/\s'.i=s.i+([w]++exT e++blT x++rest).length/\okR s'=true:=by
    intro o' s4 c1 c2 c3 c4 c5;have hst:=S4.els (L:=L) (E:=E) (d:=d) (s:=s) hlim (by rw[ham,hj0];rfl) p2 b2 c3 c2;refine⟨_,_,?_,hst,?_,c5⟩
    ·rw[hk2,St.plain,St.plain,Ex.plains,Ex.plains,Ex.plains,Ex.plains,p1,b1,c1]
    grind
   clear hy hy3 hv hm hT h h0
   match y,hcy,hby,hd1,hrest,blkCase,elsCase with
   |[],_,_,_,hrest,blkCase,_ =>
    refine blkCase ?_ rfl hrest;rintro⟨-,g⟩;rw[hrest]at h3;rw[A3h b4,A7d,h3]at g;have g:C6k E post=true:=g
    grind
   |[q],hcy,hby,hd1,hrest,_,elsCase =>
    have hrest:rest=if q.kind=2 then [A5 [101,108,115,101]]++stT q else [A5 [101,108,115,101]]++blT [q]:=hrest
    have hd1:=hd1 (by simp);by_cases hq2:q.kind=2
    ·rw[if_pos hq2]at hrest;subst hrest;have h4:L.drop s3.i=A5 [101,108,115,101] :: (stT q++post):=by grind
     have hi:isR L E s3 [101,108,115,101]=true:=by rw[A3h b4,D1 h4,C8d];rfl
     have hvq:Q3 (d+1) q=true:=by
      unfold O8 at hby;simp only[A0D]at hby;have:=hby.2;rw[K8,A0D]at this
      grind
     obtain⟨q',s4,c1,c2,c3,c4⟩:=hcy q A0K (d+1) (B2 s3) post hvq hd1 (E8 h4) b4 hels;rw[hcast]at c2;have hif:isR L E (B2 s3) [105,102]=true:=by
      have h5:=E8 h4;have:∃ ts,stT q=A5 (B8.getD 0 []) :: ts:=by
       cases q with|mk kq nq tq aq xq yq pq =>
       have hq2:kq=2:=hq2;subst hq2;unfold stT;rw[if_neg (by simp),if_neg (by simp)];dsimp only;rw[if_pos (.inl rfl)]
       match yq with
       |[]=>simp
       |[q3] =>
        dsimp only;split
        ·exact⟨_,rfl⟩
        simp
       |_ :: _ :: _=>simp
      obtain⟨ts,hts⟩:=this;rw[A3h (show okR (B2 s3)=true from b4),D1 (s:=B2 s3) (t:=A5 (B8.getD 0 [])) (ts:=ts++post) (by show L.drop (s3.i+1)=_;grind),(B4f 0 (by simp)).2.1];rfl
     refine elsCase [q'] s4 (by rw[St.plains,St.plains,St.plains,St.plains,c1]) (A6q.iff hif c2) hi ?_ c4;rw[c3];simp only[A0A,A0G];show s3.i+1+_=_;omega
    ·rw[if_neg hq2]at hrest;subst hrest;have h4:L.drop s3.i=A5 [101,108,115,101] :: (blT [q]++post):=by grind
     have hi:isR L E s3 [101,108,115,101]=true:=by rw[A3h b4,D1 h4,C8d];rfl
     obtain⟨o',s4,c1,c2,c3,c4⟩:=S2 hcy hby (s:=B2 s3) (E8 h4) b4;rw[hcast]at c2;have hif:isR L E (B2 s3) [105,102]=false:=by
      rw[A3h (show okR (B2 s3)=true from b4),D1 (s:=B2 s3) (t:=A5 [123]) (ts:=L6 [q]++[A5 [125]]++post) (by show L.drop (s3.i+1)=_;rw[E8 h4];unfold blT;simp),w123.1,A2B];rfl
     refine elsCase o' s4 c1 (A6q.blk hif c2) hi ?_ c4;rw[c3];simp only[A0A,A0G];show s3.i+1+_=_;omega
   |q :: q2 :: r,hcy,hby,hd1,hrest,_,elsCase =>
    have hrest:rest=[A5 [101,108,115,101]]++blT (q :: q2 :: r):=hrest;subst hrest;have h4:L.drop s3.i=A5 [101,108,115,101] :: (blT (q :: q2 :: r)++post):=by grind
    have hi:isR L E s3 [101,108,115,101]=true:=by rw[A3h b4,D1 h4,C8d];rfl
    obtain⟨o',s4,c1,c2,c3,c4⟩:=S2 hcy hby (s:=B2 s3) (E8 h4) b4;rw[hcast]at c2;have hif:isR L E (B2 s3) [105,102]=false:=by
     rw[A3h (show okR (B2 s3)=true from b4),D1 (s:=B2 s3) (t:=A5 [123]) (ts:=L6 (q :: q2 :: r)++[A5 [125]]++post) (by show L.drop (s3.i+1)=_;rw[E8 h4];unfold blT;simp),w123.1,A2B];rfl
    refine elsCase o' s4 c1 (A6q.blk hif c2) hi ?_ c4;rw[c3];simp only[A0A,A0G];show s3.i+1+_=_;omega
 have hshx:(G4 k).thn=false/\(G4 k).els=false:=by
  unfold G4
  grind
 have hx:x=[]:=hx.resolve_left (by grind);have hy:y=[]:=hy.resolve_left (by grind);subst hx hy;have tailGo:∀ (toks:List Tok) (n' t':List UInt8) (a':List Ex) (s':Rd),stT (.mk k n t a [] [] p)=[A5 (B8.getD j [])]++toks->n'=n->t'=t->Ex.plains a'=Ex.plains a->s'.i=s.i+1+toks.length->okR s'=true ->
   (L.drop (s.i+1)=toks++post->Evt (fun f=>N7 L E f k (C2 L E s).pos (B2 s)) (.mk k n' t' a' [] [] (C2 L E s).pos,s'))->∃ x' s',x'.plain=(St.mk k n t a [] [] p).plain/\S4 L E d s (x',s')/\s'.i=s.i+(stT (.mk k n t a [] [] p)).length/\okR s'=true:=by
  intro toks n' t' a' s' c1 c2 c3 c4 c5 c6 c7;subst c2 c3;rw[c1]at h ⊢;have h0:L.drop s.i=A5 (B8.getD j []) :: (toks++post):=by rw[h];simp
  have hpk:=D1 (E:=E) h0;have ham:C3 L E s B8=(j:Int):=by rw[V2 hok,hpk];exact a1
  have hst:=S4.tail (L:=L) (E:=E) (d:=d) (s:=s) hlim (by rw[ham];omega) (by rw[ham, <- hj];exact c7 (E8 h0));refine⟨_,_,?_,hst,?_,c6⟩
  ·rw[St.plain,St.plain,c4]
  grind
 have hT:stT (.mk k n t a [] [] p)=[A5 (B8.getD j [])]++(if k=4 then agT a 0++[A5 [59]] else if k=18 then Q6 t++[A5 [44]]++agT a 0++[A5 [59]] else if k=8\/k=10 then C8 n++agT a 0++[A5 [59]] else if k=9 then C8 n++agT a 0++[A5 [44]]++agT a 1++[A5 [59]] else if k=19 then [A5 [59]] else C8 n++[A5 [59]]):=by
  unfold stT
  grind
 by_cases h4:k=4
 ·subst h4;have hn:n=[]:=by have h':(n == [])=true:=hn;grind
  have ht:t=[]:=by have h':(t == [])=true:=ht;grind
  subst hn ht;obtain⟨e,rfl,he⟩:=A5d ha hav;rw[if_pos rfl,ag0]at hT;have h0:L.drop (s.i+1)=exT e++(A5 [59] :: post):=by
   rw[hT]at h;have:L.drop s.i=A5 (B8.getD j []) :: (exT e++(A5 [59] :: post)):=by grind
   exact E8 this
  obtain⟨e',s1,p1,p2,p3,p4⟩:=K5 (L:=L) (E:=E) he (s:=B2 s) h0 hok (by rfl);have h3:L.drop s1.i=A5 [59] :: post:=by rw[p3];exact G1 h0
  refine tailGo _ [] [] [e'] (B2 s1) hT rfl rfl (by rw[Ex.plains,Ex.plains,Ex.plains,Ex.plains,p1]) (by show s1.i+1=_;grind) p4 (fun _=>p2.map fun f hf=>?_);unfold N7;rw[if_pos rfl,hf];dsimp only;rw[R9 h3 p4 w59.1]
 rw[if_neg h4]at hT;by_cases h18:k=18
 ·subst h18;have hn:n=[]:=by have h':(n == [])=true:=hn;grind
  have ht:P1 t=true:=ht;subst hn;obtain⟨e,rfl,he⟩:=A5d ha hav;rw[if_pos rfl,ag0]at hT;have h0:L.drop (s.i+1)=Q6 t++(A5 [44] :: (exT e++(A5 [59] :: post))):=by
   rw[hT]at h;have:L.drop s.i=A5 (B8.getD j []) :: (Q6 t++(A5 [44] :: (exT e++(A5 [59] :: post)))):=by grind
   exact E8 this
  have htk:=C3z (E:=E) (s:=B2 s) h0 hok ht;have h1:=Y1 (s:=B2 s) h0 (A7 t);have he1:=R9 (E:=E) (s:=B2 (B2 s)) h1 hok w44.1;have h2:=E8 (s:=B2 (B2 s)) h1;obtain⟨e',s1,p1,p2,p3,p4⟩:=K5 (L:=L) (E:=E) he (s:=B2 (B2 (B2 s))) h2 hok (by rfl);have h3:L.drop s1.i=A5 [59] :: post:=by rw[p3];exact G1 h2
  refine tailGo _ [] t [e'] (B2 s1) hT rfl rfl (by rw[Ex.plains,Ex.plains,Ex.plains,Ex.plains,p1]) (by show s1.i+1=_;grind) p4 (fun _=>p2.map fun f hf=>?_);unfold N7;rw[if_neg (by simp),if_pos rfl,htk,he1,hf];dsimp only;rw[R9 h3 p4 w59.1]
 rw[if_neg h18]at hT;by_cases h8:k=8\/k=10
 ·have hsh:G4 k=⟨true,false,1,false,false⟩:=by rcases h8 with rfl|rfl<;>rfl
  rw[hsh]at ha hn ht;have hn:C4 n=true:=hn;have ht:t=[]:=by grind
  subst ht;obtain⟨e,rfl,he⟩:=A5d ha hav;rw[if_pos h8,ag0]at hT;have h0:L.drop (s.i+1)=C8 n++(exT e++(A5 [59] :: post)):=by
   rw[hT]at h;have:L.drop s.i=A5 (B8.getD j []) :: (C8 n++(exT e++(A5 [59] :: post))):=by grind
   exact E8 this
  have htk:=A3n (E:=E) (s:=B2 s) h0 hok hn;have h1:=Y1 (s:=B2 s) h0 (A4 n);obtain⟨e',s1,p1,p2,p3,p4⟩:=K5 (L:=L) (E:=E) he (s:=B2 (B2 s)) h1 hok (by rfl);have h3:L.drop s1.i=A5 [59] :: post:=by rw[p3];exact G1 h1
  refine tailGo _ n [] [e'] (B2 s1) hT rfl rfl (by rw[Ex.plains,Ex.plains,Ex.plains,Ex.plains,p1]) (by show s1.i+1=_;grind) p4 (fun _=>p2.map fun f hf=>?_);unfold N7;rw[if_neg h4,if_neg h18,if_neg (by omega)];dsimp only;rw[if_pos (by omega),htk];dsimp only;rw[hf];dsimp only;rw[if_neg (by omega),R9 h3 p4 w59.1]
 rw[if_neg h8]at hT;by_cases h9:k=9
 ·subst h9;have hn:C4 n=true:=hn;have ht:t=[]:=by have h':(t == [])=true:=ht;grind
  subst ht;obtain⟨e,e2,rfl⟩:=B7r ha;simp only[A2H,List.all_nil,A1X,A0D]at hav;rw[if_pos rfl,ag0,ag1]at hT;have h0:L.drop (s.i+1)=C8 n++(exT e++(A5 [44] :: (exT e2++(A5 [59] :: post)))):=by
   rw[hT]at h;have:L.drop s.i=A5 (B8.getD j []) :: (C8 n++(exT e++(A5 [44] :: (exT e2++(A5 [59] :: post))))):=by grind
   exact E8 this
  have htk:=A3n (E:=E) (s:=B2 s) h0 hok hn;have h1:=Y1 (s:=B2 s) h0 (A4 n);obtain⟨e',s1,p1,p2,p3,p4⟩:=K5 (L:=L) (E:=E) hav.1 (s:=B2 (B2 s)) h1 hok (by rfl);have h3:L.drop s1.i=A5 [44] :: (exT e2++(A5 [59] :: post)):=by rw[p3];exact G1 h1
  have hx1:=R9 (E:=E) h3 p4 w44.1;obtain⟨e2',s2,r1,r2,r3,r4⟩:=K5 (L:=L) (E:=E) hav.2 (s:=B2 s1) (E8 h3) p4 (by rfl);have h5:L.drop s2.i=A5 [59] :: post:=by rw[r3];exact G1 (E8 h3)
  refine tailGo _ n [] [e',e2'] (B2 s2) hT rfl rfl (by rw[Ex.plains,Ex.plains,Ex.plains,Ex.plains,Ex.plains,Ex.plains,p1,r1]) (by show s2.i+1=_;grind) r4 (fun _=>p2.map2 r2 fun f hf hf2=>?_);unfold N7;rw[if_neg h4,if_neg h18,if_neg (by simp)];dsimp only;rw[if_pos (by simp),htk];dsimp only;rw[hf];dsimp only;rw[if_pos rfl,hx1,hf2];dsimp only;rw[R9 h5 r4 w59.1]
 rw[if_neg h9]at hT;by_cases h19:k=19
 ·subst h19;have hn:n=[]:=by have h':(n == [])=true:=hn;grind
  have ht:t=[]:=by have h':(t == [])=true:=ht;grind
  have ha:a=[]:=A1K ha;subst hn ht ha;rw[if_pos rfl]at hT;have h0:L.drop (s.i+1)=A5 [59] :: post:=by
   rw[hT]at h;have:L.drop s.i=A5 (B8.getD j []) :: (A5 [59] :: post):=by grind
   exact E8 this
  refine tailGo _ [] [] [] (B2 (B2 s)) hT rfl rfl rfl rfl hok (fun _=>Evt.one fun f=>?_);unfold N7;rw[if_neg (by simp),if_neg (by simp),if_pos rfl,R9 (s:=B2 s) h0 hok w59.1]
 rw[if_neg h19]at hT;have hsh:=B8i hk1 (fun h=>h23 (.inl h)) (fun h=>h23 (.inr h)) h4 (fun h=>h8 (.inl h)) h9 (fun h=>h8 (.inr h)) h18 h19;rw[hsh]at ha hn ht;have hn:C4 n=true:=hn;have ht:t=[]:=by grind
 have ha:a=[]:=A1K ha;subst ht ha;have h0:L.drop (s.i+1)=C8 n++(A5 [59] :: post):=by
  rw[hT]at h;have:L.drop s.i=A5 (B8.getD j []) :: (C8 n++(A5 [59] :: post)):=by grind
  exact E8 this
 have htk:=A3n (E:=E) (s:=B2 s) h0 hok hn;have h1:=Y1 (s:=B2 s) h0 (A4 n);refine tailGo _ n [] [] (B2 (B2 (B2 s))) hT rfl rfl rfl (by simp only[A0A,A0G,A4];rfl) hok (fun _=>Evt.one fun f=>?_);unfold N7;rw[if_neg h4,if_neg h18,if_neg h19];dsimp only;rw[if_neg (by omega),htk];dsimp only;rw[R9 (s:=B2 (B2 s)) h1 hok w59.1]
theorem B1p{l:List St}{d:Nat}{s:Rd}{post:List Tok}(hv:O8 l d=true)(h:L.drop s.i=blT l++post)(hok:okR s=true):
  ∃ l' s',St.plains l'=St.plains l/\A6r L E d s (l',s')/\s'.i=s.i+(blT l).length/\okR s'=true :=
 S2 (fun x hx=>B2d (x.sz+1) x (by omega)) hv h hok
end
section
variable {L:List Tok} {E:Int}
theorem D2b:∀ j:Nat,j<8->amT (A5 (D0.getD j [])) D0=(j:Int):=by trivial
theorem C8k:∀ j:Nat,j<6->amT (A5 (D5.getD j [])) D5=(j:Int):=by trivial
theorem B9t:S8 (A5 [109,111,100,101])=true/\amT (A5 [109,111,100,101]) D0 = -1:=by trivial
theorem won:S8 (A5 [111,110])=true/\(A5 [111,110]).text≠[125]:=by trivial
theorem D6v:S8 (A5 [45])=true:=by rfl
theorem B5u{d:Dc}{k v:Int}{n:List UInt8}(h1:k=d.kind)(h2:n=d.name)(h3:v=d.value){p:Int}:Dc.plain ⟨k,n,v,p⟩=d.plain:=by
 subst h1 h2 h3;rfl
theorem B1n{d:Dc}(hv:A0a d=true){s:Rd}{post:List Tok}(h:L.drop s.i=dcT d++post)(hok:okR s=true):
  C3 L E s D0=d.kind-1/\(Q2 L E (d.kind-1) s).1.plain=d.plain/\(Q2 L E (d.kind-1) s).2.i=s.i+(dcT d).length/\okR (Q2 L E (d.kind-1) s).2=true:=by
 unfold A0a at hv;simp only[A0D,A0F]at hv;obtain⟨⟨⟨⟨k1,k8⟩,hn⟩,v0⟩,v1⟩:=hv;obtain⟨j,hj⟩:∃ j:Nat,d.kind=1+(j:Int):=⟨(d.kind-1).toNat,by omega⟩;have hj8:j<8:=by omega
 have hjn:(d.kind-1).toNat=j:=by omega
 have a1:=D2b j hj8;have hT:dcT d=[A5 (D0.getD j [])]++C8 d.name++(if 6<d.kind then [] else if d.value<0 then [A5 [45]]++N9 (-d.value) else N9 d.value)++[A5 [59]]:=by
  unfold dcT
  grind
 rw[hT]at h ⊢;have h0:L.drop s.i=A5 (D0.getD j []) :: (C8 d.name++((if 6<d.kind then [] else if d.value<0 then [A5 [45]]++N9 (-d.value) else N9 d.value)++(A5 [59] :: post))):=by grind
 have hpk:=D1 (E:=E) h0;have h1:=E8 h0;have htk:=A3n (E:=E) (s:=B2 s) h1 hok hn;have h2:=Y1 (s:=B2 s) h1 (A4 d.name);refine⟨by rw[V2 hok,hpk,a1];omega,?_⟩;unfold Q2;dsimp only;rw[htk];dsimp only;by_cases h6:6<d.kind
 ·rw[if_pos h6]at h2 ⊢;rw[if_neg (by omega)];have h2:L.drop (B2 (B2 s)).i=A5 [59] :: post:=h2;rw[R9 h2 hok w59.1];refine⟨B5u (by omega) rfl ?_,?_,hok⟩
  ·omega
  ·simp only[A0A,A0G,A4,A0N];rfl
 ·rw[if_neg h6]at h2 ⊢;rw[if_pos (by omega)];rw[if_neg (by omega)]at v1;by_cases hneg:d.value<0
  ·have hk6:d.kind=6:=by
    by_cases hz:d.kind=6
    ·exact hz
    ·rw[if_neg hz]at v0;omega
   rw[if_pos hk6]at v0;rw[if_pos hneg]at h2 ⊢;have h3:L.drop (B2 (B2 s)).i=A5 [45] :: (N9 (-d.value)++(A5 [59] :: post)):=by rw[show L.drop (B2 (B2 s)).i=_ from h2];simp
   have hm:(d.kind-1+1 == 6 && isR L E (B2 (B2 s)) [45])=true:=by
    rw[A3h (show okR (B2 (B2 s))=true from hok),D1 h3,D6v,hk6];rfl
   rw[if_pos hm,if_pos hm];have h4:=E8 h3;have htk2:=B0m (E:=E) (s:=B2 (B2 (B2 s))) h4 hok (by omega) (by omega);rw[htk2];have h5:=Y1 (s:=B2 (B2 (B2 s))) h4 (A9 _);have h5:L.drop (B2 (B2 (B2 (B2 s)))).i=A5 [59] :: post:=h5;dsimp only;rw[R9 h5 hok w59.1];refine⟨B5u (by omega) rfl (by omega),?_,hok⟩;simp only[A0A,A0G,A4,A9];rfl
  ·rw[if_neg hneg]at h2 ⊢;have h3:L.drop (B2 (B2 s)).i=N9 d.value++(A5 [59] :: post):=h2;have hp3:C2 L E (B2 (B2 s))=⟨3,[],d.value,0⟩:=D1 (ts:=A5 [59] :: post) (by rw[h3];unfold N9;rw[if_neg (by omega)];rfl);have hm:(d.kind-1+1 == 6 && isR L E (B2 (B2 s)) [45])=false:=by
    rw[A3h (show okR (B2 (B2 s))=true from hok),hp3];simp[S8]
   rw[hm];simp only[A1N,if_false];have htk2:=B0m (E:=E) (s:=B2 (B2 s)) h3 hok (by omega) (by omega);rw[htk2];have h5:=Y1 (s:=B2 (B2 s)) h3 (A9 _);have h5:L.drop (B2 (B2 (B2 s))).i=A5 [59] :: post:=h5;dsimp only;rw[R9 h5 hok w59.1];refine⟨B5u (by omega) rfl rfl,?_,hok⟩;simp only[A0A,A0G,A4,A9];rfl
theorem A4j:∀ (l acc:List Dc) (s:Rd) (post:List Tok),l.all A0a=true->acc.length+l.length<=128->amT (hd0 E post) D0<0->L.drop s.i=l.flatMap dcT++post->okR s=true ->
  ∃ l' s',l'.map Dc.plain=l.map Dc.plain/\Evt (fun f=>U5 L E f acc s) (acc++l',s')/\L.drop s'.i=post/\okR s'=true
 |[],acc,s,post,hv,hl,hp,h,hok=>by
  have h:L.drop s.i=post:=h;refine⟨[],s,rfl,Evt.one fun f=>?_,h,hok⟩;rw[U5];dsimp only;rw[V2 hok,A7d,h,if_pos hp,A1H]
 |d :: l,acc,s,post,hv,hl,hp,h,hok=>by
  simp only[A2H,A0D]at hv;have h0:L.drop s.i=dcT d++(l.flatMap dcT++post):=by rw[h,A1B,A0T]
  obtain⟨e1,e2,e3,e4⟩:=B1n (E:=E) hv.1 h0 hok;have hk1:1<=d.kind:=by
   have:=hv.1;unfold A0a at this;simp only[A0D,A0F]at this;omega
  obtain⟨l',s',q1,q2,q3,q4⟩:=A4j l (acc++[(Q2 L E (d.kind-1) s).1]) (Q2 L E (d.kind-1) s).2 post hv.2 (by simp only[A0A,A0I,A0N]at hl ⊢;omega) hp (by rw[e3];exact G1 h0) e4;refine⟨(Q2 L E (d.kind-1) s).1 :: l',s',by rw[A0U,A0U,e2,q1],?_,q3,q4⟩;rw[A0T]at q2;refine q2.ext fun f hf=>?_;rw[U5];dsimp only;rw[e1,if_neg (by omega),A3u (by simp only[A0I]at hl;omega),if_pos hok]
  grind
theorem hdp{h:Hd}{b:List St}(hb:St.plains b=St.plains h.body){k:Int}{n:List UInt8}{p:Int}(hk:k=h.trig)(hn:n=h.name):Hd.plain ⟨k,n,b,p⟩=h.plain:=by
 unfold Hd.plain;grind
theorem A4o:∀ (l acc:List Hd) (s:Rd) (post:List Tok),l.all W4=true->acc.length+l.length<=32->L.drop s.i=l.flatMap hdT++([A5 [125]]++post)->okR s=true ->
  ∃ l' s',l'.map Hd.plain=l.map Hd.plain/\Evt (fun f=>U6 L E f acc s) (acc++l',s')/\L.drop s'.i=post/\okR s'=true
 |[],acc,s,post,hv,hl,h,hok=>by
  have h:L.drop s.i=A5 [125] :: post:=h;have hi:isR L E s [125]=true:=by rw[A3h hok,D1 h,w125.1];rfl
  refine⟨[],B2 s,rfl,Evt.one fun f=>?_,E8 h,hok⟩;rw[U6,if_neg (by grind),R9 h hok w125.1,A1H]
 |x :: l,acc,s,post,hv,hl,h,hok=>by
  simp only[A2H,A0D]at hv;have hx:=hv.1;unfold W4 at hx;simp only[A0D,A0F]at hx;obtain⟨⟨⟨t1,t6⟩,hn⟩,hb⟩:=hx;obtain⟨j,hj⟩:∃ j:Nat,x.trig=1+(j:Int):=⟨(x.trig-1).toNat,by omega⟩;have hj6:j<6:=by omega
  have hjn:(x.trig-1).toNat=j:=by omega
  have h0:L.drop s.i=A5 [111,110] :: (A5 (D5.getD j []) :: ((if 2<x.trig then C8 x.name else [])++(blT x.body++(l.flatMap hdT++([A5 [125]]++post))))):=by
   rw[h,A1B];unfold hdT;rw[hjn];simp
  have hpk:=D1 (E:=E) h0;have hi:isR L E s [125]=false:=by rw[A3h hok,hpk,won.1,A2B];simpa using won.2
  have hon:isR L E s [111,110]=true:=by rw[A3h hok,hpk,won.1];rfl
  have he:=R9 (E:=E) h0 hok won.1;have h1:=E8 h0;have h1:L.drop (B2 s).i=_:=h1;have ham:C3 L E (B2 s) D5=(j:Int):=by rw[V2 (show okR (B2 s)=true from hok),D1 h1];exact C8k j hj6
  have h2:=E8 h1;have h2:L.drop (B2 (B2 s)).i=_:=h2;have key:∃ s4,s4=(if 2<=(j:Int) then (B4 L E (B2 (B2 s)) 1).2 else B2 (B2 s))/\okR s4=true/\(if 2<=(j:Int) then (B4 L E (B2 (B2 s)) 1).1.text else [])=x.name/\L.drop s4.i=blT x.body++(l.flatMap hdT++([A5 [125]]++post)):=by
   refine⟨_,rfl,?_⟩;by_cases h2j:2<=(j:Int)
   ·rw[if_pos h2j,if_pos h2j];rw[if_pos (by omega)]at hn h2;rw[A3n (E:=E) h2 hok hn];exact⟨hok,rfl,Y1 (s:=B2 (B2 s)) h2 (A4 _)⟩
   ·rw[if_neg h2j,if_neg h2j];rw[if_neg (by omega)]at hn h2;exact⟨hok,by have:x.name=[]:=(by simpa using hn);rw[this],h2⟩
  obtain⟨s4,k1,k2,k3,k4⟩:=key;obtain⟨b',s5,b1,b2,b3,b4⟩:=B1p (L:=L) (E:=E) (d:=1) hb k4 k2;obtain⟨l',s',q1,q2,q3,q4⟩:=A4o l (acc++[⟨1+(j:Int),x.name,b',(C2 L E s).pos⟩]) s5 post hv.2 (by simp only[A0A,A0I,A0N]at hl ⊢;omega) (by rw[b3];exact G1 k4) b4;refine⟨⟨1+(j:Int),x.name,b',(C2 L E s).pos⟩ :: l',s',by rw[A0U,A0U,hdp b1 hj.symm rfl,q1],?_,q3,q4⟩;rw[A0T]at q2;refine Evt.ext2 b2 q2 fun f hf hf2=>?_;rw[U6,if_pos ⟨hok,hi⟩,if_neg (by rw[hon];decide)];dsimp only;rw[A3u (by simp only[A0I]at hl;omega),he,ham,if_neg (by omega), <- k1,k3]
  grind
theorem B1d{m:Md}(hv:S5 m=true){s:Rd}{post:List Tok}(h:L.drop s.i=mdT m++post)(hok:okR s=true):
  isR L E s [109,111,100,101]=true/\∃ m' s',m'.plain=m.plain/\Evt (fun f=>A1a L E f s) (m',s')/\L.drop s'.i=post/\okR s'=true:=by
 unfold S5 at hv;simp only[A0D,A0F]at hv;obtain⟨⟨⟨⟨hn,p0⟩,p1⟩,hl⟩,hh⟩:=hv;have h0:L.drop s.i=A5 [109,111,100,101] :: (C8 m.name++(N9 m.prio++(A5 [123] :: (m.hds.flatMap hdT++([A5 [125]]++post))))):=by
  rw[h];unfold mdT;simp
 have hpk:=D1 (E:=E) h0;have he:=R9 (E:=E) h0 hok B9t.1;have h1:L.drop (B2 s).i=_:=E8 h0;have htk:=A3n (E:=E) h1 hok hn;have h2:L.drop (B2 (B2 s)).i=_:=Y1 (s:=B2 s) h1 (A4 _);have htk2:=B0m (E:=E) h2 hok p0 p1;have h3:L.drop (B2 (B2 (B2 s))).i=_:=Y1 (s:=B2 (B2 s)) h2 (A9 _);have he3:=R9 (E:=E) h3 hok w123.1;have h4:L.drop (B2 (B2 (B2 (B2 s)))).i=_:=E8 h3;obtain⟨l',s',q1,q2,q3,q4⟩:=A4o (L:=L) (E:=E) m.hds [] _ post hh (by grind) h4 hok;refine⟨by rw[A3h hok,hpk,B9t.1];rfl,⟨m.name,m.prio,l',(C2 L E s).pos⟩,s',?_,q2.map fun f hf=>?_,q3,q4⟩
 ·unfold Md.plain;grind
 ·unfold A1a
  grind
theorem A4i:∀ (l acc:List Md) (s:Rd),l.all S5=true->acc.length+l.length<=16->L.drop s.i=l.flatMap mdT->okR s=true ->
  ∃ l' s',l'.map Md.plain=l.map Md.plain/\Evt (fun f=>P4 L E f acc s) (acc++l',s')/\okR s'=true
 |[],acc,s,hv,hl,h,hok=>by
  have hi:¬ s.i<L.length:=fun hlt=>by
   simp_all;omega
  refine⟨[],s,rfl,Evt.one fun f=>?_,hok⟩;rw[P4,if_neg (fun h=>hi h.2),A1H]
 |m :: l,acc,s,hv,hl,h,hok=>by
  simp only[A2H,A0D]at hv;have h0:L.drop s.i=mdT m++l.flatMap mdT:=by rw[h,A1B]
  obtain⟨hm,m',s1,e1,e2,e3,e4⟩:=B1d (E:=E) hv.1 h0 hok;obtain⟨l',s',q1,q2,q4⟩:=A4i l (acc++[m']) s1 hv.2 (by simp only[A0A,A0I,A0N]at hl ⊢;omega) e3 e4;refine⟨m' :: l',s',by rw[A0U,A0U,e1,q1],?_,q4⟩;rw[A0T]at q2;refine Evt.ext2 e2 q2 fun f hf hf2=>?_;rw[P4,if_pos ⟨hok,(A1k hm).2⟩,if_neg (by rw[hm];decide)];dsimp only;rw[A3u (by simp only[A0I]at hl;omega),if_pos hok,hf]
  grind
end
theorem C6e{h:Hd}(hv:W4 h=true):R5 h=false:=by
 unfold W4 at hv;simp only[A0D,A0F]at hv;unfold R5
 grind
theorem B2n{r:Ru}(hv:Z9 r=true)(E:Int):okR (V6 (ruT r) E).2=true/\(V6 (ruT r) E).1.plain=r.plain:=by
 unfold Z9 at hv;simp only[A0D,A0F]at hv;obtain⟨⟨⟨h1,h2⟩,h3⟩,h4⟩:=hv;have hbad:(r.modes.any fun m=>m.hds.any R5)=false:=by
  rw[List.any_eq_false];intro m hm;have:=A0Q.1 h4 m hm;unfold S5 at this;simp only[A0D]at this;rw[Bool.not_eq_true,List.any_eq_false];intro h hh;rw[C6e (A0Q.1 this.2 h hh)];decide
 have hT:ruT r=r.decls.flatMap dcT++r.modes.flatMap mdT:=by unfold ruT;rw[if_neg (by rw[hbad];decide)]
 have hp:amT (hd0 E (r.modes.flatMap mdT)) D0<0:=by
  cases hm:r.modes with
  |nil=>exact (by decide:(-1:Int)<0)
  |cons m l =>
   have:hd0 E ((m :: l).flatMap mdT)=A5 [109,111,100,101]:=by rw[A1B];unfold mdT;rfl
   rw[this,B9t.2];decide
 obtain⟨ld,s1,a1,a2,a3,a4⟩:=A4j (L:=ruT r) (E:=E) r.decls [] rd0 (r.modes.flatMap mdT) h3 (by simpa using h1) hp (by rw[hT];rfl) rfl;obtain⟨lm,s2,b1,b2,b4⟩:=A4i (L:=ruT r) (E:=E) r.modes [] s1 h4 (by simpa using h2) a3 a4;have hr:Evt (fun f=>A4h (ruT r) E f rd0) (⟨ld,lm⟩,s2):=a2.map2 b2 fun f h1 h2=>by
  unfold A4h;rw[h1];dsimp only;rw[h2];rfl
 rw[(A5h (ruT r) E).uniq hr];refine⟨b4,?_⟩;unfold Ru.plain
 grind
mutual
theorem A9q:∀ e:Ex,msM e.plain=msM e
 |.mk k v n a p=>by
  rw[Ex.plain,msM,msM,A9r k 0 a,Ex.plains_map,A0E]
theorem A9r:∀ (k:Int) (i:Nat) (l:List Ex),msL k i (Ex.plains l)=msL k i l
 |k,i,[]=>rfl
 |k,i,e :: l=>by
  have hk:e.plain.kind=e.kind:=by cases e;rfl
  rw[Ex.plains,msL,msL,A9q e,A9r k (i+1) l,hk]
end
theorem B3y(e:Ex):V5 e.plain=V5 e:=by unfold V5;rw[A9q]
theorem A3r{l:List St}:(St.plains l).isEmpty=l.isEmpty:=by cases l<;>rfl
theorem A3s(l:List St):(St.plains l).length=l.length:=by rw[St.plains_map,A0E]
mutual
theorem B3v:∀ (d:Nat) (s:St),Q3 d s.plain=Q3 d s
 |d,.mk k n t a x y p=>by
  have ha:(Ex.plains a).all V5=a.all V5:=by
   rw[Ex.plains_map,List.all_map]
   congr 1
   funext e
   exact B3y e
  rw[St.plain,Q3,Q3,Y5 (d+1) x,Y5 (d+1) y,ha,Ex.plains_map,A0E,A3r,A3r,A3s,A3s]
theorem Y5:∀ (d:Nat) (l:List St),K8 d (St.plains l)=K8 d l
 |d,[]=>rfl
 |d,s :: l=>by rw[St.plains,K8,K8,B3v d s,Y5 d l]
end
theorem B3x(h:Hd):W4 h.plain=W4 h:=by
 unfold W4 Hd.plain O8;dsimp only;rw[Y5,A3s,A3r]
theorem B3w(m:Md):S5 m.plain=S5 m:=by
 unfold S5 Md.plain;dsimp only;rw[A0E,List.all_map]
 congr 2
 funext h
 exact B3x h
theorem A7m(r:Ru):Z9 r.plain=Z9 r:=by
 unfold Z9 Ru.plain;dsimp only;rw[A0E,A0E,List.all_map,List.all_map]
 congr 2
 funext m
 exact B3w m
theorem B6e(r:Ru):B8f r=Z9 r:=by
 cases hv:Z9 r with
 |true =>
  obtain⟨h1,h2⟩:=B2n hv 0;unfold B8f
  grind
 |false =>
  cases hd:B8f r with
  |false=>rfl
  |true =>
   unfold B8f at hd;rw[A0D]at hd;have h2:=@of_decide_eq_true _ (_) hd.2;obtain⟨f,hf⟩:=(A5h (ruT r) 0).get;have h3:=B8l (fun t ht=>(C2l r t ht).1) hf hd.1;rw[<- A7m,h2,A7m,hv]at h3
   grind
mutual
theorem C7i:∀ (e:Ex) (o d:Nat),msM e=some (o,d)->o<=e.sz/\d+1<=2 * e.sz
 |.mk k v n a p,o,d,h=>by
  have hs:(Ex.mk k v n a p).sz=1+n.length+Ex.szs a:=by rfl
  obtain⟨h1,h2,h3,h4,h5,h6⟩:=B5d h;by_cases hc:I0 k=0
  ·grind
  ·obtain⟨d',hl,hd⟩:=h6 hc;have:=B5e k 0 a o d' hl
   grind
theorem B5e:∀ (k:Int) (i:Nat) (l:List Ex) (o d:Nat),msL k i l=some (o,d)->o<=Ex.szs l/\d<=2 * Ex.szs l
 |k,i,[],o,d,h=>by simp[msL]at h;omega
 |k,i,e :: l,o,d,h=>by
  rw[msL]at h;have hs:Ex.szs (e :: l)=e.sz+Ex.szs l:=by rfl
  have hp:=e.sz_pos;cases he:msM e with
  |none=>grind
  |some q =>
   obtain⟨o1,d1⟩:=q;have h1:=C7i e o1 d1 he;rw[he]at h;dsimp only at h;cases hl:msL k (i+1) l with
   |none=>grind
   |some q2 =>
    obtain⟨o2,d2⟩:=q2;have h2:=B5e k (i+1) l o2 d2 hl
    grind
end
def msV:Option (Nat × Nat)->DV
 |none=>.tup [I64 0,I64 0,.bool false]
 |some (o,d)=>.tup [I64 o,I64 d,.bool true]
theorem D0o(q:Option (Nat × Nat)):(msV q).nl=true:=by cases q<;>rfl
theorem C1y{k:Int}{a:List Ex}{i:Nat}{x:Ex}(h:a[i]? = some x):msL k i (a.drop i)=match msM x with
  |none=>none
  |some (o,d)=>match msL k (i+1) (a.drop (i+1)) with
   |none=>none
   |some (o2,d2)=>some (o+o2,max (if P2 k x.kind i=true then d+1 else d) d2):=by
 have hlt:=(A0P.1 h).1;rw[A1V hlt,(A0P.1 h).2,msL];try rfl
def P5:List (List UInt8)->List Int->Int->List UInt8
 |w :: ks,v :: vs,x=>if v=x then w else P5 ks vs x
 |_,_,_=>[]
theorem A7g:∀ {ks:List (List UInt8)} {vs:List Int} {x:Int} {i:Nat} {w:List UInt8},vs.Nodup->ks[i]? = some w->vs[i]? = some x->P5 ks vs x=w
 |a :: ks,b :: vs,x,0,w,hn,h1,h2=>by simp at h1 h2;simp[P5,h1,h2]
 |a :: ks,b :: vs,x,i+1,w,hn,h1,h2=>by
  simp only[A2O]at h1 h2;have hne:b≠x:=fun e=>(A2G.1 hn).1 (e▸A0M h2);rw[P5,if_neg hne];exact A7g (A2G.1 hn).2 h1 h2
 |[],_,_,_,_,_,h1,_=>by simp at h1
 |_ :: _,[],_,_,_,_,_,h2=>by simp at h2
theorem B1h:∀ {ks:List (List UInt8)} {vs:List Int} {x:Int},(∀ (i:Nat) (v:Int),i<ks.length->vs[i]? = some v->v≠x)->P5 ks vs x=[]
 |[],_,_,_=>by unfold P5;rfl
 |_ :: _,[],_,_=>rfl
 |a :: ks,b :: vs,x,h=>by
  rw[P5,if_neg (h 0 b (by simp) rfl)];exact B1h fun i v hi hv=>h (i+1) v (by simpa using hi) (by simpa using hv)
def A7u(x:Int):List UInt8:=if x=10 then [45] else if x=11 then [33] else P5 D3 D0c x
def wrL(k q:Int)(i:Nat)(l:List (List UInt8)):List (List UInt8):=if P2 k q i=true then [40] :: (l++[[41]]) else l
def txT(l:List Tok):List (List UInt8):=l.map H7
theorem J4(s:List UInt8):H7 (A5 s)=s:=by
 unfold H7 A5;dsimp only;repeat' split
 all_goals first|rfl|omega|simp_all
theorem F3(a b:List Tok):txT (a++b)=txT a++txT b:=A0S
theorem B0j{k q m:Int}{i:Nat}{l:List Tok}(h:P2 k q i=decide (B5 q<m)):txT (E1 (q,l) m)=wrL k q i (txT l):=by
 unfold E1 wrL;rw[h];dsimp only;by_cases hc:B5 q<m
 ·rw[if_pos hc,if_pos (by simpa using hc),F3,F3];simp[txT,J4]
 ·rw[if_neg hc,if_neg (by simpa using hc)]
theorem A8k(k v:Int)(n:List UInt8)(a:List Ex)(p:Int):exT (.mk k v n a p)=F1 k v n (a.map fun e=>(e.kind,exT e)):=by rw[<- A1y];exact exT.eq_1 ..
theorem D2q{k v:Int}{n:List UInt8}{x:Ex}{p:Int}(hk:k=10\/k=11):txT (exT (.mk k v n [x] p))=A7u k :: wrL k x.kind 0 (txT (exT x)):=by
 have hw:P2 k x.kind 0=decide (B5 x.kind<6):=by
  unfold P2;rw[Z1 hk];simp
 rw[A8k, <- B0j hw];rcases hk with rfl|rfl<;>simp[F1,txT,J4,A7u,Z1]
theorem D6u(k q:Int):P2 k q 0=decide (B5 q<if B5 k=3 then 4 else B5 k):=by
 rw[A2Q];simp only[P2,A1C,A0D,A0F,A1I,Nat.zero_ne_one,false_or];split<;>omega
theorem D6t(k q:Int):P2 k q 1=decide (B5 q<B5 k+1):=by
 rw[A2Q];simp only[P2,A1C,A0D,A0F,A1I,true_or,and_true];omega
theorem C8j{k v:Int}{n:List UInt8}{x y:Ex}{p:Int}(hk:B5 k<6):txT (exT (.mk k v n [x,y] p))=wrL k x.kind 0 (txT (exT x))++A7u k :: wrL k y.kind 1 (txT (exT y)):=by
 rw[A8k, <- B0j (D6u k x.kind), <- B0j (D6t k y.kind)];obtain⟨k1,k2⟩:=B1e (k:=k) (by omega);have k3:12<=k:=by
  apply Classical.byContradiction;intro hc;have:k=10\/k=11:=by omega
  rw[Z1 this]at hk;omega
 have hs:D3.getD (k-12).toNat []=A7u k:=by
  obtain⟨j,rfl⟩:∃ j:Nat,k=12+(j:Int):=⟨(k-12).toNat,by omega⟩;have hj:j<13:=by omega
  have:∀ j:Nat,j<13->D3.getD (12+(j:Int)-12).toNat []=A7u (12+(j:Int)):=by decide
  exact this j hj
 simp only[A0U,List.map_nil];unfold F1;dsimp only;rw[if_neg (by omega),if_neg (by omega),if_neg (by omega),if_neg (by omega),if_neg (by omega),if_neg (by omega),if_neg (by omega),if_neg (by omega),if_neg (by omega),if_pos hk,F3,F3,hs];simp[txT,J4]
theorem C3v{k v:Int}{n:List UInt8}{p:Int}(hk:B5 k=7)(h0:kOk k=true)(h1:A0j k n=true)(h2:A1q k v=true):
  txT (exT (.mk k v n [] p))=if k=1 then [J6 v] else if k=2 then [n] else P5 I3 J9 k :: (if A0k k=true then [n] else []):=by
 have hr:1<=k/\k<=9:=by
  unfold kOk at h0;simp only[hk,Int.lt_irrefl,decide_false,Bool.false_or,A0D,A0F]at h0;refine⟨h0.1,Classical.byContradiction fun hc=>?_⟩;have:B5 k<7:=by unfold B5;repeat' split;all_goals omega
  omega
 rw[A8k];have hk9:k=1\/k=2\/k=3\/k=4\/k=5\/k=6\/k=7\/k=8\/k=9:=by omega
 rcases hk9 with rfl|rfl|rfl|rfl|rfl|rfl|rfl|rfl|rfl
 ·have hv:¬ (v<0\/2147483647<v):=by
   unfold A1q at h2;simp at h2;omega
  simp[F1,N9,hv,txT,H7]
 ·have hn:C4 n=true:=by simpa[A0j] using h1
  simp[F1,C8,hn,txT,H7]
 ·simp[F1,txT,J4,P5,I3,J9,A0k]
 ·simp[F1,txT,J4,P5,I3,J9,A0k]
 ·have hn:C4 n=true:=by simpa[A0j,A0k] using h1
  simp[F1,txT,J4,P5,I3,J9,A0k,C8,hn];rfl
 ·have hn:C4 n=true:=by simpa[A0j,A0k] using h1
  simp[F1,txT,J4,P5,I3,J9,A0k,C8,hn];rfl
 ·have hn:C4 n=true:=by simpa[A0j,A0k] using h1
  simp[F1,txT,J4,P5,I3,J9,A0k,C8,hn];rfl
 ·simp[F1,txT,J4,P5,I3,J9,A0k]
 ·simp[F1,txT,J4,P5,I3,J9,A0k]
theorem B2x{k:Int}:∀ {a:List Ex} {j o d:Nat},msL k j a=some (o,d)->∀ x∈a, ∃ o d,msM x=some (o,d)
 |[],_,_,_,_,x,hx=>by cases hx
 |e :: l,j,o,d,h,x,hx=>by
  unfold msL at h;split at h
  ·cases h
  ·rename_i o1 d1 h1;split at h
   ·cases h
   ·rename_i o2 d2 h2;rcases A1E.1 hx with rfl|hx
    ·exact⟨_,_,h1⟩
    ·exact B2x h2 x hx
theorem L9{s:List UInt8}(h:s.length<=100000):Fit (A5 s):=⟨h,by show -9223372036854775808<=(0:Int);decide,by show (0:Int)<=9223372036854775807;decide⟩
theorem A6h:Fit O9:=⟨A0Z _,by show -9223372036854775808<=(0:Int);decide,by show (0:Int)<=9223372036854775807;decide⟩
theorem A0o(n:List UInt8):∀ t∈C8 n,Fit t:=by
 intro t ht;unfold C8 at ht;split at ht
 ·obtain rfl:=A0O.1 ht;exact A6h
 ·rename_i hn;obtain rfl:=A0O.1 ht;refine⟨?_,by show -9223372036854775808<=(0:Int);decide,by show (0:Int)<=9223372036854775807;decide⟩;have h1:C4 n=true:=by cases h:C4 n with|true=>rfl|false=>exact absurd h hn
  unfold C4 at h1;simp only[A0D,A0F]at h1;show n.length<=100000;omega
theorem B7w(v:Int):∀ t∈N9 v,Fit t:=by
 intro t ht;unfold N9 at ht;split at ht
 ·obtain rfl:=A0O.1 ht;exact A6h
 ·obtain rfl:=A0O.1 ht;exact⟨A0Z _,by dsimp only;omega,by dsimp only;omega⟩
theorem A8f{q:Int × List Tok}{m:Int}(h:∀ t∈q.2,Fit t):∀ t∈E1 q m,Fit t:=by
 intro t ht;unfold E1 at ht;split at ht
 ·simp only[A0W,A0O]at ht;rcases ht with (rfl|ht)|rfl
  ·exact L9 (by decide)
  ·exact h t ht
  ·exact L9 (by decide)
 ·exact h t ht
theorem A2w{a b:List Tok}(h1:∀ t∈a,Fit t)(h2:∀ t∈b,Fit t):∀ t∈a++b,Fit t:=fun t ht=>by
 rcases A0W.1 ht with h|h
 ·exact h1 t h
 ·exact h2 t h
theorem O4{x:Tok}(h:Fit x):∀ t∈[x],Fit t:=fun t ht=>by obtain rfl:=A0O.1 ht;exact h
theorem B9e{k v:Int}{n:List UInt8}{as1:List (Int × List Tok)}(h:∀ q∈as1, ∀ t∈q.2,Fit t):∀ t∈F1 k v n as1,Fit t:=by
 have hsg:∀ i:Nat,(D3.getD i []).length<=100000:=fun i=>by
  by_cases hi:i<13
  ·have:∀ i:Nat,i<13->(D3.getD i []).length<=100000:=by decide
   exact this i hi
  ·rw[A0Y,A1T (by show 13<=i;omega)];simp
 have fin:∀ t∈(match as1 with
  |[q]=>if B5 k=6 then [A5 (if k=10 then [45] else [33])]++E1 q 6 else [O9]
  |[q,r]=>if B5 k<6 then E1 q (if B5 k=3 then 4 else B5 k)++[A5 (D3.getD (k-12).toNat [])]++E1 r (B5 k+1) else [O9]
  |_=>[O9]),Fit t:=by
  match as1 with
  |[q] =>
   dsimp only;split
   ·refine A2w (O4 (L9 (by split<;>decide))) (A8f (h q (by simp)))
   ·exact O4 A6h
  |[q,r] =>
   dsimp only;split
   ·exact A2w (A2w (A8f (h q (by simp))) (O4 (L9 (hsg _)))) (A8f (h r (by simp)))
   ·exact O4 A6h
  |[]=>exact O4 A6h
  |_ :: _ :: _ :: _=>exact O4 A6h
 unfold F1;dsimp only;by_cases k1:k=1
 ·rw[if_pos k1];exact B7w v
 rw[if_neg k1];by_cases k2:k=2
 ·rw[if_pos k2];exact A0o n
 rw[if_neg k2];by_cases k3:k=3
 ·rw[if_pos k3];exact O4 (L9 (by decide))
 rw[if_neg k3];by_cases k4:k=4
 ·rw[if_pos k4];exact O4 (L9 (by decide))
 rw[if_neg k4];by_cases k8:k=8
 ·rw[if_pos k8];exact O4 (L9 (by decide))
 rw[if_neg k8];by_cases k9:k=9
 ·rw[if_pos k9];exact O4 (L9 (by decide))
 rw[if_neg k9];by_cases k5:k=5
 ·rw[if_pos k5];exact A2w (O4 (L9 (by decide))) (A0o n)
 rw[if_neg k5];by_cases k6:k=6
 ·rw[if_pos k6];exact A2w (O4 (L9 (by decide))) (A0o n)
 rw[if_neg k6];by_cases k7:k=7
 ·rw[if_pos k7];exact A2w (O4 (L9 (by decide))) (A0o n)
 rw[if_neg k7];exact fin
theorem C6h:∀ (e:Ex), ∀ t∈exT e,Fit t:=by
 have:∀ (m:Nat) (e:Ex),e.sz<m->∀ t∈exT e,Fit t:=by
  intro m
  induction m with
  |zero=>intro e h;omega
  |succ m ih =>
   rintro⟨k,v,n,a,p⟩ hm;rw[A8k];refine B9e fun q hq=>?_;obtain⟨x,hx,rfl⟩:=A1L.1 hq;exact ih x (by have:=Ex.sz_arg (e:=.mk k v n a p) hx;omega)
 exact fun e=>this _ e (A2E _)
def J8(P:St->List (List UInt8))(l:List St):List (List UInt8):=[123] :: (l.flatMap P++[[125]])
abbrev C7v:List UInt8:=[101,108,115,101]
def A8m(P:St->List (List UInt8)):List St->List (List UInt8)
 |[]=>[]
 |[s]=>C7v :: (if s.kind=2 then P s else J8 P [s])
 |s :: s2 :: r=>C7v :: J8 P (s :: s2 :: r)
def A6a(P:St->List (List UInt8))(k:Int)(x y:List St):List (List UInt8):=if (G4 k).thn=true then J8 P x++A8m P y else [[59]]
def agI:Nat->List Ex->List (List UInt8)
 |_,[]=>[]
 |i,e :: l=>(if 0<i then [[44]] else [])++(txT (exT e)++agI (i+1) l)
def txL(k:Int)(t:List UInt8):List (List UInt8):=if (G4 k).text=true then [R0 t,[44]] else []
def hdL(k:Int)(n:List UInt8):List (List UInt8):=if k=1 then [n,[61]] else P5 B8 A3f k :: (if (G4 k).name=true then [n] else [])
def psL(P:St->List (List UInt8)):St->List (List UInt8)
 |.mk k n t a x y p=>hdL k n++(txL k t++(agI 0 a++A6a P k x y))
theorem C3w(x:List UInt8):txT [A5 x]=[x]:=by simp[txT,J4]
theorem J0(x:List UInt8)(l:List Tok):txT (A5 x :: l)=x :: txT l:=by simp[txT,J4]
theorem N6:txT []=[]:=rfl
theorem A0h:∀ l:List St,L6 l=l.flatMap stT
 |[]=>rfl
 |s :: l=>by rw[L6,A0h l,A1B]
theorem A6x(l:List St):txT (L6 l)=l.flatMap fun s=>txT (stT s):=by
 rw[A0h,txT,List.map_flatMap];rfl
theorem B4a(l:List St):txT (blT l)=J8 (fun s=>txT (stT s)) l:=by
 rw[blT,F3,F3,A6x,C3w,C3w];rfl
theorem Q4{n:List UInt8}(h:C4 n=true):txT (C8 n)=[n]:=by simp[C8,h,txT,H7]
theorem C3u{t:List UInt8}(h:P1 t=true):txT (Q6 t)=[R0 t]:=by
 unfold P1 at h;simp only[A0D,A0F]at h;have h2:¬ (t.all txB=false\/32<t.length):=by
  rintro (h3|h3)
  ·rw[h3]at h;exact absurd h.1 (by decide)
  ·omega
 unfold Q6;rw[if_neg h2];rfl
theorem C4g{k:Int}(h1:2<=k)(h2:k<=19):P5 B8 A3f k=B8.getD (k-2).toNat []:=by
 obtain⟨j,rfl⟩:∃ j:Nat,k=2+(j:Int):=⟨(k-2).toNat,by omega⟩;have hj:j<18:=by omega
 have:∀ j:Nat,j<18->P5 B8 A3f (2+(j:Int))=B8.getD (2+(j:Int)-2).toNat []:=by decide
 exact this j hj
theorem B9q(e:Ex):agI 0 [e]=txT (exT e):=by simp[agI]
theorem D9w(e f:Ex):agI 0 [e,f]=txT (exT e)++[44] :: txT (exT f):=by simp[agI]
theorem D3s{s:St}{d:Nat}(h:Q3 d s=true):psL (fun s=>txT (stT s)) s=txT (stT s):=by
 obtain⟨k,n,t,a,x,y,p⟩:=s;unfold Q3 at h;simp only[A0D,A0F,A1I]at h;obtain⟨⟨⟨⟨⟨k1,k2⟩,⟨ha, -⟩⟩,⟨hn,ht⟩⟩,⟨hx,hy⟩⟩, -⟩:=h;rw[psL];obtain⟨P,hP⟩:∃ P:St->List (List UInt8),P=fun s=>txT (stT s):=⟨_,rfl⟩;rw[<- hP];have hb:J8 P x=[123] :: (txT (L6 x)++[[125]]):=by rw[A6x,hP];rfl
 by_cases c1:k=1
 ·subst c1;obtain⟨e,rfl⟩:∃ e,a=[e]:=A2C.1 ha;have hn':C4 n=true:=hn;show [n,[61]]++([]++(agI 0 [e]++[[59]]))=_;rw[stT,if_pos rfl,F3,F3,F3,Q4 hn',C3w,C3w,B9q];simp[agT]
 have hkey:=C4g (k:=k) (by omega) k2;rw[stT,if_neg c1,if_neg (by omega)];dsimp only;rw[<- hkey];unfold hdL;rw[if_neg c1];by_cases c2:k=2
 ·subst c2;obtain⟨e,rfl⟩:∃ e,a=[e]:=A2C.1 ha;show [P5 B8 A3f 2]++([]++(agI 0 [e]++(J8 P x++A8m P y)))=_;rw[if_pos (.inl rfl),B9q,hb]
  match y with
  |[]=>simp[F3,J0,N6,A8m,agT]
  |[s] =>
   have hbs:J8 P [s]=[123] :: (txT (stT s)++[[125]]):=by simp[J8,hP]
   rw[A8m,hbs];dsimp only;by_cases h2:s.kind=2
   ·rw[if_pos h2,if_pos h2];simp[F3,J0,N6,agT,hP]
   ·rw[if_neg h2,if_neg h2];simp[F3,J0,N6,agT]
  |s :: s2 :: r =>
   have hbs:J8 P (s :: s2 :: r)=[123] :: (txT (L6 (s :: s2 :: r))++[[125]]):=by rw[A6x,hP];rfl
   rw[A8m,hbs];simp[F3,J0,N6,agT]
 by_cases c3:k=3
 ·subst c3;obtain⟨e,rfl⟩:∃ e,a=[e]:=A2C.1 ha;obtain rfl:y=[]:=by cases y with|nil=>rfl|cons a l=>exact absurd (show false=true from hy) (by decide)
  show [P5 B8 A3f 3]++([]++(agI 0 [e]++(J8 P x++A8m P [])))=_;rw[if_pos (.inr rfl),B9q,hb];simp[F3,J0,N6,A8m,agT]
 rw[if_neg (by omega:¬ (k=2\/k=3))];by_cases c4:k=4
 ·subst c4;obtain⟨e,rfl⟩:∃ e,a=[e]:=A2C.1 ha;show [P5 B8 A3f 4]++([]++(agI 0 [e]++[[59]]))=_;rw[if_pos rfl,B9q];simp[F3,J0,N6,agT]
 rw[if_neg c4];by_cases c18:k=18
 ·subst c18;obtain⟨e,rfl⟩:∃ e,a=[e]:=A2C.1 ha;have ht':P1 t=true:=ht;show [P5 B8 A3f 18]++([R0 t,[44]]++(agI 0 [e]++[[59]]))=_;rw[if_pos rfl,B9q];simp[F3,J0,N6,agT,C3u ht']
 rw[if_neg c18];by_cases c8:k=8\/k=10
 ·have hs:G4 k=⟨true,false,1,false,false⟩:=by rcases c8 with rfl|rfl<;>rfl
  rw[hs]at ha hn;obtain⟨e,rfl⟩:∃ e,a=[e]:=A2C.1 ha;have hn':C4 n=true:=hn;unfold txL A6a;rw[hs,if_pos c8,B9q];simp[F3,J0,N6,agT,Q4 hn']
 rw[if_neg c8];by_cases c9:k=9
 ·subst c9;obtain⟨e,f,rfl⟩:∃ e f,a=[e,f]:=by
   match a,ha with
   |[e,f],_=>exact⟨e,f,rfl⟩
  have hn':C4 n=true:=hn;show [P5 B8 A3f 9,n]++([]++(agI 0 [e,f]++[[59]]))=_;rw[if_pos rfl,D9w];simp[F3,J0,N6,agT,Q4 hn']
 rw[if_neg c9];by_cases c19:k=19
 ·subst c19;obtain rfl:a=[]:=A1K ha;show [P5 B8 A3f 19]++([]++(agI 0 []++[[59]]))=_;rw[if_pos rfl];simp[F3,J0,N6,agI]
 rw[if_neg c19];have hs:G4 k=⟨true,false,0,false,false⟩:=by
  unfold G4;rw[if_neg (by omega),if_neg c9,if_neg c2,if_neg c3,if_neg c4,if_neg c18,if_neg c19]
 rw[hs]at ha hn;obtain rfl:a=[]:=A1K ha;have hn':C4 n=true:=hn;unfold txL A6a;rw[hs];simp[F3,J0,N6,agI,Q4 hn']
def lnT(t:List UInt8):List UInt8:=if t=[59]\/t=[123]\/t=[125] then t++[10] else t++[32]
def T2(l:List (List UInt8)):List UInt8:=(l.map lnT).flatten
def A1p(t:Tok):Bool:=t.kind == 5 && (t.text == [59] || t.text == [123] || t.text == [125])
def rfm:List Tok->List UInt8
 |[]=>[]
 |t :: l=>H7 t++((if A1p t=true then [10] else if l=[] then [] else [32])++rfm l)
theorem B6w:∀ {l:List Tok},(∀ t∈l,Fit t)->(rfm l).length<=200026 * l.length
 |[],_=>by simp[rfm]
 |t :: l,h=>by
  have h1:=B6w fun t ht=>h t (A0H _ ht);have h2:=B2t (h t A0K);rw[rfm,A0A,A0A,A0I];have h3:(if A1p t=true then [10] else if l=[] then [] else ([32]:List UInt8)).length<=1:=by
   split
   ·simp
   ·split<;>simp
  omega
def OkT(t:Tok):Prop:=A1p t=true↔(H7 t=[59]\/H7 t=[123]\/H7 t=[125])
theorem A9m:∀ {l:List Tok},(∀ t∈l,OkT t)->(∀ t,l.getLast? = some t->A1p t=true)->rfm l=T2 (txT l)
 |[],_,_=>rfl
 |t :: l,h,hlast=>by
  have ho:=h t A0K;have ih:=A9m (l:=l) (fun t ht=>h t (A0H _ ht)) fun t2 h2=>by
   refine hlast t2 ?_;cases l with
   |nil=>cases h2
   |cons a l=>rw[List.getLast?_cons_cons];exact h2
  rw[rfm,ih];show _=lnT (H7 t)++T2 (txT l);unfold lnT;by_cases he:A1p t=true
  ·rw[if_pos he,if_pos (ho.1 he),A0T]
  ·rw[if_neg he,if_neg (fun hc=>he (ho.2 hc))];have hl:l≠[]:=fun e=>by subst e;exact he (hlast t rfl)
   rw[if_neg hl,A0T]
def I1(Q:Tok->Prop)(l:List Tok):Prop:=∀ t∈l,Q t
structure Clo (Q:Tok->Prop):Prop where
 z:I1 Q [O9]
 w:∀ x:List UInt8,x.length<=12->I1 Q [A5 x]
 n:∀ x,I1 Q (C8 x)
 v:∀ x,I1 Q (N9 x)
 t:∀ x,I1 Q (Q6 x)
section
variable {Q:Tok->Prop} (C:Clo Q)
include C
theorem I1.app{a b:List Tok}(h1:I1 Q a)(h2:I1 Q b):I1 Q (a++b):=fun t ht=>by
 rcases A0W.1 ht with h|h
 ·exact h1 t h
 ·exact h2 t h
theorem D3l:I1 Q []:=fun t ht=>by cases ht
theorem C9z(i:Nat):I1 Q [A5 (D3.getD i [])]:=C.w _ (by
 by_cases hi:i<13
 ·have:∀ i:Nat,i<13->(D3.getD i []).length<=12:=by decide
  exact this i hi
 ·rw[A0Y,A1T (by show 13<=i;omega)];simp)
theorem B4s{q:Int × List Tok}{m:Int}(h:I1 Q q.2):I1 Q (E1 q m):=by
 unfold E1;split
 ·exact ((C.w _ (by decide)).app C h).app C (C.w _ (by decide))
 ·exact h
theorem C4v{k v:Int}{n:List UInt8}{as1:List (Int × List Tok)}(h:∀ q∈as1,I1 Q q.2):I1 Q (F1 k v n as1):=by
 unfold F1;dsimp only;by_cases k1:k=1
 ·rw[if_pos k1];exact C.v v
 rw[if_neg k1];by_cases k2:k=2
 ·rw[if_pos k2];exact C.n n
 rw[if_neg k2];by_cases k3:k=3
 ·rw[if_pos k3];exact C.w _ (by decide)
 rw[if_neg k3];by_cases k4:k=4
 ·rw[if_pos k4];exact C.w _ (by decide)
 rw[if_neg k4];by_cases k8:k=8
 ·rw[if_pos k8];exact C.w _ (by decide)
 rw[if_neg k8];by_cases k9:k=9
 ·rw[if_pos k9];exact C.w _ (by decide)
 rw[if_neg k9];by_cases k5:k=5
 ·rw[if_pos k5];exact (C.w _ (by decide)).app C (C.n n)
 rw[if_neg k5];by_cases k6:k=6
 ·rw[if_pos k6];exact (C.w _ (by decide)).app C (C.n n)
 rw[if_neg k6];by_cases k7:k=7
 ·rw[if_pos k7];exact (C.w _ (by decide)).app C (C.n n)
 rw[if_neg k7]
 match as1,h with
 |[],h=>exact C.z
 |[q],h =>
  dsimp only;by_cases h6:B5 k=6
  ·rw[if_pos h6];refine I1.app C ?_ (B4s C (h q A0K));by_cases h10:k=10
   ·rw[if_pos h10];exact C.w _ (by decide)
   ·rw[if_neg h10];exact C.w _ (by decide)
  ·rw[if_neg h6];exact C.z
 |[q,r],h =>
  dsimp only;by_cases h6:B5 k<6
  ·rw[if_pos h6];exact ((B4s C (h q A0K)).app C (C9z C _)).app C (B4s C (h r (A0H _ A0K)))
  ·rw[if_neg h6];exact C.z
 |_ :: _ :: _ :: _,h=>exact C.z
theorem D3n:∀ (e:Ex),I1 Q (exT e):=by
 have:∀ (m:Nat) (e:Ex),e.sz<m->I1 Q (exT e):=by
  intro m
  induction m with
  |zero=>intro e h;omega
  |succ m ih =>
   rintro⟨k,v,n,a,p⟩ hm;rw[A8k];refine C4v C fun q hq=>?_;obtain⟨x,hx,rfl⟩:=A1L.1 hq;exact ih x (by have:=Ex.sz_arg (e:=.mk k v n a p) hx;omega)
 exact fun e=>this _ e (A2E _)
theorem D3q(l:List Ex)(i:Nat):I1 Q (agT l i):=by
 unfold agT;split
 ·exact D3n C _
 ·exact C.z
theorem A5k{α : Type}{f : α -> List Tok}{l:List α}(h:∀ x∈l,I1 Q (f x)):I1 Q (l.flatMap f):=fun t ht=>by
 obtain⟨x,hx,ht⟩:=A2X.1 ht;exact h x hx t ht
theorem C9y(i:Nat):I1 Q [A5 (B8.getD i [])]:=C.w _ (by
 by_cases hi:i<18
 ·have:∀ i:Nat,i<18->(B8.getD i []).length<=12:=by decide
  exact this i hi
 ·rw[A0Y,A1T (by show 18<=i;omega)];simp)
set_option maxHeartbeats 4000000 in
theorem D3k:∀ (s:St),I1 Q (stT s):=by
 have:∀ (m:Nat) (s:St),s.sz<m->I1 Q (stT s):=by
  intro m
  induction m with
  |zero=>intro e h;omega
  |succ m ih =>
   rintro⟨k,n,t,a,x,y,p⟩ hm;rw[St.sz]at hm;have hx:I1 Q (L6 x):=by rw[A0h];exact A5k C fun s hs=>ih s (by have:=St.szs_mem hs;omega)
   have hy:∀ s∈y,I1 Q (stT s):=fun s hs=>ih s (by have:=St.szs_mem hs;omega);have hys:I1 Q (L6 y):=by rw[A0h];exact A5k C hy
   have hel:I1 Q [A5 [101,108,115,101]]:=C.w _ (by decide);have w0:=C9y C (k-2).toNat;have o1:I1 Q [A5 [123]]:=C.w _ (by decide);have o2:I1 Q [A5 [125]]:=C.w _ (by decide);have o3:I1 Q [A5 [59]]:=C.w _ (by decide);have o4:I1 Q [A5 [44]]:=C.w _ (by decide);have o5:I1 Q [A5 [61]]:=C.w _ (by decide);rw[stT];dsimp only;repeat' split
   all_goals repeat' with_reducible first
    |refine I1.app C ?_ ?_
    |assumption
    |exact C.z
    |exact C.n _
    |exact C.t _
    |exact D3q C _ _
    |exact hy _ A0K
 exact fun e=>this _ e (A2E _)
theorem D3p(l:List St):I1 Q (blT l):=by
 rw[blT,A0h];exact ((C.w _ (by decide)).app C (A5k C fun s _=>D3k C s)).app C (C.w _ (by decide))
theorem D3o(d:Dc):I1 Q (dcT d):=by
 have hw:I1 Q [A5 (D0.getD (d.kind-1).toNat [])]:=C.w _ (by
  by_cases hi:(d.kind-1).toNat<8
  ·have:∀ i:Nat,i<8->(D0.getD i []).length<=12:=by decide
   exact this _ hi
  ·rw[A0Y,A1T (by show 8<=_;omega)];simp)
 have o3:I1 Q [A5 [59]]:=C.w _ (by decide);have o4:I1 Q [A5 [45]]:=C.w _ (by decide);unfold dcT;dsimp only;repeat' split
 all_goals repeat' first
  |assumption
  |exact C.z
  |exact C.n _
  |exact C.v _
  |refine I1.app C ?_ ?_
theorem D3m(h:Hd):I1 Q (hdT h):=by
 have hw:I1 Q [A5 (D5.getD (h.trig-1).toNat [])]:=C.w _ (by
  by_cases hi:(h.trig-1).toNat<6
  ·have:∀ i:Nat,i<6->(D5.getD i []).length<=12:=by decide
   exact this _ hi
  ·rw[A0Y,A1T (by show 6<=_;omega)];simp)
 have o3:I1 Q [A5 [111,110]]:=C.w _ (by decide);unfold hdT;refine (I1.app C (o3.app C hw) ?_).app C (D3p C _);split
 ·exact C.n _
 ·exact D3l C
theorem C1l(r:Ru):I1 Q (ruT r):=by
 unfold ruT;split
 ·exact C.z
 ·refine (A5k C fun d _=>D3o C d).app C (A5k C fun m _=>?_);unfold mdT;exact (((((C.w _ (by decide)).app C (C.n _)).app C (C.v _)).app C (C.w _ (by decide))).app C (A5k C fun h _=>D3m C h)).app C (C.w _ (by decide))
end
theorem C5j{n:List UInt8}(h:C4 n=true):n≠[59]/\n≠[123]/\n≠[125]:=by
 refine⟨?_,?_,?_⟩<;>rintro rfl<;>exact absurd h (by decide)
theorem C5e:OkT O9:=by
 constructor
 ·intro h;exact absurd h (by decide)
 ·intro h;exact absurd h (by decide)
theorem C5c(x:List UInt8):OkT (A5 x):=by
 unfold OkT;rw[J4];unfold A1p A5;dsimp only;by_cases hc:x=[59]\/x=[123]\/x=[125]
 ·have h5:(if G3 x=true then (2:Int) else if C4 x=true then 1 else 5)=5:=by rcases hc with rfl|rfl|rfl<;>decide
  rw[h5];constructor
  ·intro _;exact hc
  ·intro _;rcases hc with rfl|rfl|rfl<;>decide
 ·constructor
  ·intro h;simp only[A0D,A1C,A1I]at h;rcases h.2 with (h|h)|h
   ·exact .inl h
   ·exact .inr (.inl h)
   ·exact .inr (.inr h)
  ·intro h;exact absurd h hc
theorem C1u(x:List UInt8):I1 OkT (C8 x):=by
 unfold C8;by_cases h:C4 x=false
 ·rw[if_pos h];intro t ht;obtain rfl:=A0O.1 ht;exact C5e
 ·rw[if_neg h];intro t ht;obtain rfl:=A0O.1 ht;have hn:C4 x=true:=by cases hx:C4 x with|true=>rfl|false=>exact absurd hx h
  obtain⟨h1,h2,h3⟩:=C5j hn;constructor
  ·intro h;exact absurd h (by unfold A1p;simp)
  ·intro h;have ho:H7 ⟨1,x,0,0⟩=x:=rfl;rw[ho]at h;rcases h with h|h|h
   ·exact absurd h h1
   ·exact absurd h h2
   ·exact absurd h h3
theorem B4r(t:List UInt8):∃ r,R0 t=34 :: r:=⟨_,rfl⟩
theorem C5d(x:List UInt8):I1 OkT (Q6 x):=by
 unfold Q6;split
 ·intro t ht;obtain rfl:=A0O.1 ht;exact C5e
 ·intro t ht;obtain rfl:=A0O.1 ht;constructor
  ·intro h;exact absurd h (by unfold A1p;simp)
  ·intro h;have ho:H7 ⟨4,x,0,0⟩=R0 x:=rfl;obtain⟨r,hr⟩:=B4r x;rw[ho,hr]at h;rcases h with h|h|h<;>exact absurd (List.cons.inj h).1 (by decide)
theorem B9k(n:Nat):∃ a d,A6n n=a++[W6 d]/\d<10:=by
 by_cases h:n<10
 ·exact⟨[],n,A2y h,h⟩
 ·exact⟨_,n % 10,A4z h,by omega⟩
theorem D1z:∀ d:Nat,d<10->W6 d≠59/\W6 d≠123/\W6 d≠125:=by decide
theorem D0j(x:Int):I1 OkT (N9 x):=by
 unfold N9;split
 ·intro t ht;obtain rfl:=A0O.1 ht;exact C5e
 ·intro t ht;obtain rfl:=A0O.1 ht;constructor
  ·intro h;exact absurd h (by unfold A1p;simp)
  ·intro h;have ho:H7 ⟨3,[],x,0⟩=J6 x:=rfl;have hd:J6 x=A6n x.natAbs:=by unfold J6;rw[if_neg (by omega)]
   obtain⟨a,d,h1,h2⟩:=B9k x.natAbs;rw[ho,hd,h1]at h;obtain⟨e1,e2,e3⟩:=D1z d h2;have key:∀ c,a++[W6 d]=[c]->W6 d=c:=fun c hc=>by
    have:=congrArg List.getLast? hc;simpa using this
   rcases h with h|h|h
   ·exact absurd (key _ h) e1
   ·exact absurd (key _ h) e2
   ·exact absurd (key _ h) e3
theorem D2e:Clo OkT:=⟨fun t ht=>by obtain rfl:=A0O.1 ht;exact C5e,fun x _ t ht=>by obtain rfl:=A0O.1 ht;exact C5c x,C1u,D0j,C5d⟩
theorem C6s:Clo Fit:=⟨fun t ht=>by obtain rfl:=A0O.1 ht;exact A6h,fun x h t ht=>by obtain rfl:=A0O.1 ht;exact L9 (by omega),A0o,B7w,fun x t ht=>by
 unfold Q6 at ht;split at ht
 ·obtain rfl:=A0O.1 ht;exact A6h
 ·rename_i hc;obtain rfl:=A0O.1 ht;refine⟨?_,by show -9223372036854775808<=(0:Int);decide,by show (0:Int)<=9223372036854775807;decide⟩;show x.length<=100000;have:¬ 32<x.length:=fun h=>hc (.inr h);omega⟩
theorem C6g(r:Ru):∀ t∈ruT r,Fit t:=C1l C6s r
def Z8(l:List Tok):Prop:=l=[]\/∃ a t,l=a++[t]/\A1p t=true
theorem Z8.app{a b:List Tok}(h1:Z8 a)(h2:Z8 b):Z8 (a++b):=by
 rcases h2 with rfl|⟨c,t,rfl,ht⟩
 ·rw[A1H];exact h1
 ·exact .inr ⟨a++c,t,by rw[A0T],ht⟩
theorem Z8.flat{α : Type}{f : α -> List Tok}:∀ {l:List α},(∀ x∈l,Z8 (f x))->Z8 (l.flatMap f)
 |[],_=>.inl rfl
 |a :: l,h=>by
  rw[A1B];exact (h a A0K).app (Z8.flat fun x hx=>h x (A0H _ hx))
theorem Z8.get{l:List Tok}(h:Z8 l):∀ t,l.getLast? = some t->A1p t=true:=by
 intro t ht;rcases h with rfl|⟨a,x,rfl,hx⟩
 ·cases ht
 ·simp at ht;rw[<- ht];exact hx
theorem C6q{d:Dc}(h:A0a d=true):Z8 (dcT d):=by
 unfold A0a at h;simp only[A0D,A0F]at h;unfold dcT;rw[if_neg (by omega)];exact .inr ⟨_,_,rfl,by decide⟩
theorem C4o{r:Ru}(h:Z9 r=true):Z8 (ruT r):=by
 unfold Z9 at h;simp only[A0D,A0F]at h;obtain⟨⟨-,h1⟩,h2⟩:=h;unfold ruT;rw[if_neg]
 ·refine (Z8.flat fun d hd=>C6q (A0Q.1 h1 d hd)).app (Z8.flat fun m _=>?_);unfold mdT;exact .inr ⟨_,_,rfl,by decide⟩
 ·intro hb;obtain⟨m,hm,hb⟩:=A3D.1 hb;obtain⟨g,hg,hb⟩:=A3D.1 hb;have h3:=A0Q.1 h2 m hm;unfold S5 at h3;simp only[A0D]at h3;have h4:=A0Q.1 h3.2 g hg;unfold W4 at h4;simp only[A0D,A0F]at h4;unfold R5 at hb;simp only[A1C,A0F]at hb;omega
theorem C9d{r:Ru}(h:Z9 r=true):rfm (ruT r)=T2 (txT (ruT r)):=A9m (C1l D2e r) (C4o h).get
def C2r(r:Ru):List UInt8:=if Z9 r=true then T2 (txT (ruT r)) else []
def dcL(d:Dc):List (List UInt8):=[D0.getD (d.kind-1).toNat [],d.name]++((if d.kind<7 then (if d.value<0 then [[45]] else [])++[J6 (if d.value<0 then -d.value else d.value)] else [])++[[59]])
theorem B3z{v:Int}(h1:0<=v)(h2:v<=2147483647):txT (N9 v)=[J6 v]:=by
 unfold N9;rw[if_neg (by omega)];rfl
theorem D6a{d:Dc}(h:A0a d=true):txT (dcT d)=dcL d:=by
 unfold A0a at h;simp only[A0D,A0F]at h;obtain⟨⟨⟨⟨k1,k2⟩,hn⟩,v1⟩,v2⟩:=h;unfold dcT dcL;rw[if_neg (by omega)];dsimp only;by_cases h6:6<d.kind
 ·rw[if_pos h6,if_neg (show ¬ d.kind<7 by omega)];simp[F3,J0,N6,Q4 hn]
 ·rw[if_neg h6,if_pos (show d.kind<7 by omega)];have v2':d.value<=2147483647:=by split at v2<;>omega
  by_cases hv:d.value<0
  ·have hk:d.kind=6:=by split at v1<;>omega
   have v1' : -2147483647<=d.value:=by rw[if_pos hk]at v1;exact v1
   rw[if_pos (show d.value<0 /\ -2147483647<=d.value/\d.kind=6 from ⟨hv,v1',hk⟩),if_pos hv,if_pos hv];simp[F3,J0,N6,Q4 hn,B3z (v := -d.value) (by omega) (by omega)]
  ·rw[if_neg (show ¬ (d.value<0 /\ -2147483647<=d.value/\d.kind=6) from fun hc=>hv hc.1),if_neg hv,if_neg hv];simp[F3,J0,N6,Q4 hn,B3z (v:=d.value) (by omega) v2']
def B5n(h:Hd):List (List UInt8):=[[111,110],D5.getD (h.trig-1).toNat []]++((if 3<=h.trig then [h.name] else [])++txT (blT h.body))
theorem D4x{h:Hd}(hv:W4 h=true):txT (hdT h)=B5n h:=by
 unfold W4 at hv;simp only[A0D,A0F]at hv;obtain⟨⟨⟨k1,k2⟩,hn⟩, -⟩:=hv;unfold hdT B5n;by_cases h3:3<=h.trig
 ·rw[if_pos h3]at hn;rw[if_pos (by omega),if_pos h3];simp[F3,J0,N6,Q4 hn]
 ·rw[if_neg (by omega),if_neg h3];simp[F3,J0,N6]
def mdL(m:Md):List (List UInt8):=[[109,111,100,101],m.name,J6 m.prio,[123]]++(m.hds.flatMap B5n++[[125]])
theorem A7j{α : Type}{f : α -> List Tok}{g : α -> List (List UInt8)}:∀ {l:List α},(∀ x∈l,txT (f x)=g x)->txT (l.flatMap f)=l.flatMap g
 |[],_=>rfl
 |a :: l,h=>by
  rw[A1B,A1B,F3,h a A0K,A7j fun x hx=>h x (A0H _ hx)]
theorem D4b{m:Md}(hv:S5 m=true):txT (mdT m)=mdL m:=by
 unfold S5 at hv;simp only[A0D,A0F]at hv;obtain⟨⟨⟨⟨hn,p1⟩,p2⟩, -⟩,hh⟩:=hv;unfold mdT mdL;have hf:=A7j (l:=m.hds) (f:=hdT) (g:=B5n) fun h hm=>D4x (A0Q.1 hh h hm);simp[F3,J0,N6,Q4 hn,B3z p1 p2,hf]
theorem D2s{r:Ru}(h:Z9 r=true):txT (ruT r)=r.decls.flatMap dcL++r.modes.flatMap mdL:=by
 have h0:=h;unfold Z9 at h;simp only[A0D,A0F]at h;obtain⟨⟨-,h1⟩,h2⟩:=h;unfold ruT;rw[if_neg,F3,A7j fun d hd=>D6a (A0Q.1 h1 d hd),A7j fun m hm=>D4b (A0Q.1 h2 m hm)];intro hb;obtain⟨m,hm,hb⟩:=A3D.1 hb;obtain⟨g,hg,hb⟩:=A3D.1 hb;have h3:=A0Q.1 h2 m hm;unfold S5 at h3;simp only[A0D]at h3;have h4:=A0Q.1 h3.2 g hg;unfold W4 at h4;simp only[A0D,A0F]at h4;unfold R5 at hb;simp only[A1C,A0F]at hb;omega
def ShT(t:Tok):Prop:=(H7 t).length<=1000
theorem C4l:ShT O9:=by show (H7 O9).length<=1000;rw[show H7 O9=[] from rfl];simp
theorem D2d:Clo ShT:=⟨fun t ht=>by obtain rfl:=A0O.1 ht;exact C4l,fun x h t ht=>by
  obtain rfl:=A0O.1 ht;unfold ShT;rw[J4];omega,fun x t ht=>by
  unfold C8 at ht;by_cases h:C4 x=false
  ·rw[if_pos h]at ht;obtain rfl:=A0O.1 ht;exact C4l
  ·rw[if_neg h]at ht;obtain rfl:=A0O.1 ht;have h1:C4 x=true:=by cases hx:C4 x with|true=>rfl|false=>exact absurd hx h
   unfold C4 at h1;simp only[A0D,A0F]at h1;show x.length<=1000;omega,fun x t ht=>by
  unfold N9 at ht;split at ht
  ·obtain rfl:=A0O.1 ht;exact C4l
  ·obtain rfl:=A0O.1 ht;have:=A1z (n:=x) (by omega) (by omega);show (J6 x).length<=1000;omega,fun x t ht=>by
  unfold Q6 at ht;split at ht
  ·obtain rfl:=A0O.1 ht;exact C4l
  ·rename_i hc;obtain rfl:=A0O.1 ht;have h2:¬ 32<x.length:=fun h=>hc (.inr h);have:=A9n x;show (R0 x).length<=1000;omega⟩
theorem C8w(r:Ru):∀ t∈txT (ruT r),t.length<=100000:=fun t ht=>by
 obtain⟨x,hx,rfl⟩:=A1L.1 ht;have:(H7 x).length<=1000:=C1l D2d r x hx;omega
end Go.Pb
namespace Go.Sym
variable [Go.Sym.Tab]
open Go.Eng (Opd FOp AOp EOp IOp IOper DReg IC RV IFn M8 A5f isNew)
mutual
def I2:DV->DV->Bool
 |.bot,.bot=>true
 |.bool a,.bool b=>a == b
 |.int k n,.int l m=>k == l && n == m
 |.str a,.str b=>a == b
 |.pnil,.pnil=>true
 |.ptr a b,.ptr c d=>a == c && b == d
 |.snil,.snil=>true
 |.slc a b c,.slc x y z=>a == x && b == y && c == z
 |.lst a,.lst b=>A1i a b
 |.fptr a,.fptr b=>A1i a b
 |.agg a,.agg b=>A1i a b
 |.tup a,.tup b=>A1i a b
 |.mid a,.mid b=>a == b
 |.mnil,.mnil=>true
 |.func f a c,.func g b d=>f == g && A1i a b && A1i c d
 |_,_=>false
def A1i:List DV->List DV->Bool
 |[],[]=>true
 |a :: l,b :: m=>I2 a b && A1i l m
 |_,_=>false
end
mutual
theorem A4g:∀ (a b:DV),I2 a b=true->a=b
 |.bot,b,h=>by cases b<;>simp[I2]at h ⊢
 |.bool _,b,h=>by cases b<;>simp_all[I2]
 |.int _ _,b,h=>by cases b<;>simp_all[I2]
 |.str _,b,h=>by cases b<;>simp_all[I2]
 |.pnil,b,h=>by cases b<;>simp[I2]at h ⊢
 |.ptr _ _,b,h=>by cases b<;>simp_all[I2]
 |.snil,b,h=>by cases b<;>simp[I2]at h ⊢
 |.slc _ _ _,b,h=>by cases b<;>simp_all[I2]
 |.lst a,b,h=>by cases b with
  |lst b=>simp only[I2]at h;rw[U4 a b h]
  |_=>simp[I2]at h
 |.fptr a,b,h=>by cases b with
  |fptr b=>simp only[I2]at h;rw[U4 a b h]
  |_=>simp[I2]at h
 |.fnil,b,h=>by cases b<;>simp[I2]at h
 |.func f a c,b,h=>by cases b with
  |func g b d=>simp only[I2,A0D,A1I]at h;rw[h.1.1,U4 a b h.1.2,U4 c d h.2]
  |_=>simp[I2]at h
 |.inil,b,h=>by cases b<;>simp[I2]at h
 |.iface _ _,b,h=>by cases b<;>simp[I2]at h
 |.agg a,b,h=>by cases b with
  |agg b=>simp only[I2]at h;rw[U4 a b h]
  |_=>simp[I2]at h
 |.tup a,b,h=>by cases b with
  |tup b=>simp only[I2]at h;rw[U4 a b h]
  |_=>simp[I2]at h
 |.mpc _ _ _,b,h=>by cases b<;>simp[I2]at h
 |.mid _,b,h=>by cases b<;>simp_all[I2]
 |.mp _ _ _,b,h=>by cases b<;>simp[I2]at h
 |.mnil,b,h=>by cases b<;>simp[I2]at h ⊢
 |.ub,b,h=>by cases b<;>simp[I2]at h
theorem U4:∀ (a b:List DV),A1i a b=true->a=b
 |[],[],_=>rfl
 |[],_ :: _,h=>by simp[A1i]at h
 |_ :: _,[],h=>by simp[A1i]at h
 |a :: l,b :: m,h=>by
  simp only[A1i,A0D]at h;rw[A4g a b h.1,U4 l m h.2]
end
def B2j:Option Blk->Option Blk->Bool
 |none,none=>true
 |some a,some b=>a.unit == b.unit && a.own == b.own && A1i a.cells b.cells
 |_,_=>false
theorem C0x:∀ (a b:Option Blk),B2j a b=true->a=b
 |none,none,_=>rfl
 |none,some _,h=>by simp[B2j]at h
 |some _,none,h=>by simp[B2j]at h
 |some ⟨a,b,c⟩,some ⟨x,y,z⟩,h=>by
  simp only[B2j,A0D,A1I]at h;rw[h.1.1,h.1.2,U4 c z h.2]
def fcN(n:Nat)(k:Nat->Bool):Bool:=match n with
 |0=>k 0
 |n+1=>k (n+1)
theorem A5r(n:Nat)(k:Nat->Bool):fcN n k=k n:=by cases n<;>rfl
def fcI(z:Int)(k:Int->Bool):Bool:=match z with
 |.ofNat n=>fcN n fun n=>k (.ofNat n)
 |.negSucc n=>fcN n fun n=>k (.negSucc n)
theorem D1p(z:Int)(k:Int->Bool):fcI z k=k z:=by cases z<;>simp only[fcI,A5r]<;>rfl
def fcV(v:DV)(k:DV->Bool):Bool:=match v with
 |.bool b=>match b with
  |true=>k (.bool true)
  |false=>k (.bool false)
 |.int t z=>fcI z fun z=>k (.int t z)
 |.ptr i o=>fcN i fun i=>fcN o fun o=>k (.ptr i o)
 |.slc i o n=>fcN i fun i=>fcN o fun o=>fcN n fun n=>k (.slc i o n)
 |v=>k v
theorem B5q(v:DV)(k:DV->Bool):fcV v k=k v:=by
 cases v with
 |bool b=>cases b<;>rfl
 |int t z=>simp only[fcV,D1p]
 |ptr i o=>simp only[fcV,A5r]
 |slc i o n=>simp only[fcV,A5r]
 |_=>rfl
abbrev Tl:=List (Nat × DV)
def V0(a:List DV):Tl->Tm
 |[],j=>A4a a j
 |(e,w) :: r,j=>match Nat.beq e j with
  |true=>w
  |false=>V0 a r j
def B4t(d:Nat)(v:DV):Tl->Tl
 |[]=>[(d,v)]
 |(e,w) :: r=>match Nat.beq e d with
  |true=>(d,v) :: r
  |false=>(e,w) :: B4t d v r
def C4w(d:Nat)(v:DV):Tl->(Tl->Bool)->Bool
 |[],k=>k [(d,v)]
 |(e,w) :: r,k=>match Nat.beq e d with
  |true=>k ((d,v) :: r)
  |false=>C4w d v r fun r'=>k ((e,w) :: r')
theorem B7b(d:Nat)(v:DV):∀ (l:Tl) (k:Tl->Bool),C4w d v l k=k (B4t d v l)
 |[],k=>rfl
 |(e,w) :: r,k=>by
  unfold C4w B4t;cases Nat.beq e d with
  |true=>rfl
  |false=>exact B7b d v r _
theorem get_put(a:List DV)(d:Nat)(v:DV):∀ l:Tl,V0 a (B4t d v l)=(V0 a l).upd d v
 |[]=>by
  funext j
  show (match Nat.beq d j with|true=>v|false=>A4a a j)=if j=d then v else A4a a j
  cases h:Nat.beq d j with
  |true=>rw[if_pos (A3K h).symm]
  |false=>rw[if_neg fun e=>Nat.ne_of_beq_eq_false h e.symm]
 |(e,w) :: r=>by
  funext j
  have ih:=congrFun (get_put a d v r) j;show V0 a (match Nat.beq e d with|true=>(d,v) :: r|false=>(e,w) :: B4t d v r) j=if j=d then v else V0 a ((e,w) :: r) j
  cases h:Nat.beq e d with
  |true =>
   obtain rfl:=A3K h;show (match Nat.beq e j with|true=>v|false=>V0 a r j)=if j=e then v else (match Nat.beq e j with|true=>w|false=>V0 a r j)
   cases h2:Nat.beq e j with
   |true=>rw[if_pos (A3K h2).symm]
   |false=>rw[if_neg fun x=>Nat.ne_of_beq_eq_false h2 x.symm]
  |false =>
   show (match Nat.beq e j with|true=>w|false=>V0 a (B4t d v r) j)=if j=d then v else (match Nat.beq e j with|true=>w|false=>V0 a r j)
   cases h2:Nat.beq e j with
   |true=>rw[if_neg fun x=>Nat.ne_of_beq_eq_false h ((A3K h2).trans x)]
   |false=>exact ih
def B9x(d:Option Nat)(v:DV)(l:Tl)(k:Tl->Bool):Bool:=match d with
 |some d=>C4w d v l k
 |none=>k l
abbrev A6k:=Nat->List DV->Hp->Nat->(DV->Hp->Nat->Bool)->Bool
def B4z(call:A6k)(T:Tm)(H:Hp)(c:Nat)(k:DV->Hp->Nat->Bool):IOp->Bool
 |.pur f=>match fev H (ev T) f with
  |some v=>fcV v fun v=>k v H c
  |none=>false
 |.new f=>match aev (ev T) f with
  |some (m,b)=>fcN (c+1) fun c'=>k (mkv c m) (H.upd c b) c'
  |none=>false
 |.eff f=>match eev H c (ev T) f with
  |some (v,H',c')=>fcV v fun v=>fcN c' fun c'=>k v H' c'
  |none=>false
 |.call f args=>call f (args.map (ev T)) H c k
 |.callv x args=>match ev T x with
  |.func f a c'=>call f (a++args.map (ev T)++c') H c k
  |_=>false
abbrev Kn:=Tl->Hp->Nat->Bool
def evR(call:A6k)(a:List DV)(k:Kn):List IOper->Tl->Hp->Nat->Bool
 |[],l,H,c=>k l H c
 |o :: os,l,H,c=>match O5 (V0 a l) o.guard with
  |some true=>B4z call (V0 a l) H c (fun v H' c'=>B9x o.dst v l fun l'=>evR call a k os l' H' c') o.op
  |some false=>B9x o.dst (.tup []) l fun l'=>evR call a k os l' H c
  |none=>false
def D1x(call:A6k)(T:Tm)(H:Hp)(c:Nat)(o:IOper)(k:DV->Hp->Nat->Bool):Bool :=
 match O5 T o.guard with
 |some true=>B4z call T H c k o.op
 |some false=>k (.tup []) H c
 |none=>false
def agE(io:List IOper)(c0:Nat)(s:St)(j:Nat):Bool:=match io[j]? with
 |some o=>match A1l s (c0+j) o with
  |some (v,ob)=>(match o.dst with
   |some d=>I2 (s.T d) v
   |none=>true) && B2j (s.H (c0+j)) ob
  |none=>false
 |none=>false
def evD(call:A6k)(a:List DV)(k:Kn)(io:List IOper)(c0:Nat):List (Nat × Option (List Nat))->Tl->Hp->Nat->Bool
 |[],l,H,c=>k l H c
 |(i,none) :: r,l,H,c=>match io[i]? with
  |some o=>match A1l ⟨V0 a l,H,c⟩ (c0+i) o with
   |some (v,ob)=>fcV v fun v=>B9x o.dst v l fun l'=>evD call a k io c0 r l' (A0v H (c0+i) ob) c
   |none=>false
  |none=>false
 |(i,some pend) :: r,l,H,c=>match io[i]? with
  |some o=>D1x call (V0 a l) (F8 H ((pend.filter (isNew io)).map (c0 + ·))) c o fun v H' c'=>B9x o.dst v l fun l' =>
    (pend.all fun j=>agE io c0 ⟨V0 a l',I4 ((pend.filter (isNew io)).map (c0 + ·)) H H',c'⟩ j) &&
    evD call a k io c0 r l' (I4 ((pend.filter (isNew io)).map (c0 + ·)) H H') c'
  |none=>false
abbrev Ke:=Exit->Tl->Hp->Nat->Bool
def lpE(body:Tl->Hp->Nat->Ke->Bool)(k:Ke):Nat->Tl->Hp->Nat->Bool
 |0,_,_,_=>false
 |n+1,l,H,c=>body l H c fun e l' H' c'=>match e with
  |.normal=>lpE body k n l' H' c'
  |e=>k e l' H' c'
def evI(call:A6k)(F:Nat)(a:List DV):IC->Tl->Hp->Nat->Ke->Bool
 |.skip,l,H,c,k=>k .normal l H c
 |.reg ops,l,H,c,k=>evR call a (k .normal) ops l H c
 |.drw n d,l,H,c,k=>fcN (c+n) fun c'=>evD call a (k .normal) d.ops c d.plan l H c'
 |.seq x y,l,H,c,k=>evI call F a x l H c fun e l' H' c'=>match e with
  |.normal=>evI call F a y l' H' c' k
  |e=>k e l' H' c'
 |.cond o x y,l,H,c,k=>match ev (V0 a l) o with
  |.bool b=>match b with
   |true=>evI call F a x l H c k
   |false=>evI call F a y l H c k
  |_=>false
 |.blk id x,l,H,c,k=>evI call F a x l H c fun e l' H' c'=>match e with
  |.exit i=>if i=id then k .normal l' H' c' else k (.exit i) l' H' c'
  |e=>k e l' H' c'
 |.loop x,l,H,c,k=>lpE (evI call F a x) k F l H c
 |.exit id,l,H,c,k=>k (.exit id) l H c
 |.ret,l,H,c,k=>k .ret l H c
 |.bad,_,_,_,_=>false
 |.rg _,_,_,_,_=>false
def clE(P:Program)(F:Nat)(O:Nat->List DV->Option DV):Nat->A6k
 |0,_,_,_,_,_=>false
 |n+1,f,args,H,c,k=>match O f args with
  |some r=>k r H c
  |none=>match (P.funcs[f]?).bind (A5f P) with
   |some i=>Nat.ble args.length i.n && evI (clE P F O n) F args i.body [] H c fun e l H' c'=>match e with
    |.normal=>(match resV ⟨V0 args l,H',c'⟩ i.res with
     |some v=>k v H' c'
     |none=>false)
    |.ret=>(match resV ⟨V0 args l,H',c'⟩ i.res with
     |some v=>k v H' c'
     |none=>false)
    |_=>false
   |none=>false
section
variable {P:Program} {call:A6k} {F N:Nat} {a:List DV}
def A5y(P:Program)(call:A6k):Prop:=∀ f args H c k,call f args H c k=true->AC P f args H c fun v H' c'=>k v H' c'=true
theorem A6u{d:Option Nat}{v:DV}{l:Tl}{k:Tl->Bool}(h:B9x d v l k=true):∃ l',k l'=true/\V0 a l'=F9 (V0 a l) d v:=by
 cases d with
 |none=>exact⟨l,h,rfl⟩
 |some d=>exact⟨B4t d v l,(B7b d v l k).symm.trans h,get_put a d v l⟩
theorem B7g(hc:A5y P call){T:Tm}{H:Hp}{c:Nat}{k:DV->Hp->Nat->Bool}{K:DV->Hp->Nat->Prop}(hk:∀ v H c,k v H c=true->K v H c):∀ {i:IOp},B4z call T H c k i=true->M5 P ⟨T,H,c⟩ K i
 |.pur f,h=>by
  simp only[B4z]at h;simp only[M5];split at h
  ·rename_i v hv;rw[B5q]at h;simp only[hv];exact hk _ _ _ h
  ·cases h
 |.new f,h=>by
  simp only[B4z]at h;simp only[M5];split at h
  ·rename_i m b hv;rw[A5r]at h;simp only[hv];exact hk _ _ _ h
  ·cases h
 |.eff f,h=>by
  simp only[B4z]at h;simp only[M5];split at h
  ·rename_i v H' c' hv;rw[B5q,A5r]at h;simp only[hv];exact hk _ _ _ h
  ·cases h
 |.call f args,h=>(hc _ _ _ _ _ h).mono hk
 |.callv x args,h=>by
  simp only[B4z]at h;simp only[M5];split at h
  ·rename_i f a c hv;simp only[hv];exact (hc _ _ _ _ _ h).mono hk
  ·cases h
theorem B5s(hc:A5y P call){k:Kn}{Q:St->Prop}(hk:∀ l H c,k l H c=true->Q ⟨V0 a l,H,c⟩):∀ (os:List IOper) (l:Tl) (H:Hp) (c:Nat),evR call a k os l H c=true->rwp P Q os ⟨V0 a l,H,c⟩
 |[],l,H,c,h=>hk l H c h
 |o :: os,l,H,c,h=>by
  simp only[evR]at h;unfold rwp;split at h
  ·rename_i hw;simp only[hw];exact B7g hc (fun v H c h=>by
    obtain⟨l',h1,h2⟩:=A6u (a:=a) h;rw[<- h2];exact B5s hc hk os _ _ _ h1) h
  ·rename_i hw;simp only[hw];obtain⟨l',h1,h2⟩:=A6u (a:=a) h;rw[<- h2];exact B5s hc hk os _ _ _ h1
  ·cases h
theorem C6l(hc:A5y P call){T:Tm}{H:Hp}{c:Nat}{o:IOper}{k:DV->Hp->Nat->Bool}{K:DV->Hp->Nat->Prop}(hk:∀ v H c,k v H c=true->K v H c)(h:D1x call T H c o k=true):B3l P ⟨T,H,c⟩ o K:=by
 unfold D1x at h;unfold B3l;split at h
 ·rename_i hw;simp only[hw];exact B7g hc hk h
 ·rename_i hw;simp only[hw];exact hk _ _ _ h
 ·cases h
theorem D2j{io:List IOper}{c0:Nat}{s:St}{j:Nat}(h:agE io c0 s j=true):A2f io c0 s j:=by
 unfold agE at h;unfold A2f;split at h
 ·rename_i o ho;split at h
  ·rename_i v ob hv;simp only[ho,hv];rw[A0D]at h;refine⟨fun d hd=>?_,C0x _ _ h.2⟩;have h1:=h.1;rw[hd]at h1;exact A4g _ _ h1
  ·cases h
 ·cases h
theorem C3t{io:List IOper}{c0:Nat}{s:St}:∀ {l:List Nat},l.all (fun j=>agE io c0 s j)=true->V9 io c0 s l
 |[],_=>trivial
 |j :: l,h=>by
  rw[A2H,A0D]at h;exact⟨D2j h.1,C3t h.2⟩
theorem B5t(hc:A5y P call){k:Kn}{Q:St->Prop}(hk:∀ l H c,k l H c=true->Q ⟨V0 a l,H,c⟩){io:List IOper}{c0:Nat}:∀ (p:List (Nat × Option (List Nat))) (l:Tl) (H:Hp) (c:Nat),evD call a k io c0 p l H c=true->dwp P Q io c0 p ⟨V0 a l,H,c⟩
 |[],l,H,c,h=>hk l H c h
 |(i,none) :: r,l,H,c,h=>by
  simp only[evD]at h;unfold dwp;split at h
  ·rename_i o ho;split at h
   ·rename_i v ob hv;rw[B5q]at h;simp only[ho,hv];obtain⟨l',h1,h2⟩:=A6u (a:=a) h;rw[<- h2];exact B5t hc hk r _ _ _ h1
   ·cases h
  ·cases h
 |(i,some pend) :: r,l,H,c,h=>by
  simp only[evD]at h;unfold dwp;split at h
  ·rename_i o ho;simp only[ho];refine C6l hc (fun v H c h=>?_) h;obtain⟨l',h1,h2⟩:=A6u (a:=a) h;rw[A0D]at h1;rw[<- h2];exact⟨C3t h1.1,B5t hc hk r _ _ _ h1.2⟩
  ·cases h
theorem IW.seq{x y:IC}{s:St}{Q:Exit->St->Prop}(h:IW P N x s (A1t (fun s'=>IW P N y s' Q) Q)):IW P N (.seq x y) s Q:=by
 intro hm c hc;cases c<;>simp only[Go.Eng.trC]at hc<;>(try (cases hc;done))
 case seq a b =>
  split at hc
  ·rename_i x' y' hx hy;cases hc;refine .seq ((h hm a hx).mono fun e s' q=>?_);cases e with
   |normal=>exact q hm b hy
   |_=>exact q
  ·cases hc
 all_goals (repeat' (split at hc))<;>(try (cases hc;done))
 all_goals simp at hc
theorem IW.blk{id:Nat}{x:IC}{s:St}{Q:Exit->St->Prop}(h:IW P N x s (A6p id Q)):IW P N (.blk id x) s Q:=by
 intro hm c hc;cases c<;>simp only[Go.Eng.trC]at hc<;>(try (cases hc;done))
 case block i b =>
  simp only[A0R]at hc;obtain⟨x',hx,he⟩:=hc;cases he;exact .block (h hm b hx)
 all_goals (repeat' (split at hc))<;>(try (cases hc;done))
 all_goals simp at hc
theorem D1u(hc:A5y P call):∀ (ic:IC) (l:Tl) (H:Hp) (c:Nat) (k:Ke) (Q:Exit->St->Prop),(∀ e l H c,k e l H c=true->Q e ⟨V0 a l,H,c⟩)->evI call F a ic l H c k=true->IW P N ic ⟨V0 a l,H,c⟩ Q:=by
 intro ic
 induction ic with
 |skip=>intro l H c k Q hk h;exact IW.of (hk _ _ _ _ h)
 |reg ops=>intro l H c k Q hk h;exact IW.of (B5s hc (hk .normal) ops l H c h)
 |drw n d =>
  intro l H c k Q hk h;simp only[evI,A5r]at h;exact IW.of (B5t hc (hk .normal) _ _ _ _ h)
 |seq x y ihx ihy =>
  intro l H c k Q hk h;simp only[evI]at h;refine IW.seq (ihx l H c _ (A1t _ Q) (fun e l' H' c' h=>?_) h);cases e with
  |normal=>exact ihy l' H' c' k Q hk h
  |_=>exact hk _ _ _ _ h
 |cond o x y ihx ihy =>
  intro l H c k Q hk h;simp only[evI]at h;split at h
  ·rename_i b hb;refine IW.of ?_;unfold wpI;simp only[hb];cases b with
   |true=>exact⟨fun _=>ihx l H c k Q hk h,fun e=>(by cases e)⟩
   |false=>exact⟨fun e=>(by cases e),fun _=>ihy l H c k Q hk h⟩
  ·cases h
 |blk id x ih =>
  intro l H c k Q hk h;simp only[evI]at h;refine IW.blk (ih l H c _ (A6p id Q) (fun e l' H' c' h=>?_) h);cases e with
  |exit i =>
   simp only[A6p]at h ⊢;by_cases e:i=id
   ·rw[if_pos e]at h ⊢;exact hk _ _ _ _ h
   ·rw[if_neg e]at h ⊢;exact hk _ _ _ _ h
  |_=>exact hk _ _ _ _ h
 |loop x ih =>
  intro l H c k Q hk h;refine IW.loop (fun n s => ∃ l,s.T=V0 a l/\lpE (evI call F a x) k n l s.H s.c=true) F ⟨l,rfl,h⟩ fun n s ⟨l,e,h⟩=>?_;obtain⟨T,H,c⟩:=s;simp only at e h;subst e;cases n with
  |zero=>cases h
  |succ n =>
   refine ih l H c _ (A1t _ Q) (fun e l' H' c' h=>?_) h;cases e with
   |normal=>exact⟨n,A2E _,l',rfl,h⟩
   |_=>exact hk _ _ _ _ h
 |exit id=>intro l H c k Q hk h;exact IW.of (hk _ _ _ _ h)
 |ret=>intro l H c k Q hk h;exact IW.of (hk _ _ _ _ h)
 |bad=>intro l H c k Q hk h;cases h
 |rg r=>intro l H c k Q hk h;cases h
def B9r(P:Program)(O:Nat->List DV->Option DV):Prop:=∀ f args r,O f args=some r->PC P f args r
theorem B5x(hm:P.follows .mixedOrders=true){O:Nat->List DV->Option DV}(hO:B9r P O):∀ n,A5y P (clE P F O n)
 |0,_,_,_,_,_,h=>by cases h
 |n+1,f,args,H,c,k,h=>by
  simp only[clE]at h;split at h
  ·rename_i r hr;exact ((hO f args r hr).at H c).mono fun v H' c' ⟨h1,h2,h3⟩=>by rw[h1,h2,h3];exact h
  ·split at h
   ·rename_i i hi;rw[A0D]at h;refine AC.of hm (i:=i) hi (A0C h.1) (D1u (a:=args) (B5x hm hO n) _ [] H c _ _ (fun e l H' c' h=>?_) h.2);cases e<;>simp only[B4n]at h ⊢ <;> (try (cases h;done));all_goals (split at h<;>simp_all)
   ·cases h
theorem PC.run(hm:P.follows .mixedOrders=true)(O:Nat->List DV->Option DV)(hO:B9r P O)(F n f:Nat)(args:List DV)(r:DV)(na:DV.nlL args=true)(nr:r.nl=true)(h:clE P F O n f args nil 0 (fun v _ _=>I2 v r)=true):PC P f args r :=
 ⟨na,nr,(B5x hm hO n _ _ _ _ _ h).mono fun v H' c' e=>A4g _ _ e⟩
end
def A6i(u:Nat):Nat->List DV->List DV
 |0,_=>[]
 |n+1,cs=>(if u=1 then cs.headD .bot else .agg (cs.take u)) :: A6i u n (cs.drop u)
theorem B9m{x:DV}(h:x.one=true):x.cells=[x]:=by
 cases x<;>first|rfl|(simp[DV.one]at h)
theorem B3p{u:Nat}:∀ (n:Nat) (cs:List DV),cs.length=n * u->cs.all DV.one=true->0<u->(A6i u n cs).length=n/\(∀ x∈A6i u n cs,x.cells.length=u)/\A3 (A6i u n cs)=cs
 |0,cs,h,_,_=>by
  rw[Nat.zero_mul]at h;rw[List.length_eq_zero_iff.1 h];exact⟨rfl,fun x hx=>(by cases hx),rfl⟩
 |n+1,cs,h,ho,hu=>by
  have hl:u<=cs.length:=by rw[h,Nat.succ_mul];omega
  obtain⟨h1,h2,h3⟩:=B3p n (cs.drop u) (by rw[A2A,h,Nat.succ_mul];omega) (by
   rw[A0Q]at ho ⊢;exact fun x hx=>ho x (A3M hx)) hu
  have hc:(if u=1 then cs.headD .bot else .agg (cs.take u)).cells=cs.take u:=by
   by_cases e:u=1
   ·rw[if_pos e];subst e;cases cs with
    |nil=>simp at hl
    |cons x cs =>
     have h1:x.one=true:=A0Q.1 ho x A0K;rw[List.headD_cons,B9m h1];rfl
   ·rw[if_neg e];rfl
  refine⟨by rw[A6i,A0I,h1],fun x hx=>?_,?_⟩
  ·rw[A6i]at hx;rcases A1E.1 hx with rfl|hx
   ·rw[hc,A1F];omega
   ·exact h2 x hx
  ·rw[A6i];show (if u=1 then cs.headD .bot else .agg (cs.take u)).cells++A3 _=cs;rw[hc,h3,A2K]
mutual
def sbV(id:Nat)(b:Blk):DV->DV
 |.slc i o n=>if i == id then (if Nat.ble (o+n * b.unit) b.cells.length && Nat.ble 1 b.unit && ((b.cells.drop o).take (n * b.unit)).all DV.one then .lst (A6i b.unit n ((b.cells.drop o).take (n * b.unit))) else .bot) else .slc i o n
 |.ptr i o=>if i == id then (if Nat.ble o b.cells.length then .fptr (b.cells.drop o) else .bot) else .ptr i o
 |.agg l=>.agg (sbL id b l)
 |.tup l=>.tup (sbL id b l)
 |v=>v
def sbL(id:Nat)(b:Blk):List DV->List DV
 |[]=>[]
 |v :: l=>sbV id b v :: sbL id b l
end
mutual
theorem C8y(id:Nat)(b:Blk):∀ v,Fz id b v (sbV id b v)
 |.slc i o n=>by
  unfold sbV;split
  ·rename_i e;obtain rfl:=eq_of_beq e;split
   ·rename_i h;simp only[A0D]at h;have h1:=A0C h.1.1;have h2:=A0C h.1.2;obtain⟨c1,c2,c3⟩:=B3p n ((b.cells.drop o).take (n * b.unit)) (by rw[A1F,A2A];omega) h.2 h2;exact .slc _ _ b.unit _ c1 c2 h1 c3
   ·exact .bot _
  ·exact .same _
 |.ptr i o=>by
  unfold sbV;split
  ·rename_i e;obtain rfl:=eq_of_beq e;split
   ·rename_i h;exact .ptr _ _ (A0C h) rfl
   ·exact .bot _
  ·exact .same _
 |.agg l=>by unfold sbV;exact .agg _ _ (A7r id b l)
 |.tup l=>by unfold sbV;exact .tup _ _ (A7r id b l)
 |.bot |.bool _ |.int _ _ |.str _ |.pnil |.snil |.lst _ |.fptr _ |.fnil |.func _ _ _ |.inil |.iface _ _ |.mpc _ _ _ |.mid _ |.mp _ _ _ |.mnil |.ub=>.same _
theorem A7r(id:Nat)(b:Blk):∀ l,FzL id b l (sbL id b l)
 |[]=>.nil
 |v :: l=>.cons _ _ _ _ (C8y id b v) (A7r id b l)
end
def sbB(id:Nat)(b:Blk):Option Blk->Option Blk
 |some c=>if (sbL id b c.cells).all DV.one then some ⟨c.unit,c.own,sbL id b c.cells⟩ else none
 |none=>none
def sbH(id:Nat)(b:Blk)(H:Hp):Hp:=fun j=>if j == id then none else sbB id b (H j)
def fzS(q:Hp × List DV)(id:Nat):Hp × List DV:=match q.1 id with
 |some b=>if b.own then (sbH id b q.1,sbL id b q.2) else q
 |none=>q
theorem D1o(q:Hp × List DV)(id:Nat):GL q.1 q.2 (fzS q id).1 (fzS q id).2:=by
 unfold fzS;split
 ·rename_i b hb;split
  ·rename_i ho;refine GL.frz hb ho (fun j=>?_) (A7r id b q.2);show sbH id b q.1 j=none\/_;unfold sbH;by_cases e:j=id
   ·exact .inl (by rw[if_pos (by simpa using e)])
   ·rw[if_neg (by simpa using e)];cases hj:q.1 j with
    |none=>exact .inl rfl
    |some c =>
     by_cases h1:(sbL id b c.cells).all DV.one=true
     ·refine .inr ⟨e,.inr ⟨c,⟨c.unit,c.own,sbL id b c.cells⟩,rfl,?_,rfl,rfl,A7r id b _,A0Q.1 h1⟩⟩;show sbH id b q.1 j=_;unfold sbH;rw[if_neg (by simpa using e),hj];simp only[sbB,h1,if_true]
     ·exact .inl (by simp only[sbB,if_neg h1])
  ·exact GL.refl _ _
 ·exact GL.refl _ _
theorem C2q:∀ (L:List Nat) (q:Hp × List DV),GL q.1 q.2 (L.foldl fzS q).1 (L.foldl fzS q).2
 |[],q=>GL.refl _ _
 |i :: L,q=>(D1o q i).trans (C2q L (fzS q i))
mutual
def leV:DV->DV->Bool
 |.snil,.lst l=>l.isEmpty
 |.agg a,.agg b=>leL a b
 |.tup a,.tup b=>leL a b
 |a,b=>I2 a b
def leL:List DV->List DV->Bool
 |[],[]=>true
 |a :: l,b :: m=>leV a b && leL l m
 |_,_=>false
end
theorem A1b:∀ (a b:List DV),leL a b=true->a.length=b.length
 |[],[],_=>rfl
 |[],_ :: _,h=>by simp[leL]at h
 |_ :: _,[],h=>by simp[leL]at h
 |a :: l,b :: m,h=>by
  simp only[leL,A0D]at h;rw[A0I,A0I,A1b l m h.2]
theorem B1f{a b:DV}(h:leV a b=true):(a=.snil/\b=.lst [])\/(∃ l m,a=.agg l/\b=.agg m/\leL l m=true)\/(∃ l m,a=.tup l/\b=.tup m/\leL l m=true)\/a=b:=by
 unfold leV at h;split at h
 ·rename_i l;cases l with
  |nil=>exact .inl ⟨rfl,rfl⟩
  |cons x l=>cases h
 ·exact .inr (.inl ⟨_,_,rfl,rfl,h⟩)
 ·exact .inr (.inr (.inl ⟨_,_,rfl,rfl,h⟩))
 ·exact .inr (.inr (.inr (A4g _ _ h)))
mutual
theorem D0v{ρ : Ren}:∀ (a b:DV) (v:Value),leV a b=true->VRel ρ a v->VRel ρ b v
 |.agg l,b,v,h,hv=>by
  rcases B1f h with ⟨e, -⟩|⟨l',m,e,rfl,hl⟩|⟨l',m,e, -⟩|rfl
  ·cases e
  ·cases e;obtain⟨vs,rfl,hA⟩:=hv.agg_inv;exact .mkAgg ⟨by rw[<- A1b l m hl];exact hA.1,fun i x y hx hy=>by
    have hi:i<l.length:=by rw[A1b l m hl];exact (A0P.1 hx).1
    exact B1g l m i y _ x hl (A0B hi) hx (hA.2 i _ y (A0B hi) hy)⟩
  ·cases e
  ·exact hv
 |.tup l,b,v,h,hv=>by
  rcases B1f h with ⟨e, -⟩|⟨l',m,e, -⟩|⟨l',m,e,rfl,hl⟩|rfl
  ·cases e
  ·cases e
  ·cases e;obtain⟨vs,rfl,hA⟩:=hv.tup_inv;exact .mkTup ⟨by rw[<- A1b l m hl];exact hA.1,fun i x y hx hy=>by
    have hi:i<l.length:=by rw[A1b l m hl];exact (A0P.1 hx).1
    exact B1g l m i y _ x hl (A0B hi) hx (hA.2 i _ y (A0B hi) hy)⟩
  ·exact hv
 |.snil,b,v,h,hv=>by
  rcases B1f h with ⟨-,rfl⟩|⟨l,m,e, -⟩|⟨l,m,e, -⟩|rfl
  ·exact hv.snil_lst
  ·cases e
  ·cases e
  ·exact hv
 |.bot,b,v,h,hv |.bool _,b,v,h,hv |.int _ _,b,v,h,hv |.str _,b,v,h,hv |.pnil,b,v,h,hv |.ptr _ _,b,v,h,hv |.slc _ _ _,b,v,h,hv |.lst _,b,v,h,hv |.fptr _,b,v,h,hv |.fnil,b,v,h,hv
 |.func _ _ _,b,v,h,hv |.inil,b,v,h,hv |.iface _ _,b,v,h,hv |.mpc _ _ _,b,v,h,hv |.mid _,b,v,h,hv |.mp _ _ _,b,v,h,hv |.mnil,b,v,h,hv |.ub,b,v,h,hv=>by
  rcases B1f h with ⟨e, -⟩|⟨l,m,e, -⟩|⟨l,m,e, -⟩|rfl
  ·cases e
  ·cases e
  ·cases e
  ·exact hv
theorem B1g{ρ : Ren}:∀ (a b:List DV) (i:Nat) (v:Value) (x y:DV),leL a b=true->a[i]? = some x->b[i]? = some y->VRel ρ x v->VRel ρ y v
 |[],_,_,_,_,_,_,h,_,_=>by cases h
 |_ :: _,[],_,_,_,_,_,_,h,_=>by cases h
 |a :: l,b :: m,0,v,x,y,h,hx,hy,hv=>by
  simp only[leL,A0D]at h;cases hx;cases hy;exact D0v a b v h.1 hv
 |a :: l,b :: m,i+1,v,x,y,h,hx,hy,hv=>by
  simp only[leL,A0D]at h;exact B1g l m i v x y h.2 hx hy hv
end
theorem C7l{H:Hp}{a b:List DV}(h:leL a b=true):GL H a H b:=GL.view fun ρ vs hA =>
 ⟨by rw[<- A1b a b h];exact hA.1,fun i x y hx hy=>by
  have hi:i<a.length:=by rw[A1b a b h];exact (A0P.1 hx).1
  exact B1g a b i y _ x h (A0B hi) hx (hA.2 i _ y (A0B hi) hy)⟩
def nz:DV->DV
 |.snil=>.lst []
 |d=>d
def nzB(b:Blk):Blk:=if b.cells.any DV.one then ⟨b.unit,b.own,b.cells.map nz⟩ else b
theorem D3v(H:Hp)(ds:List DV):GL H ds (fun j=>(H j).map nzB) ds:=GL.cells fun j=>by
 cases hj:H j with
 |none=>exact .inl rfl
 |some b =>
  refine .inr ?_;unfold nzB;by_cases h:b.cells.any DV.one=true
  ·refine .inr ⟨b,⟨b.unit,b.own,b.cells.map nz⟩,rfl,?_,rfl,rfl,by simp,A3D.1 h,fun i d' hd=>?_⟩
   ·exact congrArg some (if_pos h)
   ·rw[A1A,A0R]at hd;obtain⟨d,h1,rfl⟩:=hd;refine⟨d,h1,?_⟩;cases d<;>first|exact .inl rfl|exact .inr ⟨rfl,fun _ _ h=>h.snil_lst⟩
  ·exact .inl (congrArg some (if_neg h))
section
variable {P:Program}
theorem PC.runF(hm:P.follows .mixedOrders=true)(O:Nat->List DV->Option DV)(hO:B9r P O)(F n:Nat)(L:List Nat)(f:Nat)(args:List DV)(r:DV)(na:DV.nlL args=true)(nr:r.nl=true)
  (h:clE P F O n f args nil 0 (fun v H _=>leL (L.foldl fzS (fun j=>(H j).map nzB,[v])).2 [r])=true):PC P f args r :=
 ⟨na,nr,AC.post ((B5x hm hO n _ _ _ _ _ h).mono fun v H' c' e=>by
  exact⟨r,_,((D3v H' [v]).trans (C2q L (_,[v]))).trans (C7l e),rfl⟩)⟩
def A0l(L:List (Nat × List DV × DV))(O:Nat->List DV->Option DV)(f:Nat)(a:List DV):Option DV:=match L with
 |[]=>O f a
 |x :: L=>if f == x.1 && (leL a x.2.1 && DV.nlL a) then some x.2.2 else A0l L O f a
theorem B3b{O:Nat->List DV->Option DV}(hO:B9r P O):∀ (L:List (Nat × List DV × DV)),(∀ x∈L,PC P x.1 x.2.1 x.2.2)->B9r P (A0l L O)
 |[],_=>hO
 |x :: L,h=>fun f a r hr=>by
  unfold A0l at hr;split at hr
  ·rename_i e;simp only[A0D]at e;cases hr;have hx:=h x A0K;rw[eq_of_beq e.1];exact⟨e.2.2,hx.nr,AC.ghost (C7l e.2.1) hx.ac⟩
  ·exact B3b hO L (fun y hy=>h y (A0H _ hy)) f a r hr
end
end Go.Sym
namespace Go.Proofs.YtmmjlijdfhkdcaaGreatDoor
instance tabI:Go.Sym.Tab:=⟨[(0,fun r=>r=(Lib.pow10Tab.map fun z=>Value.int .u64 z).toArray),(1,fun r=>r=(Lib.asciiSpaceTab.map fun z=>Value.int .u8 z).toArray),(7,fun r => ∃ te pe,r = #[.iface te pe])]⟩
end Go.Proofs.YtmmjlijdfhkdcaaGreatDoor
set_option maxHeartbeats 4000000
set_option maxRecDepth 100000
namespace Go.Proofs.YtmmjlijdfhkdcaaGreatDoor
open Go.Eng (IC IOper DReg IFn M8)
open Go.Sym
theorem B1:Tryz.prog.follows .mixedOrders=true:=by kernel_rfl
abbrev x84:XT Tryz.prog 84:=mkF
instance t84:FT Tryz.prog 84 x84.d:=x84.ft
abbrev x124:XT Tryz.prog 124:=mkF
instance t124:FT Tryz.prog 124 x124.d:=x124.ft
abbrev x86:XT Tryz.prog 86:=mkF
instance t86:FT Tryz.prog 86 x86.d:=x86.ft
abbrev x85:XT Tryz.prog 85:=mkF
instance t85:FT Tryz.prog 85 x85.d:=x85.ft
abbrev x103:XT Tryz.prog 103:=mkF
instance t103:FT Tryz.prog 103 x103.d:=x103.ft
abbrev x87:XT Tryz.prog 87:=mkF
instance t87:FT Tryz.prog 87 x87.d:=x87.ft
abbrev x48:XT Tryz.prog 48:=mkF
instance t48:FT Tryz.prog 48 x48.d:=x48.ft
abbrev x99:XT Tryz.prog 99:=mkF
instance t99:FT Tryz.prog 99 x99.d:=x99.ft
abbrev x116:XT Tryz.prog 116:=mkF
instance t116:FT Tryz.prog 116 x116.d:=x116.ft
abbrev x71:XT Tryz.prog 71:=mkF
instance t71:FT Tryz.prog 71 x71.d:=x71.ft
abbrev x73:XT Tryz.prog 73:=mkF
instance t73:FT Tryz.prog 73 x73.d:=x73.ft
abbrev x129:XT Tryz.prog 129:=mkF
instance t129:FT Tryz.prog 129 x129.d:=x129.ft
abbrev x76:XT Tryz.prog 76:=mkF
instance t76:FT Tryz.prog 76 x76.d:=x76.ft
abbrev x91:XT Tryz.prog 91:=mkF
instance t91:FT Tryz.prog 91 x91.d:=x91.ft
abbrev x92:XT Tryz.prog 92:=mkF
instance t92:FT Tryz.prog 92 x92.d:=x92.ft
abbrev x36:XT Tryz.prog 36:=mkF
instance t36:FT Tryz.prog 36 x36.d:=x36.ft
abbrev x72:XT Tryz.prog 72:=mkF
instance t72:FT Tryz.prog 72 x72.d:=x72.ft
abbrev x74:XT Tryz.prog 74:=mkF
instance t74:FT Tryz.prog 74 x74.d:=x74.ft
abbrev x75:XT Tryz.prog 75:=mkF
instance t75:FT Tryz.prog 75 x75.d:=x75.ft
abbrev x37:XT Tryz.prog 37:=mkF
instance t37:FT Tryz.prog 37 x37.d:=x37.ft
abbrev x12:XT Tryz.prog 12:=mkF
instance t12:FT Tryz.prog 12 x12.d:=x12.ft
abbrev x16:XT Tryz.prog 16:=mkF
instance t16:FT Tryz.prog 16 x16.d:=x16.ft
abbrev x63:XT Tryz.prog 63:=mkF
instance t63:FT Tryz.prog 63 x63.d:=x63.ft
abbrev x32:XT Tryz.prog 32:=mkF
instance t32:FT Tryz.prog 32 x32.d:=x32.ft
abbrev x14:XT Tryz.prog 14:=mkF
instance t14:FT Tryz.prog 14 x14.d:=x14.ft
abbrev x77:XT Tryz.prog 77:=mkF
instance t77:FT Tryz.prog 77 x77.d:=x77.ft
abbrev x78:XT Tryz.prog 78:=mkF
instance t78:FT Tryz.prog 78 x78.d:=x78.ft
abbrev x42:XT Tryz.prog 42:=mkF
instance t42:FT Tryz.prog 42 x42.d:=x42.ft
abbrev x119:XT Tryz.prog 119:=mkF
instance t119:FT Tryz.prog 119 x119.d:=x119.ft
abbrev x43:XT Tryz.prog 43:=mkF
instance t43:FT Tryz.prog 43 x43.d:=x43.ft
abbrev x40:XT Tryz.prog 40:=mkF
instance t40:FT Tryz.prog 40 x40.d:=x40.ft
abbrev x81:XT Tryz.prog 81:=mkF
instance t81:FT Tryz.prog 81 x81.d:=x81.ft
abbrev x80:XT Tryz.prog 80:=mkF
instance t80:FT Tryz.prog 80 x80.d:=x80.ft
abbrev x79:XT Tryz.prog 79:=mkF
instance t79:FT Tryz.prog 79 x79.d:=x79.ft
abbrev x38:XT Tryz.prog 38:=mkF
instance t38:FT Tryz.prog 38 x38.d:=x38.ft
abbrev x39:XT Tryz.prog 39:=mkF
instance t39:FT Tryz.prog 39 x39.d:=x39.ft
abbrev x56:XT Tryz.prog 56:=mkF
instance t56:FT Tryz.prog 56 x56.d:=x56.ft
abbrev x120:XT Tryz.prog 120:=mkF
instance t120:FT Tryz.prog 120 x120.d:=x120.ft
abbrev x174:XT Tryz.prog 174:=mkF
instance t174:FT Tryz.prog 174 x174.d:=x174.ft
abbrev x172:XT Tryz.prog 172:=mkF
instance t172:FT Tryz.prog 172 x172.d:=x172.ft
abbrev x171:XT Tryz.prog 171:=mkF
instance t171:FT Tryz.prog 171 x171.d:=x171.ft
abbrev x183:XT Tryz.prog 183:=mkF
instance t183:FT Tryz.prog 183 x183.d:=x183.ft
abbrev x193:XT Tryz.prog 193:=mkF
instance t193:FT Tryz.prog 193 x193.d:=x193.ft
abbrev x153:XT Tryz.prog 153:=mkF
instance t153:FT Tryz.prog 153 x153.d:=x153.ft
abbrev x82:XT Tryz.prog 82:=mkF
instance t82:FT Tryz.prog 82 x82.d:=x82.ft
abbrev x121:XT Tryz.prog 121:=mkF
instance t121:FT Tryz.prog 121 x121.d:=x121.ft
abbrev x41:XT Tryz.prog 41:=mkF
instance t41:FT Tryz.prog 41 x41.d:=x41.ft
abbrev x44:XT Tryz.prog 44:=mkF
instance t44:FT Tryz.prog 44 x44.d:=x44.ft
abbrev x13:XT Tryz.prog 13:=mkF
instance t13:FT Tryz.prog 13 x13.d:=x13.ft
abbrev x4:XT Tryz.prog 4:=mkF
instance t4:FT Tryz.prog 4 x4.d:=x4.ft
open Go.Sym Go.Pb
theorem D0l{H:Hp}{cc j:Nat}{b:Blk}(hfr:∀ i,cc<=i->H i=none)(h:H j=some b):j≠cc:=by
 rintro rfl;rw[hfr _ (A0J _)]at h;cases h
theorem B5o{H:Hp}{cc:Nat}{b:Blk}{ds:List DV}(hfr:∀ i,cc<=i->H i=none):GL (H.upd cc b) ds H ds:=GL.less' fun j b hj=>by rw[A6 (D0l hfr hj)];exact hj
theorem R6{K H':Hp}{cc:Nat}{ds:List DV}(hK:∀ i,cc<=i->K i=none)(h:∀ j,j<cc->H' j=K j):GL H' ds K ds:=GL.less fun j=>by
 by_cases hj:j<cc
 ·exact .inr (h j hj).symm
 ·exact .inl (hK j (by omega))
theorem D7{H:Hp}{cc t:Nat}{b:Blk}(hfr:∀ i,cc<=i->H i=none)(htc:t<cc):∀ i,cc<=i->H.upd t b i=none:=fun i hi=>by rw[hnO];exact hfr i hi
theorem rv4{s:Sym.St}{x i u:Nat}{a b c d:DV}{o:Bool}(h:s.T x=.ptr i 0)(hb:s.H i=some ⟨u,o,[a,b,c,d]⟩):resV s [.cell x 4 true]=some (.agg [a,b,c,d]):=by
 simp only[resV,A3g,h,ldv,ldB,hb];rfl
theorem c_rdok(L:List Tok)(E:Int)(s:Rd)(H:Hp)(cc t:Nat)(ht:H t=some (rdR L E s))(htc:t<cc):AC Tryz.prog 14 [.ptr t 0] H cc (fun v H' c'=>v=.bool (okR s)/\H'=H):=by
 refine AC.bodyT B1 rfl (A0C rfl) fun hfr=>?_;repeat' ((with_reducible first|refine wr ?_|refine A1 ?_ ?_|refine wb2 ?_ ?_<;>(intro hb;try simp only[hb])|fail)<;>try simp only[go_sem,seval,ht])
 exact⟨_,_,GL.refl _ _,rfl,rfl⟩
theorem c_peek(L:List Tok)(E:Int)(s:Rd)(H:Hp)(cc t:Nat)(ht:H t=some (rdR L E s))(htc:t<cc):AC Tryz.prog 78 [.ptr t 0] H cc (fun v H' c'=>v=(C2 L E s).v/\H'=H):=by
 refine AC.bodyT B1 rfl (A0C rfl) fun hfr=>?_;have ne0:=A4n t cc (by omega);by_cases hlt:s.i<L.length
 ·have hd:decide ((s.i:Int)<L.length)=true:=by simpa using hlt
  have hg:=A0B hlt;have e:C2 L E s=L[s.i]:=by unfold C2;rw[A0Y,hg];rfl
  rw[e];generalize L[s.i]=a at hg;repeat' ((with_reducible first|refine wr ?_|refine A1 ?_ ?_|refine wb2 ?_ ?_<;>(intro hb;try simp only[hb])|fail)<;>try simp only[go_sem,seval,ht,hd,hg,ne0,A0,A2])
  rw[E6 (v:=a.v) (rv4 rfl A0)];exact⟨_,_,B5o hfr,rfl,rfl⟩
 ·have hd:decide ((s.i:Int)<L.length)=false:=by simpa using hlt
  have e:C2 L E s=⟨0,[],0,E⟩:=by unfold C2;rw[A0Y,A1T (by omega)];rfl
  rw[e];repeat' ((with_reducible first|refine wr ?_|refine A1 ?_ ?_|refine wb2 ?_ ?_<;>(intro hb;try simp only[hb])|fail)<;>try simp only[go_sem,seval,ht,hd,ne0,A0,A2])
  rw[E6 (v:=Tok.v ⟨0,[],0,E⟩) (rv4 rfl A0)];exact⟨_,_,B5o hfr,rfl,rfl⟩
theorem c_fail(L:List Tok)(E:Int)(s:Rd)(H:Hp)(cc t:Nat)(ht:H t=some (rdR L E s))(htc:t<cc)(p e:Int):AC Tryz.prog 77 [.ptr t 0,I64 p,I64 e] H cc (fun v H' c'=>v=.tup []/\H'=H.upd t (rdR L E (N4 s p e))):=by
 refine AC.bodyT B1 rfl (A0C rfl) fun hfr=>?_;cases h:okR s with
 |true =>
  have e0:N4 s p e = { s with e:=e,pos:=p }:=by rw[N4,if_pos h]
  have h':(s.e == 0)=true:=h;rw[e0];repeat' ((with_reducible first|refine wr ?_|refine A1 ?_ ?_|refine wb2 ?_ ?_<;>(intro hb;try simp only[hb])|fail)<;>try simp only[go_sem,seval,ht,h',h,A0,A2])
  exact⟨_,_,GL.refl _ _,rfl,rfl⟩
 |false =>
  have e0:N4 s p e=s:=by rw[N4,if_neg (by simp[h])]
  have h':(s.e == 0)=false:=h;rw[e0];repeat' ((with_reducible first|refine wr ?_|refine A1 ?_ ?_|refine wb2 ?_ ?_<;>(intro hb;try simp only[hb])|fail)<;>try simp only[go_sem,seval,ht,h',h,A0,A2])
  refine⟨_,_,GL.refl _ _,rfl,?_⟩
  funext j
  by_cases ej:j=t
  ·subst ej;rw[A0,ht]
  ·rw[A6 ej]
theorem upd_same{H:Hp}{t:Nat}{b:Blk}(h:H t=some b):H.upd t b=H:=by
 funext j
 by_cases ej:j=t
 ·subst ej;rw[A0,h]
 ·rw[A6 ej]
theorem c_is(L:List Tok)(E:Int)(s:Rd)(H:Hp)(cc t:Nat)(ht:H t=some (rdR L E s))(htc:t<cc)(x:List UInt8):AC Tryz.prog 42 [.ptr t 0,.str x] H cc (fun v H' c'=>v=.bool (isR L E s x)/\H'=H):=by
 refine AC.bodyT B1 rfl (A0C rfl) fun hfr=>?_;repeat' ((with_reducible first|refine wr ?_|refine A1 ?_ ?_|refine wb2 ?_ ?_<;>(intro hb;try simp only[hb])|fail)<;>try simp only[go_sem,seval])
 refine AC.call (c_peek L E s _ _ t ht (by omega)) ?_;rintro v H' c1 ⟨rfl,rfl⟩ hc;have ne0:=A4n t c1 (by omega);simp only[go_sem,seval,ne0,A0,A2];repeat' ((with_reducible first|refine wr ?_|refine A1 ?_ ?_|refine wb2 ?_ ?_<;>(intro hb;try simp only[hb])|fail)<;>try simp only[go_sem,seval,ne0,A0,A2])
 refine AC.call (c_rdok L E s _ _ t (by rw[hnO];exact ht) (by omega)) ?_;rintro v H' c2 ⟨rfl,rfl⟩ hc2;simp only[go_sem,seval,ne0,A0,A2];repeat' ((with_reducible first|refine wr ?_|refine A1 ?_ ?_|refine wb2 ?_ ?_<;>(intro hb;try simp only[hb])|fail)<;>try simp only[go_sem,seval,ne0,A0,A2])
 all_goals exact⟨_,_,B5o (fun i hi=>hfr i (by omega)),by simp_all[isR],rfl⟩
theorem c_isKind(L:List Tok)(E:Int)(s:Rd)(H:Hp)(cc t:Nat)(ht:H t=some (rdR L E s))(htc:t<cc)(k:Int):AC Tryz.prog 119 [.ptr t 0,I64 k] H cc (fun v H' c'=>v=.bool (I8 L E s k)/\H'=H):=by
 refine AC.bodyT B1 rfl (A0C rfl) fun hfr=>?_;repeat' ((with_reducible first|refine wr ?_|refine A1 ?_ ?_|refine wb2 ?_ ?_<;>(intro hb;try simp only[hb])|fail)<;>try simp only[go_sem,seval])
 refine AC.call (c_rdok L E s _ _ t ht (by omega)) ?_;rintro v H' c1 ⟨rfl,rfl⟩ hc;by_cases h:okR s=true
 ·simp only[go_sem,seval,h];repeat' ((with_reducible first|refine wr ?_|refine A1 ?_ ?_|refine wb2 ?_ ?_<;>(intro hb;try simp only[hb])|fail)<;>try simp only[go_sem,seval,h])
  refine AC.call (c_peek L E s _ _ t ht (by omega)) ?_;rintro v H' c2 ⟨rfl,rfl⟩ hc2;simp only[go_sem,seval,h];repeat' ((with_reducible first|refine wr ?_|refine A1 ?_ ?_|refine wb2 ?_ ?_<;>(intro hb;try simp only[hb])|fail)<;>try simp only[go_sem,seval,h])
  exact⟨_,_,GL.refl _ _,by rw[I8,h];rfl,rfl⟩
 ·have h:okR s=false:=by simpa using h
  simp only[go_sem,seval,h];repeat' ((with_reducible first|refine wr ?_|refine A1 ?_ ?_|refine wb2 ?_ ?_<;>(intro hb;try simp only[hb])|fail)<;>try simp only[go_sem,seval,h])
  exact⟨_,_,GL.refl _ _,by rw[I8,h];rfl,rfl⟩
theorem c_syntax(L:List Tok)(E:Int)(s:Rd)(H:Hp)(cc t:Nat)(ht:H t=some (rdR L E s))(htc:t<cc):AC Tryz.prog 43 [.ptr t 0] H cc (fun v H' c'=>v=.tup []/\H'=H.upd t (rdR L E (N8 L E s))):=by
 refine AC.bodyT B1 rfl (A0C rfl) fun hfr=>?_;repeat' ((with_reducible first|refine wr ?_|refine A1 ?_ ?_|refine wb2 ?_ ?_<;>(intro hb;try simp only[hb])|fail)<;>try simp only[go_sem,seval])
 refine AC.call (c_peek L E s _ _ t ht (by omega)) ?_;rintro v H' c1 ⟨rfl,rfl⟩ hc;simp only[go_sem,seval];repeat' ((with_reducible first|refine wr ?_|refine A1 ?_ ?_|refine wb2 ?_ ?_<;>(intro hb;try simp only[hb])|fail)<;>try simp only[go_sem,seval])
 refine AC.call (c_fail L E s _ _ t ht (by omega) _ _) ?_;rintro v H' c2 ⟨rfl,rfl⟩ hc2;simp only[go_sem,seval];repeat' ((with_reducible first|refine wr ?_|refine A1 ?_ ?_|refine wb2 ?_ ?_<;>(intro hb;try simp only[hb])|fail)<;>try simp only[go_sem,seval])
 exact⟨_,_,GL.refl _ _,rfl,rfl⟩
theorem c_limit(L:List Tok)(E:Int)(s:Rd)(H:Hp)(cc t:Nat)(ht:H t=some (rdR L E s))(htc:t<cc)(n m e:Int):AC Tryz.prog 40 [.ptr t 0,I64 n,I64 m,I64 e] H cc (fun v H' c'=>v=.tup []/\H'=H.upd t (rdR L E (C9 L E s n m e))):=by
 refine AC.bodyT B1 rfl (A0C rfl) fun hfr=>?_;by_cases h:m<n
 ·have hd:decide (n>m)=true:=by simpa using h
  have e0:C9 L E s n m e=N4 s (C2 L E s).pos e:=by rw[C9,if_pos h]
  rw[e0];repeat' ((with_reducible first|refine wr ?_|refine A1 ?_ ?_|refine wb2 ?_ ?_<;>(intro hb;try simp only[hb])|fail)<;>try simp only[go_sem,seval,hd])
  refine AC.call (c_peek L E s _ _ t ht (by omega)) ?_;rintro v H' c1 ⟨rfl,rfl⟩ hc;simp only[go_sem,seval];repeat' ((with_reducible first|refine wr ?_|refine A1 ?_ ?_|refine wb2 ?_ ?_<;>(intro hb;try simp only[hb])|fail)<;>try simp only[go_sem,seval])
  refine AC.call (c_fail L E s _ _ t ht (by omega) _ _) ?_;rintro v H' c2 ⟨rfl,rfl⟩ hc2;simp only[go_sem,seval];repeat' ((with_reducible first|refine wr ?_|refine A1 ?_ ?_|refine wb2 ?_ ?_<;>(intro hb;try simp only[hb])|fail)<;>try simp only[go_sem,seval])
  exact⟨_,_,GL.refl _ _,rfl,rfl⟩
 ·have hd:decide (n>m)=false:=by simpa using h
  have e0:C9 L E s n m e=s:=by rw[C9,if_neg h]
  rw[e0];repeat' ((with_reducible first|refine wr ?_|refine A1 ?_ ?_|refine wb2 ?_ ?_<;>(intro hb;try simp only[hb])|fail)<;>try simp only[go_sem,seval,hd])
  exact⟨_,_,GL.refl _ _,rfl,(upd_same ht).symm⟩
theorem c_expect(L:List Tok)(E:Int)(s:Rd)(H:Hp)(cc t:Nat)(ht:H t=some (rdR L E s))(htc:t<cc)(hi:s.i<=10000000000)(x:List UInt8):AC Tryz.prog 81 [.ptr t 0,.str x] H cc (fun v H' c'=>v=.tup []/\H'=H.upd t (rdR L E (D6 L E s x))):=by
 refine AC.bodyT B1 rfl (A0C rfl) fun hfr=>?_;repeat' ((with_reducible first|refine wr ?_|refine A1 ?_ ?_|refine wb2 ?_ ?_<;>(intro hb;try simp only[hb])|fail)<;>try simp only[go_sem,seval])
 refine AC.call (c_is L E s _ _ t ht (by omega) x) ?_;rintro v H' c1 ⟨rfl,rfl⟩ hc;cases h:isR L E s x with
 |false =>
  have e0:D6 L E s x=N8 L E s:=by rw[D6,if_pos h]
  rw[e0];simp only[go_sem,seval,h];repeat' ((with_reducible first|refine wr ?_|refine A1 ?_ ?_|refine wb2 ?_ ?_<;>(intro hb;try simp only[hb])|fail)<;>try simp only[go_sem,seval,h])
  refine AC.call (c_syntax L E s _ _ t ht (by omega)) ?_;rintro v H' c2 ⟨rfl,rfl⟩ hc2;simp only[go_sem,seval];repeat' ((with_reducible first|refine wr ?_|refine A1 ?_ ?_|refine wb2 ?_ ?_<;>(intro hb;try simp only[hb])|fail)<;>try simp only[go_sem,seval])
  exact⟨_,_,GL.refl _ _,rfl,rfl⟩
 |true =>
  have hw:IntKind.i64.wrap ((s.i:Int)+1)=((s.i+1:Nat):Int):=by rw[w6z (by omega)];omega
  have e0:D6 L E s x=B2 s:=by rw[D6,if_neg (by simp[h])]
  rw[e0];simp only[go_sem,seval,h];repeat' ((with_reducible first|refine wr ?_|refine A1 ?_ ?_|refine wb2 ?_ ?_<;>(intro hb;try simp only[hb])|fail)<;>try simp only[go_sem,seval,h,ht,hw,A0,A2])
  exact⟨_,_,GL.refl _ _,rfl,rfl⟩
theorem c_take(L:List Tok)(E:Int)(s:Rd)(H:Hp)(cc t:Nat)(ht:H t=some (rdR L E s))(htc:t<cc)(hi:s.i<=10000000000)(k:Int):AC Tryz.prog 80 [.ptr t 0,I64 k] H cc (fun v H' c'=>v=(B4 L E s k).1.v/\H'=H.upd t (rdR L E (B4 L E s k).2)):=by
 refine AC.bodyT B1 rfl (A0C rfl) fun hfr=>?_;repeat' ((with_reducible first|refine wr ?_|refine A1 ?_ ?_|refine wb2 ?_ ?_<;>(intro hb;try simp only[hb])|fail)<;>try simp only[go_sem,seval])
 refine AC.call (c_peek L E s _ _ t (by rw[hnO];exact ht) (by omega)) ?_;rintro v H' c1 ⟨rfl,rfl⟩ hc;have ne0:=L8 t cc c1 (by omega);simp only[go_sem,seval,ne0,A0];repeat' ((with_reducible first|refine wr ?_|refine A1 ?_ ?_|refine wb2 ?_ ?_<;>(intro hb;try simp only[hb])|fail)<;>try simp only[go_sem,seval,ne0,A0])
 refine AC.call (c_isKind L E s _ _ t (by rw[hnO,hnO,hnO];exact ht) (by omega) k) ?_;rintro v H' c2 ⟨rfl,rfl⟩ hc2;cases h:I8 L E s k with
 |false =>
  have e0:B4 L E s k=(O9,N8 L E s):=by rw[B4,if_pos h]
  rw[e0];simp only[go_sem,seval,ne0,h,A0,A2];repeat' ((with_reducible first|refine wr ?_|refine A1 ?_ ?_|refine wb2 ?_ ?_<;>(intro hb;try simp only[hb])|fail)<;>try simp only[go_sem,seval,ne0,h,A0,A2])
  refine AC.call (c_syntax L E s _ _ t (by rw[hnO,hnO];exact ht) (by omega)) ?_;rintro v H' c3 ⟨rfl,rfl⟩ hc3;simp only[go_sem,seval,ne0,A0,A2];repeat' ((with_reducible first|refine wr ?_|refine A1 ?_ ?_|refine wb2 ?_ ?_<;>(intro hb;try simp only[hb])|fail)<;>try simp only[go_sem,seval,ne0,A0,A2])
  rw[E6 (v:=O9.v) (rv4 rfl A0)];exact⟨_,_,R6 (D7 hfr htc) (fun j hj=>by simp[Hp.upd,show ¬j=cc by omega,show ¬j=c1 by omega]),rfl,rfl⟩
 |true =>
  have hw:IntKind.i64.wrap ((s.i:Int)+1)=((s.i+1:Nat):Int):=by rw[w6z (by omega)];omega
  have e0:B4 L E s k=(C2 L E s,B2 s):=by rw[B4,if_neg (by simp[h])]
  rw[e0];simp only[go_sem,seval,ne0,h,A0,A2];repeat' ((with_reducible first|refine wr ?_|refine A1 ?_ ?_|refine wb2 ?_ ?_<;>(intro hb;try simp only[hb])|fail)<;>try simp only[go_sem,seval,ne0,ht,hw,h,A0,A2])
  rw[E6 (v:=(C2 L E s).v) (rv4 rfl A0)];exact⟨_,_,R6 (D7 hfr htc) (fun j hj=>by simp[Hp.upd,show ¬j=cc by omega,show ¬j=c1 by omega];rfl),rfl,rfl⟩
theorem c_name(L:List Tok)(E:Int)(s:Rd)(H:Hp)(cc t:Nat)(ht:H t=some (rdR L E s))(htc:t<cc)(hi:s.i<=10000000000):AC Tryz.prog 79 [.ptr t 0] H cc (fun v H' c'=>v=.str (B4 L E s 1).1.text/\H'=H.upd t (rdR L E (B4 L E s 1).2)):=by
 refine AC.bodyT B1 rfl (A0C rfl) fun hfr=>?_;repeat' ((with_reducible first|refine wr ?_|refine A1 ?_ ?_|refine wb2 ?_ ?_<;>(intro hb;try simp only[hb])|fail)<;>try simp only[go_sem,seval])
 refine AC.call (c_take L E s _ _ t ht (by omega) hi 1) ?_;rintro v H' c1 ⟨rfl,rfl⟩ hc;simp only[go_sem,seval];repeat' ((with_reducible first|refine wr ?_|refine A1 ?_ ?_|refine wb2 ?_ ?_<;>(intro hb;try simp only[hb])|fail)<;>try simp only[go_sem,seval])
 exact⟨_,_,GL.refl _ _,rfl,rfl⟩
abbrev Y6(l:List (List UInt8)):DV:=.lst (l.map DV.str)
theorem c_among(L:List Tok)(E:Int)(s:Rd)(H:Hp)(cc t:Nat)(ht:H t=some (rdR L E s))(htc:t<cc)(l:List (List UInt8))(hl:l.length<=1000000):AC Tryz.prog 38 [.ptr t 0,Y6 l] H cc (fun v H' c'=>v=I64 (C3 L E s l)/\H'=H):=by
 refine AC.bodyT B1 rfl (A0C rfl) fun hfr=>?_;repeat' ((with_reducible first|refine wr ?_|refine A1 ?_ ?_|refine wb2 ?_ ?_<;>(intro hb;try simp only[hb])|fail)<;>try simp only[go_sem,seval])
 refine D4 (fun k:Nat=>[(0,.ptr t 0),(1,Y6 l),(5,I64 k)]) (fun _=>H) (fun k c=>cc<=c/\k<=l.length/\C3 L E s l=A1g L E s k (l.drop k)) (fun k=>l.length-k) 0 (by simp[C5,tm,Tm.upd]) (Sub.refl _) ⟨by omega,by simp,rfl⟩ ?_;rintro k c ⟨hc,hk,hv⟩;by_cases hlt:k<l.length
 ·have hd:=dtz hlt;have hg:=A0B hlt;have hw:IntKind.i64.wrap ((k:Int)+1)=((k+1:Nat):Int):=by rw[w6z (by omega)];omega
  rw[A1V hlt,A1g]at hv;generalize l[k]=a at hg hv;repeat' ((with_reducible first|refine wr ?_|refine A1 ?_ ?_|refine wb2 ?_ ?_<;>(intro hb;try simp only[hb])|fail)<;>try simp only[go_sem,seval,hd,hg])
  refine AC.call (c_is L E s _ _ t ht (by omega) a) ?_;rintro v H' c1 ⟨rfl,rfl⟩ hc1;cases h:isR L E s a with
  |true =>
   rw[if_pos h]at hv;rw[hv];simp only[go_sem,seval,h];repeat' ((with_reducible first|refine wr ?_|refine A1 ?_ ?_|refine wb2 ?_ ?_<;>(intro hb;try simp only[hb])|fail)<;>try simp only[go_sem,seval,h])
   exact⟨_,_,GL.refl _ _,rfl,rfl⟩
  |false =>
   rw[if_neg (by simp[h])]at hv;simp only[go_sem,seval,h,hw];repeat' ((with_reducible first|refine wr ?_|refine A1 ?_ ?_|refine wb2 ?_ ?_<;>(intro hb;try simp only[hb])|fail)<;>try simp only[go_sem,seval,h,hw])
   exact⟨k+1,rfl,Sub.refl _,inv ⟨by omega,hlt,hv⟩,by omega⟩
 ·have hd:=dfz hlt;have hk:k=l.length:=by omega
  rw[hk,List.drop_length,A1g]at hv;rw[hv];repeat' ((with_reducible first|refine wr ?_|refine A1 ?_ ?_|refine wb2 ?_ ?_<;>(intro hb;try simp only[hb])|fail)<;>try simp only[go_sem,seval,hd])
  exact⟨_,_,GL.refl _ _,rfl,rfl⟩
theorem B5y(l:List (List UInt8)):A3 (l.map DV.str)=l.map DV.str:=Z5 (fun _=>rfl) l
theorem c_amongO(L:List Tok)(E:Int)(s:Rd)(K:Hp)(cc t b:Nat)(hK:K b=none)(ht:K t=some (rdR L E s))(htc:t<cc)(l:List (List UInt8))(hl:l.length<=1000000):
  AC Tryz.prog 38 [.ptr t 0,.slc b 0 l.length] (K.upd b ⟨1,true,l.map DV.str⟩) cc (fun v H' c'=>v=I64 (C3 L E s l)/\H'=K) :=
 AC.ghost (GL.frzS (id:=b) A0 rfl (fun j=>by
  by_cases e:j=b
  ·subst e;exact .inl hK
  ·exact .inr ⟨e,(A6 e).symm⟩) (.cons _ _ _ _ (.same _) (.cons _ _ _ _ (M6 (u:=1) (by simp) (G9 _) ⟨[],by rw[A1H,B5y]⟩) .nil))) (c_among L E s K cc t ht htc l hl)
theorem D7a{ρ : Ren}{v:Value}{a b c e:DV}(h:VRel ρ (.agg [a,b,c,.snil,e]) v):VRel ρ (.agg [a,b,c,.lst [],e]) v:=by
 obtain⟨bb,rfl,k1,k2⟩:=h.agg_inv;refine .agg _ _ k1 fun j x y hx hy=>?_
 match j with
 |0=>cases hx;exact k2 0 _ y rfl hy
 |1=>cases hx;exact k2 1 _ y rfl hy
 |2=>cases hx;exact k2 2 _ y rfl hy
 |3=>cases hx;exact (k2 3 _ y rfl hy).snil_lst
 |4=>cases hx;exact k2 4 _ y rfl hy
 |_+5=>cases hx
theorem A8d{K H':Hp}{cc:Nat}{a b c e:DV}(hK:∀ i,cc<=i->K i=none)(h:∀ j,j<cc->H' j=K j):GL H' [.agg [a,b,c,.snil,e]] K [.agg [a,b,c,.lst [],e]] :=
 (R6 hK h).trans (GL.view fun ρ vs hA=>S3 (fun v h=>D7a h) vs hA)
theorem rv5{s:Sym.St}{x i u:Nat}{a b c d e:DV}{o:Bool}(h:s.T x=.ptr i 0)(hb:s.H i=some ⟨u,o,[a,b,c,d,e]⟩):resV s [.cell x 5 true]=some (.agg [a,b,c,d,e]):=by
 simp only[resV,A3g,h,ldv,hb];rfl
theorem A1f(L:List Tok)(E:Int)(s:Rd):∀ (l:List (List UInt8)) (k:Nat), -1<=A1g L E s k l/\A1g L E s k l<((k+l.length:Nat):Int)
 |[],k=>by simp[A1g];omega
 |x :: l,k=>by
  have:=A1f L E s l (k+1);unfold A1g;split
  ·simp only[A0I];omega
  ·simp only[A0I];omega
theorem D4c{L:List Tok}{E:Int}{s:Rd}{n m e:Int}:(C9 L E s n m e).i=s.i:=by unfold C9 N4;split<;>(try split)<;>rfl
abbrev tkB(a:Tok):Blk:=⟨0,true,[I64 a.kind,.str a.text,I64 a.value,I64 a.pos]⟩
abbrev C2y:Blk:=⟨0,true,[I64 0,I64 0,.str [],.snil,I64 0]⟩
theorem c_primary(L:List Tok)(E:Int)(s:Rd)(H:Hp)(cc t:Nat)(ht:H t=some (rdR L E s))(htc:t<cc)(hi:s.i<=9999999999)(ho:0<=s.ops/\s.ops<=100):AC Tryz.prog 193 [.ptr t 0] H cc (fun v H' c'=>v=(J2 L E s).1.v/\H'=H.upd t (rdR L E (J2 L E s).2)):=by
 refine AC.bodyT B1 rfl (A0C rfl) fun hfr=>?_;repeat' ((with_reducible first|refine wr ?_|refine A1 ?_ ?_|refine wb2 ?_ ?_<;>(intro hb;try simp only[hb])|fail)<;>try simp only[go_sem,seval])
 refine AC.call (c_peek L E s _ _ t (by rw[hnO];exact ht) (by omega)) ?_;rintro v H' c1 ⟨rfl,rfl⟩ hc;have ne0:=V7 t cc c1 (c1+1) (by omega);simp only[go_sem,seval,ne0,A0,A2];repeat' ((with_reducible first|refine wr ?_|refine A1 ?_ ?_|refine wb2 ?_ ?_<;>(intro hb;try simp only[hb])|fail)<;>try simp only[go_sem,seval,ne0,A0,A2])
 have ham:=c_amongO L E s ((H.upd cc ⟨0,true,[I64 0,I64 0,.str [],.snil,I64 0]⟩).upd c1 ⟨0,true,[I64 (C2 L E s).kind,.str (C2 L E s).text,I64 (C2 L E s).value,I64 (C2 L E s).pos]⟩) (c1+1+1) t (c1+1) (by rw[hnO,hnO];exact hfr _ (by omega)) (by rw[hnO,hnO];exact ht) (by omega) I3 (by decide);refine AC.call ham ?_;rintro v H' c2 ⟨rfl,rfl⟩ hc2;have hpr:J2 L E s=J2 L E s:=rfl
 conv at hpr=>rhs;unfold J2
 have hkr : -1<=C3 L E s I3/\C3 L E s I3<7:=A1f L E s I3 0;generalize C3 L E s I3=k at hpr hkr;have hk0 : -1<=k/\k<7:=hkr;have hw:IntKind.i64.wrap (s.ops+1)=s.ops+1:=w6z (by omega);have tail:∀ c3,c2<=c3->¬(k<0/\I8 L E s 3=false/\I8 L E s 1=false)->IW Tryz.prog 78 (pz Tryz.prog 193 (.i (.o (.o (.o .h))))) ⟨tm [(0,.ptr t 0),(2,.ptr cc 0),(3,.ptr c1 0),(4,I64 k),(22,.bool false)],(H.upd cc C2y).upd c1 (tkB (C2 L E s)),c3⟩ (rt [.cell 2 5 true] fun v H' c' => ∃ v2 H2,GL H' [v] H2 [v2]/\v2=(J2 L E s).1.v/\H2=H.upd t (rdR L E (J2 L E s).2)):=by
  intro c3 hc3 hcd;rw[if_neg hcd]at hpr;dsimp only at hpr;repeat' ((with_reducible first|refine wr ?_|refine A1 ?_ ?_|refine wb2 ?_ ?_<;>(intro hb;try simp only[hb])|fail)<;>try simp only[go_sem,seval,ht,hw,ne0,A0,A2])
  refine AC.call (c_limit L E { s with ops:=s.ops+1 } _ _ t A0 (by omega) _ _ _) ?_;rintro v H' c4 ⟨rfl,rfl⟩ hc4;have hi2:(C9 L E { s with ops:=s.ops+1 } (s.ops+1) 32 9).i=s.i:=D4c;generalize C9 L E { s with ops:=s.ops+1 } (s.ops+1) 32 9=s2 at *;simp only[go_sem,seval,A2];repeat' ((with_reducible first|refine wr ?_|refine A1 ?_ ?_|refine wb2 ?_ ?_<;>(intro hb;try simp only[hb])|fail)<;>try simp only[go_sem,seval,A2])
  refine AC.call (c_rdok L E s2 _ _ t A0 (by omega)) ?_;rintro v H' c5 ⟨rfl,rfl⟩ hc5;have hG:∀ (b5:Blk) (j:Nat),j<cc->(((H.upd cc b5).upd c1 (tkB (C2 L E s))).upd t (rdR L E s2)) j=(H.upd t (rdR L E s2)) j:=fun b5 j hj=>by simp[Hp.upd,show ¬j=cc by omega,show ¬j=c1 by omega]
  cases h2:okR s2 with
  |false =>
   rw[if_pos h2]at hpr;rw[hpr];simp only[go_sem,seval,h2];repeat' ((with_reducible first|refine wr ?_|refine A1 ?_ ?_|refine wb2 ?_ ?_<;>(intro hb;try simp only[hb])|fail)<;>try simp only[go_sem,seval,h2,ne0,A0,A2])
   rw[E6 (v:=.agg [I64 0,I64 0,.str [],.snil,I64 0]) (rv5 rfl A0)];refine⟨_,_,A8d (cc:=cc) (D7 hfr htc) (fun j hj=>?_),rfl,rfl⟩;simp[Hp.upd,show ¬j=cc by omega,show ¬j=c1 by omega]
  |true =>
   rw[if_neg (by simp[h2])]at hpr;have hw2:IntKind.i64.wrap ((s2.i:Int)+1)=((s2.i+1:Nat):Int):=by rw[w6z (by omega)];omega
   simp only[go_sem,seval,h2];by_cases hk1:0<=k
   ·rw[if_pos hk1]at hpr;have hd1:decide (k≥0)=true:=by simpa using hk1
    have ne0:=T1 t cc c1 c5 (c5+7) (by omega);by_cases h4:4<=k
    ·rw[if_pos h4]at hpr;rw[hpr];rcases (show k=4\/k=5\/k=6 by omega) with rfl|rfl|rfl
     all_goals
      repeat' ((with_reducible first|refine wr ?_|refine A1 ?_ ?_|refine wb2 ?_ ?_<;>(intro hb;try simp only[hb])|fail)<;>try simp only[go_sem,seval,h2,hw2,hd1,ne0,A0,A2])
      refine AC.call (c_name L E (B2 s2) _ _ t (by repeat (first|exact A0|rw[hnO])) (by omega) (by show s2.i+1<=10000000000;omega)) ?_;rintro v H' c6 ⟨rfl,rfl⟩ hc6;simp only[go_sem,seval,ne0,A0,A2];repeat' ((with_reducible first|refine wr ?_|refine A1 ?_ ?_|refine wb2 ?_ ?_<;>(intro hb;try simp only[hb])|fail)<;>try simp only[go_sem,seval,ne0,A0,A2])
      rw[E6 (rv5 rfl A0)];refine⟨_,_,A8d (cc:=cc) (D7 hfr htc) (fun j hj=>?_),rfl,rfl⟩;simp[Hp.upd,show ¬j=cc by omega,show ¬j=c1 by omega,show ¬j=c5 by omega,show ¬j=c5+7 by omega];try (split<;>rfl)
    ·rw[if_neg h4]at hpr;rw[hpr];rcases (show k=0\/k=1\/k=2\/k=3 by omega) with rfl|rfl|rfl|rfl
     all_goals
      repeat' ((with_reducible first|refine wr ?_|refine A1 ?_ ?_|refine wb2 ?_ ?_<;>(intro hb;try simp only[hb])|fail)<;>try simp only[go_sem,seval,h2,hw2,hd1,ne0,A0,A2])
      rw[E6 (rv5 rfl A0)];refine⟨_,_,A8d (cc:=cc) (D7 hfr htc) (fun j hj=>?_),rfl,rfl⟩;simp[Hp.upd,show ¬j=cc by omega,show ¬j=c1 by omega,show ¬j=c5 by omega,show ¬j=c5+7 by omega];rfl
   ·rw[if_neg hk1]at hpr;have hd1:decide (k≥0)=false:=by simpa using hk1
    by_cases h3:(C2 L E s).kind=3
    ·rw[if_pos h3]at hpr;rw[hpr];have hd3:((C2 L E s).kind == 3)=true:=by simpa using h3
     repeat' ((with_reducible first|refine wr ?_|refine A1 ?_ ?_|refine wb2 ?_ ?_<;>(intro hb;try simp only[hb])|fail)<;>try simp only[go_sem,seval,h2,hw2,hd1,hd3,ne0,A0,A2])
     rw[E6 (v:=.agg [I64 1,I64 (C2 L E s).value,.str [],.snil,I64 (C2 L E s).pos]) (rv5 rfl A0)];refine⟨_,_,A8d (cc:=cc) (D7 hfr htc) (fun j hj=>?_),rfl,rfl⟩;simp[Hp.upd,show ¬j=cc by omega,show ¬j=c1 by omega];rfl
    ·rw[if_neg h3]at hpr;rw[hpr];have hd3:((C2 L E s).kind == 3)=false:=by simpa using h3
     repeat' ((with_reducible first|refine wr ?_|refine A1 ?_ ?_|refine wb2 ?_ ?_<;>(intro hb;try simp only[hb])|fail)<;>try simp only[go_sem,seval,h2,hw2,hd1,hd3,ne0,A0,A2])
     rw[E6 (v:=.agg [I64 2,I64 0,.str (C2 L E s).text,.snil,I64 (C2 L E s).pos]) (rv5 rfl A0)];refine⟨_,_,A8d (cc:=cc) (D7 hfr htc) (fun j hj=>?_),rfl,rfl⟩;simp[Hp.upd,show ¬j=cc by omega,show ¬j=c1 by omega];rfl
 have hGt:∀ b5:Blk,((H.upd cc b5).upd c1 (tkB (C2 L E s))) t=some (rdR L E s):=fun b5=>by rw[hnO,hnO];exact ht
 by_cases hk1:k<0
 ·have hd:decide (k<0)=true:=by simpa using hk1
  simp only[go_sem,seval,ne0,hd];repeat' ((with_reducible first|refine wr ?_|refine A1 ?_ ?_|refine wb2 ?_ ?_<;>(intro hb;try simp only[hb])|fail)<;>try simp only[go_sem,seval,ne0,hd])
  refine AC.call (c_isKind L E s _ _ t (hGt _) (by omega) 3) ?_;rintro v H' c3 ⟨rfl,rfl⟩ hc3;cases h3:I8 L E s 3 with
  |true =>
   simp only[go_sem,seval,h3];repeat' ((with_reducible first|refine G0 (p:=IW _ _ (pz Tryz.prog 193 (.i (.o (.o (.o .h))))) _ _) ?_|refine wr ?_|refine A1 ?_ ?_|refine wb2 ?_ ?_<;>(intro hb;try simp only[hb])|fail)<;>try simp only[go_sem,seval,h3])
   exact tail _ (by omega) (by simp[h3])
  |false =>
   simp only[go_sem,seval,h3];repeat' ((with_reducible first|refine wr ?_|refine A1 ?_ ?_|refine wb2 ?_ ?_<;>(intro hb;try simp only[hb])|fail)<;>try simp only[go_sem,seval,h3])
   refine AC.call (c_isKind L E s _ _ t (hGt _) (by omega) 1) ?_;rintro v H' c4 ⟨rfl,rfl⟩ hc4;cases h1:I8 L E s 1 with
   |true =>
    simp only[go_sem,seval,h1];repeat' ((with_reducible first|refine G0 (p:=IW _ _ (pz Tryz.prog 193 (.i (.o (.o (.o .h))))) _ _) ?_|refine wr ?_|refine A1 ?_ ?_|refine wb2 ?_ ?_<;>(intro hb;try simp only[hb])|fail)<;>try simp only[go_sem,seval,h1])
    exact tail _ (by omega) (by simp[h1])
   |false =>
    rw[if_pos ⟨hk1,h3,h1⟩]at hpr;rw[hpr];simp only[go_sem,seval,h1];repeat' ((with_reducible first|refine wr ?_|refine A1 ?_ ?_|refine wb2 ?_ ?_<;>(intro hb;try simp only[hb])|fail)<;>try simp only[go_sem,seval,h1])
    refine AC.call (c_syntax L E s _ _ t (hGt _) (by omega)) ?_;rintro v H' c5 ⟨rfl,rfl⟩ hc5;simp only[go_sem,seval,ne0,A0];repeat' ((with_reducible first|refine wr ?_|refine A1 ?_ ?_|refine wb2 ?_ ?_<;>(intro hb;try simp only[hb])|fail)<;>try simp only[go_sem,seval,ne0,A0])
    rw[E6 (rv5 rfl A0)];refine⟨_,_,A8d (cc:=cc) (D7 hfr htc) (fun j hj=>?_),rfl,rfl⟩;simp[Hp.upd,show ¬j=cc by omega,show ¬j=c1 by omega]
 ·have hd:decide (k<0)=false:=by simpa using hk1
  simp only[go_sem,seval,ne0,hd];repeat' ((with_reducible first|refine G0 (p:=IW _ _ (pz Tryz.prog 193 (.i (.o (.o (.o .h))))) _ _) ?_|refine wr ?_|refine A1 ?_ ?_|refine wb2 ?_ ?_<;>(intro hb;try simp only[hb])|fail)<;>try simp only[go_sem,seval,hd])
  exact tail _ (by omega) fun h=>hk1 h.1
theorem c_level(k:Int):PC Tryz.prog 172 [I64 k] (I64 (B5 k)):=by
 refine PC.go B1 ?_;repeat' ((with_reducible first|refine wr ?_|refine A1 ?_ ?_|refine wb2 ?_ ?_<;>(intro hb;try simp only[hb])|fail)<;>try simp only[go_sem,seval])
 all_goals
  refine B3 (congrArg I64 ?_);simp only[A1I,beq_eq_false_iff_ne,A0F,A1U,A0D,A1C,Bool.and_eq_false_iff,Bool.or_eq_false_iff]at *;unfold B5;repeat' split
  all_goals omega
theorem c_signs31:PC Tryz.prog 174 [] (Y6 D3):=by
 refine PC.ofT B1 rfl (A0C rfl) rfl (J5 _) ?_;repeat' ((with_reducible first|refine wr ?_|refine A1 ?_ ?_|refine wb2 ?_ ?_<;>(intro hb;try simp only[hb])|fail)<;>try simp only[go_sem,seval])
 exact K7 (xs:=D3.map DV.str) (u:=1) A0 rfl rfl (G9 _) ⟨[],rfl⟩
theorem c_decls31:PC Tryz.prog 39 [] (Y6 D0):=by
 refine PC.ofT B1 rfl (A0C rfl) rfl (J5 _) ?_;repeat' ((with_reducible first|refine wr ?_|refine A1 ?_ ?_|refine wb2 ?_ ?_<;>(intro hb;try simp only[hb])|fail)<;>try simp only[go_sem,seval])
 exact K7 (xs:=D0.map DV.str) (u:=1) A0 rfl rfl (G9 _) ⟨[],rfl⟩
theorem c_trigs31:PC Tryz.prog 56 [] (Y6 D5):=by
 refine PC.ofT B1 rfl (A0C rfl) rfl (J5 _) ?_;repeat' ((with_reducible first|refine wr ?_|refine A1 ?_ ?_|refine wb2 ?_ ?_<;>(intro hb;try simp only[hb])|fail)<;>try simp only[go_sem,seval])
 exact K7 (xs:=D5.map DV.str) (u:=1) A0 rfl rfl (G9 _) ⟨[],rfl⟩
theorem c_stmts31:PC Tryz.prog 120 [] (Y6 B8):=by
 refine PC.ofT B1 rfl (A0C rfl) rfl (J5 _) ?_;repeat' ((with_reducible first|refine wr ?_|refine A1 ?_ ?_|refine wb2 ?_ ?_<;>(intro hb;try simp only[hb])|fail)<;>try simp only[go_sem,seval])
 exact K7 (xs:=B8.map DV.str) (u:=1) A0 rfl rfl (G9 _) ⟨[],rfl⟩
theorem C7r{K H':Hp}{cc b:Nat}{a b' c e:DV}(l:List Ex)(hK:∀ i,cc<=i->K i=none)(hb0:cc<=b)(hb:H' b=some ⟨5,true,A3 (l.map Ex.v)⟩)(h:∀ j,j<cc->H' j=K j):
  GL H' [.agg [a,b',c,.slc b 0 l.length,e]] K [.agg [a,b',c,I9 l,e]] :=
 GL.frzS (id:=b) hb rfl (fun j=>by
  by_cases hj:j<cc
  ·exact .inr ⟨by omega,(h j hj).symm⟩
  ·exact .inl (hK j (by omega))) (.cons _ _ _ _ (.agg _ _ (.cons _ _ _ _ (.same _) (.cons _ _ _ _ (.same _) (.cons _ _ _ _ (.same _) (.cons _ _ _ _ (M6 (u:=5) (by simp) (W5 l) ⟨[],by simp⟩) (.cons _ _ _ _ (.same _) .nil)))))) .nil)
theorem A4y(e:Ex):A3 ([e].map Ex.v)=[I64 e.kind,I64 e.value,.str e.name,I9 e.args,I64 e.pos]:=by
 rw[A0U,Ex.v_w];rfl
theorem C2v(e x:Ex):A3 ([e,x].map Ex.v)=[I64 e.kind,I64 e.value,.str e.name,I9 e.args,I64 e.pos,I64 x.kind,I64 x.value,.str x.name,I9 x.args,I64 x.pos]:=by
 rw[A0U,A0U,Ex.v_w,Ex.v_w];rfl
abbrev RdC(L:List Tok)(E:Int)(f:Nat)(vs:List DV)(s:Rd)(r:DV × Rd):Prop :=
 ∀ (H:Hp) (cc t:Nat),H t=some (rdR L E s)->t<cc->AC Tryz.prog f (.ptr t 0 :: vs) H cc (fun v H' c'=>v=r.1/\H'=H.upd t (rdR L E r.2))
theorem c_unary(L:List Tok)(E:Int)(hL:L.length<=1000000000)(f:Nat)
  (ib:∀ n s r,1<=n->n<=6->K4 L E f n s=some r->RI L s->RdC L E 171 [I64 n] s (r.1.v,r.2))
  (iu:∀ s r,Y3 L E f s=some r->RI L s->RdC L E 183 [] s (r.1.v,r.2))
  (s:Rd) (r:Ex × Rd) (h:Y3 L E (f+1) s=some r) (hR:RI L s):RdC L E 183 [] s (r.1.v,r.2):=by
 intro H cc t ht htc;have hri:=hR.i;have hro:=hR.o0;have hro1:=hR.o1;have hp0:=hR.p0;have hp1:=hR.p1;refine AC.bodyT B1 rfl (A0C rfl) fun hfr=>?_;repeat' ((with_reducible first|refine wr ?_|refine A1 ?_ ?_|refine wb2 ?_ ?_<;>(intro hb;try simp only[hb])|fail)<;>try simp only[go_sem,seval])
 refine AC.call (c_peek L E s _ _ t (by rw[hnO];exact ht) (by omega)) ?_;rintro v H' c1 ⟨rfl,rfl⟩ hc;have ne0:=V7 t cc c1 (c1+1) (by omega);simp only[go_sem,seval,ne0,A0,A2];repeat' ((with_reducible first|refine wr ?_|refine A1 ?_ ?_|refine wb2 ?_ ?_<;>(intro hb;try simp only[hb])|fail)<;>try simp only[go_sem,seval,ne0,A0,A2])
 have ham:=c_amongO L E s ((H.upd cc C2y).upd c1 (tkB (C2 L E s))) (c1+1+1) t (c1+1) (by rw[hnO,hnO];exact hfr _ (by omega)) (by rw[hnO,hnO];exact ht) (by omega) Q1 (by decide);refine AC.call ham ?_;rintro v H' c2 ⟨rfl,rfl⟩ hc2;unfold Y3 at h;dsimp only at h;have hkr : -1<=C3 L E s Q1/\C3 L E s Q1<3:=A1f L E s Q1 0;have hnn:0<=C3 L E s Q1->s.i<L.length:=fun h=>(F7 h).2.1;generalize C3 L E s Q1=k at h hkr hnn;have hGt:((H.upd cc C2y).upd c1 (tkB (C2 L E s))) t=some (rdR L E s):=by rw[hnO,hnO];exact ht
 by_cases hk:k<0
 ·rw[if_pos hk]at h;cases h;have hd:decide (k<0)=true:=by simpa using hk
  simp only[go_sem,seval,ne0,hd];repeat' ((with_reducible first|refine wr ?_|refine A1 ?_ ?_|refine wb2 ?_ ?_<;>(intro hb;try simp only[hb])|fail)<;>try simp only[go_sem,seval,ne0,hd])
  refine AC.call (c_primary L E s _ _ t hGt (by omega) (by omega) (by omega)) ?_;rintro v H' c3 ⟨rfl,rfl⟩ hc3;simp only[go_sem,seval,ne0,A0,A2,Ex.v_w];repeat' ((with_reducible first|refine wr ?_|refine A1 ?_ ?_|refine wb2 ?_ ?_<;>(intro hb;try simp only[hb])|fail)<;>try simp only[go_sem,seval,ne0,A0,A2])
  rw[E6 (rv5 rfl A0)];refine⟨_,_,R6 (cc:=cc) (D7 hfr htc) (fun j hj=>?_),rfl,rfl⟩;simp[Hp.upd,show ¬j=cc by omega,show ¬j=c1 by omega]
 ·rw[if_neg hk]at h;have hd:decide (k<0)=false:=by simpa using hk
  have hw:IntKind.i64.wrap (s.par+1)=s.par+1:=w6z (by omega);have hw2:IntKind.i64.wrap ((s.i:Int)+1)=((s.i+1:Nat):Int):=by rw[w6z (by omega)];omega
  have hw3:IntKind.i64.wrap (10+k)=10+k:=w6z (by omega);simp only[go_sem,seval,ne0,hd];repeat' ((with_reducible first|refine wr ?_|refine A1 ?_ ?_|refine wb2 ?_ ?_<;>(intro hb;try simp only[hb])|fail)<;>try simp only[go_sem,seval,ne0,hd,ht,hw])
  refine AC.call (c_limit L E s _ _ t hGt (by omega) _ _ _) ?_;rintro v H' c3 ⟨rfl,rfl⟩ hc3;simp only[go_sem,seval,ne0];repeat' ((with_reducible first|refine wr ?_|refine A1 ?_ ?_|refine wb2 ?_ ?_<;>(intro hb;try simp only[hb])|fail)<;>try simp only[go_sem,seval,ne0])
  refine AC.call (c_rdok L E _ _ _ t A0 (by omega)) ?_;rintro v H' c4 ⟨rfl,rfl⟩ hc4;cases h2:okR (C9 L E s (s.par+1) 16 50) with
  |false =>
   rw[if_pos h2]at h;cases h;simp only[go_sem,seval,h2];repeat' ((with_reducible first|refine wr ?_|refine A1 ?_ ?_|refine wb2 ?_ ?_<;>(intro hb;try simp only[hb])|fail)<;>try simp only[go_sem,seval,h2,ne0,A0,A2])
   rw[E6 (rv5 rfl A0)];refine⟨_,_,A8d (cc:=cc) (D7 hfr htc) (fun j hj=>?_),rfl,rfl⟩;simp[Hp.upd,show ¬j=cc by omega,show ¬j=c1 by omega]
  |true =>
   rw[if_neg (by simp[h2])]at h;obtain⟨h3,h4,h5⟩:=F5 (by decide) h2;rw[h5]at h h2 ⊢;simp only[go_sem,seval,h2];have ne0:=V7 t cc c1 c4 (by omega);have k2:RI L { s with i:=s.i+1,par:=s.par+1 }:=⟨hnn (by omega),hro,hro1,hR.o2,by show 0<=s.par+1;omega,h4⟩;by_cases hk2:k=2
   ·subst hk2;rw[if_pos rfl]at h;cases hb:K4 L E f 1 { s with i:=s.i+1,par:=s.par+1 } with
    |none=>rw[hb]at h;cases h
    |some q =>
     obtain⟨e,s3⟩:=q;rw[hb]at h;dsimp only at h;obtain⟨a1,a2⟩:=(RI.all f).1 _ _ _ hb k2;obtain⟨b1,b2⟩:=a1.exp (E:=E) (x:=[41]);have hi3:=a1.i;dsimp only at a2 b2 hi3;repeat' ((with_reducible first|refine wr ?_|refine A1 ?_ ?_|refine wb2 ?_ ?_<;>(intro hb;try simp only[hb])|fail)<;>try simp only[go_sem,seval,h2,hw,hw2,ne0,A0,A2])
     refine AC.call (ib 1 _ (e,s3) (by decide) (by decide) hb k2 _ _ t (by rw[hnO,A0]) (by omega)) ?_;rintro v H' c5 ⟨rfl,rfl⟩ hc5;dsimp only;simp only[go_sem,seval,ne0,A0,A2,Ex.v_w];repeat' ((with_reducible first|refine wr ?_|refine A1 ?_ ?_|refine wb2 ?_ ?_<;>(intro hb;try simp only[hb])|fail)<;>try simp only[go_sem,seval,ne0,A0,A2])
     refine AC.call (c_expect L E s3 _ _ t (by repeat (first|exact A0|rw[hnO])) (by omega) (by omega) _) ?_;rintro v H' c6 ⟨rfl,rfl⟩ hc6;obtain⟨s4,hs4⟩:∃ s4,s4=D6 L E s3 [41]:=⟨_,rfl⟩;rw[<- hs4]at h b1 b2 ⊢;have hw5:IntKind.i64.wrap (s4.par-1)=s4.par-1:=w6z (by omega);cases h;simp only[go_sem,seval,ne0,A0,A2,Ex.v_w];repeat' ((with_reducible first|refine wr ?_|refine A1 ?_ ?_|refine wb2 ?_ ?_<;>(intro hb;try simp only[hb])|fail)<;>try simp only[go_sem,seval,hw5,ne0,A0,A2])
     rw[E6 (rv5 rfl A0)];refine⟨_,_,R6 (cc:=cc) (D7 hfr htc) (fun j hj=>?_),rfl,rfl⟩;simp[Hp.upd,show ¬j=cc by omega,show ¬j=c1 by omega,show ¬j=c4 by omega];try (split<;>rfl)
   ·rw[if_neg hk2]at h;have hd2:(k == 2)=false:=by simpa using hk2
    cases hb:Y3 L E f { s with i:=s.i+1,par:=s.par+1 } with
    |none=>rw[hb]at h;cases h
    |some q =>
     obtain⟨e,s3⟩:=q;rw[hb]at h;dsimp only at h;obtain⟨a1,a2⟩:=(RI.all f).2.2 _ _ hb k2;dsimp only at a2;repeat' ((with_reducible first|refine wr ?_|refine A1 ?_ ?_|refine wb2 ?_ ?_<;>(intro hb;try simp only[hb])|fail)<;>try simp only[go_sem,seval,h2,hw,hw2,hw3,hd2,ne0,A0,A2])
     refine AC.call (iu _ (e,s3) hb k2 _ _ t (by rw[hnO,A0]) (by omega)) ?_;rintro v H' c5 ⟨rfl,rfl⟩ hc5;have hw5:IntKind.i64.wrap (s3.par-1)=s3.par-1:=w6z (by omega);cases h;have ne0:=T1 t cc c1 c4 (c4+1+4) (by omega);simp only[go_sem,seval,ne0,A0,A2,Ex.v_w];repeat' ((with_reducible first|refine wr ?_|refine A1 ?_ ?_|refine wb2 ?_ ?_<;>(intro hb;try simp only[hb])|fail)<;>try simp only[go_sem,seval,ne0,A0,A2])
     and_intros
     all_goals try (first|rw[hw3]|((repeat rw[hnO]);exact hfr _ (by omega)))
     repeat' ((with_reducible first|refine wr ?_|refine A1 ?_ ?_|refine wb2 ?_ ?_<;>(intro hb;try simp only[hb])|fail)<;>try simp only[go_sem,seval,hw5,ne0,A0,A2])
     rw[E6 (rv5 rfl A0)];refine⟨_,_,C7r (cc:=cc) (b:=c4+1+4) [e] (D7 hfr htc) (by omega) ?_ (fun j hj=>?_),rfl,rfl⟩
     ·rw[A4y];dsimp only
      repeat (first|exact A0|rw[hnO])
     simp[Hp.upd,show ¬j=cc by omega,show ¬j=c1 by omega,show ¬j=c4 by omega,show ¬j=c4+1+4 by omega];try (split<;>rfl)
abbrev exB(e:Ex):Blk:=⟨0,true,[I64 e.kind,I64 e.value,.str e.name,I9 e.args,I64 e.pos]⟩
theorem c_binary(L:List Tok)(E:Int)(hL:L.length<=1000000000)(f:Nat)
  (ib:∀ g,g<=f->∀ n s r,1<=n->n<=6->K4 L E g n s=some r->RI L s->RdC L E 171 [I64 n] s (r.1.v,r.2))
  (iu:∀ s r,Y3 L E f s=some r->RI L s->RdC L E 183 [] s (r.1.v,r.2))
  (n:Int) (s:Rd) (r:Ex × Rd) (hn1:1<=n) (hn6:n<=6) (h:K4 L E (f+1) n s=some r) (hR:RI L s):RdC L E 171 [I64 n] s (r.1.v,r.2):=by
 intro H cc t ht htc;refine AC.bodyT B1 rfl (A0C rfl) fun hfr=>?_;unfold K4 at h;have ne0:=A4n t cc (by omega);by_cases h5:5<n
 ·rw[if_pos h5]at h;have hd:decide (n>5)=true:=by simpa using h5
  repeat' ((with_reducible first|refine wr ?_|refine A1 ?_ ?_|refine wb2 ?_ ?_<;>(intro hb;try simp only[hb])|fail)<;>try simp only[go_sem,seval,hd])
  refine AC.call (iu _ _ h hR _ _ t (by rw[hnO];exact ht) (by omega)) ?_;rintro v H' c1 ⟨rfl,rfl⟩ hc1;dsimp only;simp only[go_sem,seval,ne0,A0,A2,Ex.v_w];repeat' ((with_reducible first|refine wr ?_|refine A1 ?_ ?_|refine wb2 ?_ ?_<;>(intro hb;try simp only[hb])|fail)<;>try simp only[go_sem,seval,ne0,A0,A2])
  rw[E6 (rv5 rfl A0)];refine⟨_,_,R6 (cc:=cc) (D7 hfr htc) (fun j hj=>?_),rfl,rfl⟩;simp[Hp.upd,show ¬j=cc by omega]
 rw[if_neg h5]at h;have hd:decide (n>5)=false:=by simpa using h5
 have hw:IntKind.i64.wrap (n+1)=n+1:=w6z (by omega);cases hb:K4 L E f (n+1) s with
 |none=>rw[hb]at h;cases h
 |some q =>
  obtain⟨e,s1⟩:=q;rw[hb]at h;dsimp only at h;obtain⟨a1,a2⟩:=(RI.all f).1 _ _ _ hb hR;dsimp only at a1;repeat' ((with_reducible first|refine wr ?_|refine A1 ?_ ?_|refine wb2 ?_ ?_<;>(intro hb;try simp only[hb])|fail)<;>try simp only[go_sem,seval,hd,hw])
  refine AC.call (ib f (A0J _) (n+1) _ _ (by omega) (by omega) hb hR _ _ t (by rw[hnO];exact ht) (by omega)) ?_;rintro v H' c1 ⟨rfl,rfl⟩ hc1;dsimp only;have ne0:=L8 t cc c1 (by omega);simp only[go_sem,seval,ne0,A0,A2,Ex.v_w];repeat' ((with_reducible first|refine wr ?_|refine A1 ?_ ?_|refine wb2 ?_ ?_<;>(intro hb;try simp only[hb])|fail)<;>try simp only[go_sem,seval,ne0,A0,A2])
  refine A2t (fun _:Nat × Ex × Rd=>[(0,.ptr t 0),(1,I64 n),(4,.ptr cc 0),(5,.ptr c1 0)]) (fun q=>((H.upd cc C2y).upd t (rdR L E q.2.2)).upd c1 (exB q.2.1))
   (fun q c=>c1+1<=c/\q.1<=f/\U7 L E q.1 n q.2.1 q.2.2=some r/\RI L q.2.2) (fun q=>q.1) (f,e,s1) (fun b=>by simp[C5,tm,Tm.upd]) (by simp[C5,tm,Tm.upd]) (Sub.refl _) ⟨A0J _,A0J _,h,a1⟩ ?_
  clear h hb a1 a2 s1 e;rintro⟨g,e,s1⟩ c ⟨hc,hg,hv,k1⟩;dsimp only at hc hg hv k1 ⊢;have hri:=k1.i;cases g with
  |zero=>simp[U7]at hv
  |succ g =>
  unfold U7 at hv;dsimp only at hv;have hTt:∀ b:Blk,(((H.upd cc C2y).upd t (rdR L E s1)).upd c1 b) t=some (rdR L E s1):=fun b=>by rw[hnO,A0]
  repeat' ((with_reducible first|refine wr ?_|refine cpc c_signs31 ?_|refine A1 ?_ ?_|refine wb2 ?_ ?_<;>(intro hb;try simp only[hb])|fail)<;>try simp only[go_sem,seval])
  refine AC.call (c_among L E s1 _ _ t (hTt _) (by omega) D3 (by decide)) ?_;rintro v H' c2 ⟨rfl,rfl⟩ hc2;have hkr : -1<=C3 L E s1 D3/\C3 L E s1 D3<13:=A1f L E s1 D3 0;have hnn:0<=C3 L E s1 D3->s1.i<L.length:=fun h=>(F7 h).2.1;generalize C3 L E s1 D3=k at hv hkr hnn;have hwk:IntKind.i64.wrap (12+k)=12+k:=w6z (by omega);by_cases hk:k<0
  ·rw[if_pos (.inl hk)]at hv;cases hv;have hdk:decide (k<0)=true:=by simpa using hk
   simp only[go_sem,seval,ne0,hdk];repeat' ((with_reducible first|refine wr ?_|refine A1 ?_ ?_|refine wb2 ?_ ?_<;>(intro hb;try simp only[hb])|fail)<;>try simp only[go_sem,seval,ne0,hdk,A0,A2])
   rw[E6 (rv5 rfl A0)];refine⟨_,_,R6 (cc:=cc) (D7 hfr htc) (fun j hj=>?_),rfl,rfl⟩;simp[Hp.upd,show ¬j=cc by omega,show ¬j=c1 by omega]
  have hdk:decide (k<0)=false:=by simpa using hk
  by_cases hl:B5 (12+k)=n
  ·rw[if_neg (by omega)]at hv;have hdl:(B5 (12+k) != n)=false:=by simp[hl]
   simp only[go_sem,seval,ne0,hdk];repeat' ((with_reducible first|refine wr ?_|refine cpc (c_level _) ?_|refine A1 ?_ ?_|refine wb2 ?_ ?_<;>(intro hb;try simp only[hb])|fail)<;>try simp only[go_sem,seval,ne0,hdk,hwk,hdl,A0,A2])
   cases hb:K4 L E g (n+1) (B2 s1) with
   |none=>rw[hb]at hv;cases hv
   |some q =>
    obtain⟨x,s2⟩:=q;rw[hb]at hv;dsimp only at hv;have k2:=k1.nxt (hnn (by omega));obtain⟨b1,b2⟩:=(RI.all g).1 _ _ _ hb k2;dsimp only at b1;have hw2:IntKind.i64.wrap ((s1.i:Int)+1)=((s1.i+1:Nat):Int):=by rw[w6z (by omega)];omega
    refine AC.call (c_peek L E s1 _ _ t (hTt _) (by omega)) ?_;rintro v H' c3 ⟨rfl,rfl⟩ hc3;have ne0:=T1 t cc c1 c3 (c3+7) (by omega);simp only[go_sem,seval,ne0];repeat' ((with_reducible first|refine wr ?_|refine A1 ?_ ?_|refine wb2 ?_ ?_<;>(intro hb;try simp only[hb])|fail)<;>try simp only[go_sem,seval,hw2,hwk,hw,ne0,A0,A2])
    refine AC.call (ib g (by omega) (n+1) (B2 s1) (x,s2) (by omega) (by omega) hb k2 _ _ t (by repeat (first|exact A0|rw[hnO])) (by omega)) ?_;rintro v H' c4 ⟨rfl,rfl⟩ hc4;dsimp only;simp only[go_sem,seval,ne0,A0,A2,Ex.v_w];repeat' ((with_reducible first|refine wr ?_|refine A1 ?_ ?_|refine wb2 ?_ ?_<;>(intro hb;try simp only[hb])|fail)<;>try simp only[go_sem,seval,ne0,A0,A2])
    and_intros
    all_goals try (first|rw[hwk]|((repeat rw[hnO]);exact hfr _ (by omega)))
    by_cases h3:n=3
    ·rw[if_pos h3]at hv;cases hv;have hd3:(n == 3)=true:=by simpa using h3
     repeat' ((with_reducible first|refine wr ?_|refine A1 ?_ ?_|refine wb2 ?_ ?_<;>(intro hb;try simp only[hb])|fail)<;>try simp only[go_sem,seval,hd3,ne0,A0,A2])
     rw[E6 (rv5 rfl A0)];refine⟨_,_,C7r (cc:=cc) (b:=c3+7) [e,x] (D7 hfr htc) (by omega) ?_ (fun j hj=>?_),rfl,rfl⟩
     ·rw[C2v];dsimp only
      repeat (first|exact A0|rw[hnO])
     simp[Hp.upd,show ¬j=cc by omega,show ¬j=c1 by omega,show ¬j=c3+7 by omega];try (split<;>rfl)
    ·rw[if_neg h3]at hv;have hd3:(n == 3)=false:=by simpa using h3
     repeat' ((with_reducible first|refine wr ?_|refine A1 ?_ ?_|refine wb2 ?_ ?_<;>(intro hb;try simp only[hb])|fail)<;>try simp only[go_sem,seval,hd3,ne0,A0,A2])
     refine⟨(g,.mk (12+k) 0 [] [e,x] (C2 L E s1).pos,s2),?_,inv ⟨by omega,by simp only;omega,hv,b1⟩,by simp only;omega⟩;refine GL.frzT (id:=c3+7) (b:=⟨5,true,A3 ([e,x].map Ex.v)⟩) ?_ rfl (fun j=>?_) (FzL.refl _)
     ·rw[C2v]
      repeat (first|exact A0|rw[hnO])
     by_cases j1:j=c1
     ·subst j1;refine .inr ⟨by omega,.inr ⟨_,_,A0,A0,rfl,rfl,.cons _ _ _ _ (.same _) (.cons _ _ _ _ (.same _) (.cons _ _ _ _ (.same _) (.cons _ _ _ _ (M6 (u:=5) (xs:=[e,x].map Ex.v) (by simp) (W5 _) ⟨[],by simp⟩) (.cons _ _ _ _ (.same _) .nil)))),by simp[DV.one]⟩⟩
     ·by_cases j2:j=c3+7
      ·subst j2;left
       repeat rw[hnO]
       exact hfr _ (by omega)
      ·refine .inr ⟨j2,.inl ?_⟩;simp[Hp.upd,j1,j2];try (split<;>rfl)
  ·rw[if_pos (.inr hl)]at hv;cases hv;have hdl:(B5 (12+k) != n)=true:=by simpa using hl
   simp only[go_sem,seval,ne0,hdk];repeat' ((with_reducible first|refine wr ?_|refine cpc (c_level _) ?_|refine A1 ?_ ?_|refine wb2 ?_ ?_<;>(intro hb;try simp only[hb])|fail)<;>try simp only[go_sem,seval,ne0,hdk,hwk,hdl,A0,A2])
   rw[E6 (rv5 rfl A0)];refine⟨_,_,R6 (cc:=cc) (D7 hfr htc) (fun j hj=>?_),rfl,rfl⟩;simp[Hp.upd,show ¬j=cc by omega,show ¬j=c1 by omega]
theorem c_bu(L:List Tok)(E:Int)(hL:L.length<=1000000000):∀ f:Nat,(∀ n s r,1<=n->n<=6->K4 L E f n s=some r->RI L s->RdC L E 171 [I64 n] s (r.1.v,r.2))/\(∀ s r,Y3 L E f s=some r->RI L s->RdC L E 183 [] s (r.1.v,r.2)):=by
 intro f
 induction f using Nat.strongRecOn with
 |_ f ih =>
  cases f with
  |zero=>exact⟨fun n s r _ _ h=>by simp[K4]at h,fun s r h=>by simp[Y3]at h⟩
  |succ f =>
   exact⟨fun n s r h1 h2 h hR=>c_binary L E hL f (fun g hg=>(ih g (by omega)).1) (ih f (by omega)).2 n s r h1 h2 h hR,
    fun s r h hR=>c_unary L E hL f (ih f (by omega)).1 (ih f (by omega)).2 s r h hR⟩
theorem c_expression(L:List Tok)(E:Int)(hL:L.length<=1000000000)(f:Nat)(s:Rd)(r:Ex × Rd)(h:R8 L E f s=some r)(hi:s.i<=L.length):RdC L E 153 [] s (r.1.v,r.2):=by
 intro H cc t ht htc;refine AC.bodyT B1 rfl (A0C rfl) fun hfr=>?_;have ne0:=A4n t cc (by omega);repeat' ((with_reducible first|refine wr ?_|refine A1 ?_ ?_|refine wb2 ?_ ?_<;>(intro hb;try simp only[hb])|fail)<;>try simp only[go_sem,seval,ht,ne0,A0,A2])
 refine AC.call ((c_bu L E hL f).1 1 { s with ops:=0,par:=0 } r (by decide) (by decide) h ⟨hi,A4F 0,(by decide:(0:Int)<=33),fun _=>(by decide:(0:Int)<=32),A4F 0,(by decide:(0:Int)<=16)⟩ _ _ t (by exact A0) (by omega)) ?_;rintro v H' c1 ⟨rfl,rfl⟩ hc1;dsimp only;simp only[go_sem,seval,ne0,A0,A2,Ex.v_w];repeat' ((with_reducible first|refine wr ?_|refine A1 ?_ ?_|refine wb2 ?_ ?_<;>(intro hb;try simp only[hb])|fail)<;>try simp only[go_sem,seval,ne0,A0,A2])
 rw[E6 (rv5 rfl A0)];refine⟨_,_,R6 (cc:=cc) (D7 hfr htc) (fun j hj=>?_),rfl,rfl⟩;simp[Hp.upd,show ¬j=cc by omega];try (split<;>rfl)
abbrev x154:XT Tryz.prog 154:=mkF
instance t154:FT Tryz.prog 154 x154.d:=x154.ft
theorem C2p{K H':Hp}{cc b:Nat}(l:List Pb.St)(hK:∀ i,cc<=i->K i=none)(hb0:cc<=b)(hb:H' b=some ⟨7,true,A3 (l.map Pb.St.v)⟩)(h:∀ j,j<cc->H' j=K j):
  GL H' [.slc b 0 l.length] K [F4 l] :=
 GL.frzS (id:=b) hb rfl (fun j=>by
  by_cases hj:j<cc
  ·exact .inr ⟨by omega,(h j hj).symm⟩
  ·exact .inl (hK j (by omega))) (.cons _ _ _ _ (M6 (u:=7) (by simp) (Q7 l) ⟨[],by simp⟩) .nil)
theorem B6p(e:Pb.St):A3 ([e].map Pb.St.v)=[I64 e.kind,.str e.name,.str e.text,I9 e.args,F4 e.thn,F4 e.els,I64 e.pos]:=by
 rw[A0U,Pb.St.v_w];rfl
theorem c_other(L:List Tok)(E:Int)(hL:L.length<=1000000000)(f:Nat)
  (is:∀ d s r,0<=d->d<=100->U3 L E f d s=some r->s.i<=L.length->RdC L E 121 [I64 d] s (r.1.v,r.2))
  (ib:∀ d s r,0<=d->d<=100->K3 L E f d s=some r->s.i<=L.length->RdC L E 82 [I64 d] s (F4 r.1,r.2))
  (d:Int) (s:Rd) (r:List Pb.St × Rd) (hd0:0<=d) (hd:d<=99) (h:W1 L E (f+1) d s=some r) (hi:s.i<=L.length):RdC L E 154 [I64 d] s (F4 r.1,r.2):=by
 intro H cc t ht htc;refine AC.bodyT B1 rfl (A0C rfl) fun hfr=>?_;unfold W1 at h;have hw:IntKind.i64.wrap (d+1)=d+1:=w6z (by omega);repeat' ((with_reducible first|refine wr ?_|refine A1 ?_ ?_|refine wb2 ?_ ?_<;>(intro hb;try simp only[hb])|fail)<;>try simp only[go_sem,seval])
 refine AC.call (c_is L E s _ _ t ht (by omega) _) ?_;rintro v H' c1 ⟨rfl,rfl⟩ hc1;cases hq:isR L E s [105,102] with
 |true =>
  rw[if_pos hq]at h;cases hs:U3 L E f (d+1) s with
  |none=>rw[hs]at h;cases h
  |some q =>
   obtain⟨x,s1⟩:=q;rw[hs]at h;cases h;simp only[go_sem,seval,hq];repeat' ((with_reducible first|refine wr ?_|refine A1 ?_ ?_|refine wb2 ?_ ?_<;>(intro hb;try simp only[hb])|fail)<;>try simp only[go_sem,seval,hq,hw])
   refine AC.call (is (d+1) s (x,s1) (by omega) (by omega) hs hi _ _ t ht (by omega)) ?_;rintro v H' c2 ⟨rfl,rfl⟩ hc2;dsimp only;simp only[go_sem,seval,Pb.St.v_w];repeat' ((with_reducible first|refine wr ?_|refine A1 ?_ ?_|refine wb2 ?_ ?_<;>(intro hb;try simp only[hb])|fail)<;>try simp only[go_sem,seval])
   exact⟨_,_,C2p (cc:=cc) [x] (D7 hfr htc) (by omega) (by rw[B6p];exact A0) (fun j hj=>by rw[hnO]),rfl,rfl⟩
 |false =>
  rw[if_neg (by simp[hq])]at h;simp only[go_sem,seval,hq];repeat' ((with_reducible first|refine wr ?_|refine A1 ?_ ?_|refine wb2 ?_ ?_<;>(intro hb;try simp only[hb])|fail)<;>try simp only[go_sem,seval,hq,hw])
  refine AC.call (ib (d+1) s r (by omega) (by omega) h hi _ _ t ht (by omega)) ?_;rintro v H' c2 ⟨rfl,rfl⟩ hc2;simp only[go_sem,seval];repeat' ((with_reducible first|refine wr ?_|refine A1 ?_ ?_|refine wb2 ?_ ?_<;>(intro hb;try simp only[hb])|fail)<;>try simp only[go_sem,seval])
  exact⟨_,_,GL.refl _ _,rfl,rfl⟩
theorem B3h{K H':Hp}{cc:Nat}{o:Option Nat}(l:List Pb.St)(hK:∀ i,cc<=i->K i=none)(ho:∀ i,o=some i->cc<=i)(hno:o=none->l=[])(hb:∀ i,o=some i->H' i=some ⟨7,true,A3 (l.map Pb.St.v)⟩)(h:∀ j,j<cc->H' j=K j):
  GL H' [A8 o l.length] K [F4 l]:=by
 cases o with
 |none =>
  obtain rfl:=hno rfl;exact (R6 hK h).trans (GL.view fun ρ vs hA=>S3 (fun v h=>h.snil_lst) vs hA)
 |some b=>exact C2p l hK (ho b rfl) (hb b rfl) h
theorem c_block(L:List Tok)(E:Int)(hL:L.length<=1000000000)(f:Nat)
  (is:∀ g,g<=f->∀ d s r,0<=d->d<=100->U3 L E g d s=some r->s.i<=L.length->RdC L E 121 [I64 d] s (r.1.v,r.2))
  (d:Int) (s:Rd) (r:List Pb.St × Rd) (hd0:0<=d) (hd:d<=100) (h:K3 L E (f+1) d s=some r) (hi:s.i<=L.length):RdC L E 82 [I64 d] s (F4 r.1,r.2):=by
 intro H cc t ht htc;refine AC.bodyT B1 rfl (A0C rfl) fun hfr=>?_;unfold K3 at h;repeat' ((with_reducible first|refine wr ?_|refine A1 ?_ ?_|refine wb2 ?_ ?_<;>(intro hb;try simp only[hb])|fail)<;>try simp only[go_sem,seval])
 refine AC.call (c_expect L E s _ _ t ht (by omega) (by omega) _) ?_;rintro v H' c1 ⟨rfl,rfl⟩ hc1;simp only[go_sem,seval];repeat' ((with_reducible first|refine wr ?_|refine A1 ?_ ?_|refine wb2 ?_ ?_<;>(intro hb;try simp only[hb])|fail)<;>try simp only[go_sem,seval])
 refine D4 (fun q:Nat × Option Nat × List Pb.St × Rd=>[(0,.ptr t 0),(1,I64 d),(5,A8 q.2.1 q.2.2.1.length)]) (fun q=>B9 (H.upd t (rdR L E q.2.2.2)) q.2.1 ⟨7,true,A3 (q.2.2.1.map Pb.St.v)⟩)
  (fun q c=>cc<=c/\q.1<=f/\q.2.2.2.i<=L.length/\(q.2.1=none->q.2.2.1=[])/\(∀ i,q.2.1=some i->cc<=i/\i<c)/\q.2.2.1.length<=65/\(okR q.2.2.2=true->q.2.2.1.length<=64)/\S1 L E q.1 d q.2.2.1 q.2.2.2=some r) (fun q=>q.1) (f,none,[],D6 L E s [123])
  (by simp[C5,tm,Tm.upd,A8]) (Sub.refl _) ⟨hc1,A0J _,H4 hi,fun _=>rfl,(fun i hi=>by cases hi),by simp,fun _=>by simp,h⟩ ?_
 clear h hi;rintro⟨g,o,l,u⟩ c ⟨hc,hg,hi,hno,ho,hl1,hl2,hv⟩;dsimp only at hc hg hi hno ho hl1 hl2 hv ⊢;have hHt:B9 (H.upd t (rdR L E u)) o ⟨7,true,A3 (l.map Pb.St.v)⟩ t=some (rdR L E u):=by rw[B6 (fun i hi=>by have:=ho i hi;omega),A0]
 have hfin:∀ (z:Rd) (j:Nat),j<cc->((B9 (H.upd t (rdR L E u)) o ⟨7,true,A3 (l.map Pb.St.v)⟩).upd t (rdR L E z)) j=(H.upd t (rdR L E z)) j:=fun z j hj=>by
  by_cases ej:j=t
  ·subst ej;rw[A0,A0]
  ·rw[A6 ej,A6 ej,B6 (fun i hi=>by have:=ho i hi;omega),A6 ej]
 have hbo:∀ (z:Rd) (i:Nat),o=some i->((B9 (H.upd t (rdR L E u)) o ⟨7,true,A3 (l.map Pb.St.v)⟩).upd t (rdR L E z)) i=some ⟨7,true,A3 (l.map Pb.St.v)⟩:=fun z i hi=>by
  have:=ho i hi;rw[hnO];subst hi;exact A0
 cases g with
 |zero=>simp[S1]at hv
 |succ g =>
 unfold S1 at hv;repeat' ((with_reducible first|refine wr ?_|refine A1 ?_ ?_|refine wb2 ?_ ?_<;>(intro hb;try simp only[hb])|fail)<;>try simp only[go_sem,seval])
 refine AC.call (c_rdok L E u _ _ t hHt (by omega)) ?_;rintro v H' c2 ⟨rfl,rfl⟩ hc2;cases hok:okR u with
 |false =>
  rw[if_neg (by simp[hok])]at hv;cases hv;simp only[go_sem,seval,hok];repeat' ((with_reducible first|refine wr ?_|refine A1 ?_ ?_|refine wb2 ?_ ?_<;>(intro hb;try simp only[hb])|fail)<;>try simp only[go_sem,seval,hok])
  refine AC.call (c_expect L E u _ _ t hHt (by omega) (by omega) _) ?_;rintro v H' c3 ⟨rfl,rfl⟩ hc3;simp only[go_sem,seval];repeat' ((with_reducible first|refine wr ?_|refine A1 ?_ ?_|refine wb2 ?_ ?_<;>(intro hb;try simp only[hb])|fail)<;>try simp only[go_sem,seval])
  exact⟨_,_,B3h (cc:=cc) l (D7 hfr htc) (fun i hi=>(ho i hi).1) hno (hbo _) (hfin _),rfl,rfl⟩
 |true =>
  simp only[go_sem,seval,hok];repeat' ((with_reducible first|refine wr ?_|refine A1 ?_ ?_|refine wb2 ?_ ?_<;>(intro hb;try simp only[hb])|fail)<;>try simp only[go_sem,seval,hok])
  refine AC.call (c_is L E u _ _ t hHt (by omega) _) ?_;rintro v H' c3 ⟨rfl,rfl⟩ hc3;cases hq:isR L E u [125] with
  |true =>
   rw[if_neg (by simp[hq])]at hv;cases hv;simp only[go_sem,seval,hq];repeat' ((with_reducible first|refine wr ?_|refine A1 ?_ ?_|refine wb2 ?_ ?_<;>(intro hb;try simp only[hb])|fail)<;>try simp only[go_sem,seval,hq])
   refine AC.call (c_expect L E u _ _ t hHt (by omega) (by omega) _) ?_;rintro v H' c4 ⟨rfl,rfl⟩ hc4;simp only[go_sem,seval];repeat' ((with_reducible first|refine wr ?_|refine A1 ?_ ?_|refine wb2 ?_ ?_<;>(intro hb;try simp only[hb])|fail)<;>try simp only[go_sem,seval])
   exact⟨_,_,B3h (cc:=cc) l (D7 hfr htc) (fun i hi=>(ho i hi).1) hno (hbo _) (hfin _),rfl,rfl⟩
  |false =>
   rw[if_pos ⟨hok,hq⟩]at hv;simp only[go_sem,seval,hq];repeat' ((with_reducible first|refine wr ?_|refine cpc c_stmts31 ?_|refine A1 ?_ ?_|refine wb2 ?_ ?_<;>(intro hb;try simp only[hb])|fail)<;>try simp only[go_sem,seval,hq])
   refine AC.call (c_among L E u _ _ t hHt (by omega) B8 (by decide)) ?_;rintro v H' c4 ⟨rfl,rfl⟩ hc4;generalize C3 L E u B8=k at hv;have hlen:A1v (A8 o l.length)=some (I64 l.length):=by
    cases o with
    |none=>rw[hno rfl];rfl
    |some b=>rfl
   have hwl:IntKind.i64.wrap ((l.length:Int)+1)=(l.length:Int)+1:=w6z (by omega);by_cases hsy:k<0/\I8 L E u 1=false
   ·rw[if_pos hsy]at hv;cases hv;have hdk:decide (k<0)=true:=by simpa using hsy.1
    have h1:=hsy.2;simp only[go_sem,seval,hdk];repeat' ((with_reducible first|refine wr ?_|refine A1 ?_ ?_|refine wb2 ?_ ?_<;>(intro hb;try simp only[hb])|fail)<;>try simp only[go_sem,seval,hdk])
    refine AC.call (c_isKind L E u _ _ t hHt (by omega) 1) ?_;rintro v H' c5 ⟨rfl,rfl⟩ hc5;simp only[go_sem,seval,h1];repeat' ((with_reducible first|refine wr ?_|refine A1 ?_ ?_|refine wb2 ?_ ?_<;>(intro hb;try simp only[hb])|fail)<;>try simp only[go_sem,seval,h1])
    refine AC.call (c_syntax L E u _ _ t hHt (by omega)) ?_;rintro v H' c6 ⟨rfl,rfl⟩ hc6;simp only[go_sem,seval];repeat' ((with_reducible first|refine wr ?_|refine A1 ?_ ?_|refine wb2 ?_ ?_<;>(intro hb;try simp only[hb])|fail)<;>try simp only[go_sem,seval])
    exact⟨_,_,(R6 (cc:=cc) (D7 hfr htc) (hfin _)).trans (GL.view fun ρ vs hA=>S3 (fun v h=>h.snil_lst) vs hA),rfl,rfl⟩
   rw[if_neg hsy]at hv;cases hs:U3 L E g d (C9 L E u ((l.length:Int)+1) 64 9) with
   |none=>rw[hs]at hv;cases hv
   |some q =>
   obtain⟨x,s1⟩:=q;rw[hs]at hv;dsimp only at hv;have hix:=(II.all g).2.2.1 _ _ _ hs (by rw[F0];exact hi);have hnok:=C0m hs;have hll:=hl2 hok;have hlk:okR s1=true->l.length+1<=64:=fun h=>by
    cases hz:okR (C9 L E u ((l.length:Int)+1) 64 9) with
    |false=>rw[hnok hz]at h;cases h
    |true=>have:=(F5 (by decide) hz).2.1;omega
   rcases (show ¬ k<0\/(k<0/\I8 L E u 1=true) by
    by_cases hk:k<0
    ·exact .inr ⟨hk,by cases h1:I8 L E u 1 with|true=>rfl|false=>exact absurd ⟨hk,h1⟩ hsy⟩
    ·exact .inl hk) with hk|⟨hk,h1⟩
   case' inl =>
    have hdk:decide (k<0)=false:=by simpa using hk
    simp only[go_sem,seval,hdk];repeat' ((with_reducible first|refine G0 (p:=IW _ _ (pz Tryz.prog 82 (.i (.i (.o (.i .h))))) _ _) ?_|refine wr ?_|refine A1 ?_ ?_|refine wb2 ?_ ?_<;>(intro hb;try simp only[hb])|fail)<;>try simp only[go_sem,seval,hdk])
    obtain⟨c5,hc5,e5⟩:∃ c5,c4<=c5/\c5=c4:=⟨c4,A0J _,rfl⟩;rw[<- e5];clear e5 hdk hk
   case' inr =>
    have hdk:decide (k<0)=true:=by simpa using hk
    simp only[go_sem,seval,hdk];repeat' ((with_reducible first|refine wr ?_|refine A1 ?_ ?_|refine wb2 ?_ ?_<;>(intro hb;try simp only[hb])|fail)<;>try simp only[go_sem,seval,hdk])
    refine AC.call (c_isKind L E u _ _ t hHt (by omega) 1) ?_;rintro v H' c5 ⟨rfl,rfl⟩ hc5;simp only[go_sem,seval,h1];repeat' ((with_reducible first|refine G0 (p:=IW _ _ (pz Tryz.prog 82 (.i (.i (.o (.i .h))))) _ _) ?_|refine wr ?_|refine A1 ?_ ?_|refine wb2 ?_ ?_<;>(intro hb;try simp only[hb])|fail)<;>try simp only[go_sem,seval,h1])
    clear hdk hk h1
   all_goals
    unfold V8;repeat' ((with_reducible first|refine wr ?_|refine A1 ?_ ?_|refine wb2 ?_ ?_<;>(intro hb;try simp only[hb])|fail)<;>try simp only[go_sem,seval,hlen,hwl])
    refine AC.call (c_limit L E u _ _ t hHt (by omega) _ _ _) ?_;rintro v H' c6 ⟨rfl,rfl⟩ hc6;simp only[go_sem,seval];repeat' ((with_reducible first|refine wr ?_|refine A1 ?_ ?_|refine wb2 ?_ ?_<;>(intro hb;try simp only[hb])|fail)<;>try simp only[go_sem,seval])
    refine AC.call (is g (by omega) d _ (x,s1) hd0 hd hs (by rw[F0];exact hi) _ _ t A0 (by omega)) ?_;rintro v H' c7 ⟨rfl,rfl⟩ hc7;dsimp only;have ne0:=L8 t c7 (c7+1) (by omega);simp only[go_sem,seval,ne0,A2,Pb.St.v_w];repeat' ((with_reducible first|refine wr ?_|refine A1 ?_ ?_|refine wb2 ?_ ?_<;>(intro hb;try simp only[hb])|fail)<;>try simp only[go_sem,seval,ne0])
    refine C6 (E0 (cs:=A3 (l.map Pb.St.v)) (fun e=>by rw[hno e];exact⟨rfl,rfl⟩) (fun i hi=>?_) (by rw[C0 (u:=7) (Q7 _)];simp) (by omega) (by omega) (by omega)) ?_
    ·have:=ho i hi;rw[hnO];exact hbo _ i hi
    simp only[go_sem,seval,ne0];repeat' ((with_reducible first|refine wr ?_|refine A1 ?_ ?_|refine wb2 ?_ ?_<;>(intro hb;try simp only[hb])|fail)<;>try simp only[go_sem,seval,ne0])
    refine⟨(g,some (c7+1),l++[x],s1),by simp only[A0A,A0G];rfl,?_,inv ⟨by omega,by simp only;omega,hix,(fun h=>by cases h),(fun i hi=>by cases hi;omega),by simp only[A0A,A0G];omega,(fun h=>by have:=hlk h;simp only[A0A,A0G];omega),hv⟩,by simp only;omega⟩;intro jj b hj;simp only[B9]at hj;by_cases e1:jj=c7+1
    ·subst e1;rw[A0]at hj ⊢;rw[<- hj,A0S,C1,B6p]
    ·rw[A6 e1]at hj ⊢;by_cases e2:jj=t
     ·subst e2;rw[A0]at hj;rw[C7 (fun i hi=>by have:=ho i hi;omega),hnO,A0];exact hj
     ·rw[A6 e2]at hj;have hjc:jj<cc:=Classical.byContradiction fun h=>by rw[hfr jj (by omega)]at hj;cases hj
      rw[C7 (fun i hi=>by have:=ho i hi;omega),hnO,A6 e2,B6 (fun i hi=>by have:=ho i hi;omega),A6 e2];exact hj
end Go.Proofs.YtmmjlijdfhkdcaaGreatDoor
set_option maxHeartbeats 8000000
namespace Go.Proofs.YtmmjlijdfhkdcaaGreatDoor
open Go.Eng (IC IOper DReg IFn M8)
open Go.Sym Go.Pb
def NlR(a b:DV):Prop:=b=a\/(a=.snil/\b=.lst [])
theorem NlR.v{ρ : Ren}{v:Value}{a b:DV}(h:NlR a b)(k:VRel ρ a v):VRel ρ b v:=by
 rcases h with rfl|⟨rfl,rfl⟩
 ·exact k
 ·exact k.snil_lst
theorem D2p{ρ : Ren}{v:Value}{a b c d e f g d' e' f':DV}(hd:NlR d d')(he:NlR e e')(hf:NlR f f')(h:VRel ρ (.agg [a,b,c,d,e,f,g]) v):VRel ρ (.agg [a,b,c,d',e',f',g]) v:=by
 obtain⟨bb,rfl,k1,k2⟩:=h.agg_inv;refine .agg _ _ k1 fun j x y hx hy=>?_
 match j with
 |0=>cases hx;exact k2 0 _ y rfl hy
 |1=>cases hx;exact k2 1 _ y rfl hy
 |2=>cases hx;exact k2 2 _ y rfl hy
 |3=>cases hx;exact hd.v (k2 3 _ y rfl hy)
 |4=>cases hx;exact he.v (k2 4 _ y rfl hy)
 |5=>cases hx;exact hf.v (k2 5 _ y rfl hy)
 |6=>cases hx;exact k2 6 _ y rfl hy
 |_+7=>cases hx
theorem C2n{K H':Hp}{cc:Nat}{a b c d e f g d' e' f':DV}(hd:NlR d d')(he:NlR e e')(hf:NlR f f')(hK:∀ i,cc<=i->K i=none)(h:∀ j,j<cc->H' j=K j):GL H' [.agg [a,b,c,d,e,f,g]] K [.agg [a,b,c,d',e',f',g]] :=
 (R6 hK h).trans (GL.view fun ρ vs hA=>S3 (fun v h=>D2p hd he hf h) vs hA)
theorem A1x{K H':Hp}{cc i:Nat}{a b c e f g e' f':DV}(l:List Ex)(he:NlR e e')(hf:NlR f f')(hK:∀ i,cc<=i->K i=none)(hi0:cc<=i)(hb:H' i=some ⟨5,true,A3 (l.map Ex.v)⟩)(h:∀ j,j<cc->H' j=K j):GL H' [.agg [a,b,c,.slc i 0 l.length,e,f,g]] K [.agg [a,b,c,I9 l,e',f',g]] :=
 (GL.frzS (id:=i) hb rfl (fun j=>by
  by_cases hj:j<cc
  ·exact .inr ⟨by omega,(h j hj).symm⟩
  ·exact .inl (hK j (by omega))) (.cons _ _ _ _ (.agg _ _ (.cons _ _ _ _ (.same _) (.cons _ _ _ _ (.same _) (.cons _ _ _ _ (.same _) (.cons _ _ _ _ (M6 (u:=5) (by simp) (W5 l) ⟨[],by simp⟩) (.cons _ _ _ _ (.same _) (.cons _ _ _ _ (.same _) (.cons _ _ _ _ (.same _) .nil)))))))) .nil)).trans (GL.view fun ρ vs hA=>S3 (fun v h=>D2p (.inl rfl) he hf h) vs hA)
theorem rv7{s:Sym.St}{x i u:Nat}{a b c d e f g:DV}{o:Bool}(h:s.T x=.ptr i 0)(hb:s.H i=some ⟨u,o,[a,b,c,d,e,f,g]⟩):resV s [.cell x 7 true]=some (.agg [a,b,c,d,e,f,g]):=by
 simp only[resV,A3g,h,ldv,hb];rfl
theorem c_statement(L:List Tok)(E:Int)(hL:L.length<=1000000000)(f:Nat)
  (ib:∀ d s r,0<=d->d<=100->K3 L E f d s=some r->s.i<=L.length->RdC L E 82 [I64 d] s (F4 r.1,r.2))
  (io:∀ d s r,0<=d->d<=99->W1 L E f d s=some r->s.i<=L.length->RdC L E 154 [I64 d] s (F4 r.1,r.2))
  (d:Int) (s0:Rd) (r:Pb.St × Rd) (hd0:0<=d) (hd:d<=100) (h:U3 L E (f+1) d s0=some r) (hi:s0.i<=L.length):RdC L E 121 [I64 d] s0 (r.1.v,r.2):=by
 intro H cc t ht htc;refine AC.bodyT B1 rfl (A0C rfl) fun hfr=>?_;unfold U3 at h;dsimp only at h;repeat' ((with_reducible first|refine wr ?_|refine A1 ?_ ?_|refine wb2 ?_ ?_<;>(intro hb;try simp only[hb])|fail)<;>try simp only[go_sem,seval])
 refine AC.call (c_limit L E s0 _ _ t (by rw[hnO];exact ht) (by omega) _ _ _) ?_;rintro v H' c1 ⟨rfl,rfl⟩ hc1;have his:(C9 L E s0 d 8 50).i<=L.length:=by rw[F0];exact hi
 generalize hsq:C9 L E s0 d 8 50=s at *;have ne0:=A4n t cc (by omega);simp only[go_sem,seval];repeat' ((with_reducible first|refine wr ?_|refine A1 ?_ ?_|refine wb2 ?_ ?_<;>(intro hb;try simp only[hb])|fail)<;>try simp only[go_sem,seval])
 refine AC.call (c_rdok L E s _ _ t A0 (by omega)) ?_;rintro v H' c2 ⟨rfl,rfl⟩ hc2;cases hok:okR s with
 |false =>
  rw[if_pos hok]at h;cases h;simp only[go_sem,seval,hok];repeat' ((with_reducible first|refine wr ?_|refine A1 ?_ ?_|refine wb2 ?_ ?_<;>(intro hb;try simp only[hb])|fail)<;>try simp only[go_sem,seval,hok,ne0,A0,A2])
  rw[E6 (rv7 rfl A0)];refine⟨_,_,C2n (cc:=cc) (.inr ⟨rfl,rfl⟩) (.inr ⟨rfl,rfl⟩) (.inr ⟨rfl,rfl⟩) (D7 hfr htc) (fun j hj=>?_),rfl,rfl⟩;simp[Hp.upd,show ¬j=cc by omega]
 |true =>
  rw[if_neg (by simp[hok])]at h;have hd8:d<=8:=by rw[<- hsq]at hok;exact (F5 (by decide) hok).2.1
  simp only[go_sem,seval,hok];repeat' ((with_reducible first|refine wr ?_|refine A1 ?_ ?_|refine wb2 ?_ ?_<;>(intro hb;try simp only[hb])|fail)<;>try simp only[go_sem,seval,hok])
  refine AC.call (c_peek L E s _ _ t A0 (by omega)) ?_;rintro v H' c3 ⟨rfl,rfl⟩ hc3;have ne0:=L8 t cc c3 (by omega);simp only[go_sem,seval,ne0];repeat' ((with_reducible first|refine wr ?_|refine cpc c_stmts31 ?_|refine A1 ?_ ?_|refine wb2 ?_ ?_<;>(intro hb;try simp only[hb])|fail)<;>try simp only[go_sem,seval,ne0,A0,A2])
  refine AC.call (c_among L E s _ _ t (by rw[hnO];exact A0) (by omega) B8 (by decide)) ?_;rintro v H' c4 ⟨rfl,rfl⟩ hc4;have hkr : -1<=C3 L E s B8/\C3 L E s B8<18:=A1f L E s B8 0;have hnn:0<=C3 L E s B8->s.i<L.length:=fun h=>(F7 h).2.1;generalize C3 L E s B8=k at h hkr hnn;generalize (C2 L E s).pos=p at h ⊢;have hti:=J7 (E:=E) (x:=1) (by decide) his;by_cases hk:k<0
  ·rw[if_pos hk]at h;have hdk:decide (k<0)=true:=by simpa using hk
   cases hz5:R8 L E f (D6 L E (B4 L E s 1).2 [61]) with
   |none=>rw[hz5]at h;cases h
   |some qhz5 =>
    obtain⟨e,s1⟩:=qhz5;rw[hz5]at h;dsimp only at h;cases h;simp only[go_sem,seval,hdk,ne0,A0,A2];repeat' ((with_reducible first|refine wr ?_|refine A1 ?_ ?_|refine wb2 ?_ ?_<;>(intro hb;try simp only[hb])|fail)<;>try simp only[go_sem,seval,hdk,ne0,A0,A2])
    refine AC.call (c_name L E s _ _ t (by repeat (first|exact A0|rw[hnO]|rw[F6 (by omega)])) (by omega) (by have:=his;omega)) ?_;rintro v H' c6 ⟨rfl,rfl⟩ hc6;try dsimp only
    simp only[go_sem,seval,ne0,A0,A2];repeat' ((with_reducible first|refine wr ?_|refine A1 ?_ ?_|refine wb2 ?_ ?_<;>(intro hb;try simp only[hb])|fail)<;>try simp only[go_sem,seval,ne0,A0,A2])
    refine AC.call (c_expect L E (B4 L E s 1).2 _ _ t (by repeat (first|exact A0|rw[hnO]|rw[F6 (by omega)])) (by omega) (by have:=hti;omega) _) ?_;rintro v H' c7 ⟨rfl,rfl⟩ hc7;try dsimp only
    simp only[go_sem,seval,ne0,A0,A2];repeat' ((with_reducible first|refine wr ?_|refine A1 ?_ ?_|refine wb2 ?_ ?_<;>(intro hb;try simp only[hb])|fail)<;>try simp only[go_sem,seval,ne0,A0,A2])
    refine AC.call (c_expression L E hL f (D6 L E (B4 L E s 1).2 [61]) (e,s1) hz5 (H4 hti) _ _ t (by repeat (first|exact A0|rw[hnO]|rw[F6 (by omega)])) (by omega)) ?_;rintro v H' c8 ⟨rfl,rfl⟩ hc8;have ne0:=V7 t cc c3 c8 (by omega);try dsimp only
    simp only[go_sem,seval,Ex.v_w,ne0,A0,A2];repeat' ((with_reducible first|refine wr ?_|refine A1 ?_ ?_|refine wb2 ?_ ?_<;>(intro hb;try simp only[hb])|fail)<;>try simp only[go_sem,seval,ne0,A0,A2])
    have h1i:=R7 hz5 (H4 hti);dsimp only at h1i;refine AC.call (c_expect L E s1 _ _ t (by repeat (first|exact A0|rw[hnO]|rw[F6 (by omega)])) (by omega) (by have:=h1i;omega) _) ?_;rintro v H' c9 ⟨rfl,rfl⟩ hc9;try dsimp only
    simp only[go_sem,seval,ne0,A0,A2];repeat' ((with_reducible first|refine wr ?_|refine A1 ?_ ?_|refine wb2 ?_ ?_<;>(intro hb;try simp only[hb])|fail)<;>try simp only[go_sem,seval,ne0,A0,A2])
    rw[E6 (rv7 rfl A0)];refine⟨_,_,A1x (cc:=cc) (i:=c8) [e] (.inr ⟨rfl,rfl⟩) (.inr ⟨rfl,rfl⟩) (D7 hfr htc) (by omega) ?_ (fun j hj=>?_),(by first|rfl|(rw[Pb.St.v_w];done)|(rw[Pb.St.v_w];rfl)),rfl⟩
    ·rw[A4y];dsimp only
     repeat (first|exact A0|rw[hnO]|rw[F6 (by omega)])
    simp[Hp.upd,Hp.del,show ¬j=cc by omega,show ¬j=c3 by omega,show ¬j=c8 by omega];try (split<;>rfl)
  rw[if_neg hk]at h;have hdk:decide (k<0)=false:=by simpa using hk
  have hw2:IntKind.i64.wrap ((s.i:Int)+1)=((s.i+1:Nat):Int):=by rw[w6z (by omega)];omega
  have hwk:IntKind.i64.wrap (2+k)=2+k:=w6z (by omega);have hwd:IntKind.i64.wrap (d+1)=d+1:=w6z (by omega);have hn:(B2 s).i<=L.length:=hnn (by omega);simp only[go_sem,seval,hdk,ne0,A0,A2];have u2:IntKind.i64.wrap 2=2:=w6z (by omega);have u3:IntKind.i64.wrap 3=3:=w6z (by omega);have u4:IntKind.i64.wrap 4=4:=w6z (by omega);have u8:IntKind.i64.wrap 8=8:=w6z (by omega);have u9:IntKind.i64.wrap 9=9:=w6z (by omega);have u10:IntKind.i64.wrap 10=10:=w6z (by omega);have u18:IntKind.i64.wrap 18=18:=w6z (by omega);have u19:IntKind.i64.wrap 19=19:=w6z (by omega);by_cases hb:k=0\/k=1
  ·rw[if_pos hb]at h;cases hz10:R8 L E f (B2 s) with
   |none=>rw[hz10]at h;cases h
   |some qhz10 =>
    obtain⟨e,s2⟩:=qhz10;rw[hz10]at h;dsimp only at h;cases hz11:K3 L E f (d+1) s2 with
    |none=>rw[hz11]at h;cases h
    |some qhz11 =>
     obtain⟨tt,s3⟩:=qhz11;rw[hz11]at h;dsimp only at h;have h2i:=R7 hz10 hn;dsimp only at h2i;have h3i:=(II.all f).1 _ _ _ hz11 h2i;dsimp only at h3i;have hw3:IntKind.i64.wrap ((s3.i:Int)+1)=((s3.i+1:Nat):Int):=by rw[w6z (by omega)];omega
     rcases hb with rfl|rfl
     ·repeat' ((with_reducible first|refine wr ?_|refine A1 ?_ ?_|refine wb2 ?_ ?_<;>(intro hb;try simp only[hb])|fail)<;>try simp only[go_sem,seval,hdk,hw2,hwk,u2,u3,u4,u8,u9,u10,u18,u19,ne0,A0,A2])
      refine AC.call (c_expression L E hL f (B2 s) (e,s2) hz10 (hn) _ _ t (by repeat (first|exact A0|rw[hnO]|rw[F6 (by omega)])) (by omega)) ?_;rintro v H' c12 ⟨rfl,rfl⟩ hc12;have ne0:=V7 t cc c3 c12 (by omega);try dsimp only
      simp only[go_sem,seval,Ex.v_w,ne0,A0,A2];repeat' ((with_reducible first|refine wr ?_|refine A1 ?_ ?_|refine wb2 ?_ ?_<;>(intro hb;try simp only[hb])|fail)<;>try simp only[go_sem,seval,ne0,A0,A2])
      try simp only[hwd]
      refine AC.call (ib (d+1) s2 (tt,s3) (by omega) (by omega) hz11 h2i _ _ t (by repeat (first|exact A0|rw[hnO]|rw[F6 (by omega)])) (by omega)) ?_;rintro v H' c13 ⟨rfl,rfl⟩ hc13;try dsimp only
      simp only[go_sem,seval,ne0,A0,A2];repeat' ((with_reducible first|refine wr ?_|refine A1 ?_ ?_|refine wb2 ?_ ?_<;>(intro hb;try simp only[hb])|fail)<;>try simp only[go_sem,seval,ne0,A0,A2])
      refine AC.call (c_is L E s3 _ _ t (by repeat (first|exact A0|rw[hnO]|rw[F6 (by omega)])) (by omega) _) ?_;rintro v H' c14 ⟨rfl,rfl⟩ hc14;cases hq:isR L E s3 [101,108,115,101] with
      |true =>
       rw[if_pos ⟨rfl,hq⟩]at h;cases hz15:W1 L E f d (B2 s3) with
       |none=>rw[hz15]at h;cases h
       |some qhz15 =>
        obtain⟨oo,s4⟩:=qhz15;rw[hz15]at h;dsimp only at h;cases h;simp only[go_sem,seval,hq,hw3,ne0,A0,A2];repeat' ((with_reducible first|refine wr ?_|refine A1 ?_ ?_|refine wb2 ?_ ?_<;>(intro hb;try simp only[hb])|fail)<;>try simp only[go_sem,seval,hq,hw3,ne0,A0,A2])
        refine AC.call (io d (B2 s3) (oo,s4) hd0 (by omega) hz15 (A1k hq).2 _ _ t (by repeat (first|exact A0|rw[hnO]|rw[F6 (by omega)])) (by omega)) ?_;rintro v H' c16 ⟨rfl,rfl⟩ hc16;try dsimp only
        simp only[go_sem,seval,ne0,A0,A2];repeat' ((with_reducible first|refine wr ?_|refine A1 ?_ ?_|refine wb2 ?_ ?_<;>(intro hb;try simp only[hb])|fail)<;>try simp only[go_sem,seval,ne0,A0,A2])
        rw[E6 (rv7 rfl A0)];refine⟨_,_,A1x (cc:=cc) (i:=c12) [e] (.inl rfl) (.inl rfl) (D7 hfr htc) (by omega) ?_ (fun j hj=>?_),(by first|rfl|(rw[Pb.St.v_w];done)|(rw[Pb.St.v_w];rfl)),rfl⟩
        ·rw[A4y];dsimp only
         repeat (first|exact A0|rw[hnO]|rw[F6 (by omega)])
        simp[Hp.upd,Hp.del,show ¬j=cc by omega,show ¬j=c3 by omega,show ¬j=c12 by omega];try (split<;>rfl)
      |false =>
       rw[if_neg (by simp[hq])]at h;cases h;simp only[go_sem,seval,hq,ne0,A0,A2];repeat' ((with_reducible first|refine wr ?_|refine A1 ?_ ?_|refine wb2 ?_ ?_<;>(intro hb;try simp only[hb])|fail)<;>try simp only[go_sem,seval,hq,ne0,A0,A2])
       rw[E6 (rv7 rfl A0)];refine⟨_,_,A1x (cc:=cc) (i:=c12) [e] (.inl rfl) (.inr ⟨rfl,rfl⟩) (D7 hfr htc) (by omega) ?_ (fun j hj=>?_),(by first|rfl|(rw[Pb.St.v_w];done)|(rw[Pb.St.v_w];rfl)),rfl⟩
       ·rw[A4y];dsimp only
        repeat (first|exact A0|rw[hnO]|rw[F6 (by omega)])
       simp[Hp.upd,Hp.del,show ¬j=cc by omega,show ¬j=c3 by omega,show ¬j=c12 by omega];try (split<;>rfl)
     ·repeat' ((with_reducible first|refine wr ?_|refine A1 ?_ ?_|refine wb2 ?_ ?_<;>(intro hb;try simp only[hb])|fail)<;>try simp only[go_sem,seval,hdk,hw2,hwk,u2,u3,u4,u8,u9,u10,u18,u19,ne0,A0,A2])
      refine AC.call (c_expression L E hL f (B2 s) (e,s2) hz10 (hn) _ _ t (by repeat (first|exact A0|rw[hnO]|rw[F6 (by omega)])) (by omega)) ?_;rintro v H' c17 ⟨rfl,rfl⟩ hc17;have ne0:=V7 t cc c3 c17 (by omega);try dsimp only
      simp only[go_sem,seval,Ex.v_w,ne0,A0,A2];repeat' ((with_reducible first|refine wr ?_|refine A1 ?_ ?_|refine wb2 ?_ ?_<;>(intro hb;try simp only[hb])|fail)<;>try simp only[go_sem,seval,ne0,A0,A2])
      try simp only[hwd]
      refine AC.call (ib (d+1) s2 (tt,s3) (by omega) (by omega) hz11 h2i _ _ t (by repeat (first|exact A0|rw[hnO]|rw[F6 (by omega)])) (by omega)) ?_;rintro v H' c18 ⟨rfl,rfl⟩ hc18;try dsimp only
      simp only[go_sem,seval,ne0,A0,A2];repeat' ((with_reducible first|refine wr ?_|refine A1 ?_ ?_|refine wb2 ?_ ?_<;>(intro hb;try simp only[hb])|fail)<;>try simp only[go_sem,seval,ne0,A0,A2])
      rw[if_neg (by simp)]at h;cases h;rw[E6 (rv7 rfl A0)];refine⟨_,_,A1x (cc:=cc) (i:=c17) [e] (.inl rfl) (.inr ⟨rfl,rfl⟩) (D7 hfr htc) (by omega) ?_ (fun j hj=>?_),(by first|rfl|(rw[Pb.St.v_w];done)|(rw[Pb.St.v_w];rfl)),rfl⟩
      ·rw[A4y];dsimp only
       repeat (first|exact A0|rw[hnO]|rw[F6 (by omega)])
      simp[Hp.upd,Hp.del,show ¬j=cc by omega,show ¬j=c3 by omega,show ¬j=c17 by omega];try (split<;>rfl)
  rw[if_neg hb]at h;unfold N7 at h;dsimp only at h;by_cases k2:k=2
  ·subst k2;rw[if_pos (by decide)]at h;cases hz19:R8 L E f (B2 s) with
   |none=>rw[hz19]at h;cases h
   |some qhz19 =>
    obtain⟨e,s1⟩:=qhz19;rw[hz19]at h;dsimp only at h;cases h;have h1i:=R7 hz19 hn;dsimp only at h1i;repeat' ((with_reducible first|refine wr ?_|refine A1 ?_ ?_|refine wb2 ?_ ?_<;>(intro hb;try simp only[hb])|fail)<;>try simp only[go_sem,seval,hdk,hw2,hwk,u2,u3,u4,u8,u9,u10,u18,u19,ne0,A0,A2])
    refine AC.call (c_expression L E hL f (B2 s) (e,s1) hz19 (hn) _ _ t (by repeat (first|exact A0|rw[hnO]|rw[F6 (by omega)])) (by omega)) ?_;rintro v H' c20 ⟨rfl,rfl⟩ hc20;have ne0:=V7 t cc c3 c20 (by omega);try dsimp only
    simp only[go_sem,seval,Ex.v_w,ne0,A0,A2];repeat' ((with_reducible first|refine wr ?_|refine A1 ?_ ?_|refine wb2 ?_ ?_<;>(intro hb;try simp only[hb])|fail)<;>try simp only[go_sem,seval,ne0,A0,A2])
    refine AC.call (c_expect L E s1 _ _ t (by repeat (first|exact A0|rw[hnO]|rw[F6 (by omega)])) (by omega) (by have:=h1i;omega) _) ?_;rintro v H' c21 ⟨rfl,rfl⟩ hc21;try dsimp only
    simp only[go_sem,seval,ne0,A0,A2];repeat' ((with_reducible first|refine wr ?_|refine A1 ?_ ?_|refine wb2 ?_ ?_<;>(intro hb;try simp only[hb])|fail)<;>try simp only[go_sem,seval,ne0,A0,A2])
    rw[E6 (rv7 rfl A0)];refine⟨_,_,A1x (cc:=cc) (i:=c20) [e] (.inr ⟨rfl,rfl⟩) (.inr ⟨rfl,rfl⟩) (D7 hfr htc) (by omega) ?_ (fun j hj=>?_),(by first|rfl|(rw[Pb.St.v_w];done)|(rw[Pb.St.v_w];rfl)),rfl⟩
    ·rw[A4y];dsimp only
     repeat (first|exact A0|rw[hnO]|rw[F6 (by omega)])
    simp[Hp.upd,Hp.del,show ¬j=cc by omega,show ¬j=c3 by omega,show ¬j=c20 by omega];try (split<;>rfl)
  rw[if_neg (by omega)]at h;by_cases k16:k=16
  ·subst k16;rw[if_pos (by decide)]at h;have h4i:=J7 (E:=E) (x:=4) (by decide) hn;cases hz22:R8 L E f (D6 L E (B4 L E (B2 s) 4).2 [44]) with
   |none=>rw[hz22]at h;cases h
   |some qhz22 =>
    obtain⟨e,s1⟩:=qhz22;rw[hz22]at h;dsimp only at h;cases h;have h1i:=R7 hz22 (H4 h4i);dsimp only at h1i;repeat' ((with_reducible first|refine wr ?_|refine A1 ?_ ?_|refine wb2 ?_ ?_<;>(intro hb;try simp only[hb])|fail)<;>try simp only[go_sem,seval,hdk,hw2,hwk,u2,u3,u4,u8,u9,u10,u18,u19,ne0,A0,A2])
    refine AC.call (c_take L E (B2 s) _ _ t (by repeat (first|exact A0|rw[hnO]|rw[F6 (by omega)])) (by omega) (by omega) 4) ?_;rintro v H' c23 ⟨rfl,rfl⟩ hc23;try dsimp only
    simp only[go_sem,seval,ne0,A0,A2];repeat' ((with_reducible first|refine wr ?_|refine A1 ?_ ?_|refine wb2 ?_ ?_<;>(intro hb;try simp only[hb])|fail)<;>try simp only[go_sem,seval,ne0,A0,A2])
    refine AC.call (c_expect L E (B4 L E (B2 s) 4).2 _ _ t (by repeat (first|exact A0|rw[hnO]|rw[F6 (by omega)])) (by omega) (by have:=h4i;omega) _) ?_;rintro v H' c24 ⟨rfl,rfl⟩ hc24;try dsimp only
    simp only[go_sem,seval,ne0,A0,A2];repeat' ((with_reducible first|refine wr ?_|refine A1 ?_ ?_|refine wb2 ?_ ?_<;>(intro hb;try simp only[hb])|fail)<;>try simp only[go_sem,seval,ne0,A0,A2])
    refine AC.call (c_expression L E hL f (D6 L E (B4 L E (B2 s) 4).2 [44]) (e,s1) hz22 (H4 h4i) _ _ t (by repeat (first|exact A0|rw[hnO]|rw[F6 (by omega)])) (by omega)) ?_;rintro v H' c25 ⟨rfl,rfl⟩ hc25;have ne0:=V7 t cc c3 c25 (by omega);try dsimp only
    simp only[go_sem,seval,Ex.v_w,ne0,A0,A2];repeat' ((with_reducible first|refine wr ?_|refine A1 ?_ ?_|refine wb2 ?_ ?_<;>(intro hb;try simp only[hb])|fail)<;>try simp only[go_sem,seval,ne0,A0,A2])
    refine AC.call (c_expect L E s1 _ _ t (by repeat (first|exact A0|rw[hnO]|rw[F6 (by omega)])) (by omega) (by have:=h1i;omega) _) ?_;rintro v H' c26 ⟨rfl,rfl⟩ hc26;try dsimp only
    simp only[go_sem,seval,ne0,A0,A2];repeat' ((with_reducible first|refine wr ?_|refine A1 ?_ ?_|refine wb2 ?_ ?_<;>(intro hb;try simp only[hb])|fail)<;>try simp only[go_sem,seval,ne0,A0,A2])
    rw[E6 (rv7 rfl A0)];refine⟨_,_,A1x (cc:=cc) (i:=c25) [e] (.inr ⟨rfl,rfl⟩) (.inr ⟨rfl,rfl⟩) (D7 hfr htc) (by omega) ?_ (fun j hj=>?_),(by first|rfl|(rw[Pb.St.v_w];done)|(rw[Pb.St.v_w];rfl)),rfl⟩
    ·rw[A4y];dsimp only
     repeat (first|exact A0|rw[hnO]|rw[F6 (by omega)])
    simp[Hp.upd,Hp.del,show ¬j=cc by omega,show ¬j=c3 by omega,show ¬j=c25 by omega];try (split<;>rfl)
  rw[if_neg (by omega)]at h;by_cases k17:k=17
  ·subst k17;rw[if_pos (by decide)]at h;cases h;repeat' ((with_reducible first|refine wr ?_|refine A1 ?_ ?_|refine wb2 ?_ ?_<;>(intro hb;try simp only[hb])|fail)<;>try simp only[go_sem,seval,hdk,hw2,hwk,u2,u3,u4,u8,u9,u10,u18,u19,ne0,A0,A2])
   refine AC.call (c_expect L E (B2 s) _ _ t (by repeat (first|exact A0|rw[hnO]|rw[F6 (by omega)])) (by omega) (by have:=hn;omega) _) ?_;rintro v H' c27 ⟨rfl,rfl⟩ hc27;try dsimp only
   simp only[go_sem,seval,ne0,A0,A2];repeat' ((with_reducible first|refine wr ?_|refine A1 ?_ ?_|refine wb2 ?_ ?_<;>(intro hb;try simp only[hb])|fail)<;>try simp only[go_sem,seval,ne0,A0,A2])
   rw[E6 (rv7 rfl A0)];refine⟨_,_,C2n (cc:=cc) (.inr ⟨rfl,rfl⟩) (.inr ⟨rfl,rfl⟩) (.inr ⟨rfl,rfl⟩) (D7 hfr htc) (fun j hj=>?_),(by first|rfl|(rw[Pb.St.v_w];done)|(rw[Pb.St.v_w];rfl)),rfl⟩;simp[Hp.upd,Hp.del,show ¬j=cc by omega,show ¬j=c3 by omega];try (split<;>rfl)
  rw[if_neg (by omega)]at h;have hti2:=J7 (E:=E) (x:=1) (by decide) hn;by_cases k7:k=7
  ·subst k7;rw[if_pos (by omega)]at h;cases hz28:R8 L E f (B4 L E (B2 s) 1).2 with
   |none=>rw[hz28]at h;cases h
   |some qhz28 =>
    obtain⟨e,s1⟩:=qhz28;rw[hz28]at h;dsimp only at h;rw[if_pos (by decide)]at h;have h1i:=R7 hz28 hti2;dsimp only at h1i;cases hz29:R8 L E f (D6 L E s1 [44]) with
    |none=>rw[hz29]at h;cases h
    |some qhz29 =>
     obtain⟨e2,s2⟩:=qhz29;rw[hz29]at h;dsimp only at h;cases h;have h2i:=R7 hz29 (H4 h1i);dsimp only at h2i;repeat' ((with_reducible first|refine wr ?_|refine A1 ?_ ?_|refine wb2 ?_ ?_<;>(intro hb;try simp only[hb])|fail)<;>try simp only[go_sem,seval,hdk,hw2,hwk,u2,u3,u4,u8,u9,u10,u18,u19,ne0,A0,A2])
     refine AC.call (c_name L E (B2 s) _ _ t (by repeat (first|exact A0|rw[hnO]|rw[F6 (by omega)])) (by omega) (by have:=hn;omega)) ?_;rintro v H' c30 ⟨rfl,rfl⟩ hc30;try dsimp only
     simp only[go_sem,seval,ne0,A0,A2];repeat' ((with_reducible first|refine wr ?_|refine A1 ?_ ?_|refine wb2 ?_ ?_<;>(intro hb;try simp only[hb])|fail)<;>try simp only[go_sem,seval,ne0,A0,A2])
     refine AC.call (c_expression L E hL f (B4 L E (B2 s) 1).2 (e,s1) hz28 (hti2) _ _ t (by repeat (first|exact A0|rw[hnO]|rw[F6 (by omega)])) (by omega)) ?_;rintro v H' c31 ⟨rfl,rfl⟩ hc31;have ne0:=V7 t cc c3 c31 (by omega);try dsimp only
     simp only[go_sem,seval,Ex.v_w,ne0,A0,A2];repeat' ((with_reducible first|refine wr ?_|refine A1 ?_ ?_|refine wb2 ?_ ?_<;>(intro hb;try simp only[hb])|fail)<;>try simp only[go_sem,seval,ne0,A0,A2])
     refine AC.call (c_expect L E s1 _ _ t (by repeat (first|exact A0|rw[hnO]|rw[F6 (by omega)])) (by omega) (by have:=h1i;omega) _) ?_;rintro v H' c32 ⟨rfl,rfl⟩ hc32;try dsimp only
     simp only[go_sem,seval,ne0,A0,A2];repeat' ((with_reducible first|refine wr ?_|refine A1 ?_ ?_|refine wb2 ?_ ?_<;>(intro hb;try simp only[hb])|fail)<;>try simp only[go_sem,seval,ne0,A0,A2])
     have hgx:=H4 (E:=E) (x:=[44]) h1i;refine AC.call (c_expression L E hL f (D6 L E s1 [44]) (e2,s2) hz29 (H4 h1i) _ _ t (by repeat (first|exact A0|rw[hnO]|rw[F6 (by omega)])) (by omega)) ?_;rintro v H' c33 ⟨rfl,rfl⟩ hc33;have ne0:=T1 t cc c3 c31 (c32+4) (by omega);try dsimp only
     simp only[go_sem,seval,Ex.v_w,ne0,A0,A2];repeat' ((with_reducible first|refine wr ?_|refine A1 ?_ ?_|refine wb2 ?_ ?_<;>(intro hb;try simp only[hb])|fail)<;>try simp only[go_sem,seval,ne0,A0,A2])
     refine⟨?_,?_⟩
     ·and_intros
      all_goals ((repeat rw[hnO]);exact hfr _ (by omega))
     have ne0:=A9a t cc c3 c31 (c32+4) c33 (by omega);try simp only[go_sem,seval,I5,F6,A2v,ne0,A0,A2]
     repeat' ((with_reducible first|refine wr ?_|refine A1 ?_ ?_|refine wb2 ?_ ?_<;>(intro hb;try simp only[hb])|fail)<;>try simp only[go_sem,seval,I5,F6,A2v,ne0,A0,A2])
     refine V4 (E5 (by rfl) (by omega) (by omega)) ?_;try simp only[go_sem,seval,F6,A2v,ne0,A0,A2]
     repeat' ((with_reducible first|refine wr ?_|refine A1 ?_ ?_|refine wb2 ?_ ?_<;>(intro hb;try simp only[hb])|fail)<;>try simp only[go_sem,seval,F6,A2v,ne0,A0,A2])
     refine AC.call (c_expect L E s2 _ _ t (by repeat (first|exact A0|rw[hnO]|rw[F6 (by omega)])) (by omega) (by have:=h2i;omega) _) ?_;rintro v H' c34 ⟨rfl,rfl⟩ hc34;try dsimp only
     simp only[go_sem,seval,ne0,A0,A2];repeat' ((with_reducible first|refine wr ?_|refine A1 ?_ ?_|refine wb2 ?_ ?_<;>(intro hb;try simp only[hb])|fail)<;>try simp only[go_sem,seval,ne0,A0,A2])
     rw[E6 (rv7 rfl A0)];refine⟨_,_,A1x (cc:=cc) (i:=c33) [e,e2] (.inr ⟨rfl,rfl⟩) (.inr ⟨rfl,rfl⟩) (D7 hfr htc) (by omega) ?_ (fun j hj=>?_),(by first|rfl|(rw[Pb.St.v_w];done)|(rw[Pb.St.v_w];rfl)),rfl⟩
     ·rw[C2v];dsimp only
      repeat (first|exact A0|rw[hnO]|rw[F6 (by omega)])
     simp[Hp.upd,Hp.del,show ¬j=cc by omega,show ¬j=c3 by omega,show ¬j=c31 by omega,show ¬j=c32+4 by omega,show ¬j=c33 by omega];try (split<;>rfl)
  by_cases k68:k=6\/k=8
  ·rw[if_pos (by omega)]at h;cases hz35:R8 L E f (B4 L E (B2 s) 1).2 with
   |none=>rw[hz35]at h;cases h
   |some qhz35 =>
    obtain⟨e,s1⟩:=qhz35;rw[hz35]at h;dsimp only at h;rw[if_neg (by omega)]at h;cases h;have h1i:=R7 hz35 hti2;dsimp only at h1i;rcases k68 with rfl|rfl
    all_goals
     repeat' ((with_reducible first|refine wr ?_|refine A1 ?_ ?_|refine wb2 ?_ ?_<;>(intro hb;try simp only[hb])|fail)<;>try simp only[go_sem,seval,hdk,hw2,hwk,u2,u3,u4,u8,u9,u10,u18,u19,ne0,A0,A2])
     refine AC.call (c_name L E (B2 s) _ _ t (by repeat (first|exact A0|rw[hnO]|rw[F6 (by omega)])) (by omega) (by have:=hn;omega)) ?_;rintro v H' c36 ⟨rfl,rfl⟩ hc36;try dsimp only
     simp only[go_sem,seval,ne0,A0,A2];repeat' ((with_reducible first|refine wr ?_|refine A1 ?_ ?_|refine wb2 ?_ ?_<;>(intro hb;try simp only[hb])|fail)<;>try simp only[go_sem,seval,ne0,A0,A2])
     refine AC.call (c_expression L E hL f (B4 L E (B2 s) 1).2 (e,s1) hz35 (hti2) _ _ t (by repeat (first|exact A0|rw[hnO]|rw[F6 (by omega)])) (by omega)) ?_;rintro v H' c37 ⟨rfl,rfl⟩ hc37;have ne0:=V7 t cc c3 c37 (by omega);try dsimp only
     simp only[go_sem,seval,Ex.v_w,ne0,A0,A2];repeat' ((with_reducible first|refine wr ?_|refine A1 ?_ ?_|refine wb2 ?_ ?_<;>(intro hb;try simp only[hb])|fail)<;>try simp only[go_sem,seval,ne0,A0,A2])
     refine AC.call (c_expect L E s1 _ _ t (by repeat (first|exact A0|rw[hnO]|rw[F6 (by omega)])) (by omega) (by have:=h1i;omega) _) ?_;rintro v H' c38 ⟨rfl,rfl⟩ hc38;try dsimp only
     simp only[go_sem,seval,ne0,A0,A2];repeat' ((with_reducible first|refine wr ?_|refine A1 ?_ ?_|refine wb2 ?_ ?_<;>(intro hb;try simp only[hb])|fail)<;>try simp only[go_sem,seval,ne0,A0,A2])
     rw[E6 (rv7 rfl A0)];refine⟨_,_,A1x (cc:=cc) (i:=c37) [e] (.inr ⟨rfl,rfl⟩) (.inr ⟨rfl,rfl⟩) (D7 hfr htc) (by omega) ?_ (fun j hj=>?_),(by first|rfl|(rw[Pb.St.v_w];done)|(rw[Pb.St.v_w];rfl)),rfl⟩
     ·rw[A4y];dsimp only
      repeat (first|exact A0|rw[hnO]|rw[F6 (by omega)])
     simp[Hp.upd,Hp.del,show ¬j=cc by omega,show ¬j=c3 by omega,show ¬j=c37 by omega];try (split<;>rfl)
  rw[if_neg (by omega)]at h;cases h;have e2:(2+k == 2)=false:=by simp;omega
  have e3:(2+k == 3)=false:=by simp;omega
  have e4:(2+k == 4)=false:=by simp;omega
  have e18:(2+k == 18)=false:=by simp;omega
  have e19:(2+k == 19)=false:=by simp;omega
  have e8:(2+k == 8)=false:=by simp;omega
  have e9:(2+k == 9)=false:=by simp;omega
  have e10:(2+k == 10)=false:=by simp;omega
  repeat' ((with_reducible first|refine wr ?_|refine A1 ?_ ?_|refine wb2 ?_ ?_<;>(intro hb;try simp only[hb])|fail)<;>try simp only[go_sem,seval,hdk,hw2,hwk,u2,u3,u4,u8,u9,u10,u18,u19,e2,e3,e4,e18,e19,e8,e9,e10,ne0,A0,A2])
  refine AC.call (c_name L E (B2 s) _ _ t (by repeat (first|exact A0|rw[hnO]|rw[F6 (by omega)])) (by omega) (by have:=hn;omega)) ?_;rintro v H' c39 ⟨rfl,rfl⟩ hc39;try dsimp only
  simp only[go_sem,seval,e8,e9,e10,ne0,A0,A2];repeat' ((with_reducible first|refine wr ?_|refine A1 ?_ ?_|refine wb2 ?_ ?_<;>(intro hb;try simp only[hb])|fail)<;>try simp only[go_sem,seval,e8,e9,e10,ne0,A0,A2])
  refine AC.call (c_expect L E (B4 L E (B2 s) 1).2 _ _ t (by repeat (first|exact A0|rw[hnO]|rw[F6 (by omega)])) (by omega) (by have:=hti2;omega) _) ?_;rintro v H' c40 ⟨rfl,rfl⟩ hc40;try dsimp only
  simp only[go_sem,seval,ne0,A0,A2];repeat' ((with_reducible first|refine wr ?_|refine A1 ?_ ?_|refine wb2 ?_ ?_<;>(intro hb;try simp only[hb])|fail)<;>try simp only[go_sem,seval,ne0,A0,A2])
  rw[E6 (rv7 rfl A0)];refine⟨_,_,C2n (cc:=cc) (.inr ⟨rfl,rfl⟩) (.inr ⟨rfl,rfl⟩) (.inr ⟨rfl,rfl⟩) (D7 hfr htc) (fun j hj=>?_),(by first|rfl|(rw[Pb.St.v_w];done)|(rw[Pb.St.v_w];rfl)),rfl⟩;simp[Hp.upd,Hp.del,show ¬j=cc by omega,show ¬j=c3 by omega];try (split<;>rfl)
end Go.Proofs.YtmmjlijdfhkdcaaGreatDoor
set_option maxHeartbeats 4000000
namespace Go.Proofs.YtmmjlijdfhkdcaaGreatDoor
open Go.Eng (IC IOper DReg IFn M8)
open Go.Sym Go.Pb
theorem c_stm(L:List Tok)(E:Int)(hL:L.length<=1000000000):∀ f:Nat,
  (∀ d s r,0<=d->d<=100->U3 L E f d s=some r->s.i<=L.length->RdC L E 121 [I64 d] s (r.1.v,r.2)) /\
  (∀ d s r,0<=d->d<=100->K3 L E f d s=some r->s.i<=L.length->RdC L E 82 [I64 d] s (F4 r.1,r.2)) /\
  (∀ d s r,0<=d->d<=99->W1 L E f d s=some r->s.i<=L.length->RdC L E 154 [I64 d] s (F4 r.1,r.2)):=by
 intro f
 induction f using Nat.strongRecOn with
 |_ f ih =>
  cases f with
  |zero=>exact⟨fun d s r _ _ h=>by simp[U3]at h,fun d s r _ _ h=>by simp[K3]at h,fun d s r _ _ h=>by simp[W1]at h⟩
  |succ f =>
   have i0:=ih f (by omega);exact⟨fun d s r h1 h2 h hi=>c_statement L E hL f i0.2.1 i0.2.2 d s r h1 h2 h hi,
    fun d s r h1 h2 h hi=>c_block L E hL f (fun g hg=>(ih g (by omega)).1) d s r h1 h2 h hi,
    fun d s r h1 h2 h hi=>c_other L E hL f i0.1 i0.2.1 d s r h1 h2 h hi⟩
theorem c_declaration(L:List Tok)(E:Int)(s:Rd)(H:Hp)(cc t:Nat)(ht:H t=some (rdR L E s))(htc:t<cc)(hL:L.length<=1000000000)(hv:∀ x∈L,0<=x.value/\x.value<=9223372036854775807)(k:Int)(hk0:0<=k)(hk:k<8)(hi:s.i<L.length):AC Tryz.prog 41 [.ptr t 0,I64 k] H cc (fun v H' c'=>v=(Q2 L E k s).1.v/\H'=H.upd t (rdR L E (Q2 L E k s).2)):=by
 refine AC.bodyT B1 rfl (A0C rfl) fun hfr=>?_;have hwk:IntKind.i64.wrap (1+k)=1+k:=w6z (by omega);have hw:IntKind.i64.wrap ((s.i:Int)+1)=((s.i+1:Nat):Int):=by rw[w6z (by omega)];omega
 have hn:(B2 s).i<=L.length:=hi;have hti:=J7 (E:=E) (x:=1) (by decide) hn;repeat' ((with_reducible first|refine wr ?_|refine A1 ?_ ?_|refine wb2 ?_ ?_<;>(intro hb;try simp only[hb])|fail)<;>try simp only[go_sem,seval])
 refine AC.call (c_peek L E s _ _ t (by rw[hnO];exact ht) (by omega)) ?_;rintro v H' c1 ⟨rfl,rfl⟩ hc1;have ne0:=L8 t cc c1 (by omega);simp only[go_sem,seval,ne0,hwk];repeat' ((with_reducible first|refine wr ?_|refine A1 ?_ ?_|refine wb2 ?_ ?_<;>(intro hb;try simp only[hb])|fail)<;>try simp only[go_sem,seval,ht,hw,hwk,ne0,A0,A2])
 refine AC.call (c_name L E (B2 s) _ _ t (by repeat (first|exact A0|rw[hnO])) (by omega) (by omega)) ?_;rintro v H' c2 ⟨rfl,rfl⟩ hc2;have hval:∀ z,0<=(B4 L E z 3).1.value/\(B4 L E z 3).1.value<=9223372036854775807:=fun z=>by
  unfold B4;split
  ·exact⟨A4F 0,(by decide:(0:Int)<=9223372036854775807)⟩
  ·show 0<=(C2 L E z).value/\(C2 L E z).value<=9223372036854775807;unfold C2;rw[A0Y];cases hg:L[z.i]? with
   |none=>exact⟨A4F 0,(by decide:(0:Int)<=9223372036854775807)⟩
   |some x=>exact hv x (A0M hg)
 obtain⟨D,hD⟩:∃ D,D=Q2 L E k s:=⟨_,rfl⟩;rw[<- hD];unfold Q2 at hD;dsimp only at hD;generalize (C2 L E s).pos=p at hD ⊢;generalize (B4 L E (B2 s) 1).1.text=n at hD ⊢;generalize (B4 L E (B2 s) 1).2=s2 at hD hti ⊢;by_cases h6:k+1<=6
 ·rw[if_pos h6]at hD;have hd6:decide (1+k<=6)=true:=by simp;omega
  have hw2:IntKind.i64.wrap ((s2.i:Int)+1)=((s2.i+1:Nat):Int):=by rw[w6z (by omega)];omega
  by_cases h5:k=5
  ·subst h5;simp only[go_sem,seval,hd6,ne0,A0,A2];repeat' ((with_reducible first|refine wr ?_|refine A1 ?_ ?_|refine wb2 ?_ ?_<;>(intro hb;try simp only[hb])|fail)<;>try simp only[go_sem,seval,hd6,ne0,A0,A2])
   refine AC.call (c_is L E s2 _ _ t (by repeat (first|exact A0|rw[hnO])) (by omega) _) ?_;rintro v H' c3 ⟨rfl,rfl⟩ hc3;cases hq:isR L E s2 [45] with
   |true =>
    rw[hq]at hD;have hn2:(B2 s2).i<=L.length:=(A1k hq).2;have hv2:=hval (B2 s2);have hneg:IntKind.i64.wrap (0-(B4 L E (B2 s2) 3).1.value) = -(B4 L E (B2 s2) 3).1.value:=by rw[w6z (by omega)];omega
    simp only[go_sem,seval,hq,hw2,ne0,A0,A2];repeat' ((with_reducible first|refine wr ?_|refine A1 ?_ ?_|refine wb2 ?_ ?_<;>(intro hb;try simp only[hb])|fail)<;>try simp only[go_sem,seval,hw2,ne0,A0,A2])
    have h4i:=J7 (E:=E) (x:=3) (by decide) hn2;subst hD;refine AC.call (c_take L E (B2 s2) _ _ t (by repeat (first|exact A0|rw[hnO])) (by omega) (by omega) 3) ?_;rintro v H' c4 ⟨rfl,rfl⟩ hc4;try dsimp only
    simp only[go_sem,seval,hneg,ne0,A0,A2];repeat' ((with_reducible first|refine wr ?_|refine A1 ?_ ?_|refine wb2 ?_ ?_<;>(intro hb;try simp only[hb])|fail)<;>try simp only[go_sem,seval,hneg,ne0,A0,A2])
    refine AC.call (c_expect L E (B4 L E (B2 s2) 3).2 _ _ t (by repeat (first|exact A0|rw[hnO])) (by omega) (by omega) _) ?_;rintro v H' c9 ⟨rfl,rfl⟩ hc9;simp only[go_sem,seval,ne0,A0,A2];repeat' ((with_reducible first|refine wr ?_|refine A1 ?_ ?_|refine wb2 ?_ ?_<;>(intro hb;try simp only[hb])|fail)<;>try simp only[go_sem,seval,ne0,A0,A2])
    rw[E6 (rv4 rfl A0)];refine⟨_,_,R6 (cc:=cc) (D7 hfr htc) (fun j hj=>?_),rfl,rfl⟩;simp[Hp.upd,show ¬j=cc by omega,show ¬j=c1 by omega];try (split<;>rfl)
   |false =>
    rw[hq]at hD;simp only[go_sem,seval,hq,ne0,A0,A2];repeat' ((with_reducible first|refine wr ?_|refine A1 ?_ ?_|refine wb2 ?_ ?_<;>(intro hb;try simp only[hb])|fail)<;>try simp only[go_sem,seval,ne0,A0,A2])
    have h4i:=J7 (E:=E) (x:=3) (by decide) hti;subst hD;refine AC.call (c_take L E s2 _ _ t (by repeat (first|exact A0|rw[hnO])) (by omega) (by omega) 3) ?_;rintro v H' c4 ⟨rfl,rfl⟩ hc4;try dsimp only
    simp only[go_sem,seval,ne0,A0,A2];repeat' ((with_reducible first|refine wr ?_|refine A1 ?_ ?_|refine wb2 ?_ ?_<;>(intro hb;try simp only[hb])|fail)<;>try simp only[go_sem,seval,ne0,A0,A2])
    refine AC.call (c_expect L E (B4 L E s2 3).2 _ _ t (by repeat (first|exact A0|rw[hnO])) (by omega) (by omega) _) ?_;rintro v H' c9 ⟨rfl,rfl⟩ hc9;simp only[go_sem,seval,ne0,A0,A2];repeat' ((with_reducible first|refine wr ?_|refine A1 ?_ ?_|refine wb2 ?_ ?_<;>(intro hb;try simp only[hb])|fail)<;>try simp only[go_sem,seval,ne0,A0,A2])
    rw[E6 (rv4 rfl A0)];refine⟨_,_,R6 (cc:=cc) (D7 hfr htc) (fun j hj=>?_),rfl,rfl⟩;simp[Hp.upd,show ¬j=cc by omega,show ¬j=c1 by omega];try (split<;>rfl)
  ·have hd5:(1+k == 6)=false:=by simp;omega
   have hm:(k+1 == 6)=false:=by simp;omega
   rw[hm]at hD;simp only[go_sem,seval,hd6,hd5,ne0,A0,A2];repeat' ((with_reducible first|refine wr ?_|refine A1 ?_ ?_|refine wb2 ?_ ?_<;>(intro hb;try simp only[hb])|fail)<;>try simp only[go_sem,seval,hd6,hd5,ne0,A0,A2])
   have h4i:=J7 (E:=E) (x:=3) (by decide) hti;subst hD;refine AC.call (c_take L E s2 _ _ t (by repeat (first|exact A0|rw[hnO])) (by omega) (by omega) 3) ?_;rintro v H' c4 ⟨rfl,rfl⟩ hc4;try dsimp only
   simp only[go_sem,seval,ne0,A0,A2];repeat' ((with_reducible first|refine wr ?_|refine A1 ?_ ?_|refine wb2 ?_ ?_<;>(intro hb;try simp only[hb])|fail)<;>try simp only[go_sem,seval,ne0,A0,A2])
   refine AC.call (c_expect L E (B4 L E s2 3).2 _ _ t (by repeat (first|exact A0|rw[hnO])) (by omega) (by omega) _) ?_;rintro v H' c9 ⟨rfl,rfl⟩ hc9;simp only[go_sem,seval,ne0,A0,A2];repeat' ((with_reducible first|refine wr ?_|refine A1 ?_ ?_|refine wb2 ?_ ?_<;>(intro hb;try simp only[hb])|fail)<;>try simp only[go_sem,seval,ne0,A0,A2])
   rw[E6 (rv4 rfl A0)];refine⟨_,_,R6 (cc:=cc) (D7 hfr htc) (fun j hj=>?_),rfl,rfl⟩;simp[Hp.upd,show ¬j=cc by omega,show ¬j=c1 by omega];try (split<;>rfl)
 ·rw[if_neg h6]at hD;have hd6:decide (1+k<=6)=false:=by simp;omega
  subst hD;simp only[go_sem,seval,hd6,ne0,A0,A2];repeat' ((with_reducible first|refine wr ?_|refine A1 ?_ ?_|refine wb2 ?_ ?_<;>(intro hb;try simp only[hb])|fail)<;>try simp only[go_sem,seval,hd6,ne0,A0,A2])
  refine AC.call (c_expect L E s2 _ _ t (by repeat (first|exact A0|rw[hnO])) (by omega) (by omega) _) ?_;rintro v H' c3 ⟨rfl,rfl⟩ hc3;simp only[go_sem,seval,ne0,A0,A2];repeat' ((with_reducible first|refine wr ?_|refine A1 ?_ ?_|refine wb2 ?_ ?_<;>(intro hb;try simp only[hb])|fail)<;>try simp only[go_sem,seval,ne0,A0,A2])
  rw[E6 (rv4 rfl A0)];refine⟨_,_,R6 (cc:=cc) (D7 hfr htc) (fun j hj=>?_),rfl,rfl⟩;simp[Hp.upd,show ¬j=cc by omega,show ¬j=c1 by omega];try (split<;>rfl)
end Go.Proofs.YtmmjlijdfhkdcaaGreatDoor
end
