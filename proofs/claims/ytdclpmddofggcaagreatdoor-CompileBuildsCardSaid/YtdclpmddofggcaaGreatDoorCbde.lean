/-
  HELPERS of the claim: part 5 of its texts.
-/
import Derived.Test.YtdclpmddofggcaaGreatDoorCbdd
noncomputable section
set_option linter.unusedVariables false
set_option linter.unusedSectionVars false
set_option linter.unusedSimpArgs false
namespace Go.Pb
variable [Go.Sym.Tab]
open Go.Sym
abbrev Er:=Option (Int × Int)
def cnD(l:List Dc)(k:Int):Nat:=l.countP (λd=>d.kind==k)
def cnR(r:Ru)(k:Int):Nat:=if k=9 then r.modes.length else cnD r.decls k
def lkD(pre:List Dc):List Dc->List UInt8->Option (Int × Int)
 |[],_=>none
 |d::l,n=>if d.name=n then some (d.kind,if d.kind<6 then d.value else(cnR ⟨pre,[]⟩ d.kind:Int)) else lkD (pre++[d]) l n
def lkM(i:Nat):List Md->List UInt8->Option (Int × Int)
 |[],_=>none
 |m::l,n=>if m.name=n then some (9,(i:Int)) else lkM (i+1) l n
def K0(r:Ru)(n:List UInt8):Int × Int:=match lkD [] r.decls n with
 |some q=>q
 |none=>match lkM 0 r.modes n with
  |some q=>q
  |none=>(0,0)
def dnM(r:Ru)(n:List UInt8)(k:Int):Int:=if k=0\/(K0 r n).1=k then 0 else if(K0 r n).1=0 then 8 else 44
def dnE(r:Ru)(n:List UInt8)(k p:Int):Er:=if dnM r n k=0 then none else some (p,dnM r n k)
def kdE(k:Int):Int:=if k=2 then 6 else if k=5 then 1 else if k=6 then 9 else if k=7 then 7 else 0
def kdS(k:Int):Int:=if k=1 then 6 else if k=5\/k=6\/k=7 then 2 else if k=8\/k=9 then 3 else if k=10\/k=11 then 7 else if k=12\/k=13 then 9 else if k=14 then 8 else if k=15 then 4 else if k=16\/k=17 then 5 else 0
def kdH(k:Int):Int:=if k=3\/k=4 then 1 else if k=5 then 7 else if k=6 then 8 else 0
def A4r(k:Int):Int:=if k=1 then 63 else if k=2 then 31 else if k=3\/k=4\/k=5 then 63 else 2147483647
def C7n(k:Int):Bool:=k==3||k==4||k==5||k==6||k==11||decide (17<=k)
def O3(k:Int):Int:=if C7n k=true then 2 else 1
def A1p(k:Int)(a:List Ex):Int:=if k=11\/k=23\/k=24 then 2 else if k=21\/k=22 then(match a with
 |[]=>1
 |x::_=>O3 x.kind) else 1
mutual
def erE(r:Ru):Ex->Er
 |.mk k v n a p=>((Z8 r a).or (dnE r n (kdE k) p)).or (if a.all (λx=>O3 x.kind==A1p k a)=true then none else some (p,49))
def Z8(r:Ru):List Ex->Er
 |[]=>none
 |x::l=>(erE r x).or (Z8 r l)
end
def tyV(r:Ru)(e:Ex):DV:=match erE r e with
 |some (p,c)=>.tup [I64 0,I64 p,I64 c]
 |none=>.tup [I64 (O3 e.kind),I64 0,I64 0]
def erA(r:Ru)(b:Bool):List Ex->Er
 |[]=>none
 |x::l=>((erE r x).or (if(O3 x.kind==2)=b then none else some (x.pos,49))).or (erA r b l)
mutual
def erS(r:Ru):St->Er
 |.mk k n t a x y p=>(((dnE r n (kdS k) p).or (erA r (k==2) a)).or (erB r x)).or (erB r y)
def erB(r:Ru):List St->Er
 |[]=>none
 |s::l=>(erS r s).or (erB r l)
end
def erD(pre:List Dc):List Dc->Er
 |[]=>none
 |d::l=>((if d.value>A4r d.kind then some (d.pos,5) else none:Er).or (if(K0 ⟨pre,[]⟩ d.name).1=0 then none else some (d.pos,7))).or (erD (pre++[d]) l)
def erP(D:List Dc)(pre:List Md):List Md->Er
 |[]=>none
 |m::l=>((if m.prio>99 then some (m.pos,5) else none:Er).or (if(K0 ⟨D,pre⟩ m.name).1=0 then none else some (m.pos,7))).or (erP D (pre++[m]) l)
def A7s(r:Ru):Er:=(erD [] r.decls).or (erP r.decls [] r.modes)
def erH(r:Ru)(pre:List Hd):List Hd->Er
 |[]=>none
 |h::l=>(((dnE r h.name (kdH h.trig) h.pos).or (if pre.any (λx=>x.trig==h.trig&&x.name==h.name)=true then some (h.pos,7) else none)).or (erB r h.body)).or (erH r (pre++[h]) l)
def erM(r:Ru):List Md->Er
 |[]=>none
 |m::l=>(erH r [] m.hds).or (erM r l)
def A4t(r:Ru):Er:=(A7s r).or (erM r r.modes)
def erV:Er->DV
 |some (p,c)=>.tup [I64 p,I64 c]
 |none=>.tup [I64 0,I64 0]
def B5z(r:Ru):DV:=if M8 r=true then erV (A4t r) else .tup [I64 0,I64 1]
theorem C1y(e:Er):(erV e).nl=true:=by cases e<;>rfl
theorem D8v(r:Ru)(e:Ex):(tyV r e).nl=true:=by unfold tyV;split<;>rfl
theorem D0z{D:List Dc}{i:Nat}{d:Dc}{n:List UInt8}(h:D[i]? = some d):lkD (D.take i) (D.drop i) n=if d.name=n then some (d.kind,if d.kind<6 then d.value else(cnR ⟨D.take i,[]⟩ d.kind:Int)) else lkD (D.take (i+1)) (D.drop (i+1)) n:=by
 grind[List.drop_eq_getElem_cons,lkD]
theorem D0x{M:List Md}{i:Nat}{m:Md}{n:List UInt8}(h:M[i]? = some m):lkM i (M.drop i) n=if m.name=n then some (9,(i:Int)) else lkM (i+1) (M.drop (i+1)) n:=by
 grind[List.drop_eq_getElem_cons,lkM]
theorem C7g{r:Ru}{l:List Ex}{i:Nat}{x:Ex}(h:l[i]? = some x):Z8 r (l.drop i)=(erE r x).or (Z8 r (l.drop (i+1))):=by
 grind[List.drop_eq_getElem_cons,Z8]
theorem D2m{r:Ru}{b:Bool}{l:List Ex}{i:Nat}{x:Ex}(h:l[i]? = some x):erA r b (l.drop i)=((erE r x).or (if(O3 x.kind==2)=b then none else some (x.pos,49))).or (erA r b (l.drop (i+1))):=by
 grind[List.drop_eq_getElem_cons,erA]
theorem D2l{r:Ru}{l:List St}{i:Nat}{x:St}(h:l[i]? = some x):erB r (l.drop i)=(erS r x).or (erB r (l.drop (i+1))):=by
 grind[List.drop_eq_getElem_cons,erB]
theorem D2g{r:Ru}{l:List Md}{i:Nat}{x:Md}(h:l[i]? = some x):erM r (l.drop i)=(erH r [] x.hds).or (erM r (l.drop (i+1))):=by
 grind[List.drop_eq_getElem_cons,erM]
theorem A4a{α:Type}{l:List α}{i:Nat}{x : α}(h:l[i]? = some x):l.take i++[x]=l.take (i+1):=by
 grind[List.take_add_one]
theorem D2k{D:List Dc}{i:Nat}{d:Dc}(h:D[i]? = some d):erD (D.take i) (D.drop i)=((if d.value>A4r d.kind then some (d.pos,5) else none:Er).or (if(K0 ⟨D.take i,[]⟩ d.name).1=0 then none else some (d.pos,7))).or (erD (D.take (i+1)) (D.drop (i+1))):=by
 grind[List.drop_eq_getElem_cons,erD]
theorem D2f{D:List Dc}{M:List Md}{i:Nat}{m:Md}(h:M[i]? = some m):erP D (M.take i) (M.drop i)=((if m.prio>99 then some (m.pos,5) else none:Er).or (if(K0 ⟨D,M.take i⟩ m.name).1=0 then none else some (m.pos,7))).or (erP D (M.take (i+1)) (M.drop (i+1))):=by
 grind[List.drop_eq_getElem_cons,erP]
theorem D2i{r:Ru}{l:List Hd}{i:Nat}{h:Hd}(hg:l[i]? = some h):erH r (l.take i) (l.drop i)=(((dnE r h.name (kdH h.trig) h.pos).or (if(l.take i).any (λx=>x.trig==h.trig&&x.name==h.name)=true then some (h.pos,7) else none)).or (erB r h.body)).or (erH r (l.take (i+1)) (l.drop (i+1))):=by
 have hlt:=(A1C.1 hg).1
 simp_all[A0Z,erH,A4a]
def NzE(e:Er):Prop:=∀p c,e=some (p,c)->c≠0
theorem NzE.or{a b:Er}(ha:NzE a)(hb:NzE b):NzE (a.or b):=by
 intro p c h;cases a with
 |none=>exact hb p c (by grind)
 |some q=>exact ha p c (by grind)
theorem A2k:NzE none:=λp c h=>m9
theorem C3v{b:Prop}[Decidable b]{p c:Int}(h:c≠0):NzE (if b then none else some (p,c)):=by
 intro p' c' e<;>simp_all
theorem B5m{b:Prop}[Decidable b]{p c:Int}(h:c≠0):NzE (if b then some (p,c) else none):=by
 intro p' c' e<;>simp_all
theorem B3m(r:Ru)(n:List UInt8)(k p:Int):NzE (dnE r n k p):=by
 intro p' c h<;>grind[dnE]
mutual
theorem D0h(r:Ru):∀e:Ex,NzE (erE r e)
 |.mk k v n a p=>by rw[erE];exact((B7u r a).or (B3m _ _ _ _)).or (C3v (by simp))
theorem B7u(r:Ru):∀l:List Ex,NzE (Z8 r l)
 |[]=>by grind[Z8,A2k]
 |x::l=>by rw[Z8];exact(D0h r x).or (B7u r l)
end
theorem D0i(r:Ru)(b:Bool):∀l:List Ex,NzE (erA r b l)
 |[]=>by grind[erA,A2k]
 |x::l=>by rw[erA];exact((D0h r x).or (C3v (by simp))).or (D0i r b l)
mutual
theorem E8q(r:Ru):∀e:St,NzE (erS r e)
 |.mk k n t a x y p=>by rw[erS];exact(((B3m _ _ _ _).or (D0i _ _ _)).or (B5n r x)).or (B5n r y)
theorem B5n(r:Ru):∀l:List St,NzE (erB r l)
 |[]=>by grind[erB,A2k]
 |x::l=>by rw[erB];exact(E8q r x).or (B5n r l)
end
theorem C6h:∀(l pre:List Dc),NzE (erD pre l)
 |[],pre=>by grind[erD,A2k]
 |d::l,pre=>by rw[erD];exact((B5m (by simp)).or (C3v (by simp))).or (C6h l _)
theorem D0g(D:List Dc):∀(l pre:List Md),NzE (erP D pre l)
 |[],pre=>by grind[erP,A2k]
 |d::l,pre=>by rw[erP];exact((B5m (by simp)).or (C3v (by simp))).or (D0g D l _)
theorem D0f(r:Ru):NzE (A7s r):=(C6h _ _).or (D0g _ _ _)
theorem E0r(r:Ru):∀(l pre:List Hd),NzE (erH r pre l)
 |[],pre=>by grind[erH,A2k]
 |d::l,pre=>by rw[erH];exact(((B3m _ _ _ _).or (B5m (by simp))).or (B5n r _)).or (E0r r l _)
theorem D4z(r:Ru):∀(l:List Md),NzE (erM r l)
 |[]=>by grind[erM,A2k]
 |d::l=>by rw[erM];exact(E0r r _ _).or (D4z r l)
theorem C4e{k:Int}:∀ {i:Nat} {l:List Ex} {q:Nat × Nat},msL k i l=some q->∀x∈l, ∃q,msM x=some q
 |i,[],q,h,x,hx=>m9
 |i,e::l,q,h,x,hx=>by
  rw[msL]at h;cases he:msM e with
  |none=>grind
  |some q1 =>
   rw[he]at h;dsimp only at h;cases hl:msL k (i+1) l with
   |none=>grind
   |some q2 =>
    rcases A1N.1 hx with rfl|hx
    ·grind
    ·exact C4e hl x hx
theorem C4d{e:Ex}{q:Nat × Nat}(h:msM e=some q):∀x∈e.args, ∃q,msM x=some q:=by
 cases e with|mk k v n a p =>
 obtain⟨o,d⟩:=q;obtain⟨m1,m2,m3,m4,m5,m6⟩:=B1a h;intro x hx;by_cases hc:M9 k=0
 ·have:a=[]:=A1Z (by omega);subst this;cases hx
 ·obtain⟨d',h1, -⟩:=m6 hc;exact C4e h1 x hx
theorem D0q{e:Ex}{q:Nat × Nat}(h:msM e=some q)(hk:e.kind=21\/e.kind=22):e.args.length=2:=by
 cases e with|mk k v n a p =>
 obtain⟨o,d⟩:=q;obtain⟨m1,m2,m3,m4,m5,m6⟩:=B1a h;show a.length=2;rw[m2];rcases hk with hk|hk
 all_goals(have hk:k=_:=hk;subst hk;decide)
theorem D7x(r:Ru)(s:St):erS r s=(((dnE r s.name (kdS s.kind) s.pos).or (erA r (s.kind==2) s.args)).or (erB r s.thn)).or (erB r s.els):=by
 cases s with|mk k n t a x y p=>rfl
theorem A6z{d:Nat}:∀ {l:List St},J0 d l=true->∀s∈l,S4 d s=true
 |s0::l,h,s,hs=>by
  rw[J0,A0F]at h;rcases A1N.1 hs with rfl|hs
  ·grind
  ·exact A6z h.2 s hs
theorem B0c{d:Nat}{s:St}(h:S4 d s=true):(∀x∈s.args, ∃q,msM x=some q)/\J0 (d+1) s.thn=true/\J0 (d+1) s.els=true:=by
 cases s with|mk k n t a x y p =>
 rw[S4]at h;simp only[A0F]at h;refine⟨λe he=>?_,h.2.1.2,h.2.2.2⟩;have h1:=A0V.1 h.1.1.1.2.2 e he
 grind[A0e]
theorem B6k{r:Ru}(h:M8 r=true):∀m∈r.modes, ∀x∈m.hds,J0 1 x.body=true:=by
 intro m hm x hx;unfold M8 at h;simp only[A0F]at h;have h1:=A0V.1 h.2 m hm
 simp_all[V0,A2e,Q4]
theorem C8n{r:Ru}{m:Md}(h:m∈r.modes):m.sz<=r.sz:=by
 have:m.sz<=(r.modes.map Md.sz).sum:=M2 h;show _<=(r.decls.map Dc.sz).sum+(r.modes.map Md.sz).sum;omega
theorem C8o{m:Md}{x:Hd}(h:x∈m.hds):x.sz<=m.sz:=by
 have:x.sz<=(m.hds.map Hd.sz).sum:=M2 h;show _<=1+m.name.length+(m.hds.map Hd.sz).sum;omega
theorem B0g(r:Ru):r.decls.length<=r.sz:=by
 have:r.decls.length<=(r.decls.map Dc.sz).sum:=K2 λx _=>zaf
 show _<=(r.decls.map Dc.sz).sum+(r.modes.map Md.sz).sum;omega
theorem B0f(r:Ru):r.modes.length<=r.sz:=by
 have:r.modes.length<=(r.modes.map Md.sz).sum:=K2 λx _=>p9
 show _<=(r.decls.map Dc.sz).sum+(r.modes.map Md.sz).sum;omega
theorem D7i(m:Md):m.hds.length<=m.sz:=by
 have:m.hds.length<=(m.hds.map Hd.sz).sum:=K2 λx _=>p9
 show _<=1+m.name.length+(m.hds.map Hd.sz).sum;omega
theorem A8e{α:Type}(p : α->Bool)(l:List α)(k:Nat)(x : α)(hx:l[k]? = some x):(l.take (k+1)).any p=((l.take k).any p||p x):=by
 grind[List.take_add_one]
def B2x(nm:List UInt8->Int)(k v:Int)(n:List UInt8):Ins :=
 if k=1 then⟨1,v⟩ else if k=3 then⟨1,1⟩ else if k=4 then⟨1,0⟩ else if k=2 then⟨2,nm n⟩ else if k=5 then⟨4,nm n⟩ else if k=6 then⟨5,nm n⟩ else if k=7 then⟨6,nm n⟩
 else if k=8 then⟨7,0⟩ else if k=9 then⟨8,0⟩ else if k=10 then⟨9,0⟩ else if k=11 then⟨10,0⟩ else⟨11,k⟩
mutual
def cgE(nm:List UInt8->Int):Ex->List Ins
 |.mk k v n a p=>G6 nm a++[B2x nm k v n]
def G6(nm:List UInt8->Int):List Ex->List Ins
 |[]=>[]
 |x::l=>cgE nm x++G6 nm l
end
theorem D8a(nm:List UInt8->Int)(e:Ex):cgE nm e=G6 nm e.args++[B2x nm e.kind e.value e.name]:=by cases e;rfl
def stOp(k:Int):Int:=if k=1 then 3 else if k=4 then 15 else if 5<=k/\k<=18 then k+11 else 30
def txS(S:List (List UInt8))(t:List UInt8):Nat × List (List UInt8):=if t∈S then(S.idxOf t,S) else(S.length,S++[t])
abbrev Cg:=List Ins × List (List UInt8)
mutual
def cgS(nm:List UInt8->Int)(p:Nat)(S:List (List UInt8)):St->Cg
 |.mk k n t a x y _ =>
  if k=2 then
   (if y.length=0 then
    (G6 nm a++(⟨13,((p+(G6 nm a).length+1+(cgB nm (p+(G6 nm a).length+1) S x).1.length:Nat):Int)⟩::(cgB nm (p+(G6 nm a).length+1) S x).1),(cgB nm (p+(G6 nm a).length+1) S x).2)
   else
    (G6 nm a++(⟨13,((p+(G6 nm a).length+1+(cgB nm (p+(G6 nm a).length+1) S x).1.length+1:Nat):Int)⟩::((cgB nm (p+(G6 nm a).length+1) S x).1 ++
      (⟨12,((p+(G6 nm a).length+1+(cgB nm (p+(G6 nm a).length+1) S x).1.length+1+(cgB nm (p+(G6 nm a).length+1+(cgB nm (p+(G6 nm a).length+1) S x).1.length+1) (cgB nm (p+(G6 nm a).length+1) S x).2 y).1.length:Nat):Int)⟩ ::
       (cgB nm (p+(G6 nm a).length+1+(cgB nm (p+(G6 nm a).length+1) S x).1.length+1) (cgB nm (p+(G6 nm a).length+1) S x).2 y).1))),
     (cgB nm (p+(G6 nm a).length+1+(cgB nm (p+(G6 nm a).length+1) S x).1.length+1) (cgB nm (p+(G6 nm a).length+1) S x).2 y).2))
  else if k=3 then
   (G6 nm a++(⟨14,((p+(G6 nm a).length+1+(cgB nm (p+(G6 nm a).length+1) S x).1.length+1:Nat):Int)⟩::((cgB nm (p+(G6 nm a).length+1) S x).1++[⟨12,((p+(G6 nm a).length:Nat):Int)⟩])),(cgB nm (p+(G6 nm a).length+1) S x).2)
  else if k=18 then(G6 nm a++[⟨29,((txS S t).1:Int)⟩],(txS S t).2)
  else(G6 nm a++[⟨stOp k,nm n⟩],S)
def cgB(nm:List UInt8->Int)(p:Nat)(S:List (List UInt8)):List St->Cg
 |[]=>([],S)
 |s::l=>((cgS nm p S s).1++(cgB nm (p+(cgS nm p S s).1.length) (cgS nm p S s).2 l).1,(cgB nm (p+(cgS nm p S s).1.length) (cgS nm p S s).2 l).2)
end
structure Ky where
 mode:Int
 trig:Int
 ix:Int
deriving DecidableEq
def Ky.lt(a b:Ky):Prop:=a.mode<b.mode\/(a.mode=b.mode/\(a.trig<b.trig\/(a.trig=b.trig/\a.ix<b.ix)))
theorem Ky.lt_trans{a b c:Ky}(h:a.lt b)(g:b.lt c):a.lt c:=by grind[Ky.lt]
theorem Ky.lt_irrefl(a:Ky):¬a.lt a:=by grind[Ky.lt]
theorem Ky.tri(a b:Ky):a.lt b\/a=b\/b.lt a:=by
 obtain⟨a1,a2,a3⟩:=a;obtain⟨b1,b2,b3⟩:=b<;>grind[Ky.lt]
abbrev F4:=Ky × List (List St)
def bod(l:List F4)(k:Ky):Option (List (List St)):=(l.find? λp=>p.1=k).map (·.2)
theorem N8(p:F4)(l:List F4)(k:Ky):bod (p::l) k=if p.1=k then some p.2 else bod l k:=by
 grind[bod]
def Srt(l:List F4):Prop:=l.Pairwise λa b=>a.1.lt b.1
theorem B2f{l:List F4}{k:Ky}(h:∀p∈l,p.1≠k):bod l k=none:=by
 induction l with
 |nil=>rfl
 |cons p l ih =>
  simp_all[N8]
theorem C8t:∀ {l m:List F4},Srt l->Srt m->(∀k,bod l k=bod m k)->l=m
 |[],[],_,_,_=>rfl
 |[],q::m,_,_,h=>by have:=h q.1;rw[N8,if_pos rfl]at this;trivial
 |p::l,[],_,_,h=>by have:=h p.1;rw[N8,if_pos rfl]at this;trivial
 |p::l,q::m,h1,h2,h=>by
  obtain⟨p1,l1⟩:=A4L.1 h1;obtain⟨q1,m1⟩:=A4L.1 h2;have hpq:p.1=q.1:=by
   rcases Ky.tri p.1 q.1 with g|g|g
   ·exfalso;have:=h p.1;rw[N8,if_pos rfl,B2f (l:=q::m) (k:=p.1) (λx hx e=>by
     rcases A1N.1 hx with rfl|hx
     ·rw[e]at g;exact Ky.lt_irrefl _ g
     ·have:=Ky.lt_trans g (q1 x hx);rw[e]at this;exact Ky.lt_irrefl _ this)]at this
    grind
   ·omega
   ·exfalso;have:=h q.1;rw[N8 (p:=q),if_pos rfl,B2f (l:=p::l) (k:=q.1) (λx hx e=>by
     rcases A1N.1 hx with rfl|hx
     ·rw[e]at g;exact Ky.lt_irrefl _ g
     ·have:=Ky.lt_trans g (p1 x hx);rw[e]at this;exact Ky.lt_irrefl _ this)]at this
    grind
  have hb:=h p.1;rw[N8,if_pos rfl,N8,if_pos hpq.symm]at hb;have e:p=q:=Prod.ext hpq (Option.some.inj hb);subst e
  congr 1
  refine C8t l1 m1 λk=>?_;by_cases hk:p.1=k
  ·grind[B2f,Ky.lt_irrefl]
  ·have:=h k
   simp_all[N8]
theorem D3k{l m:List F4}(hp:l.Perm m)(hn:(l.map (·.1)).Nodup)(k:Ky):bod l k=bod m k:=by
 induction hp<;>grind[N8]
def N9(k:Ky)(b:List St):List F4->List F4
 |[]=>[(k,[b])]
 |p::l=>if p.1=k then(p.1,p.2++[b])::l else p::N9 k b l
theorem D3t(k:Ky)(b:List St)(l:List F4)(q:Ky):bod (N9 k b l) q=if k=q then some ((bod l q).getD []++[b]) else bod l q:=by
 induction l with
 |nil =>
  grind[N9,bod]
 |cons p l ih =>
  rw[N9];by_cases h:p.1=k
  ·simp_all[N8]
  ·rw[if_neg h,N8,N8,ih]
   grind
theorem C7s(k:Ky)(b:List St)(l:List F4):∀q,q∈(N9 k b l).map (·.1)↔q=k\/q∈l.map (·.1):=by
 intro q
 induction l with
 |nil=>simp[N9]
 |cons p l ih =>
  rw[N9]
  grind
theorem C2n(k:Ky)(b:List St):∀ {l:List F4},(l.map (·.1)).Nodup->((N9 k b l).map (·.1)).Nodup:=by
 intro l
 induction l with
 |nil=>grind[N9]
 |cons p l ih =>
  intro h;rw[N9];obtain⟨h1,h2⟩:=A3L.1 h;by_cases e:p.1=k
  ·rw[if_pos e];exact h
  simp_all[C7s]
abbrev KB:=Ky × List St
def hdK(nm:List UInt8->Int)(i:Nat)(h:Hd):KB:=(⟨i,h.trig,nm h.name⟩,h.body)
def hkM(nm:List UInt8->Int)(i:Nat):List Md->List KB
 |[]=>[]
 |m::l=>m.hds.map (hdK nm i)++hkM nm (i+1) l
def J5(l:List F4)(q:List KB):List F4:=q.foldl (λl x=>N9 x.1 x.2 l) l
def N0(q:List KB)(k:Ky):List (List St):=(q.filter λx=>x.1=k).map (·.2)
theorem B9s(a b:List KB)(k:Ky):N0 (a++b) k=N0 a k++N0 b k:=by simp[N0]
theorem B4l(x:KB)(b:List KB)(k:Ky):N0 (x::b) k=if x.1=k then x.2::N0 b k else N0 b k:=by
 grind[N0]
theorem B9u:∀(q:List KB) (l:List F4) (k:Ky),bod (J5 l q) k=if N0 q k=[] then bod l k else some ((bod l k).getD []++N0 q k)
 |[],l,k=>by rfl
 |x::q,l,k=>by
  have h:=B9u q (N9 x.1 x.2 l) k;have e:J5 l (x::q)=J5 (N9 x.1 x.2 l) q:=rfl;rw[e,h,D3t,B4l]
  grind
theorem A5o:∀(q:List KB) {l:List F4},(l.map (·.1)).Nodup->((J5 l q).map (·.1)).Nodup
 |[],_,h=>h
 |x::q,_,h=>A5o q (C2n x.1 x.2 h)
def ptK(q:List KB)(ks:List Ky):List F4:=ks.filterMap λk=>if N0 q k=[] then none else some (k,N0 q k)
theorem C3m(q:List KB):∀(ks:List Ky) (k:Ky),bod (ptK q ks) k=if k∈ks/\N0 q k≠[] then some (N0 q k) else none
 |[],k=>by rfl
 |a::ks,k=>by
  have ih:=C3m q ks k;unfold ptK at ih ⊢;rw[List.filterMap_cons];by_cases h:N0 q a=[]
  ·grind
  ·simp only[h,if_false];rw[N8]
   grind
theorem D4r(q:List KB){ks:List Ky}(h:ks.Pairwise Ky.lt):Srt (ptK q ks):=by
 induction ks with
 |nil=>exact List.Pairwise.nil
 |cons a ks ih =>
  obtain⟨h1,h2⟩:=A4L.1 h;unfold ptK;rw[List.filterMap_cons];by_cases e:N0 q a=[]
  ·simp only[e,if_true];exact ih h2
  ·simp only[e,if_false];refine A4L.2 ⟨λp hp=>?_,ih h2⟩
   grind
def A6m(i:Nat)(t:Nat):List Ky:=(List.range 128).map λ(n:Nat)=>(⟨i,(t:Int)+1,(n:Int)⟩:Ky)
def B2w(i:Nat):List Ky:=(List.range 6).flatMap (A6m i)
theorem A7p{i t:Nat}{k:Ky}:k∈A6m i t↔k.mode=i/\k.trig=(t:Int)+1/\0<=k.ix/\k.ix<128:=by
 unfold A6m;rw[A1D];constructor
 ·grind
 ·rintro⟨h1,h2,h3,h4⟩;refine⟨k.ix.toNat,A3Z.2 (by omega),?_⟩;obtain⟨a,b,c⟩:=k<;>grind
theorem B1d{i:Nat}{k:Ky}:k∈B2w i↔k.mode=i/\1<=k.trig/\k.trig<=6/\0<=k.ix/\k.ix<128:=by
 unfold B2w;rw[List.mem_flatMap];constructor
 ·grind[A7p]
 ·rintro⟨h1,h2,h3,h4,h5⟩;exact⟨(k.trig-1).toNat,A3Z.2 (by omega),A7p.2 ⟨h1,b8,h4,h5⟩⟩
theorem C6y(i t:Nat):(A6m i t).Pairwise Ky.lt:=by
 unfold A6m;rw[List.pairwise_map];exact List.Pairwise.imp (λh=>Or.inr ⟨rfl,Or.inr ⟨rfl,Int.ofNat_lt.2 h⟩⟩) List.pairwise_lt_range
theorem B8t{f:Nat->List Ky}(h1:∀t,(f t).Pairwise Ky.lt)(h2:∀t u,t<u->∀a∈f t, ∀b∈f u,a.lt b):∀ {l:List Nat},l.Pairwise (· < ·)->(l.flatMap f).Pairwise Ky.lt:=by
 grind
theorem B8q(i:Nat):(B2w i).Pairwise Ky.lt :=
 B8t (C6y i) (λt u htu a ha b hb=>by
  grind[A7p,Ky.lt]) List.pairwise_lt_range
def rfP(nm:List UInt8->Int)(i:Nat)(l:List Hd):List F4:=ptK (l.map (hdK nm i)) (B2w i)
def G5(nm:List UInt8->Int)(i:Nat):List Md->List F4
 |[]=>[]
 |m::l=>rfP nm i m.hds++G5 nm (i+1) l
def HOk(nm:List UInt8->Int)(h:Hd):Prop:=1<=h.trig/\h.trig<=6/\0<=nm h.name/\nm h.name<128
theorem D6v(a b:List F4)(k:Ky):bod (a++b) k=(bod a k).or (bod b k):=by
 grind[bod]
theorem C4t{nm:List UInt8->Int}:∀ {l:List Md} {i:Nat} {x:KB},x∈hkM nm i l->(i:Int)<=x.1.mode
 |[],_,_,h=>by cases h
 |m::l,i,x,h=>by
  rw[hkM]at h;rcases A1Q.1 h with h|h
  ·obtain⟨y, -,rfl⟩:=A1D.1 h;exact A2W _
  ·have:=C4t h;omega
theorem B2g{q:List KB}{k:Ky}(h:∀x∈q,x.1≠k):N0 q k=[]:=by
 grind[N0,List.filter_eq_nil_iff]
theorem D4o{nm:List UInt8->Int}{i:Nat}{l:List Hd}(h:∀x∈l,HOk nm x)(k:Ky):bod (rfP nm i l) k=if N0 (l.map (hdK nm i)) k=[] then none else some (N0 (l.map (hdK nm i)) k):=by
 unfold rfP;rw[C3m];by_cases e:N0 (l.map (hdK nm i)) k=[]
 ·grind
 ·rw[if_neg e,if_pos];refine⟨?_,e⟩;have:∃x∈l.map (hdK nm i),x.1=k:=Classical.byContradiction λhn=>e (B2g λx hx he=>hn ⟨x,hx,he⟩);obtain⟨x,hx,rfl⟩:=this;obtain⟨y,hy,rfl⟩:=A1D.1 hx;obtain⟨h1,h2,h3,h4⟩:=h y hy;exact B1d.2 ⟨rfl,h1,h2,h3,h4⟩
theorem B7n{nm:List UInt8->Int}:∀ {l:List Md} {i:Nat},(∀m∈l, ∀x∈m.hds,HOk nm x)->∀k:Ky,bod (G5 nm i l) k=if N0 (hkM nm i l) k=[] then none else some (N0 (hkM nm i l) k)
 |[],i,_,k=>by rfl
 |m::l,i,h,k=>by
  rw[G5,D6v,D4o (h m A0M),B7n (λm hm=>h m (A0H _ hm)),hkM,B9s];by_cases e:N0 (m.hds.map (hdK nm i)) k=[]
  ·grind
  ·have hk:k.mode=i:=by
    have:∃x∈m.hds.map (hdK nm i),x.1=k:=Classical.byContradiction λhn=>e (B2g λx hx he=>hn ⟨x,hx,he⟩);obtain⟨x,hx,rfl⟩:=this;obtain⟨y,hy,rfl⟩:=A1D.1 hx;rfl
   have e2:N0 (hkM nm (i+1) l) k=[]:=B2g λx hx he=>by have:=C4t hx;rw[he,hk]at this;omega
   grind
theorem C3l{q:List KB}{ks:List Ky}{p:F4}(h:p∈ptK q ks):p.1∈ks:=by
 obtain⟨k,hk,e⟩:=List.mem_filterMap.1 h<;>grind
theorem B3j{nm:List UInt8->Int}:∀ {l:List Md} {i:Nat} {p:F4},p∈G5 nm i l->(i:Int)<=p.1.mode
 |[],_,_,h=>by cases h
 |m::l,i,p,h=>by
  rw[G5]at h;rcases A1Q.1 h with h|h
  ·have:=(B1d.1 (C3l h)).1;omega
  ·have:=B3j h;omega
theorem B7m{nm:List UInt8->Int}:∀(l:List Md) (i:Nat),Srt (G5 nm i l)
 |[],_=>List.Pairwise.nil
 |m::l,i=>by
  rw[G5];refine List.pairwise_append.2 ⟨D4r _ (B8q i),B7m l (i+1),λa ha b hb=>?_⟩;have h1:=(B1d.1 (C3l ha)).1;have h2:=B3j hb
  grind[Ky.lt]
theorem D0d{nm:List UInt8->Int}{l:List Md}{s:List F4}(h:∀m∈l, ∀x∈m.hds,HOk nm x)(hp:s.Perm (J5 [] (hkM nm 0 l)))(hs:Srt s):s=G5 nm 0 l:=by
 refine C8t hs (B7m l 0) λk=>?_;have hn:((J5 [] (hkM nm 0 l)).map (·.1)).Nodup:=A5o _ (by simp);rw[<- D3k hp.symm hn,B9u,B7n h];rfl
mutual
def hE(h:Int):Ex->List Int
 |.mk k v n a p=>hEs h a++[h+(a.length:Int)]
def hEs(h:Int):List Ex->List Int
 |[]=>[]
 |x::l=>hE h x++hEs (h+1) l
end
mutual
def hS(h:Int):St->List Int
 |.mk k n t a x y _ =>
  if k=2 then(if y.length=0 then hEs h a++((h+1)::hB h x) else hEs h a++((h+1)::(hB h x++(h::hB h y))))
  else if k=3 then hEs h a++((h+1)::(hB (h+1) x++[h+1]))
  else hEs h a++[h+(a.length:Int)]
def hB(h:Int):List St->List Int
 |[]=>[]
 |s::l=>hS h s++hB h l
end
section
variable (nm:List UInt8->Int)
end
section
variable {nm:List UInt8->Int} {I:List Ins} {Hs:List Int}
theorem B6m{d:Nat}{k:Int}{n t:List UInt8}{a:List Ex}{x y:List St}{q:Int}(h:S4 d (.mk k n t a x y q)=true):
  1<=k/\k<=19/\a.length=(O4 k).args/\(∀e∈a,A0e e=true)/\(x=[]\/d+1<=8)/\J0 (d+1) x=true/\(y=[]\/d+1<=8)/\J0 (d+1) y=true/\((O4 k).thn=true\/x=[])/\((O4 k).els=true\/y=[]) /\
   (if(O4 k).name=true then F6 n=true else n=[])/\(if(O4 k).text=true then V6 t=true else t=[]):=by
 simp_all[S4]
end
def cgL(nm:List UInt8->Int)(p:Nat)(S:List (List UInt8)):List F4->List Ins × List Ent × List (List UInt8)
 |[]=>([],[],S)
 |q::l=>((cgB nm p S q.2.flatten).1++(⟨31,0⟩::(cgL nm (p+(cgB nm p S q.2.flatten).1.length+1) (cgB nm p S q.2.flatten).2 l).1),
   ⟨q.1.mode,q.1.trig,q.1.ix,(p:Int)⟩::(cgL nm (p+(cgB nm p S q.2.flatten).1.length+1) (cgB nm p S q.2.flatten).2 l).2.1,
   (cgL nm (p+(cgB nm p S q.2.flatten).1.length+1) (cgB nm p S q.2.flatten).2 l).2.2)
theorem B3c{d:Nat}:∀ {l:List St},J0 d l=true↔∀s∈l,S4 d s=true
 |[]=>by simp[J0]
 |s::l=>by rw[J0,A0F,B3c];simp
section
variable {nm:List UInt8->Int} {I:List Ins} {Hs:List Int}
end
theorem B9o(nm:List UInt8->Int):∀(l:List F4) (p:Nat) (S:List (List UInt8)),(cgL nm p S l).2.1.map (λe=>(⟨e.mode,e.trigger,e.index⟩:Ky))=l.map (·.1)
 |[],_,_=>rfl
 |q::l,p,S=>by rw[cgL];simp only[A0U,B9o nm l]
end Go.Pb
namespace Go.Sym
variable [Go.Sym.Tab]
open Go.Eng (KKey)
inductive Mz (id:Nat) (r:DV):DV->DV->Prop where
 |same (d:DV):Mz id r d d
 |mid:Mz id r (.mid id) r
 |agg (a a':List DV) (hl:a.length=a'.length) (h:∀(i:Nat) x y,a[i]? = some x->a'[i]? = some y->Mz id r x y):Mz id r (.agg a) (.agg a')
 |tup (a a':List DV) (hl:a.length=a'.length) (h:∀(i:Nat) x y,a[i]? = some x->a'[i]? = some y->Mz id r x y):Mz id r (.tup a) (.tup a')
theorem Mz.rel{ρ ρ':Ren}{id:Nat}{r:DV}(hl : ρ.le ρ')(hr:∀v,VRel ρ (.mid id) v->VRel ρ' r v){d d':DV}(h:Mz id r d d'):∀v,VRel ρ d v->VRel ρ' d' v:=by
 induction h with
 |same d=>exact λv hv=>hv.mono hl
 |mid=>omega
 |agg a a' hl' _ ih =>
  intro v hv;obtain⟨b,rfl,h1,h2⟩:=hv.agg_inv;refine .agg _ _ (hl'▸h1) λi x y hx hy=>?_
  grind
 |tup a a' hl' _ ih =>
  intro v hv;obtain⟨b,rfl,h1,h2⟩:=hv.tup_inv;refine .tup _ _ (hl'▸h1) λi x y hx hy=>?_
  grind
theorem GL.frzm{H H':Hp}{ds ds':List DV}{id u:Nat}{kd:KKey}{ks vs:List DV}(hb:H id=some ⟨u,true,[.mpc kd ks vs]⟩)(hH:∀j,H' j=none\/(j≠id/\H' j=H j))
  (hl:ds.length=ds'.length) (hd:∀(i:Nat) x y,ds[i]? = some x->ds'[i]? = some y->Mz id (.mp kd ks vs) x y):GL H ds H' ds':=by
 refine⟨λj hj=>?_,fun ρ w a2 hR hA=>?_⟩
 ·grind
 have back:∀j bj,H' j=some bj->j≠id/\H j=some bj:=by
  grind
 obtain⟨t,ht,hB⟩:=hR.blk id _ hb;rcases hB with ⟨hm,c,e,fr, -, -, -, -,g5, -⟩|⟨hm, -,hs,es,cl,kd',ks',vs',g1,g2,g3,g6⟩
 ·have:=(g5 0 _ rfl).1
  trivial
 cases g2;have hnone : ρ.fm t.block=none:=by
  cases hf : ρ.fm t.block with
  |none=>rfl
  |some es'=>exact absurd rfl ((hR.frm _ _ hf).2 id _ t hb rfl ht)
 obtain⟨ρ2,hρ⟩:∃ ρ2:Ren, ρ2=⟨ρ.nm, ρ.fz, ρ.tab,λk=>if k=t.block then some es else ρ.fm k⟩:=⟨_,rfl⟩;have n1 : ρ2.nm = ρ.nm:=m9
 have n2 : ρ2.fz = ρ.fz:=m9
 have n3:∀k r, ρ2.fm k=some r->(k=t.block/\r=es) \/ ρ.fm k=some r:=by
  intro k r hk;rw[hρ]at hk
  grind
 have n4 : ρ2.fm t.block=some es:=zah
 have hle : ρ.le ρ2:=⟨λi x h=>m9,λb r h=>m9,λb r h=>by
  rw[hρ]
  grind⟩
 have hval:∀v,VRel ρ (.mid id) v->VRel ρ2 (.mp kd ks vs) v:=by
  intro v hv;obtain⟨t',ht', -,rfl⟩:=hv.mid_inv;rw[ht]at ht';cases ht';obtain⟨a1,a2,a3,a4,a5⟩:=g3;exact .mp kd ks vs t.block es n4 a1 a2 a3 (λi x e hx he=>(a4 i x e hx he).mono hle) (λi x e hx he=>(a5 i x e hx he).mono hle)
 refine⟨ρ2,n1,⟨λj bj hj=>?_,λi j bi bj ti tj hi hj hij h1 h2 ho=>?_,λk r hk=>?_,λj bj tj hj ho hjt=>?_,λk r hk=>?_⟩,⟨hl▸hA.1,λi x y hx hy=>?_⟩,?_⟩
 ·rw[n1];obtain⟨-,h1⟩:=back j bj hj;obtain⟨tj,q1,q2⟩:=hR.blk j bj h1;exact⟨tj,q1,q2.mono hle⟩
 ·rw[n1]at h1 h2;exact hR.sep i j bi bj ti tj (back i bi hi).2 (back j bj hj).2 hij h1 h2 ho
 ·rw[n2]at hk;exact hR.frz k r hk
 ·rw[n1]at hjt;rw[n2];exact hR.dis j bj tj (back j bj hj).2 ho hjt
 ·rcases n3 k r hk with ⟨rfl,rfl⟩|h1
  ·refine⟨⟨cl,g1,g6⟩,λj bj tj hj ho hjt=>?_⟩;rw[n1]at hjt;obtain⟨hne,h2⟩:=back j bj hj;exact hR.sep j id bj _ tj t h2 hb hne hjt ht ho
  ·refine⟨(hR.frm k r h1).1,λj bj tj hj ho hjt=>?_⟩;rw[n1]at hjt;exact(hR.frm k r h1).2 j bj tj (back j bj hj).2 ho hjt
 ·have hi:i<ds.length:=by grind
  exact(hd i ds[i] x (A0B hi) hx).rel hle hval y (hA.2 i _ y (A0B hi) hy)
 ·refine⟨hle,rfl,rfl,rfl,A0D _,λ_ _ _=>rfl,λj bj tj hj hjt=>?_,λk r hk=>.inl (by rw[<- n2];exact hk),λk r hk=>?_⟩
  ·rw[n1]at hjt;exact .inr ⟨j,bj,tj,(back j bj hj).2,λh=>h,hjt,rfl⟩
  grind
theorem B0u{H:Hp}{id u:Nat}{kd:KKey}{ks vs:List DV}(hb:H id=some ⟨u,true,[.mpc kd ks vs]⟩):∃H2,GL H [.mid id] H2 [.mp kd ks vs] :=
 ⟨nil,GL.frzm hb (λj=>.inl rfl) rfl (λi x y hx hy=>by
  match i with
  |0=>cases hx;cases hy;exact .mid
  |_+1=>grind)⟩
theorem W1{a b:List UInt8}:B1h (.str a) (.str b)=(a==b):=id rfl
theorem A7o{s:List UInt8}:∀(l:List (List UInt8)) (i:Nat),(F8 (.str s) (l.map DV.str) i).isSome=l.contains s
 |[],i=>rfl
 |x::r,i=>by
  simp only[A0U,F8,W1,A4M];cases h:s==x with
  |true=>simp
  |false=>simp[A7o r (i+1)]
theorem B1b{s:List UInt8}{l:List (List UInt8)}(h:l.contains s=false)(i:Nat):F8 (.str s) (l.map DV.str) i=none:=by
 have:=A7o (s:=s) l i
 simp_all
theorem C1h{s:List UInt8}{l:List (List UInt8)}(h:l.contains s=true)(i:Nat):∃j,F8 (.str s) (l.map DV.str) i=some j:=by
 have:=A7o (s:=s) l i;rw[h]at this;cases hm:F8 (.str s) (l.map DV.str) i with
 |none=>grind
 |some j=>simp
theorem B1c{k:DV}:∀ {ks:List DV} {i j:Nat},F8 k ks i=some j->i<=j/\j<i+ks.length
 |[],i,j,h=>by cases h
 |x::r,i,j,h=>by
  simp only[F8]at h;split at h
  ·grind
  ·have:=B1c h
   grind
end Go.Sym
namespace Go.Pb
variable [Go.Sym.Tab]
open Go.Sym
open Go.Eng (KKey)
def mkK(l:List (List UInt8 × DV)):List DV:=l.map λp=>.str p.1
def mvV(l:List (List UInt8 × DV)):List DV:=l.map λp=>p.2
theorem A1w{n:List UInt8}:∀(l:List (List UInt8 × DV)) (i:Nat),match F8 (.str n) (mkK l) i with
  |some j=>i<=j/\∃x,(mvV l)[j-i]? = some x/\l.lookup n=some x
  |none=>l.lookup n=none
 |[],i=>rfl
 |p::l,i=>by
  obtain⟨a,x⟩:=p;show match F8 (.str n) (.str a::mkK l) i with
   |some j=>_
   |none=>_
  rw[F8,W1];cases h:n==a with
  |true =>
   simp_all[mvV]
  |false =>
   have ih:=A1w (n:=n) l (i+1);dsimp only;cases hf:F8 (.str n) (mkK l) (i+1) with
   |none=>grind
   |some j =>
    rw[hf]at ih;obtain⟨h1,y,h2,h3⟩:=ih;refine⟨b8,y,?_,by grind⟩;have e:j-i=(j-(i+1))+1:=b8
    rw[e];exact h2
theorem A6j{l:List (List UInt8 × DV)}{n:List UInt8}{x z:DV}{ok:Bool}(h:l.lookup n=some x):lkV z ok (mvV l) (F8 (.str n) (mkK l) 0)=some (match ok with
  |true=>.tup [x,.bool true]
  |false=>x):=by
 have:=A1w (n:=n) l 0;cases hf:F8 (.str n) (mkK l) 0 with
 |none=>grind
 |some j =>
  rw[hf]at this;obtain⟨-,y,h2,h3⟩:=this;rw[h3]at h;cases h;simp only[lkV]
  grind
theorem A6k{l:List (List UInt8 × DV)}{n:List UInt8}{z:DV}{ok:Bool}(h:l.lookup n=none):lkV z ok (mvV l) (F8 (.str n) (mkK l) 0)=some (match ok with
  |true=>.tup [z,.bool false]
  |false=>z):=by
 grind[A1w,lkV]
theorem C4g{l:List (List UInt8 × DV)}{n:List UInt8}(h:l.lookup n=none):F8 (.str n) (mkK l) 0=none:=by
 grind[A1w]
theorem D7s{α:Type}(n:List UInt8)(a:List UInt8)(x : α):∀l:List (List UInt8 × α),(l++[(a,x)]).lookup n=(l.lookup n).or (if n==a then some x else none)
 |[]=>m9
 |(b,y)::l=>by
  grind
def A7q(q:Int × Int):DV:=.agg [I64 q.1,I64 q.2]
def Z5(l:List (List UInt8 × (Int × Int)))(n:List UInt8)(q:Int × Int):List (List UInt8 × (Int × Int)):=if(l.lookup n).isSome=true then l else l++[(n,q)]
def A0s(l:List (List UInt8 × (Int × Int))):List (List UInt8 × DV):=l.map λp=>(p.1,A7q p.2)
theorem A0k(n:List UInt8):∀l:List (List UInt8 × (Int × Int)),(A0s l).lookup n=(l.lookup n).map A7q
 |[]=>rfl
 |(a,x)::l=>by
  show((a,A7q x)::A0s l).lookup n=_;rw[List.lookup_cons,List.lookup_cons,A0k n l]
  grind
def W0(pre:List Dc)(d:Dc):Int:=if d.kind=6\/d.kind=7\/d.kind=8 then(cnD pre d.kind:Int) else d.value
def nmD(pre:List Dc)(l:List (List UInt8 × (Int × Int))):List Dc->List (List UInt8 × (Int × Int))
 |[]=>l
 |d::r=>nmD (pre++[d]) (Z5 l d.name (d.kind,W0 pre d)) r
def nmX(i:Nat)(l:List (List UInt8 × (Int × Int))):List Md->List (List UInt8 × (Int × Int))
 |[]=>l
 |m::r=>nmX (i+1) (Z5 l m.name (9,(i:Int))) r
def nmL(r:Ru):List (List UInt8 × (Int × Int)):=nmX 0 (nmD [] [] r.decls) r.modes
def nmV(r:Ru):DV:=.mp .s (mkK (A0s (nmL r))) (mvV (A0s (nmL r)))
def ahS:List (Int × Nat)->Int->List (Int × Nat)
 |[],k=>[(k,1)]
 |(a,n)::l,k=>if a=k then(a,n+1)::l else(a,n)::ahS l k
def ahM(l:List Dc):List (Int × Nat):=l.foldl (λa d=>ahS a d.kind) []
def ahK(l:List (Int × Nat)):List DV:=l.map λp=>I64 p.1
def ahV(l:List (Int × Nat)):List DV:=l.map λp=>I64 (p.2:Int)
def ahN(l:List (Int × Nat))(k:Int):Nat:=match l with
 |[]=>0
 |(a,n)::r=>if a=k then n else ahN r k
theorem B6g(k:Int):∀(l:List (Int × Nat)) (i:Nat),match F8 (I64 k) (ahK l) i with
  |some j=>i<=j/\∃n:Nat,(ahV l)[j-i]? = some (I64 (n:Int))/\ahN l k=n/\(ahK l).set (j-i) (I64 k)=ahK (ahS l k)/\(ahV l).set (j-i) (I64 ((n:Int)+1))=ahV (ahS l k)
  |none=>ahN l k=0/\ahK l++[I64 k]=ahK (ahS l k)/\ahV l++[I64 1]=ahV (ahS l k)
 |[],i=>⟨rfl,rfl,rfl⟩
 |(a,n)::l,i=>by
  have e:F8 (I64 k) (ahK ((a,n)::l)) i=if k=a then some i else F8 (I64 k) (ahK l) (i+1):=by
   show F8 (I64 k) (I64 a::ahK l) i=_;rw[F8];show(match k==a with
    |true=>some i
    |false=>F8 (I64 k) (ahK l) (i+1))=_
   grind
  rw[e];by_cases h:k=a
  ·rw[if_pos h];subst h;refine⟨A0D _,n,?_,?_,?_,?_⟩
   ·simp[ahV]
   ·simp[ahN]
   ·simp[ahK,ahS]
   grind[ahV,ahS]
  ·rw[if_neg h];have ih:=B6g k l (i+1);have h':¬a=k:=λe=>h e.symm;have es:ahS ((a,n)::l) k=(a,n)::ahS l k:=by simp_all[ahS]
   have en:ahN ((a,n)::l) k=ahN l k:=by simp_all[ahN]
   rw[es,en];cases hf:F8 (I64 k) (ahK l) (i+1) with
   |none =>
    rw[hf]at ih;obtain⟨i1,i2,i3⟩:=ih;exact⟨i1,congrArg (I64 a :: ·) i2,congrArg (I64 (n:Int) :: ·) i3⟩
   |some j =>
    rw[hf]at ih;obtain⟨i0,m,i1,i2,i3,i4⟩:=ih;have ej:j-i=(j-(i+1))+1:=b8
    dsimp only;rw[ej];exact⟨b8,m,i1,i2,congrArg (I64 a :: ·) i3,congrArg (I64 (n:Int) :: ·) i4⟩
theorem D8e(k a:Int):∀l:List (Int × Nat),ahN (ahS l a) k=ahN l k+(if a=k then 1 else 0)
 |[]=>by simp[ahS,ahN]
 |(b,n)::l=>by
  rw[ahS];by_cases h:b=a
  ·subst h;rw[if_pos rfl,ahN,ahN]
   grind
  ·rw[if_neg h,ahN,ahN,D8e k a l]
   grind
theorem B2o(l:List Dc)(d:Dc):ahM (l++[d])=ahS (ahM l) d.kind:=by
 grind[ahM]
theorem D3a(l:List Dc)(d:Dc)(k:Int):cnD (l++[d]) k=cnD l k+(if d.kind=k then 1 else 0):=by
 grind[cnD]
theorem D3q:∀(m:Nat) (l:List Dc),l.length<=m->∀k,ahN (ahM l) k=cnD l k:=by
 intro m
 induction m with
 |zero =>
  intro l hl k;have:l=[]:=A1Z (by omega);subst this;rfl
 |succ m ih =>
  intro l hl k;by_cases h:l=[]
  ·grind
  ·obtain⟨l',d,rfl⟩:∃l' d,l=l'++[d]:=⟨l.dropLast,l.getLast h,(List.dropLast_concat_getLast h).symm⟩<;>simp_all[B2o,D8e,D3a]
theorem C2m(l:List Dc)(k:Int):ahN (ahM l) k=cnD l k:=D3q _ l (A0D _) k
theorem B7z{D:List Dc}{i:Nat}{d:Dc}{l:List (List UInt8 × (Int × Int))}(h:D[i]? = some d):nmD (D.take i) l (D.drop i)=nmD (D.take (i+1)) (Z5 l d.name (d.kind,W0 (D.take i) d)) (D.drop (i+1)):=by
 grind[List.drop_eq_getElem_cons,nmD]
theorem B7y{M:List Md}{i:Nat}{m:Md}{l:List (List UInt8 × (Int × Int))}(h:M[i]? = some m):nmX i l (M.drop i)=nmX (i+1) (Z5 l m.name (9,(i:Int))) (M.drop (i+1)):=by
 grind[List.drop_eq_getElem_cons,nmX]
theorem C2c(l:List Dc)(k:Int):cnD l k<=l.length:=List.countP_le_length
theorem C5k(k:Int)(a:List (Int × Nat)):Sym.lkV (I64 0) false (ahV a) (F8 (I64 k) (ahK a) 0)=some (I64 (ahN a k:Int)):=by
 have:=B6g k a 0;cases hf:F8 (I64 k) (ahK a) 0 with
 |none =>
  rw[hf]at this;obtain⟨h, -, -⟩:=this;rw[h];rfl
 |some j =>
  rw[hf]at this;obtain⟨-,n,h1,h2, -, -⟩:=this<;>simp_all[Sym.lkV]
theorem D8d(k:Int)(a:List (Int × Nat))(H:Hp)(c id u:Nat):muV H c id u (.i .i64) (ahK a) (ahV a) (I64 k) (I64 ((ahN a k:Int)+1)) (F8 (I64 k) (ahK a) 0)=some (.tup [],H.upd id ⟨u,true,[.mpc (.i .i64) (ahK (ahS a k)) (ahV (ahS a k))]⟩,c):=by
 have:=B6g k a 0;cases hf:F8 (I64 k) (ahK a) 0 with
 |none =>
  grind[muV]
 |some j =>
  rw[hf]at this;obtain⟨-,n,h1,h2,h3,h4⟩:=this<;>simp_all[muV]
def A0b(l:List Dc):Prop:=∀d∈l,1<=d.kind/\d.kind<=8
theorem D8n{r:Ru}(h:M8 r=true):A0b r.decls:=by
 intro d hd<;>simp_all[M8,A1i]
theorem B0k(l:List (List UInt8 × (Int × Int)))(a n:List UInt8)(q:Int × Int):(Z5 l a q).lookup n=(l.lookup n).or (if n==a then some q else none):=by
 unfold Z5;split
 ·rename_i h;cases hn:n==a with
  |false=>simp
  |true =>
   have e:n=a:=by simpa using hn
   subst e;cases hl:l.lookup n with
   |none=>rw[hl]at h;cases h
   |some x=>rfl
 grind
theorem B0x(n:List UInt8):∀(M:List Md) (i:Nat) (l:List (List UInt8 × (Int × Int))),(nmX i l M).lookup n=(l.lookup n).or (lkM i M n)
 |[],i,l=>by grind[nmX,lkM]
 |m::M,i,l=>by
  rw[nmX,B0x n M,B0k,lkM,A2Q]
  grind
theorem B0y(n:List UInt8):∀(D pre:List Dc) (l:List (List UInt8 × (Int × Int))),A0b D->(nmD pre l D).lookup n=(l.lookup n).or (lkD pre D n)
 |[],pre,l,_=>by grind[nmD,lkD]
 |d::D,pre,l,hk=>by
  obtain⟨k1,k2⟩:=hk d A0M;rw[nmD,B0y n D _ _ (λx hx=>hk x (A0H _ hx)),B0k,lkD,A2Q];by_cases h:d.name=n
  ·rw[if_pos h,if_pos (by simp[h])];have e:W0 pre d=(if d.kind<6 then d.value else(cnR ⟨pre,[]⟩ d.kind:Int)):=by
    unfold W0 cnR;by_cases h6:d.kind<6
    ·rw[if_pos h6,if_neg (by omega)]
    ·rw[if_neg h6,if_pos (by omega),if_neg (by omega)]
   rw[e];rfl
  grind
theorem B3n{r:Ru}(hk:A0b r.decls)(n:List UInt8):(nmL r).lookup n=(lkD [] r.decls n).or (lkM 0 r.modes n):=by
 grind[nmL,B0x,B0y]
theorem C1l(r:Ru)(n:List UInt8):K0 r n=((lkD [] r.decls n).or (lkM 0 r.modes n)).getD (0,0):=by
 grind[K0]
theorem C1n{n:List UInt8}:∀ {D pre:List Dc} {q:Int × Int},A0b D->lkD pre D n=some q->q.1≠0
 |d::D,pre,q,hk,h=>by
  rw[lkD]at h;split at h
  ·cases h;have:=hk d A0M;omega
  ·exact C1n (λx hx=>hk x (A0H _ hx)) h
theorem C1m{n:List UInt8}:∀ {M:List Md} {i:Nat} {q:Int × Int},lkM i M n=some q->q.1≠0
 |m::M,i,q,h=>by
  rw[lkM]at h;split at h
  ·grind
  ·exact C1m h
theorem C3x{r:Ru}(hk:A0b r.decls){n:List UInt8}{q:Int × Int}(h:(nmL r).lookup n=some q):K0 r n=q/\q.1≠0:=by
 rw[B3n hk]at h;rw[C1l,h];refine⟨rfl,?_⟩;cases hd:lkD [] r.decls n<;>grind[C1n,C1m]
theorem C3y{r:Ru}(hk:A0b r.decls){n:List UInt8}(h:(nmL r).lookup n=none):K0 r n=(0,0):=by
 grind[B3n,C1l]
def upS(s:Int × Int)(o:Er):Int × Int:=if s.2=0 then o.getD s else s
theorem N2{s:Int × Int}{a b:Er}(ha:NzE a):upS (upS s a) b=upS s (a.or b):=by
 unfold upS;by_cases h:s.2=0
 ·cases a with
  |none=>simp[h]
  |some q =>
   have:=ha q.1 q.2 rfl;simp[h,this]
 grind
theorem N3(s:Int × Int):upS s none=s:=by grind[upS]
theorem C8b(s:Int × Int)(p e:Int)(h:e≠0):upS (upS s (some (p,e))) (some (p,e))=upS s (some (p,e)):=by
 rw[N2 (λa b hq=>by grind)];rfl
def D3z(k:Int):Bool:=(k==3||k==4||k==5||k==6||k==11||k==23||k==24)||(decide (17<=k)&&decide (k<=22))
theorem D3y{k:Int}(h:k<=24):D3z k=C7n k:=by
 unfold D3z C7n
 grind
theorem C4c{e:Ex}{q:Nat × Nat}(h:msM e=some q):e.kind<=24:=by
 cases e with|mk k v n a p =>
 obtain⟨o,d⟩:=q;obtain⟨m1, -⟩:=B1a h;show k<=24;unfold kOk at m1;simp only[A1J,A0F,A0Q]at m1;rcases m1 with m1|m1<;>simp_all[B5r]
theorem A9q(D:List Dc)(M:List Md)(n:List UInt8)(hk:A0b D):(K0 ⟨D,M⟩ n).1=0↔D.any (λd=>d.name==n)=false/\M.any (λd=>d.name==n)=false:=by
 have hD:∀(D pre:List Dc),lkD pre D n=none↔D.any (λd=>d.name==n)=false:=by
  intro D
  induction D with
  |nil=>grind[lkD]
  |cons d D ih =>
   intro pre;rw[lkD]
   grind
 have hM:∀(M:List Md) (i:Nat),lkM i M n=none↔M.any (λd=>d.name==n)=false:=by
  intro M
  induction M with
  |nil=>grind[lkM]
  |cons d D ih =>
   intro pre;rw[lkM]
   grind
 rw[C1l, <- hD D [], <- hM M 0];dsimp only;cases h1:lkD [] D n with
 |some q =>
  grind[C1n]
 |none =>
  cases h2:lkM 0 M n<;>grind[C1m]
theorem B4c{r:Ru}{x:Ex}:∀ {l:List Ex} {i:Nat},l[i]? = some x->Z8 r (l.take (i+1))=(Z8 r (l.take i)).or (erE r x)
 |y::l,0,h=>by grind[Z8]
 |y::l,i+1,h=>by
  rw[A1A,A1A,Z8,Z8,B4c (by simpa using h),A2Q]
theorem B9e{r:Ru}{b:Bool}{x:Ex}:∀ {l:List Ex} {i:Nat},l[i]? = some x->erA r b (l.take (i+1))=(erA r b (l.take i)).or ((erE r x).or (if(O3 x.kind==2)=b then none else some (x.pos,49)))
 |y::l,0,h=>by grind[erA]
 |y::l,i+1,h=>by
  rw[A1A,A1A,erA,erA,B9e (by simpa using h)];grind
theorem B9d{r:Ru}{x:St}:∀ {l:List St} {i:Nat},l[i]? = some x->erB r (l.take (i+1))=(erB r (l.take i)).or (erS r x)
 |y::l,0,h=>by grind[erB]
 |y::l,i+1,h=>by
  rw[A1A,A1A,erB,erB,B9d (by simpa using h),A2Q]
theorem E6w(r:Ru)(e:Ex):erE r e=((Z8 r e.args).or (dnE r e.name (kdE e.kind) e.pos)).or (if e.args.all (λx=>O3 x.kind==A1p e.kind e.args)=true then none else some (e.pos,49)):=by
 cases e with|mk k v n a p=>rfl
def stD(pre:List Dc)(d:Dc):Er:=(if d.value>A4r d.kind then some (d.pos,5) else none:Er).or (if(K0 ⟨pre,[]⟩ d.name).1=0 then none else some (d.pos,7))
def stP(D:List Dc)(pre:List Md)(m:Md):Er:=(if m.prio>99 then some (m.pos,5) else none:Er).or (if(K0 ⟨D,pre⟩ m.name).1=0 then none else some (m.pos,7))
theorem B9b(d:Dc):∀(l pre:List Dc),erD pre (l++[d])=(erD pre l).or (stD (pre++l) d)
 |[],pre=>by rw[List.nil_append,erD,erD,erD,A0Y,A3Y,A1U];rfl
 |x::l,pre=>by rw[List.cons_append,erD,erD,B9b d l,A0O];grind
theorem B8w(D:List Dc)(m:Md):∀(l pre:List Md),erP D pre (l++[m])=(erP D pre l).or (stP D (pre++l) m)
 |[],pre=>by rw[List.nil_append,erP,erP,erP,A0Y,A3Y,A1U];rfl
 |x::l,pre=>by rw[List.cons_append,erP,erP,B8w D m l,A0O];grind
theorem D2j{D:List Dc}{i:Nat}{d:Dc}(h:D[i]? = some d):erD [] (D.take (i+1))=(erD [] (D.take i)).or (stD (D.take i) d):=by
 rw[<- A4a h,B9b];rfl
theorem D2e{D:List Dc}{M:List Md}{i:Nat}{m:Md}(h:M[i]? = some m):erP D [] (M.take (i+1))=(erP D [] (M.take i)).or (stP D (M.take i) m):=by
 rw[<- A4a h,B8w];rfl
def A1s(l:List (List UInt8)):List (List UInt8 × DV):=l.map λn=>(n,DV.bool true)
theorem A5e(n:List UInt8):∀l:List (List UInt8),(A1s l).lookup n=if l.contains n=true then some (DV.bool true) else none
 |[]=>rfl
 |a::l=>by
  show((a,DV.bool true)::A1s l).lookup n=_;rw[List.lookup_cons,A5e n l,A4M]
  grind
def B0l(l:List (List UInt8))(n:List UInt8):List (List UInt8):=if l.contains n=true then l else l++[n]
theorem B7e(l:List (List UInt8))(n m:List UInt8):(B0l l n).contains m=(l.contains m||m==n):=by
 unfold B0l
 grind
theorem B3p{n:List UInt8}:∀(l:List (List UInt8)) (i j:Nat),F8 (.str n) (mkK (A1s l)) i=some j->(mkK (A1s l)).set (j-i) (.str n)=mkK (A1s l)/\(mvV (A1s l)).set (j-i) (.bool true)=mvV (A1s l)
 |[],i,j,h=>by cases h
 |a::l,i,j,h=>by
  have h:F8 (.str n) (.str a::mkK (A1s l)) i=some j:=h;rw[F8,W1]at h;cases ha:n==a with
  |true =>
   rw[ha]at h;cases h;have e:n=a:=by simpa using ha
   subst e;rw[Nat.sub_self]
   trivial
  |false =>
   rw[ha]at h;dsimp only at h;have hlt:=B1c h;obtain⟨h1,h2⟩:=B3p l (i+1) j h;have ej:j-i=(j-(i+1))+1:=b8
   rw[ej];exact⟨congrArg (DV.str a :: ·) h1,congrArg (DV.bool true :: ·) h2⟩
theorem D9j(n:List UInt8)(l:List (List UInt8))(H:Hp)(c id u:Nat):muV H c id u .s (mkK (A1s l)) (mvV (A1s l)) (.str n) (.bool true) (F8 (.str n) (mkK (A1s l)) 0)=some (.tup [],H.upd id ⟨u,true,[.mpc .s (mkK (A1s (B0l l n))) (mvV (A1s (B0l l n)))]⟩,c):=by
 have hl:=A5e n l;have hf:=A1w (n:=n) (A1s l) 0;cases hm:F8 (.str n) (mkK (A1s l)) 0 with
 |none =>
  simp_all[B0l,muV,mkK,A1s,mvV]
 |some j =>
  rw[hm]at hf;obtain⟨-,x, -,h3⟩:=hf;rw[h3]at hl;have hc:l.contains n=true:=by
   cases h:l.contains n with
   |true=>rfl
   |false=>rw[h]at hl;simp at hl
  have e:B0l l n=l:=by unfold B0l;rw[if_pos hc]
  rw[e];simp only[muV];obtain⟨h1,h2⟩:=B3p l 0 j hm<;>simp_all
theorem D9k(n:List UInt8)(l:List (List UInt8)):Sym.lkV (.bool false) false (mvV (A1s l)) (F8 (.str n) (mkK (A1s l)) 0)=some (.bool (l.contains n)):=by
 cases h:l.contains n<;>simp_all[A6j,A5e,A6k]
def stH(r:Ru)(pre:List Hd)(h:Hd):Er:=((dnE r h.name (kdH h.trig) h.pos).or (if pre.any (λx=>x.trig==h.trig&&x.name==h.name)=true then some (h.pos,7) else none)).or (erB r h.body)
theorem B9a(r:Ru)(h:Hd):∀(l pre:List Hd),erH r pre (l++[h])=(erH r pre l).or (stH r (pre++l) h)
 |[],pre=>by rw[List.nil_append,erH,erH,erH,A0Y,A3Y,A1U];rfl
 |x::l,pre=>by rw[List.cons_append,erH,erH,B9a r h l,A0O];grind
theorem D2h{r:Ru}{l:List Hd}{i:Nat}{h:Hd}(hg:l[i]? = some h):erH r [] (l.take (i+1))=(erH r [] (l.take i)).or (stH r (l.take i) h):=by
 rw[<- A4a hg,B9a];rfl
theorem B8y{r:Ru}{x:Md}:∀ {l:List Md} {i:Nat},l[i]? = some x->erM r (l.take (i+1))=(erM r (l.take i)).or (erH r [] x.hds)
 |y::l,0,h=>by grind[erM]
 |y::l,i+1,h=>by
  rw[A1A,A1A,erM,erM,B8y (by simpa using h),A2Q]
theorem E2k(e:Er):erV e=.tup [I64 (upS (0,0) e).1,I64 (upS (0,0) e).2]:=by
 cases e<;>rfl
theorem C4a{α:Type}[DecidableEq α]{l:List α}{x : α}:(l++[x]).Nodup↔l.Nodup/\x ∉ l:=by
 grind
theorem B9t{D:List Dc}{n:List UInt8}:D.any (λd=>d.name==n)=false↔n ∉ D.map Dc.name:=by
 simp
theorem C7r{D:List Md}{n:List UInt8}:D.any (λd=>d.name==n)=false↔n ∉ D.map Md.name:=by
 simp
theorem A0b.app{a b:List Dc}:A0b (a++b)↔A0b a/\A0b b :=
 ⟨λh=>⟨λd hd=>h d (A3C _ hd),λd hd=>h d (List.mem_append_right _ hd)⟩,λh d hd=>(A1Q.1 hd).elim (h.1 d) (h.2 d)⟩
theorem C4r{b:Prop}[Decidable b]{q:Int × Int}:((if b then some q else none):Er)=none↔¬b:=by
 simp
theorem B8l{b:Prop}[Decidable b]{q:Int × Int}:((if b then none else some q):Er)=none↔b:=by
 simp
theorem B9c:∀(D pre:List Dc),A0b (pre++D)->(pre.map Dc.name).Nodup->(erD pre D=none↔(∀d∈D,¬d.value>A4r d.kind)/\((pre++D).map Dc.name).Nodup)
 |[],pre,hk,hn=>by grind[erD]
 |d::l,pre,hk,hn=>by
  have hk':A0b ((pre++[d])++l):=m9
  have hkp:A0b pre:=(A0b.app.1 hk).1;have hl:=A9q pre [] d.name hkp;rw[B9t]at hl;rw[erD,A2D,A2D,C4r,B8l,hl];have e:pre++d::l=(pre++[d])++l:=by simp
  by_cases hm:d.name∈pre.map Dc.name
  ·grind
  ·have hn':((pre++[d]).map Dc.name).Nodup:=by rw[A0P];exact C4a.2 ⟨hn,hm⟩
   rw[B9c l (pre++[d]) hk' hn',e]
   grind
theorem B8x{D:List Dc}(hk:A0b D):∀(M pre:List Md),(D.map Dc.name++pre.map Md.name).Nodup->(erP D pre M=none↔(∀m∈M,¬m.prio>99)/\(D.map Dc.name++(pre++M).map Md.name).Nodup)
 |[],pre,hn=>by grind[erP]
 |m::l,pre,hn=>by
  have hl:=A9q D pre m.name hk;rw[B9t,C7r]at hl;rw[erP,A2D,A2D,C4r,B8l,hl];have e:pre++m::l=(pre++[m])++l:=by simp
  have e2:D.map Dc.name++(pre++[m]).map Md.name=(D.map Dc.name++pre.map Md.name)++[m.name]:=by simp
  by_cases hm:m.name∈D.map Dc.name++pre.map Md.name
  ·grind
  ·have hn':(D.map Dc.name++(pre++[m]).map Md.name).Nodup:=by rw[e2];exact C4a.2 ⟨hn,hm⟩
   rw[B8x hk l (pre++[m]) hn',e]
   grind
def E1w(D:List Dc)(M:List Md):Prop:=(∀d∈D,¬d.value>A4r d.kind)/\(∀m∈M,¬m.prio>99)/\(D.map Dc.name++M.map Md.name).Nodup
theorem D1k{D:List Dc}{M:List Md}(hk:A0b D):A7s ⟨D,M⟩=none↔E1w D M:=by
 unfold A7s E1w;rw[A2D,B9c D [] hk List.nodup_nil];show(_/\(D.map Dc.name).Nodup)/\erP D [] M=none↔_;constructor<;>simp_all[B8x,List.nodup_append]
def SmK(r r':Ru):Prop:=∀n,(K0 r n).1=(K0 r' n).1
section
variable {r r':Ru} (h:SmK r r')
include h
end
theorem B8z{r:Ru}:∀ {l:List Md},erM r l=none↔∀m∈l,erH r [] m.hds=none
 |[]=>by rw[erM];simp
 |x::l=>by
  rw[erM,A2D,B8z];simp
def z0(q:Int × Int):Int × Int:=(0,q.2)
section
variable {r r':Ru} (h:SmK r' r)
include h
end
def NmR(r:Ru)(q:Int × Int):Prop:=0<=q.2/\(q.1<6->1<=q.1/\q.2<=A4r q.1)/\(6<=q.1->q.2<(cnR r q.1:Int)/\q.1<=9)
theorem E7u(a b:List Dc)(k:Int):cnD (a++b) k=cnD a k+cnD b k:=by grind[cnD]
theorem E2t{r:Ru}{pre l:List Dc}{d:Dc}(h:r.decls=pre++d::l)(hk:¬d.kind=9):cnR ⟨pre,[]⟩ d.kind<cnR r d.kind:=by
 simp_all[cnR,cnD]
theorem C4l{r:Ru}{n:List UInt8}:∀ {l pre:List Dc} {q:Int × Int},r.decls=pre++l->(∀d∈l,A1i d=true/\¬d.value>A4r d.kind)->lkD pre l n=some q->NmR r q
 |[],_,_,_,_,h=>by cases h
 |d::l,pre,q,e,hd,h=>by
  rw[lkD]at h;split at h
  ·cases h;obtain⟨h1,h2⟩:=hd d A0M;unfold A1i at h1;simp only[A0F,A0Q]at h1;obtain⟨⟨⟨⟨k1,k2⟩, -⟩,k3⟩,k4⟩:=h1;by_cases h6:d.kind<6
   ·refine⟨?_,λ_=>⟨k1,?_⟩,λh=>absurd h6 (by simp only at h;omega)⟩
    ·simp only[h6,if_true];rw[if_neg (by omega)]at k3;exact k3
    grind
   ·refine⟨?_,λh=>absurd h h6,λ_=>⟨?_,by omega⟩⟩
    ·omega
    ·simp only[h6,if_false];have:=E2t (r:=r) e (by omega:¬d.kind=9);omega
  ·exact C4l (pre:=pre++[d]) (by grind) (λx hx=>hd x (A0H _ hx)) h
theorem C4k{r:Ru}{n:List UInt8}:∀ {l:List Md} {i:Nat} {q:Int × Int},i+l.length=r.modes.length->lkM i l n=some q->NmR r q
 |[],_,_,_,h=>by cases h
 |m::l,i,q,e,h=>by
  rw[lkM]at h;split at h
  ·cases h;refine⟨A4N _,λh=>absurd h (by show ¬(9:Int)<6;decide),λ_=>⟨?_,by show(9:Int)<=9;decide⟩⟩
   simp_all[cnR];omega
  ·exact C4k (by grind) h
structure ChkR (r:Ru):Prop where
 vl:M8 r=true
 ck:A4t r=none
theorem ChkR.decl{r:Ru}(h:ChkR r):∀d∈r.decls,A1i d=true:=by
 have:=h.vl
 simp_all[M8]
theorem ChkR.mode{r:Ru}(h:ChkR r):∀d∈r.modes,V0 d=true:=by
 have:=h.vl
 simp_all[M8]
theorem ChkR.lens{r:Ru}(h:ChkR r):r.decls.length<=128/\r.modes.length<=16:=by
 have:=h.vl
 simp_all[M8]
theorem ChkR.kd{r:Ru}(h:ChkR r):A0b r.decls:=by
 intro d hd;have:=h.decl d hd
 simp_all[A1i]
theorem ChkR.hea{r:Ru}(h:ChkR r):E1w r.decls r.modes:=by
 have:=h.ck;unfold A4t at this;rw[A2D]at this;exact(D1k h.kd).1 this.1
theorem ChkR.erm{r:Ru}(h:ChkR r):∀m∈r.modes,erH r [] m.hds=none:=by
 have:=h.ck
 grind[A4t,B8z]
theorem ChkR.num{r:Ru}(h:ChkR r){n:List UInt8}(hn:¬(K0 r n).1=0):NmR r (K0 r n):=by
 unfold K0 at hn ⊢;cases h1:lkD [] r.decls n with
 |some q=>exact C4l (r:=r) (pre:=[]) rfl (λd hd=>⟨h.decl d hd,h.hea.1 d hd⟩) h1
 |none =>
  rw[h1]at hn;cases h2:lkM 0 r.modes n with
  |some q=>exact C4k (r:=r) (by simp) h2
  |none=>grind
theorem ChkR.den{r:Ru}(h:ChkR r){n:List UInt8}{k:Int}(hk:¬k=0)(hd:dnM r n k=0):(K0 r n).1=k:=by
 grind[dnM]
theorem B1i{n:List UInt8}(h:F6 n=true):n≠[]:=by
 grind[F6]
theorem B8f{n:List UInt8}:∀ {l pre:List Dc},(∀d∈l,d.name≠n)->lkD pre l n=none
 |[],_,_=>rfl
 |d::l,pre,h=>by rw[lkD,if_neg (h d A0M)];exact B8f λx hx=>h x (A0H _ hx)
theorem B8e{n:List UInt8}:∀ {l:List Md} {i:Nat},(∀d∈l,d.name≠n)->lkM i l n=none
 |[],_,_=>rfl
 |d::l,i,h=>by rw[lkM,if_neg (h d A0M)];exact B8e λx hx=>h x (A0H _ hx)
theorem ChkR.nil{r:Ru}(h:ChkR r):K0 r []=(0,0):=by
 unfold K0;rw[B8f (λd hd=>by
  have:=h.decl d hd
  simp_all[A1i,B1i]),B8e (λd hd=>by
  have:=h.mode d hd
  simp_all[V0,B1i])]
theorem D8x(S:List (List UInt8))(t:List UInt8):S.length<=(txS S t).2.length:=by
 unfold txS;grind
mutual
theorem D3c(nm:List UInt8->Int):∀(s:St) (p:Nat) (S:List (List UInt8)),S.length<=(cgS nm p S s).2.length
 |.mk k n t a x y q,p,S=>by
  rw[cgS];split
  ·split
   ·exact A2o nm x _ S
   ·exact A1B (A2o nm x _ S) (A2o nm y _ _)
  ·split
   ·exact A2o nm x _ S
   ·split<;>simp_all[D8x]
theorem A2o(nm:List UInt8->Int):∀(l:List St) (p:Nat) (S:List (List UInt8)),S.length<=(cgB nm p S l).2.length
 |[],_,_=>A0D _
 |s::l,p,S=>by
  rw[cgB];exact A1B (D3c nm s p S) (A2o nm l _ _)
end
abbrev nmR(r:Ru):List UInt8->Int:=λn=>(K0 r n).2
def cmC(r:Ru):Prg :=
 ⟨(cgL (nmR r) 0 [] (G5 (nmR r) 0 r.modes)).1,(cgL (nmR r) 0 [] (G5 (nmR r) 0 r.modes)).2.2,(cgL (nmR r) 0 [] (G5 (nmR r) 0 r.modes)).2.1,r.modes.map (·.prio),
  (r.decls.filter λd=>d.kind==6).map (·.value),(cnR r 7:Int),(cnR r 8:Int)⟩
theorem C5b{r:Ru}:∀ {l pre:List Hd},erH r pre l=none->∀h∈l,dnM r h.name (kdH h.trig)=0/\erB r h.body=none
 |[],_,_,h,hh=>m9
 |x::l,pre,h,y,hy=>by
  rw[erH,A2D,A2D,A2D]at h;obtain⟨⟨⟨h1, -⟩,h2⟩,h3⟩:=h;rcases A1N.1 hy with rfl|hy
  ·grind[dnE]
  ·exact C5b h3 y hy
structure HdF (r:Ru) (h:Hd):Prop where
 tr:1<=h.trig/\h.trig<=6
 bl:Q4 h.body 1=true
 er:erB r h.body=none
 nn:h.trig<3->(K0 r h.name).2=0
 nd:3<=h.trig->(K0 r h.name).1=kdH h.trig/\NmR r (K0 r h.name)
theorem ChkR.hd{r:Ru}(h:ChkR r):∀m∈r.modes, ∀x∈m.hds,HdF r x:=by
 intro m hm x hx;have hv:=h.mode m hm;unfold V0 at hv;simp only[A0F,A0Q,A0V]at hv;have hv:=hv.2 x hx;unfold A2e at hv;simp only[A0F,A0Q]at hv;obtain⟨⟨⟨v1,v2⟩,v3⟩,v4⟩:=hv;obtain⟨d1,d2⟩:=C5b (h.erm m hm) x hx;refine⟨⟨v1,v2⟩,v4,d2,λht=>?_,λht=>?_⟩
 ·rw[if_neg (by omega)]at v3;have:x.name=[]:=by grind
  rw[this,h.nil]
 ·have hk:¬kdH x.trig=0:=by
   have:x.trig=3\/x.trig=4\/x.trig=5\/x.trig=6:=b8
   rcases this with e|e|e|e<;>rw[e]<;>decide
  have e1:=h.den hk d1;exact⟨e1,h.num (by omega)⟩
theorem D2z{r:Ru}(h:ChkR r)(k:Int)(hk:¬k=9):cnR r k<=128:=by
 unfold cnR;rw[if_neg hk];exact A1B (C2c _ _) h.lens.1
theorem HdF.ok{r:Ru}(hr:ChkR r){h:Hd}(hf:HdF r h):HOk (nmR r) h:=by
 refine⟨hf.tr.1,hf.tr.2,?_⟩;show 0<=(K0 r h.name).2/\(K0 r h.name).2<128;by_cases ht:h.trig<3
 ·rw[hf.nn ht];simp
 ·obtain⟨e,n0,n1,n2⟩:=hf.nd (by omega);refine⟨n0,?_⟩;have:h.trig=3\/h.trig=4\/h.trig=5\/h.trig=6:=by have:=hf.tr;omega
  rcases this with g|g|g|g
  ·rw[g]at e;have e:(K0 r h.name).1=1:=e;have:=(n1 (by omega)).2;rw[e]at this;have:(K0 r h.name).2<=63:=this;omega
  ·rw[g]at e;have e:(K0 r h.name).1=1:=e;have:=(n1 (by omega)).2;rw[e]at this;have:(K0 r h.name).2<=63:=this;omega
  ·rw[g]at e;have e:(K0 r h.name).1=7:=e
   grind[D2z]
  ·rw[g]at e;have e:(K0 r h.name).1=8:=e
   grind[D2z]
theorem D3g(nm:List UInt8->Int):∀(l:List F4) (p:Nat) (S:List (List UInt8)),S.length<=(cgL nm p S l).2.2.length
 |[],_,_=>A0D _
 |q::l,p,S=>by rw[cgL];exact A1B (A2o nm _ p S) (D3g nm l _ _)
theorem A8r(nm:List UInt8->Int):∀(l:List F4) (p:Nat) (S:List (List UInt8)),(cgL nm p S l).2.1.length=l.length
 |[],_,_=>rfl
 |q::l,p,S=>by rw[cgL];simp only[A0G,A8r nm l]
theorem B6a(nm:List UInt8->Int):∀(a b:List F4) (p:Nat) (S:List (List UInt8)),
  cgL nm p S (a++b)=((cgL nm p S a).1++(cgL nm (p+(cgL nm p S a).1.length) (cgL nm p S a).2.2 b).1,(cgL nm p S a).2.1++(cgL nm (p+(cgL nm p S a).1.length) (cgL nm p S a).2.2 b).2.1,(cgL nm (p+(cgL nm p S a).1.length) (cgL nm p S a).2.2 b).2.2)
 |[],b,p,S=>by rfl
 |q::a,b,p,S=>by
  rw[List.cons_append,cgL,B6a nm a b,cgL]
  grind
theorem B9m{nm:List UInt8->Int}{l:List F4}{S:List (List UInt8)}(k:Nat):(cgL nm 0 S (l.take k)).1.length<=(cgL nm 0 S l).1.length/\(cgL nm 0 S (l.take k)).2.2.length<=(cgL nm 0 S l).2.2.length:=by
 grind[B6a,List.take_append_drop,D3g]
theorem B9n(nm:List UInt8->Int)(l:List F4)(q:F4)(S:List (List UInt8)):cgL nm 0 S (l++[q]) =
  ((cgL nm 0 S l).1++((cgB nm (cgL nm 0 S l).1.length (cgL nm 0 S l).2.2 q.2.flatten).1++[⟨31,0⟩]),(cgL nm 0 S l).2.1++[⟨q.1.mode,q.1.trig,q.1.ix,((cgL nm 0 S l).1.length:Int)⟩],(cgB nm (cgL nm 0 S l).1.length (cgL nm 0 S l).2.2 q.2.flatten).2):=by
 rw[B6a,A1I];rfl
def A8g:Prg:=⟨[],[],[],[],[],0,0⟩
def B2z(r:Ru):Prg × Int × Int :=
 if M8 r=true then
  match A4t r with
  |some (p,c)=>(A8g,p,c)
  |none=>if 4000<(cmC r).instrs.length\/200<(cmC r).strings.length then(A8g,0,9) else(cmC r,0,0)
 else(A8g,0,1)
def A6s(q:Prg × Int × Int):DV:=.tup [q.1.v,I64 q.2.1,I64 q.2.2]
abbrev txC(S:List (List UInt8)):List DV:=S.map DV.str
abbrev gmB(t:Nat)(a b:Option Nat)(mk:DV->DV->List DV)(x:Cg):Blk:=⟨0,true,mk (todoV a x.1.length) (todoV b x.2.length)⟩
def GM(H0:Hp)(t:Nat)(a b:Option Nat)(mk:DV->DV->List DV)(x:Cg):Hp :=
 optH (optH (H0.upd t (gmB t a b mk x)) a ⟨2,true,A0t x.1⟩) b ⟨1,true,txC x.2⟩
structure GN (H0:Hp) (t:Nat) (a b:Option Nat) (x:Cg) (c:Nat):Prop where
 tc:t<c
 ha:∀i,a=some i->i≠t/\i<c/\H0 i=none
 hb:∀i,b=some i->i≠t/\i<c/\H0 i=none
 ne:∀i j,a=some i->b=some j->i≠j
 an:a=none->x.1=[]
 bn:b=none->x.2=[]
 fr:∀j,c<=j->H0 j=none
section
variable {H0:Hp} {t c c' i:Nat} {a b:Option Nat} {mk:DV->DV->List DV} {x y:Cg}
theorem A0c(h:GN H0 t a b x c):GM H0 t a b mk x t=some (gmB t a b mk x):=by
 rw[GM,A8 (λi hi=>Ne.symm (h.hb i hi).1),A8 (λi hi=>Ne.symm (h.ha i hi).1),A0]
theorem A5q(h:GN H0 t a b x c){i:Nat}(hi:a=some i):GM H0 t a b mk x i=some ⟨2,true,A0t x.1⟩:=by
 rw[GM,A8 (λj hj=>h.ne i j hi hj)];subst hi;exact A0
theorem A8j{i:Nat}(hi:b=some i):GM H0 t a b mk x i=some ⟨1,true,txC x.2⟩:=by
 rw[GM];subst hi;exact A0
theorem D3u{j:Nat}(h1:j≠t)(h2:a≠some j)(h3:b≠some j):GM H0 t a b mk x j=H0 j:=by
 rw[GM,A8 (λi hi e=>h3 (by grind)),A8 (λi hi e=>h2 (by grind)),h_ne h1]
theorem V5(h:GN H0 t a b x c){j:Nat}{B:Blk}(hj:H0 j=some B)(ht:j≠t):GM H0 t a b mk x j=some B:=by
 rw[D3u ht (λe=>by have:=(h.ha j e).2.2;grind) (λe=>by have:=(h.hb j e).2.2;grind),hj]
theorem A8i(h:GN H0 t a b x c){j:Nat}(hj:c<=j):GM H0 t a b mk x j=none:=by
 have:=h.tc;rw[D3u (by omega) (λe=>by have:=(h.ha j e).2.1;omega) (λe=>by have:=(h.hb j e).2.1;omega)];exact h.fr j hj
theorem A5p{X:Hp}(ht:X t=some (gmB t a b mk x))(ha:∀i,a=some i->X i=some ⟨2,true,A0t x.1⟩)(hb:∀i,b=some i->X i=some ⟨1,true,txC x.2⟩)(ho:∀j B,j≠t->H0 j=some B->X j=some B):
  Sub (GM H0 t a b mk x) X:=by
 intro j B hj;rw[GM]at hj;by_cases h1:b=some j
 ·subst h1;simp only[optH]at hj;rw[A0]at hj;rw[<- hj];exact hb j rfl
 rw[A8 (λi hi e=>h1 (by rw[e];exact hi))]at hj;by_cases h2:a=some j
 ·subst h2;simp only[optH]at hj;rw[A0]at hj;rw[<- hj];exact ha j rfl
 grind[A8,A0,h_ne]
theorem GN.le(h:GN H0 t a b x c)(hc:c<=c'):GN H0 t a b x c' :=
 ⟨by have:=h.tc;omega,λi hi=>by have:=h.ha i hi;grind,λi hi=>by have:=h.hb i hi;grind,h.ne,h.an,h.bn,λj hj=>h.fr j (by omega)⟩
theorem GN.newA(h:GN H0 t a b x c)(h1:c<=i)(h2:i<c')(he:y.2=x.2):GN H0 t (some i) b y c':=by
 have:=h.tc;exact⟨b8,λj hj=>by cases hj;exact⟨b8,h2,h.fr _ h1⟩,λj hj=>by have:=h.hb j hj;grind,λj k hj hk=>by cases hj;have:=h.hb k hk;omega,λe=>(by grind),λe=>(by rw[he];exact h.bn e),λj hj=>h.fr j (by omega)⟩
theorem GN.newB(h:GN H0 t a b x c)(h1:c<=i)(h2:i<c')(he:y.1=x.1):GN H0 t a (some i) y c':=by
 have:=h.tc;exact⟨b8,λj hj=>by have:=h.ha j hj;grind,λj hj=>by cases hj;exact⟨b8,h2,h.fr _ h1⟩,λj k hj hk=>by cases hk;have:=h.ha j hj;omega,λe=>(by rw[he];exact h.an e),λe=>(by grind),λj hj=>h.fr j (by omega)⟩
theorem GN.keep(h:GN H0 t a b x c)(hc:c<=c')(h1:a=none->y.1=[])(h2:b=none->y.2=[]):GN H0 t a b y c' :=
 ⟨by have:=h.tc;omega,λi hi=>by have:=h.ha i hi;grind,λi hi=>by have:=h.hb i hi;grind,h.ne,h1,h2,λj hj=>h.fr j (by omega)⟩
end
section
variable {H0:Hp} {t c c' j:Nat} {a b:Option Nat} {mk:DV->DV->List DV} {x y:Cg} {B:Blk}
theorem D3v(h1:j≠t)(h2:a≠some j)(h3:b≠some j):(GM H0 t a b mk x).upd j B=GM (H0.upd j B) t a b mk x:=by
 funext i
 by_cases e:i=j
 ·grind[A0,D3u]
 ·rw[h_ne e];unfold GM;cases a with
  |none =>
   cases b<;>simp_all[optH,Hp.upd]
  |some a =>
   cases b<;>simp_all[optH,Hp.upd]
theorem GN.com(h:GN H0 t a b x c)(hj:c<=j):(GM H0 t a b mk x).upd j B=GM (H0.upd j B) t a b mk x :=
 D3v (by have:=h.tc;omega) (λe=>by have:=(h.ha j e).2.1;omega) (λe=>by have:=(h.hb j e).2.1;omega)
theorem GN.box(h:GN H0 t a b x c)(hj:c<=j)(hc:j<c'):GN (H0.upd j B) t a b x c':=by
 have:=h.tc;exact⟨b8,λi hi=>by have:=h.ha i hi;grind[h_ne],λi hi=>by have:=h.hb i hi;grind[h_ne],h.ne,h.an,h.bn,λi hi=>by rw[hnO];exact h.fr i (by omega)⟩
theorem L6(hj:H0 j=none)(ht:j≠t)(h:GN (H0.upd j B) t a b x c'):Sub (GM H0 t a b mk x) (GM (H0.upd j B) t a b mk x) :=
 A5p (A0c h) (λi hi=>A5q h hi) (λi hi=>A8j hi) (λi Q hi hQ=>V5 h (by
  grind[h_ne]) hi)
theorem GN.unbox(h:GN (H0.upd j B) t a b x c')(hj:H0 j=none)(hc:c<=c')(hf:∀i,c<=i->H0 i=none):GN H0 t a b x c' :=
 ⟨h.tc,λi hi=>by
  have:=h.ha i hi
  grind[h_ne],λi hi=>by
  have:=h.hb i hi
  grind[h_ne],h.ne,h.an,h.bn,λi hi=>hf i (by omega)⟩
end
theorem B3x(l:List Ins)(i:Ins):A0t (l++[i])=A0t l++[I64 i.op,I64 i.A]:=by rw[A3l,B1j]
theorem B8k(l m:List Ins)(op a z:Int):(A0t (l++⟨op,a⟩::m)).take (l.length*2+1)++(I64 z).cells++(A0t (l++⟨op,a⟩::m)).drop (l.length*2+1+1)=A0t (l++⟨op,z⟩::m):=by
 have e:∀y:Int,l++(⟨op,y⟩:Ins)::m=l++([⟨op,y⟩]++m):=λ_=>rfl;rw[e,e,A3l,A3l,A3l,A3l,B1j,B1j];have h:=A3k l;rw[List.take_append,List.drop_append,A0J (by omega),A1L (by omega),h,show l.length*2+1-l.length*2=1 by omega,show l.length*2+1+1-l.length*2=2 by omega,A0O,A0O];rfl
theorem D2s{H0:Hp}{t c i:Nat}{a b:Option Nat}{mk:DV->DV->List DV}{x y:Cg}{B B2 B3:Blk}(h:GN H0 t a b x c)(hi:c<i)(h2:y.2=x.2)(e2:B2=⟨2,true,A0t y.1⟩)(e3:B3=gmB t (some i) b mk y):
  Sub (GM H0 t (some i) b mk y) (((delO ((GM H0 t a b mk x).upd c B) a).upd i B2).upd t B3):=by
 have:=h.tc;refine A5p ?_ (λj hj=>?_) (λj hj=>?_) (λj Q hj hQ=>?_)
 ·rw[A0,e3]
 ·grind[h_ne,A0]
 ·have q:=h.hb j hj;rw[h_ne q.1,hnO,A9 (λk hk e=>h.ne k j hk hj e.symm),hnO,A8j hj,h2]
 ·have q:j<c:=A1S λhc=>by rw[h.fr j hc]at hQ;grind
  rw[h_ne hj,hnO,A9 (λk hk e=>by have:=(h.ha k hk).2.2;grind),hnO,V5 h hQ hj]
theorem C8e{H0:Hp}{t c i:Nat}{a b:Option Nat}{mk:DV->DV->List DV}{x y:Cg}{B B2 B3:Blk}(h:GN H0 t a b x c)(hi:c<i)(h2:y.1=x.1)(e2:B2=⟨1,true,txC y.2⟩)(e3:B3=gmB t a (some i) mk y):
  Sub (GM H0 t a (some i) mk y) (((delO ((GM H0 t a b mk x).upd c B) b).upd i B2).upd t B3):=by
 have:=h.tc;refine A5p ?_ (λj hj=>?_) (λj hj=>?_) (λj Q hj hQ=>?_)
 ·rw[A0,e3]
 ·have q:=h.ha j hj;rw[h_ne q.1,hnO,A9 (λk hk e=>h.ne j k hj hk e),hnO,A5q h hj,h2]
 ·grind[h_ne,A0]
 ·have q:j<c:=A1S λhc=>by rw[h.fr j hc]at hQ;grind
  rw[h_ne hj,hnO,A9 (λk hk e=>by have:=(h.hb k hk).2.2;grind),hnO,V5 h hQ hj]
abbrev pcC(k:Ky)(b:DV):List DV:=[I64 k.mode,I64 k.trig,I64 k.ix,I64 0,b]
def ptC:List Nat->List F4->List DV
 |i::is,p::l=>pcC p.1 (.slc i 0 p.2.length)++ptC is l
 |_,_=>[]
abbrev bdB(b:List (List St)):Blk:=⟨1,true,b.map F5⟩
def A1l(H0:Hp):List Nat->List F4->Hp
 |i::is,p::l=>(A1l H0 is l).upd i (bdB p.2)
 |_,_=>H0
def PM(H0:Hp)(o:Option Nat)(is:List Nat)(l:List F4):Hp:=optH (A1l H0 is l) o ⟨5,true,ptC is l⟩
structure PN (H0:Hp) (o:Option Nat) (is:List Nat) (l:List F4) (c:Nat):Prop where
 len:is.length=l.length
 nd:is.Nodup
 fi:∀i∈is,i<c/\H0 i=none/\o≠some i
 fo:∀i,o=some i->i<c/\H0 i=none
 no:o=none->l=[]
 fr:∀j,c<=j->H0 j=none
theorem B5u{H0:Hp}{j:Nat}:∀ {is:List Nat} {l:List F4},j ∉ is->A1l H0 is l j=H0 j
 |[],_,_=>rfl
 |_::_,[],_=>rfl
 |i::is,p::l,h=>by
  rw[A1l,h_ne (λe=>h (by grind))];exact B5u λhm=>h (A0H _ hm)
theorem C5a{H0:Hp}:∀ {is:List Nat} {l:List F4} {n i:Nat} {p:F4},is.Nodup->is[n]? = some i->l[n]? = some p->A1l H0 is l i=some (bdB p.2)
 |i::is,p::l,0,_,_,_,h1,h2=>by simp_all[A1l,A0]
 |i::is,p::l,n+1,j,q,hn,h1,h2=>by
  obtain⟨a,b⟩:=A3L.1 hn;have hm:j∈is:=A0S h1;rw[A1l,h_ne (λe=>a (by grind))];exact C5a b h1 h2
theorem B3z{H0:Hp}{j:Nat}{B:Blk}:∀ {is:List Nat} {l:List F4},A1l H0 is l j=some B->H0 j=some B\/∃(n:Nat) (p:F4),is[n]? = some j/\l[n]? = some p/\B=bdB p.2
 |[],_,h=>.inl h
 |_::_,[],h=>.inl h
 |i::is,p::l,h=>by
  rw[A1l]at h;by_cases e:j=i
  ·subst e;rw[A0]at h;cases h;exact .inr ⟨0,p,rfl,rfl,rfl⟩
  ·rw[h_ne e]at h;rcases B3z h with h|⟨n,q,a,b,c⟩
   ·grind
   ·exact .inr ⟨n+1,q,a,b,c⟩
section
variable {H0 X:Hp} {o:Option Nat} {is:List Nat} {l:List F4} {c c':Nat}
theorem D7g(h:PN H0 o is l c){n i:Nat}{p:F4}(h1:is[n]? = some i)(h2:l[n]? = some p):PM H0 o is l i=some (bdB p.2):=by
 rw[PM,A8 (λj hj e=>(h.fi i (A0S h1)).2.2 (by grind))];exact C5a h.nd h1 h2
theorem D7f{i:Nat}(hi:o=some i):PM H0 o is l i=some ⟨5,true,ptC is l⟩:=o9
theorem E7s{j:Nat}(h1:o≠some j)(h2:j ∉ is):PM H0 o is l j=H0 j:=by
 rw[PM,A8 (λi hi e=>h1 (by grind)),B5u h2]
theorem B6h(h:PN H0 o is l c){j:Nat}{B:Blk}(hj:H0 j=some B):PM H0 o is l j=some B:=by
 rw[E7s (λe=>by have:=(h.fo j e).2;grind) (λhm=>by have:=(h.fi j hm).2.1;grind),hj]
theorem E3f(h:PN H0 o is l c){j:Nat}(hj:c<=j):PM H0 o is l j=none:=by
 rw[E7s (λe=>by have:=(h.fo j e).1;omega) (λhm=>by have:=(h.fi j hm).1;omega)];exact h.fr j hj
theorem C2o(h1:∀(n i:Nat) (p:F4),is[n]? = some i->l[n]? = some p->X i=some (bdB p.2))(h2:∀i,o=some i->X i=some ⟨5,true,ptC is l⟩)(h3:∀j B,H0 j=some B->X j=some B):Sub (PM H0 o is l) X:=by
 intro j B hj;rw[PM]at hj;by_cases e:o=some j
 ·subst e;simp only[optH]at hj;rw[A0]at hj;rw[<- hj];exact h2 j rfl
 grind[A8,B3z]
end
theorem A0x:∀ {is:List Nat} {l:List F4},is.length=l.length->(ptC is l).length=l.length*5
 |[],[],_=>rfl
 |i::is,p::l,h=>by
  rw[ptC,A0A,A0x (Nat.succ.inj h)]
  grind
theorem C3o:∀ {is:List Nat} {l:List F4} {is':List Nat} {l':List F4},is.length=l.length->ptC (is++is') (l++l')=ptC is l++ptC is' l'
 |[],[],_,_,_=>rfl
 |i::is,p::l,_,_,h=>by
  rw[List.cons_append,List.cons_append,ptC,ptC,C3o (Nat.succ.inj h),A0O]
theorem C0u:∀ {is:List Nat} {l:List F4} {k i:Nat} {p:F4},is.length=l.length->is[k]? = some i->l[k]? = some p->((ptC is l).drop (k*5)).take 5=pcC p.1 (.slc i 0 p.2.length)
 |i::is,p::l,0,_,_,_,h1,h2=>by grind[ptC]
 |i::is,p::l,k+1,j,q,hl,h1,h2=>by
  have e:(k+1)*5=5+k*5:=b8
  rw[ptC,e, <- A3T];exact C0u (Nat.succ.inj hl) h1 h2
theorem C3n:∀ {is:List Nat} {l:List F4} {k i:Nat} {p q:F4},is.length=l.length->is[k]? = some i->l[k]? = some p->q.1=p.1->∀j,(ptC is l).take (k*5+4)++[.slc j 0 q.2.length]++(ptC is l).drop (k*5+4+1)=ptC (is.set k j) (l.set k q)
 |i::is,p::l,0,_,_,q,_,h1,h2,h3,j=>by grind[ptC]
 |i::is,p::l,k+1,i',p',q,hl,h1,h2,h3,j=>by
  have ih:=C3n (Nat.succ.inj hl) h1 h2 h3 j;rw[A4K,A4K,ptC,ptC, <- ih,show(k+1)*5+4=5+(k*5+4) by omega,show 5+(k*5+4)+1=5+(k*5+4+1) by omega]
  grind
theorem D4u{is:List Nat}{l:List F4}(h:is.length=l.length)(k:Ky)(b:List St)(j:Nat):
  (ptC is l++pcC k .snil).take (l.length*5+4)++[.slc j 0 1]++(ptC is l++pcC k .snil).drop (l.length*5+4+1)=ptC (is++[j]) (l++[(k,[b])]):=by
 have hl:=A0x h;rw[C3o h,List.take_append,List.drop_append,A0J (by omega),A1L (by omega),hl,show l.length*5+4-l.length*5=4 by omega,show l.length*5+4+1-l.length*5=5 by omega,A0O,A0O];rfl
theorem D0o{D:Nat}:∀ {is:List Nat} {n:Nat},is.Nodup->D ∉ is->(is.set n D).Nodup
 |[],_,_,_=>by simp
 |i::is,0,h,hd=>by
  grind
 |i::is,n+1,h,hd=>by
  rw[A4K];obtain⟨h1,h2⟩:=A3L.1 h;refine A3L.2 ⟨λhm=>?_,D0o h2 λhm=>hd (A0H _ hm)⟩
  grind
theorem D0p:∀ {is:List Nat} {k n q:Nat},is.Nodup->is[k]? = some q->is[n]? = some q->k=n
 |i::is,0,0,_,_,_,_=>rfl
 |i::is,0,n+1,q,h,h1,h2=>by
  grind
 |i::is,k+1,0,q,h,h1,h2=>by
  grind
 |i::is,k+1,n+1,q,h,h1,h2=>by rw[D0p (A3L.1 h).2 h1 h2]
theorem C9u{is:List Nat}{l:List F4}{k i:Nat}{p:F4}(hl:is.length=l.length)(h1:is[k]? = some i)(h2:l[k]? = some p):(ptC is l)[k*5+4]? = some (.slc i 0 p.2.length):=by
 have h:=congrArg (λz:List DV=>z[4]?) (C0u hl h1 h2)
 grind
def ixP(k:Ky):List F4->Nat->Int
 |[],_ => -1
 |p::l,n=>if p.1=k then(n:Int) else ixP k l (n+1)
theorem B8i{k:Ky}:∀ {l:List F4} {n:Nat} {x:Int},ixP k l n=x->¬x = -1->∃(m:Nat) (a b:List F4) (q:List (List St)),l=a++(k,q)::b/\m=a.length/\x=((n+m:Nat):Int)/\∀s,N9 k s l=a++(k,q++[s])::b
 |[],n,x,h,hn=>absurd h.symm hn
 |p::l,n,x,h,hn=>by
  rw[ixP]at h;by_cases e:p.1=k
  ·rw[if_pos e]at h;refine⟨0,[],l,p.2,by rw[<- e];rfl,rfl,h.symm,λs=>?_⟩
   simp_all[N9]
  ·rw[if_neg e]at h;obtain⟨m,a,b,q,h1,h2,h3,h4⟩:=B8i h hn;refine⟨m+1,p::a,b,q,by rw[h1];rfl,by rw[h2];rfl,by rw[h3];congr 1;omega,λs=>?_⟩
   simp_all[N9]
theorem B8j{k:Ky}:∀ {l:List F4} {n:Nat},ixP k l n = -1->∀s,N9 k s l=l++[(k,[s])]
 |[],n,h,s=>rfl
 |p::l,n,h,s=>by
  rw[ixP]at h;by_cases e:p.1=k
  ·grind
  ·rw[if_neg e]at h;rw[N9,if_neg e,B8j h s];rfl
theorem D1e{k:Ky}{l:List F4}{p:F4}{n:Nat}(h:l[n]? = some p):ixP k (l.drop n) n=if p.1=k then(n:Int) else ixP k (l.drop (n+1)) (n+1):=by
 rw[List.drop_eq_getElem?_toList_append,h];rfl
section
variable {H0:Hp} {o:Option Nat} {is:List Nat} {l:List F4} {c c' j:Nat} {B:Blk}
theorem E3g(h1:o≠some j)(h2:j ∉ is):(PM H0 o is l).upd j B=PM (H0.upd j B) o is l:=by
 have key:∀(is:List Nat) (l:List F4),j ∉ is->(A1l H0 is l).upd j B=A1l (H0.upd j B) is l:=by
  intro is
  induction is with
  |nil=>intro l _;rfl
  |cons i is ih =>
   intro l h;cases l with
   |nil=>rfl
   |cons p l =>
    rw[A1l,A1l, <- ih l (λhm=>h (A0H _ hm))]
    grind[A0,h_ne]
 unfold PM;rw[<- key is l h2];cases o with
 |none=>rfl
 |some i =>
  have hji:j≠i:=λe=>h1 (by rw[e])
  funext k
  simp only[optH]
  grind[A0,h_ne]
theorem PN.com(h:PN H0 o is l c)(hj:c<=j):(PM H0 o is l).upd j B=PM (H0.upd j B) o is l :=
 E3g (λe=>by have:=(h.fo j e).1;omega) (λhm=>by have:=(h.fi j hm).1;omega)
theorem PN.box(h:PN H0 o is l c)(hj:c<=j)(hc:j<c'):PN (H0.upd j B) o is l c' :=
 ⟨h.len,h.nd,λi hi=>by have:=h.fi i hi;grind[h_ne],λi hi=>by have:=h.fo i hi;grind[h_ne],h.no,λi hi=>by rw[hnO];exact h.fr i (by omega)⟩
theorem PN.le(h:PN H0 o is l c)(hc:c<=c'):PN H0 o is l c' :=
 ⟨h.len,h.nd,λi hi=>by have:=h.fi i hi;grind,λi hi=>by have:=h.fo i hi;grind,h.no,λi hi=>h.fr i (by omega)⟩
theorem B6i(hj:H0 j=none)(h:PN (H0.upd j B) o is l c'):Sub (PM H0 o is l) (PM (H0.upd j B) o is l) :=
 C2o (λn i p h1 h2=>D7g h h1 h2) (λi hi=>D7f hi) (λi Q hQ=>B6h h (by grind[h_ne]))
theorem PN.unbox(h:PN (H0.upd j B) o is l c')(hj:H0 j=none)(hc:c<=c')(hf:∀i,c<=i->H0 i=none):PN H0 o is l c' :=
 ⟨h.len,h.nd,λi hi=>by
  have:=h.fi i hi
  grind[h_ne],λi hi=>by
  have:=h.fo i hi
  grind[h_ne],h.no,λi hi=>hf i (by omega)⟩
end
def PB(n:Nat)(l:List F4):Prop:=l.length<=n/\∀p∈l,p.2.length<=n
theorem PB.add{n:Nat}{k:Ky}{b:List St}:∀ {l:List F4},PB n l->PB (n+1) (N9 k b l)
 |[],_=>⟨by simp[N9],λp hp=>by grind[N9]⟩
 |p::l,⟨h1,h2⟩=>by
  rw[N9];split
  ·refine⟨by simp only[A0G]at h1 ⊢;omega,λq hq=>?_⟩
   grind
  ·have key:∀(n:Nat) (l:List F4),(∀p∈l,p.2.length<=n)->(N9 k b l).length<=l.length+1/\∀p∈N9 k b l,p.2.length<=n+1:=by
    intro n l
    induction l with
    |nil=>intro _;exact⟨by simp[N9],λp hp=>by simp[N9]at hp;subst hp;simp⟩
    |cons p l ih =>
     intro h;obtain⟨i1,i2⟩:=ih λq hq=>h q (A0H _ hq);rw[N9];split
     ·refine⟨by simp only[A0G];omega,λq hq=>?_⟩;rcases A1N.1 hq with rfl|hq
      ·have:=h p A0M;simp only[A0A,A0E];omega
      ·have:=h q (A0H _ hq);omega
     ·refine⟨by simp only[A0G];omega,λq hq=>?_⟩;rcases A1N.1 hq with rfl|hq
      ·have:=h q A0M;omega
      ·exact i2 q hq
   obtain⟨k1,k2⟩:=key n l λq hq=>h2 q (A0H _ hq);refine⟨by simp only[A0G]at h1 ⊢;omega,λq hq=>?_⟩
   grind
theorem PB.le{n m:Nat}{l:List F4}(h:PB n l)(hm:n<=m):PB m l:=⟨by have:=h.1;omega,λp hp=>by have:=h.2 p hp;omega⟩
theorem B8o(nm:List UInt8->Int):∀ {M:List Md} {i k:Nat} {m:Md},M[i]? = some m->hkM nm k (M.take (i+1))=hkM nm k (M.take i)++m.hds.map (hdK nm (k+i))
 |[],_,_,_,h=>m9
 |x::M,0,k,m,h=>by
  grind[hkM]
 |x::M,i+1,k,m,h=>by
  rw[A1A,A1A,hkM,hkM,B8o nm (i:=i) (k:=k+1) h,A0O,show k+1+i=k+(i+1) by omega]
theorem C7t(l:List F4)(q:List KB)(x:KB):J5 l (q++[x])=N9 x.1 x.2 (J5 l q):=by
 grind[J5]
theorem B9v(l:List F4)(a b:List KB):J5 l (a++b)=J5 (J5 l a) b:=by grind[J5]
def K8(t:Tok):Prop:=(t.kind=2->G9 t.text=true)/\(t.kind=5->G9 t.text=false)
theorem D3w{s:List UInt8}(h:G9 s=true):∃c r,s=c::r/\ltB c=true:=by
 have key:∀w∈H5,(match w with|c::_=>ltB c |[]=>false)=true:=by decide +kernel
 grind[G9]
theorem C1d{s:List UInt8}{p:Int}(h:(C3 s).err=0):K8 (nxT (C3 s) p):=by
 unfold K8;cases s with
 |nil=>trivial
 |cons c q =>
  by_cases hl:ltB c=true
  ·by_cases h12:12<F3 ptB (c::q)
   ·rw[C3,if_pos hl,if_pos h12]at h;simp[nxE]at h
   simp_all[C3,if_neg,nxT];omega
  ·by_cases hd:dgB c=true
   ·by_cases h3:1<F3 dgB (c::q)/\c.toNat=48
    ·simp_all[C3,nxE]
    ·by_cases h2:2147483647<S1 ((c::q).take (F3 dgB (c::q)))
     ·rw[C3,if_neg hl,if_pos hd,if_neg h3,if_pos h2]at h;simp[nxE]at h
     simp_all[C3,if_neg,nxT]
   ·by_cases h34:c.toNat=34
    ·cases hq:quM q with
     |none=>simp_all[C3,nxE]
     |some x =>
      obtain⟨t,m⟩:=x;by_cases h32:32<t.length
      ·rw[C3,if_neg hl,if_neg hd,if_pos h34,hq]at h;simp only at h;rw[if_pos h32]at h;simp[nxE]at h
      simp_all[C3,if_neg,nxT]
    ·by_cases hs:L0 (c::q)=0
     ·simp_all[C3,nxE]
     ·rw[C3,if_neg hl,if_neg hd,if_neg h34,if_neg hs,nxT];refine⟨λhk=>m9,λ_=>?_⟩;simp only;cases hz:G9 ((c::q).take (L0 (c::q))) with
      |false=>rfl
      |true =>
       obtain⟨d,r,h1,h2⟩:=D3w hz;obtain⟨k,hk⟩:∃k,L0 (c::q)=k+1:=⟨L0 (c::q)-1,by omega⟩<;>simp_all
theorem C5y{s:List UInt8}(h:(H4 s).2.2=0):∀t∈(H4 s).1,K8 t:=λt ht=>by
 obtain⟨s,p,h1,rfl⟩:=B4y h t ht
 grind[C1d]
def L7(x:List UInt8):Nat->List (List UInt8)->Int
 |_,[] => -1
 |k,w::l=>if(x==w)=true then(k:Int) else L7 x (k+1) l
theorem B1k(x:List UInt8):∀(l:List (List UInt8)) (k:Nat),(L7 x k l = -1/\l.contains x=false)\/((k:Int)<=L7 x k l/\L7 x k l<((k+l.length:Nat):Int)/\l.contains x=true)
 |[],k=>.inl ⟨rfl,rfl⟩
 |w::l,k=>by
  have:=B1k x l (k+1);unfold L7
  grind
section
variable {L:List Tok} {E:Int}
def isP(L:List Tok)(E:Int)(s:Rd)(k:Int)(l:List (List UInt8)):Bool:=okR s&&(A4 L E s).kind==k&&l.contains (A4 L E s).text
theorem B3l(hK:∀t∈L,K8 t)(s:Rd):K8 (A4 L E s):=by
 by_cases h:(A4 L E s).kind=0
 ·grind[K8]
 ·exact hK _ (J1 h rfl).1
theorem X9(hK:∀t∈L,K8 t){s:Rd}{w:List UInt8}(hw:G9 w=true):isR L E s w=isP L E s 2 [w]:=by
 have:=B3l (E:=E) hK s;unfold isR isP;generalize A4 L E s=t at *;cases okR s<;>simp only[A2A,A3H];by_cases ht:t.text=w
 ·subst ht;have h5:t.kind≠5:=λh=>by rw[this.2 h]at hw;cases hw
  simp[h5]
 grind
theorem I4(hK:∀t∈L,K8 t){s:Rd}{w:List UInt8}(hw:G9 w=false):isR L E s w=isP L E s 5 [w]:=by
 have:=B3l (E:=E) hK s;unfold isR isP;generalize A4 L E s=t at *;cases okR s<;>simp only[A2A,A3H];by_cases ht:t.text=w
 ·subst ht;have h5:t.kind≠2:=λh=>by rw[this.1 h]at hw;cases hw
  simp[h5]
 grind
theorem B2m{s:Rd}{k:Int}:∀ {l:List (List UInt8)},(∀w∈l,isR L E s w=isP L E s k [w])->(okR s&&(A4 L E s).kind==k)=false->∀j,A0q L E s j l = -1
 |[],_,_,_=>rfl
 |w::l,h,h0,j=>by
  have h1:=h w (A0M);have:isP L E s k [w]=false:=by grind[isP]
  rw[A0q,h1,this,if_neg (by simp)];exact B2m (λw hw=>h w (A0H _ hw)) h0 (j+1)
theorem A1f{s:Rd}{k:Int}:∀ {l:List (List UInt8)},(∀w∈l,isR L E s w=isP L E s k [w])->(okR s&&(A4 L E s).kind==k)=true->∀j,A0q L E s j l=L7 (A4 L E s).text j l
 |[],_,_,_=>rfl
 |w::l,h,h0,j=>by
  have h1:=h w (A0M);have:isP L E s k [w]=((A4 L E s).text==w):=by unfold isP;grind
  rw[A0q,L7,h1,this,A1f (λw hw=>h w (A0H _ hw)) h0 (j+1)]
theorem A9s{s:Rd}{k:Int}{l:List (List UInt8)}(h:∀w∈l,isR L E s w=isP L E s k [w]):isP L E s k l=decide (0<=B8 L E s l):=by
 unfold B8 isP;cases h0:(okR s&&(A4 L E s).kind==k) with
 |false=>rw[B2m h h0];rfl
 |true =>
  rw[A1f h h0];rcases B1k (A4 L E s).text l 0 with ⟨h1,h2⟩|⟨h1,h2,h3⟩<;>simp_all
theorem A5c(hK:∀t∈L,K8 t)(s:Rd){l:List (List UInt8)}(h:l.all G9=true):∀w∈l,isR L E s w=isP L E s 2 [w]:=λw hw=>X9 hK (A0V.1 h w hw)
theorem C0k(hK:∀t∈L,K8 t)(s:Rd){l:List (List UInt8)}(h:l.all (λw => !G9 w)=true):∀w∈l,isR L E s w=isP L E s 5 [w]:=λw hw=>I4 hK (by grind)
def pfl(L:List Tok)(E:Int)(s:Rd)(e:Int):Rd:=L9 s (A4 L E s).pos e
theorem Z7{s:Rd}{n m e:Int}:D3 L E s n m e=if m<n then pfl L E s e else s:=rfl
def H8(L:List Tok)(E:Int)(s:Rd)(k:Int)(w:List UInt8):Rd:=if isP L E s k [w]=false then pfl L E s 4 else A6 s
structure Eqv (s m:Rd):Prop where
 e:s.e=m.e
 p:s.pos=m.pos
 s:okR m=true->s=m
theorem Eqv.refl(s:Rd):Eqv s s:=⟨rfl,rfl,λ_=>rfl⟩
theorem Eqv.ok{s m:Rd}(h:Eqv s m):okR s=okR m:=by unfold okR;rw[h.e]
theorem Eqv.cas{s m:Rd}(h:Eqv s m):(s=m/\okR m=true)\/(okR s=false/\okR m=false):=by
 cases k:okR m with
 |true=>exact .inl ⟨h.s k,rfl⟩
 |false=>exact .inr ⟨by rw[h.ok,k],rfl⟩
theorem A0z{s:Rd}{e:Int}(h:okR s=false):pfl L E s e=s:=by grind[pfl,L9]
theorem C4p{s:Rd}{k:Int}{l:List (List UInt8)}(h:okR s=false):isP L E s k l=false:=by grind[isP]
theorem D6a{s:Rd}{w:List UInt8}(h:okR s=false):isR L E s w=false:=by grind[isR]
theorem C4q{s:Rd}{k:Int}(h:okR s=false):I9 L E s k=false:=by grind[I9]
theorem B0a{s:Rd}{k:Int}{w:List UInt8}(h:okR s=false):H8 L E s k w=s:=by simp_all[H8,C4p,A0z]
theorem A9f{s:Rd}(h:okR s=false):R6 L E s=s:=A0z h
theorem D5p{s:Rd}{n m e:Int}(h:okR s=false):D3 L E s n m e=s:=by grind[Z7,A0z]
theorem A6q{s:Rd}{w:List UInt8}(h:okR s=false):D9 L E s w=s:=by simp_all[D9,D6a,A9f]
theorem C8l{s:Rd}{k:Int}(h:okR s=false):A7 L E s k=(V1,s):=by simp_all[A7,C4q,A9f]
theorem Eqv.want{s m:Rd}{k:Int}{w:List UInt8}(h:Eqv s m)(hw:∀s:Rd,isR L E s w=isP L E s k [w]):Eqv (H8 L E s k w) (D9 L E m w):=by
 rcases h.cas with ⟨rfl,_⟩|⟨h1,h2⟩
 ·unfold H8 D9;rw[hw];exact .refl _
 grind[B0a,A6q]
theorem Eqv.take{s m:Rd}{k:Int}(h:Eqv s m):Eqv (A7 L E s k).2 (A7 L E m k).2/\(A7 L E s k).1=(A7 L E m k).1:=by
 rcases h.cas with ⟨rfl,_⟩|⟨h1,h2⟩<;>simp_all[refl,C8l]
theorem Eqv.bad{s m:Rd}(e:s.e=m.e)(p:s.pos=m.pos)(h:okR m=false):Eqv s m:=⟨e,p,λk=>by grind⟩
structure PI (L:List Tok) (s:Rd):Prop where
 i:s.i<=L.length
 o0:0<=s.ops
 o1:s.ops<=32
 p0:0<=s.par
 p1:s.par<=16
theorem B0t{s:Rd}{e:Int}:(pfl L E s e).i=s.i/\(pfl L E s e).ops=s.ops/\(pfl L E s e).par=s.par:=by grind[pfl,L9]
theorem PI.fl{s:Rd}{e:Int}(h:PI L s):PI L (pfl L E s e):=by
 obtain⟨h1,h2,h3⟩:=B0t (L:=L) (E:=E) (s:=s) (e:=e);exact⟨by rw[h1];exact h.i,by rw[h2];exact h.o0,by rw[h2];exact h.o1,by rw[h3];exact h.p0,by rw[h3];exact h.p1⟩
theorem U2{s:Rd}{k:Int}{l:List (List UInt8)}(hk:k≠0)(h:isP L E s k l=true):okR s=true/\s.i<L.length/\(A4 L E s).kind=k:=by
 unfold isP at h;simp only[A0F,A1T]at h;exact⟨h.1.1,(J1 hk h.1.2).2,h.1.2⟩
theorem PI.nxt{s:Rd}(h:PI L s)(hi:s.i<L.length):PI L (A6 s):=⟨hi,h.o0,h.o1,h.p0,h.p1⟩
theorem PI.want{s:Rd}{k:Int}{w:List UInt8}(hk:k≠0)(h:PI L s):PI L (H8 L E s k w)/\(H8 L E s k w).par=s.par:=by
 unfold H8;cases q:isP L E s k [w] with
 |false=>rw[if_pos rfl];exact⟨h.fl,B0t.2.2⟩
 |true=>rw[if_neg (by simp)];exact⟨h.nxt (U2 hk q).2.1,rfl⟩
theorem PI.take{s:Rd}{x:Int}(hx:x≠0)(h:PI L s):PI L (A7 L E s x).2/\(A7 L E s x).2.par=s.par:=by
 unfold A7;cases k:I9 L E s x with
 |false=>rw[if_pos rfl];exact⟨h.fl,B0t.2.2⟩
 |true=>rw[if_neg (by simp)];exact⟨h.nxt (J1 hx (J7 k).2).2,rfl⟩
theorem B0q{s:Rd}(h:okR s=false):I7 L E s=(Ex0,s):=by
 simp_all[I7,B8,A2q,C4q,A9f]
theorem EN.all:∀f:Nat,(∀n s r,J6 L E f n s=some r->okR s=false->r=(Ex0,s))/\(∀n e s r,R2 L E f n e s=some r->okR s=false->r=(e,s))/\(∀s r,R5 L E f s=some r->okR s=false->r=(Ex0,s))
 |0=>⟨λn s r h=>(by trivial),λn e s r h=>(by trivial),λs r h=>(by trivial)⟩
 |f+1=>by
  obtain⟨ib,il,iu⟩:=EN.all f;refine⟨λn s r h ho=>?_,λn e s r h ho=>?_,λs r h ho=>?_⟩
  ·grind[J6]
  ·unfold R2 at h;dsimp only at h;rw[B8,A2q ho,if_pos (.inl (by decide))]at h
   grind
  ·unfold R5 at h;dsimp only at h;rw[B8,A2q ho,if_pos (by decide),B0q ho]at h
   grind
theorem D2b{f:Nat}{s:Rd}{r:Ex × Rd}(h:L3 L E f s=some r)(ho:okR s=false):r=(Ex0, { s with ops:=0,par:=0 }):=(EN.all f).1 _ _ _ h ho
theorem D4i{f:Nat}{d:Int}{s:Rd}{r:St × Rd}(h:O8 L E f d s=some r)(ho:okR s=false):r=(St0,s):=by
 cases f<;>simp_all[O8,D5p]
theorem D6x{f:Nat}{d:Int}{l:List St}{s:Rd}{r:List St × Rd}(h:R4 L E f d l s=some r)(ho:okR s=false):r=(l,s):=by
 cases f<;>simp_all[R4,A6q]
theorem D6z{f:Nat}{d:Int}{s:Rd}{r:List St × Rd}(h:K5 L E f d s=some r)(ho:okR s=false):r=([],s):=by
 cases f<;>grind[K5,A6q,D6x]
theorem Eqv.isP{s m:Rd}{k:Int}{l:List (List UInt8)}(h:Eqv s m):isP L E s k l=isP L E m k l:=by
 rcases h.cas with ⟨rfl,_⟩|⟨h1,h2⟩<;>simp_all[C4p]
theorem Eqv.par{s m:Rd}{a b:Int}(h:Eqv s m)(hab:okR m=true->a=b):Eqv { s with par:=a } { m with par:=b }:=by
 refine⟨h.e,h.p,λk=>?_⟩;have:=h.s k;subst this;rw[hab k]
theorem C2l(hK:∀t∈L,K8 t){m:Rd}{w:List UInt8}(hp:isP L E m 5 [w]=true)(l:List (List UInt8))(hl:l.all (λw => !G9 w)=true):B8 L E m l=L7 w 0 l:=by
 have ho:(okR m&&(A4 L E m).kind==5)=true:=by simp_all[Go.Pb.isP]
 have ht:(A4 L E m).text=w:=by
  simp_all[Go.Pb.isP]
 rw[B8,A1f (C0k hK m hl) ho,ht]
theorem E0l(hK:∀t∈L,K8 t){m:Rd}(h1:isP L E m 5 [[45],[33]]=false)(h2:isP L E m 5 [[40]]=false):B8 L E m O9<0:=by
 have:=A9s (E:=E) (C0k hK m (l:=O9) (by decide +kernel));have h3:isP L E m 5 O9=false:=by
  unfold Go.Pb.isP at h1 h2 ⊢;unfold O9;cases ho:(okR m&&(A4 L E m).kind==5) with
  |false=>rfl
  |true=>rw[ho]at h1 h2;simp only[A4M,List.contains_nil,A2A,Bool.or_false,A4G]at h1 h2 ⊢;exact⟨h1.1,h1.2,h2⟩
 grind
theorem D6b{m:Rd}{a b:List UInt8}(h:isP L E m 5 [a,b]=true):isP L E m 5 [a]=true\/isP L E m 5 [b]=true:=by
 simp_all[Go.Pb.isP]
theorem C1p{m:Rd}{k:Int}{w:List UInt8}(hp:isP L E m k [w]=true):(A4 L E m).text=w:=by
 simp_all[Go.Pb.isP]
def lkI(ks:List (List UInt8))(vs:List Int)(x:List UInt8):Int:=if L7 x 0 ks = -1 then 0 else vs.getD (L7 x 0 ks).toNat 0
def C6l(k:Int):Bool:=k==5||k==6||k==7
def lfK(t:Tok):Int × Int × List UInt8:=if t.kind=3 then(1,t.value,[]) else if t.kind=1 then(2,0,t.text) else if t.kind=2 then(lkI K7 V9 t.text,0,[]) else(0,0,[])
def B8g(L:List Tok)(E:Int)(s:Rd):Ex × Rd :=
 let q:=lfK (A4 L E s)
 if q.1=0 then(Ex0,pfl L E s 4)
 else if 32<s.ops+1 then(Ex0,D3 L E { s with ops:=s.ops+1 } (s.ops+1) 32 9)
 else
  let s3:Rd:={ s with i:=s.i+1,ops:=s.ops+1 }
  if C6l q.1=true then(.mk q.1 0 (A7 L E s3 1).1.text [] (A4 L E s).pos,(A7 L E s3 1).2) else(.mk q.1 q.2.1 q.2.2 [] (A4 L E s).pos,s3)
theorem A1k{s:Rd}{n m e:Int}(h:¬m<n):D3 L E s n m e=s:=by simp_all[D3,if_neg]
theorem A9r{s:Rd}{n m e:Int}(h:m<n)(he:e≠0):okR (D3 L E s n m e)=false:=by simp_all[D3,Q9]
theorem D1a{s:Rd}{b n m e:Int}(h:m<n)(ho:okR s=true):D3 L E ({ s with ops:=b }:Rd) n m e=({ s with ops:=b,e:=e,pos:=(A4 L E s).pos }:Rd):=by
 unfold D3 L9;rw[if_pos h,if_pos (show okR ({ s with ops:=b }:Rd)=true from ho)];rfl
theorem C9z{s:Rd}{e:Int}(ho:okR s=true):pfl L E s e=({ s with e:=e,pos:=(A4 L E s).pos }:Rd):=by simp_all[pfl,L9]
theorem B3k(hK:∀t∈L,K8 t){s:Rd}(ho:okR s=true):I7 L E s=B8g L E s:=by
 have hw:=A5c (E:=E) hK s (l:=K7) (by rfl);have hki:∀k,I9 L E s k=((A4 L E s).kind==k):=λk=>by grind[I9]
 unfold I7 B8g lfK;dsimp only;have hok2:okR ({ s with ops:=s.ops+1 }:Rd)=true:=ho;have pos2:∀b:Int,A4 L E ({ s with ops:=b }:Rd)=A4 L E s:=λ_=>rfl;by_cases h2:(A4 L E s).kind=2
 ·have ha:B8 L E s K7=L7 (A4 L E s).text 0 K7:=A1f hw (by grind) 0;rw[ha,hki,hki,h2];have hl:=B1k (A4 L E s).text K7 0;generalize (A4 L E s).text=x at *;simp only[show((2:Int)==3)=false from rfl,show((2:Int)==1)=false from rfl,show ¬(2:Int)=3 by simp,show ¬(2:Int)=1 by simp,if_false,if_true,and_true];unfold lkI;rcases hl with ⟨h3, -⟩|⟨h3,h4, -⟩
  ·rw[h3];rfl
  ·have h5:L7 x 0 K7<7:=by assumption
   have h6:(0:Int)<=L7 x 0 K7:=h3;generalize L7 x 0 K7=k at *;have hv:V9.getD k.toNat 0≠0/\(C6l (V9.getD k.toNat 0)=true↔4<=k):=by
    have:k=0\/k=1\/k=2\/k=3\/k=4\/k=5\/k=6:=b8
    rcases this with rfl|rfl|rfl|rfl|rfl|rfl|rfl<;>decide
   have g1:¬k<0:=b8
   have g2:¬k = -1:=b8
   simp only[g1,g2,h6,hv.1,if_false,if_true];by_cases ho:32<s.ops+1
   ·simp_all[A9r]
   ·simp only[ho,if_false,A1k ho,hok2,reduceCtorEq];by_cases h4:4<=k
    ·simp only[h4,hv.2.2 h4,if_true];rfl
    ·have h7:¬C6l (V9.getD k.toNat 0)=true:=λh=>h4 (hv.2.1 h);simp only[h4,h7,if_false];rfl
 ·have ha:B8 L E s K7 = -1:=B2m hw (by grind) 0;rw[ha,hki,hki];by_cases h3:(A4 L E s).kind=3
  ·simp only[h3,if_true,show((3:Int)==3)=true from rfl,reduceCtorEq,false_and,and_false,if_false,show ¬(0:Int) <= -1 by simp,show ¬(1:Int)=0 by simp];by_cases ho:32<s.ops+1
   ·simp_all[A9r]
   ·rw[if_neg ho,A1k ho,if_neg (by grind)];rfl
  ·by_cases h1:(A4 L E s).kind=1
   ·simp only[h1,show ¬(1:Int)=3 by simp,if_true,show((1:Int)==1)=true from rfl,reduceCtorEq,and_false,if_false,show ¬(0:Int) <= -1 by simp,show ¬(2:Int)=0 by simp];by_cases ho:32<s.ops+1
    ·simp_all[A9r]
    ·rw[if_neg ho,A1k ho,if_neg (by grind)];rfl
   ·have e3:((A4 L E s).kind==3)=false:=by grind
    have e1:((A4 L E s).kind==1)=false:=m9
    rw[e3,e1,if_pos ⟨by simp,rfl,rfl⟩,if_neg h3,if_neg h1,if_neg h2,if_pos rfl];rfl
def B7t:List Int:=[12,13,14,15,16,17,18,19,20,21,22,23,24]
def C0g:List Int:=[2,3,4,5,6,7,8,9,10,11,12,13,14,15,16,17,18,19]
theorem D0y{ks:List (List UInt8)}{vs:List Int}{b:Int}(hv:∀j:Nat,j<ks.length->vs.getD j 0=b+j)(x:List UInt8):(L7 x 0 ks = -1/\lkI ks vs x=0)\/(0<=L7 x 0 ks/\L7 x 0 ks<ks.length/\lkI ks vs x=b+L7 x 0 ks):=by
 unfold lkI;rcases B1k x ks 0 with ⟨h1, -⟩|⟨h1,h2, -⟩<;>grind
theorem E1e(hK:∀t∈L,K8 t){s:Rd}{n:Int}(ho:okR s=true)(h1:1<=n)(h5:n<=5):
  ((B8 L E s D2<0\/B9 (12+B8 L E s D2)≠n)↔((A4 L E s).kind≠5\/B9 (lkI D2 B7t (A4 L E s).text)≠n)) /\
  (0<=B8 L E s D2->lkI D2 B7t (A4 L E s).text=12+B8 L E s D2/\(A4 L E s).kind=5/\B8 L E s D2<13):=by
 have hs:=C0k (E:=E) hK s (l:=D2) (by rfl);by_cases hk:(A4 L E s).kind=5
 ·have ha:B8 L E s D2=L7 (A4 L E s).text 0 D2:=A1f hs (by rw[ho,hk];rfl) 0;rw[ha];have h7:B9 0=7:=rfl;have hlen:D2.length=13:=rfl;rcases D0y (vs:=B7t) (b:=12) (by decide +kernel) (ks:=D2) (A4 L E s).text with ⟨h2,h3⟩|⟨h2,h3,h4⟩<;>grind
 ·have ha:B8 L E s D2 = -1:=B2m hs (by simp[hk]) 0;omega
def B2j(L:List Tok)(E:Int)(s:Rd):Bool:=okR s&&((A4 L E s).kind==1||((A4 L E s).kind==2&&lkI C5 C0g (A4 L E s).text != 0))
theorem C0f(hK:∀t∈L,K8 t){s:Rd}(ho:okR s=true):
  (0<=B8 L E s C5->(A4 L E s).kind=2/\lkI C5 C0g (A4 L E s).text=2+B8 L E s C5/\B8 L E s C5<18) /\
  (B8 L E s C5<0->(A4 L E s).kind=2->lkI C5 C0g (A4 L E s).text=0):=by
 have hs:=A5c (E:=E) hK s (l:=C5) (by rfl);by_cases hk:(A4 L E s).kind=2
 ·have ha:B8 L E s C5=L7 (A4 L E s).text 0 C5:=A1f hs (by rw[ho,hk];rfl) 0;rw[ha];have hlen:C5.length=18:=rfl;rcases D0y (vs:=C0g) (b:=2) (by decide +kernel) (ks:=C5) (A4 L E s).text with ⟨h2,h3⟩|⟨h2,h3,h4⟩<;>grind
 ·have ha:B8 L E s C5 = -1:=B2m hs (by simp[hk]) 0;omega
theorem C5i(hK:∀t∈L,K8 t){s:Rd}:B2j L E s=true↔okR s=true/\(0<=B8 L E s C5\/I9 L E s 1=true):=by
 unfold B2j I9;cases ho:okR s with
 |false=>simp
 |true =>
  obtain⟨h1,h2⟩:=C0f (E:=E) hK ho<;>grind
end
end Go.Pb
namespace Go.Sym
variable [Go.Sym.Tab]
open Go.Eng (J9)
open Go.RowKit
variable {P:Program}
theorem PC.of_callsF{f:Nat}{args:List DV}{r:DV}(hc:J9 P f=true)(na:DV.nlL args=true)(nr:r.nl=true)
  (h:∀(ρ:Ren) (w:World) (vs:Array Value),(∀b r, ρ.fz b=some r->∃e fr,w.heap[b]? = some (.cells r e fr))->I1 ρ args vs ->
   Calls P f vs w λe w' => ∃v' b row ty fr,e=.returned v'/\w.heap.size<=b/\w'.heap[b]? = some (.cells row ty fr)/\(∀ ρ':Ren, ρ'.fz b=some row->VRel ρ' r v')/\Below w.heap.size w w'):PC P f args r:=by
 refine⟨na,nr,hc,fun ρ w vs hR hf hA=>?_⟩;refine(h ρ w vs hR.frz hA).mono ?_;rintro e w' ⟨v',b,row,ty,fr,rfl,hb,hrow,hv,b1,b2,b3,b4,b5⟩;have hnone : ρ.fz b=none:=by
  cases hz : ρ.fz b with
  |none=>rfl
  |some r=>have:=hR.flt hz;omega
 have hfz:(ρ.frz b row hnone).fz b=some row:=by simp[Ren.frz]
 refine⟨r,v',nil,0, ρ.frz b row hnone,rfl,rfl,hv _ hfz,⟨λid b h=>(by cases h),λi j bi bj ti tj h=>(by cases h),λk r' hk=>?_,λid b t h=>(by cases h),λk r' hk=>⟨?_,λid b t h=>(by cases h)⟩⟩,hf,A0D _,λid hid h=>absurd rfl h,λ_ _=>rfl,
  ⟨Ren.le_frz hnone,b1,b2,b3,b4,λk hk _=>b5 k hk,λid b t h1=>(by cases h1),λk r' hk=>?_,λk r h=>.inl h⟩⟩
 ·simp only[Ren.frz]at hk;split at hk
  ·grind
  ·obtain⟨e,fr,h1⟩:=hR.frz k r' hk
   grind
 ·obtain⟨⟨cl,h1,hst⟩, -⟩:=hR.frm k r' hk
  grind
 ·simp only[Ren.frz]at hk
  grind
theorem VRel.strs{ρ:Ren}{l:List (List UInt8)}{b n c:Nat}(h : ρ.fz b=some ((l.map λs=>Value.string ⟨s.toArray⟩).toArray))(hn:n=l.length)(hc:n<=c)(hm:c<=maxLen):
  VRel ρ (.lst (l.map DV.str)) (.slice (some ⟨b,0,none⟩) n c):=by
 have hcl:cellsL (l.map DV.str)=l.map DV.str:=by
  clear h hn
  induction l with
  |nil=>rfl
  |cons x r ih =>
   have:cellsL ((x::r).map DV.str)=[DV.str x]++cellsL (r.map DV.str):=rfl
   grind
 refine .lst _ n 1 b 0 c _ h (by grind) hc hm (λx hx=>by obtain⟨y, -,rfl⟩:=A1D.1 hx;rfl) ?_ ?_ ?_
 ·grind
 ·rw[hcl];intro d hd;obtain⟨y, -,rfl⟩:=A1D.1 hd;rfl
 ·rw[hcl];intro k d v hd hv;rw[A1G]at hd;obtain⟨s,hs,rfl⟩:=A0T.1 hd;simp only[A1I,A1Y,A1G,hs,A3K,Option.some.injEq]at hv;subst hv;exact .mkStr
end Go.Sym
namespace Go.Pb
variable [Go.Sym.Tab]
open Go.Sym
variable {nm:List UInt8->Int}
def A2b(nm:List UInt8->Int)(s:St)(x:Cg):Cg:=(x.1++(cgS nm x.1.length x.2 s).1,(cgS nm x.1.length x.2 s).2)
def I0(nm:List UInt8->Int)(l:List St)(x:Cg):Cg:=(x.1++(cgB nm x.1.length x.2 l).1,(cgB nm x.1.length x.2 l).2)
theorem P1(x:Cg):I0 nm [] x=x:=by simp[I0,cgB]
theorem A8a(s:St)(l:List St)(x:Cg):I0 nm (s::l) x=I0 nm l (A2b nm s x):=by
 grind[I0,A2b,cgB]
theorem U6:∀(a b:List St) (x:Cg),I0 nm (a++b) x=I0 nm b (I0 nm a x)
 |[],b,x=>by grind[P1]
 |s::a,b,x=>by rw[List.cons_append,A8a,A8a,U6 a b]
theorem B4j{l:List St}{k:Nat}{s:St}(h:l[k]? = some s)(x:Cg):I0 nm (l.take (k+1)) x=A2b nm s (I0 nm (l.take k) x):=by
 grind[List.take_add_one,U6,A8a,P1]
def B9w(x y:Cg):Prop:=x.1.length<=y.1.length/\x.2.length<=y.2.length
theorem B6c(l:List St)(x:Cg):B9w x (I0 nm l x):=⟨by simp[I0],A2o nm l _ _⟩
theorem D6s(s:St)(x:Cg):B9w x (A2b nm s x):=⟨by simp[A2b],D3c nm s _ _⟩
theorem B4i(l:List St)(k:Nat)(x:Cg):B9w (I0 nm (l.take k) x) (I0 nm l x):=by
 grind[U6,List.take_append_drop,B6c]
def CgB(x:Cg):Prop:=x.1.length<=99999999/\x.2.length<=99999999
theorem B9w.bnd{x y:Cg}(h:B9w x y)(hy:CgB y):CgB x:=⟨A1B h.1 hy.1,A1B h.2 hy.2⟩
section
variable {k:Int} {n t:List UInt8} {a:List Ex} {u v:List St} {q:Int} {x x1:Cg}
theorem B2a(h1:x1=(x.1++G6 nm a,x.2))(hv:v.length=0):A2b nm (.mk 2 n t a u v q) x =
  (x1.1++⟨13,((x1.1++(⟨13,0⟩:Ins)::(cgB nm (x1.1.length+1) x1.2 u).1).length:Int)⟩::(cgB nm (x1.1.length+1) x1.2 u).1,(cgB nm (x1.1.length+1) x1.2 u).2):=by
 simp_all[A2b,cgS];omega
theorem B1z(h1:x1=(x.1++G6 nm a,x.2))(hv:¬v.length=0){T:Cg}(hT:T=cgB nm (x1.1.length+1) x1.2 u){W:Cg}(hW:W=cgB nm (x1.1.length+1+T.1.length+1) T.2 v):A2b nm (.mk 2 n t a u v q) x =
  ((x1.1++⟨13,((x1.1.length+1+T.1.length+1:Nat):Int)⟩::T.1)++⟨12,((x1.1.length+1+T.1.length+1+W.1.length:Nat):Int)⟩::W.1,W.2):=by
 simp_all[A2b,cgS]
theorem B1x(h1:x1=(x.1++G6 nm a,x.2)){T:Cg}(hT:T=cgB nm (x1.1.length+1) x1.2 u):A2b nm (.mk 3 n t a u v q) x =
  (x1.1++⟨14,((x1.1.length+1+T.1.length+1:Nat):Int)⟩::(T.1++[⟨12,(x1.1.length:Int)⟩]),T.2):=by
 simp_all[A2b,cgS]
theorem B1w(h1:x1=(x.1++G6 nm a,x.2)):A2b nm (.mk 18 n t a u v q) x=(x1.1++[⟨29,((txS x1.2 t).1:Int)⟩],(txS x1.2 t).2):=by
 simp_all[A2b,cgS]
theorem B1y(h1:x1=(x.1++G6 nm a,x.2))(h2:¬k=2)(h3:¬k=3)(h18:¬k=18):A2b nm (.mk k n t a u v q) x=(x1.1++[⟨Pb.stOp k,nm n⟩],x1.2):=by
 simp_all[A2b,cgS]
theorem B4h(s:St)(x:Cg):B9w (x.1++G6 nm s.args,x.2) (A2b nm s x):=by
 obtain⟨k,n,t,a,u,v,q⟩:=s;refine⟨?_,show x.2.length<=_ from(D6s _ _).2⟩;simp only[St.args];by_cases h2:k=2
 ·subst h2;by_cases hv:v.length=0
  ·rw[B2a rfl hv];simp
  simp_all[B1z]
 ·by_cases h3:k=3
  ·simp_all[B1x]
  ·by_cases h18:k=18
   ·subst h18;rw[B1w rfl];simp
   simp_all[B1y]
end
section
variable {H0:Hp} {t c i d:Nat} {b:Option Nat} {mk:DV->DV->List DV} {l r:List Ins} {S:List (List UInt8)} {op k z:Int}
theorem E3i(h:GN H0 t (some i) b (l++⟨op,k⟩::r,S) c)(z:Int):(GM H0 t (some i) b mk (l++⟨op,k⟩::r,S)).upd i ⟨2,true,A0t (l++⟨op,z⟩::r)⟩=GM H0 t (some i) b mk (l++⟨op,z⟩::r,S):=by
 have h2:=h.ha i rfl;have h':GN H0 t (some i) b (l++⟨op,z⟩::r,S) c:=h.keep (A0D _) (λe=>by grind) (λe=>h.bn e)
 funext j
 by_cases e:j=i
 ·grind[A0,A5q]
 ·rw[h_ne e];by_cases et:j=t
  ·subst et;rw[A0c h,A0c h'];simp
  ·by_cases eb:b=some j
   ·grind[A8j]
   ·rw[D3u et (λq=>e (by grind)) eb,D3u et (λq=>e (by grind)) eb]
theorem C5n(h:GN H0 t (some i) b (l++⟨op,k⟩::r,S) c)(z:Int):stB (GM H0 t (some i) b mk (l++⟨op,k⟩::r,S)) d i 1 (l.length*2+1) (I64 z) (some ⟨2,true,A0t (l++⟨op,k⟩::r)⟩)=some (.tup [],GM H0 t (some i) b mk (l++⟨op,z⟩::r,S),d):=by
 have hcl:=A3k (l++⟨op,k⟩::r);have hle:l.length<(l++(⟨op,k⟩:Ins)::r).length:=by simp
 exact(A3c (i:=1) rfl (by omega) rfl).trans (by rw[B8k,E3i h])
theorem GN.mend(h:GN H0 t (some i) b (l++⟨op,k⟩::r,S) c)(z:Int):GN H0 t (some i) b (l++⟨op,z⟩::r,S) c:=h.keep (A0D _) (λe=>by grind) (λe=>h.bn e)
theorem GN.some{a:Option Nat}{i0:Ins}(h:GN H0 t a b (l++i0::r,S) c):∃i,a=some i:=by
 cases a with
 |none=>have:=h.an rfl;simp_all
 |some i=>simp
end
end Go.Pb
namespace Go.Sym
variable [Go.Sym.Tab]
variable {P:Program}
theorem AC.own{f:Nat}{args:List DV}{V:Nat->DV}{u:Nat}{cs:List DV}(h:AC P f args nil 0 (λv H' _ => ∃id,v=V id/\H'=nil.upd id ⟨u,true,cs⟩))(hn:DV.nlL args=true)(hcs:∀d∈cs,d.nl=true)
  (hV:∀(ρ ρ':Ren) (id id':Nat) (v:Value), ρ.nm id = ρ'.nm id'->((∀b r, ρ.fz b=some r -> ρ'.fz b=some r)/\∀b r, ρ.fm b=some r -> ρ'.fm b=some r)->VRel ρ (V id) v->VRel ρ' (V id') v) (H:Hp) (c:Nat) :
  AC P f args H c (λv H' c'=>v=V c/\H'=H.upd c ⟨u,true,cs⟩/\c'=c+1):=by
 refine⟨h.1,fun ρ w vs hR hf hA=>?_⟩;refine(h.2 ⟨λ_=>none, ρ.fz, ρ.tab, ρ.fm⟩ w vs hR.nil (λ_ _=>rfl) (hA.nl (ρ := ρ) (ρ':=⟨λ_=>none, ρ.fz, ρ.tab, ρ.fm⟩) (λ_ _ h=>h) (λ_ _ h=>h) hn)).mono ?_;rintro e w' ⟨v,v',H1,c1, ρ1,rfl,⟨id,rfl,rfl⟩,d⟩;have hb:=d.ext.below (λid b hb=>by cases hb);obtain⟨b1,b2,b3,b4,b5⟩:=hb;obtain⟨t,ht,hbr⟩:=d.rep.blk id _ A0;have hsz:w.heap.size<=t.block:=by
  rcases d.ext.mine id _ t A0 ht with h1|⟨i,b0,t0,e1, -⟩
  ·exact h1
  trivial
 obtain⟨ρ2,hρ⟩:∃ ρ2:Ren, ρ2=⟨λj=>if j=c then some t else ρ.nm j, ρ1.fz, ρ1.tab, ρ1.fm⟩:=⟨_,rfl⟩;have n1 : ρ2.nm c=some t:=zah
 have n2:∀ {j},¬j=c -> ρ2.nm j = ρ.nm j:=λ{j} hj=>zah
 have n3 : ρ2.fz = ρ1.fz:=m9
 have n4 : ρ2.fm = ρ1.fm:=m9
 have hle : ρ.le ρ2:=⟨λj x hj=>by
  grind,λb r hb=>by rw[n3];exact d.ext.le.fz b r hb,λb r hb=>by rw[n4];exact d.ext.le.fm b r hb⟩
 refine⟨V c,v',_,_, ρ2,rfl,⟨rfl,rfl,rfl⟩,hV ρ1 ρ2 id c v' (by grind) ⟨λb r hb=>m9,λb r hb=>by grind⟩ d.val,?_,λj hj=>m9,b8,
  λj hj hne=>by rw[hnO]at hne;omega,λj hj=>n2 (by omega),?_⟩
 ·refine⟨λj b hb=>?_,λi j bi bj ti tj hi hj hij h1 h2 ho=>?_,by rw[n3];exact d.rep.frz,λj b t2 hb ho ht2=>?_,λk es hk=>?_⟩
  ·by_cases e:j=c
   ·subst e;rw[A0]at hb;cases hb;refine⟨t,n1,?_⟩;rcases hbr with ⟨gm,c0,e0,fr,g1,g2,g3,g4,g5,g6⟩|⟨-, -, -,es,cl,kd,ks,vs', -,g2, -⟩
    case inr =>
     simp only at g2;subst g2;have:=hcs _ A0M
     trivial
    refine .inl ⟨gm,c0,e0,fr,g1,g2,g3,g4,λi x hx=>?_,g6⟩;obtain⟨q1,x',q2,q3⟩:=g5 i x hx;exact⟨q1,x',q2,q3.nl (ρ := ρ1) (ρ' := ρ2) (λb r hb=>by grind) (λb r hb=>by grind) (hcs x (A0S hx))⟩
   ·rw[h_ne e]at hb;obtain⟨t2,ht2,hb2⟩:=hR.blk j b hb;exact⟨t2,m9,(hb2.mono hle).world (b5 _ hb2.lt)⟩
  ·by_cases e1:i=c
   ·subst e1;have e2:¬j=i:=λe=>hij e.symm;rw[h_ne e2]at hj;rw[n1]at h1;cases h1;rw[n2 e2]at h2;have:=(hR.blk j bj hj);obtain⟨t2,ht2,hb2⟩:=this;rw[h2]at ht2;cases ht2;have:=hb2.lt;omega
   ·rw[h_ne e1]at hi;rw[n2 e1]at h1;by_cases e2:j=c
    ·subst e2;rw[n1]at h2;cases h2;obtain⟨t2,ht2,hb2⟩:=hR.blk i bi hi;rw[h1]at ht2;cases ht2;have:=hb2.lt;omega
    ·rw[h_ne e2]at hj;rw[n2 e2]at h2;exact hR.sep i j bi bj ti tj hi hj hij h1 h2 ho
  ·rw[n3];by_cases e:j=c
   ·subst e;rw[A0]at hb;cases hb;rw[n1]at ht2;cases ht2;exact d.rep.dis id _ t A0 rfl ht
   ·rw[h_ne e]at hb;rw[n2 e]at ht2;cases hf1 : ρ1.fz t2.block with
    |none=>rfl
    |some r =>
     rcases d.ext.fzn _ _ hf1 with h1|h1|⟨i,b0,t0,e1, -⟩
     ·rw[hR.dis j b t2 hb ho ht2]at h1;cases h1
     ·have:=(hR.lookb hb ht2).lt;omega
     trivial
  ·rw[n4]at hk;refine⟨(d.rep.frm k es hk).1,λj b t2 hb ho ht2=>?_⟩;by_cases e:j=c
   ·subst e;rw[A0]at hb;cases hb;rw[n1]at ht2;cases ht2;exact(d.rep.frm k es hk).2 id _ t A0 rfl ht
   ·rw[h_ne e]at hb;rw[n2 e]at ht2;rcases d.ext.fmn _ _ hk with h1|h1|⟨i,b0,t0,e1, -⟩
    ·exact(hR.frm k es h1).2 j b t2 hb ho ht2
    ·have:=(hR.lookb hb ht2).lt;omega
    trivial
 ·refine⟨hle,b1,b2,b3,b4,λk hk _=>b5 k hk,λj b t2 h1 h2=>?_,λk r hk=>?_,λk r hk=>?_⟩
  ·by_cases e:j=c
   ·grind
   ·rw[h_ne e]at h1
    grind
  ·rw[n3]at hk;rcases d.ext.fzn k r hk with h1|h1|⟨i,b0,t0,e1, -⟩
   ·exact .inl h1
   ·exact .inr (.inl h1)
   trivial
  ·rw[n4]at hk;rcases d.ext.fmn k r hk with h1|h1|⟨i,b0,t0,e1, -⟩
   ·exact .inl h1
   ·exact .inr (.inl h1)
   trivial
section
open Go.Eng (IC)
variable {N:Nat} {x:IC} {T:Tm} {H:Hp} {c:Nat} {Q:Exit->St->Prop}
theorem IW.gl{s:St}(h:IW P N x s (λe s'=>Q e s'\/∃(ks:List Nat) (ds':List DV) (H2:Hp),GL s'.H (ks.map s'.T) H2 ds'/\Q e ⟨tm (ks.zip ds'),H2,s'.c⟩)):IW P N x s Q:=by
 intro hm cd hc ρ a w hS;refine wp_mono (h hm cd hc ρ a w hS) λe a' w' hq=>?_;obtain⟨ρ2,s2,q,hS2,hst⟩:=hq;rcases q with q|⟨ks,ds',H2,g,q⟩
 ·exact⟨ρ2,s2,q,hS2,hst⟩
 have hA:I1 ρ2 (ks.map s2.T) ((ks.map λk=>a'.tmps.getD k undef)).toArray:=by
  refine⟨by simp,λi x y hx hy=>?_⟩;simp only[A1G,A0T,A1Y]at hx hy;obtain⟨k,hk,rfl⟩:=hx;obtain⟨k',hk',rfl⟩:=hy;rw[hk]at hk';cases hk';exact hS2.tm k
 obtain⟨ρ1,e1,r1,a1,x1⟩:=g.2 ρ2 w' _ hS2.rep hA;refine⟨ρ1,⟨tm (ks.zip ds'),H2,s2.c⟩,q,⟨C8j λi k d hk hd=>a1.2 i d _ hd (by grind),r1,by rw[e1];exact hS2.fresh,hS2.size,hS2.dfr⟩,?_⟩;exact⟨hst.up,λid hid hne=>hst.dom id hid (g.1 id hne),λid hid=>by rw[e1];exact hst.same id hid,hst.ext.trans x1⟩
theorem B6t:∀ {L:List (Nat × DV)} {T:Tm},B5 L T->(L.map Prod.fst).map T=L.map Prod.snd
 |[],_,_=>rfl
 |(k,v)::r,T,⟨h1,h2⟩=>by simp only[A0U,h1,B6t h2]
theorem D8h(L:List (Nat × DV)):(L.map Prod.fst).zip (L.map Prod.snd)=L:=by
 induction L with
 |nil=>rfl
 |cons a r ih=>grind
def lpG{σ:Type}(L : σ->List (Nat × DV))(h : σ->Hp)(I : σ->Nat->Prop)(μ : σ->Nat)(m:Nat)(Q:Exit->St->Prop):Exit->St->Prop
 |.normal,⟨T,H,c⟩ => ∃b,B5 (L b) T/\GL H ((L b).map Prod.snd) (h b) ((L b).map Prod.snd)/\I b c /\ μ b<m
 |e,s=>Q e s
theorem C4s{σ:Type}(L : σ->List (Nat × DV))(h : σ->Hp)(I : σ->Nat->Prop)(μ : σ->Nat)(a : σ)(hL:∀b,B5 (L b) (tm (L b)))(h0:B5 (L a) T)(hH:Sub (h a) H)(hI:I a c)
  (step:∀a c,I a c->IW P N x ⟨tm (L a),h a,c⟩ (lpG L h I μ (μ a) Q)):IW P N (.loop x) ⟨T,H,c⟩ Q:=by
 refine B6 L h I μ a h0 hH hI λa c hI=>IW.gl ((step a c hI).mono λe s' q=>?_);obtain⟨T',H',c'⟩:=s';cases e with
 |normal =>
  obtain⟨b,q1,q2,q3,q4⟩:=q;refine .inr ⟨(L b).map Prod.fst,(L b).map Prod.snd,h b,by rw[B6t q1];omega,?_⟩;rw[D8h];exact⟨b,hL b,Sub.refl _,q3,q4⟩
 |_=>exact .inl q
theorem E5e{σ:Type}{L : σ->List (Nat × DV)}{h : σ->Hp}{I : σ->Nat->Prop}{μ : σ->Nat}{m:Nat}:lpG L h I μ m Q .normal ⟨T,H,c⟩ = ∃b,B5 (L b) T/\GL H ((L b).map Prod.snd) (h b) ((L b).map Prod.snd)/\B6j I b c /\ μ b<m:=propext Iff.rfl
theorem E5d{σ:Type}{L : σ->List (Nat × DV)}{h : σ->Hp}{I : σ->Nat->Prop}{μ : σ->Nat}{m:Nat}:lpG L h I μ m Q .ret ⟨T,H,c⟩=Q .ret ⟨T,H,c⟩:=propext Iff.rfl
theorem E5f{σ:Type}{L : σ->List (Nat × DV)}{h : σ->Hp}{I : σ->Nat->Prop}{μ : σ->Nat}{m i:Nat}:lpG L h I μ m Q (.exit i) ⟨T,H,c⟩=Q (.exit i) ⟨T,H,c⟩:=propext Iff.rfl
end
section
open Go.Eng (AOp)
variable {c0:Nat} {T:Tm} {H:Hp}
def agN(T:Tm)(H:Hp)(d n:Nat):Option (Option Nat × Blk)->Prop
 |some (k,b)=>T d=mkv n k/\H n=some b
 |none=>False
theorem E7q{j d:Nat}{f:AOp}:agK c0 j T H (some d) (.new f) (some true)=agN T H d (c0+j) (aev (ev T) f):=by
 simp only[agK,agN]
 grind
theorem E7r{d n:Nat}{k:Option Nat}{b:Blk}:agN T H d n (some (k,b))=(T d=mkv n k/\H n=some b):=propext Iff.rfl
end
attribute [go_sem] E7q E7r
attribute [go_sem] E5e E5d E5f
end Go.Sym
namespace Go.Pb
variable [Go.Sym.Tab]
open Go.Sym
abbrev NmL:=List (List UInt8 × (Int × Int))
def inL(l:NmL):List (List UInt8 × DV):=l.map λp=>(p.1,I64 p.2.2)
theorem A4g(n:List UInt8):∀l:NmL,(inL l).lookup n=(l.lookup n).map λq=>I64 q.2
 |[]=>rfl
 |p::l=>by
  simp only[inL,A0U,List.lookup];cases n==p.1 with
  |true=>rfl
  |false=>exact A4g n l
abbrev B2u(l:NmL):Blk:=⟨0,true,[.mpc .s (mkK (inL l)) (mvV (inL l))]⟩
abbrev bgC(o2:Option Nat)(ps:List Int)(o:Option Nat)(vs:List Int)(t n:Int)(m:DV):List DV:=[.snil,.snil,.snil,todoV o2 ps.length,todoV o vs.length,I64 t,I64 n,m]
def bgM(D:List Dc)(M:List Md)(l:NmL)(a:List (Int × Nat))(o2:Option Nat)(ps:List Int)(o:Option Nat)(vs:List Int):Hp :=
 optH (optH ((((nil.upd 0 ⟨0,true,[D0 D,D8 M]⟩).upd 1 (B2u l)).upd 2 ⟨0,true,bgC o2 ps o vs 0 0 (.mid 1)⟩).upd 3 ⟨0,true,[.mpc (.i .i64) (ahK a) (ahV a)]⟩) o2 ⟨1,true,ps.map I64⟩) o ⟨1,true,vs.map I64⟩
structure BN (o2:Option Nat) (ps:List Int) (o:Option Nat) (vs:List Int) (c:Nat):Prop where
 c4:4<=c
 h2:∀i,o2=some i->4<=i/\i<c
 ho:∀i,o=some i->4<=i/\i<c
 ne:∀i j,o2=some i->o=some j->i≠j
 n2:o2=none->ps=[]
 no:o=none->vs=[]
section
variable {D:List Dc} {M:List Md} {l:NmL} {a:List (Int × Nat)} {o2 o:Option Nat} {ps vs:List Int} {c:Nat} {X:Hp}
theorem C5h(h:BN o2 ps o vs c){j:Nat}(hj:j<4):bgM D M l a o2 ps o vs j=((((nil.upd 0 ⟨0,true,[D0 D,D8 M]⟩).upd 1 (B2u l)).upd 2 ⟨0,true,bgC o2 ps o vs 0 0 (.mid 1)⟩).upd 3 ⟨0,true,[.mpc (.i .i64) (ahK a) (ahV a)]⟩) j:=by
 rw[bgM,A8 (λi hi=>by have:=h.ho i hi;omega),A8 (λi hi=>by have:=h.h2 i hi;omega)]
theorem bg0(h:BN o2 ps o vs c):bgM D M l a o2 ps o vs 0=some ⟨0,true,[D0 D,D8 M]⟩:=zae
theorem bg1(h:BN o2 ps o vs c):bgM D M l a o2 ps o vs 1=some (B2u l):=zae
theorem bg2(h:BN o2 ps o vs c):bgM D M l a o2 ps o vs 2=some ⟨0,true,bgC o2 ps o vs 0 0 (.mid 1)⟩:=zae
theorem bg3(h:BN o2 ps o vs c):bgM D M l a o2 ps o vs 3=some ⟨0,true,[.mpc (.i .i64) (ahK a) (ahV a)]⟩:=zae
theorem bgP(h:BN o2 ps o vs c){i:Nat}(hi:o2=some i):bgM D M l a o2 ps o vs i=some ⟨1,true,ps.map I64⟩:=by
 rw[bgM,A8 (λj hj=>h.ne i j hi hj)];subst hi;exact A0
theorem bgV{i:Nat}(hi:o=some i):bgM D M l a o2 ps o vs i=some ⟨1,true,vs.map I64⟩:=by
 rw[bgM];subst hi;exact A0
theorem bgN(h:BN o2 ps o vs c){j:Nat}(hj:c<=j):bgM D M l a o2 ps o vs j=none:=by
 have:=h.c4;rw[bgM,A8 (λi hi=>by have:=h.ho i hi;omega),A8 (λi hi=>by have:=h.h2 i hi;omega),hnO,hnO,hnO,hnO];rfl
theorem B2i(h0:X 0=some ⟨0,true,[D0 D,D8 M]⟩)(h1:X 1=some (B2u l))(h2:X 2=some ⟨0,true,bgC o2 ps o vs 0 0 (.mid 1)⟩)(h3:X 3=some ⟨0,true,[.mpc (.i .i64) (ahK a) (ahV a)]⟩)
  (hp:∀i,o2=some i->X i=some ⟨1,true,ps.map I64⟩) (hv:∀i,o=some i->X i=some ⟨1,true,vs.map I64⟩):Sub (bgM D M l a o2 ps o vs) X:=by
 intro j B hj;rw[bgM]at hj;by_cases e1:o=some j
 ·simp_all[optH,A0]
 rw[A8 (λi hi e=>e1 (by grind))]at hj;by_cases e2:o2=some j
 ·simp_all[optH,A0]
 rw[A8 (λi hi e=>e2 (by grind))]at hj;by_cases e3:j=3
 ·grind[A0]
 rw[h_ne e3]at hj;by_cases e4:j=2
 ·grind[A0]
 rw[h_ne e4]at hj;by_cases e5:j=1
 ·grind[A0]
 rw[h_ne e5]at hj;by_cases e6:j=0
 ·grind[A0]
 rw[h_ne e6]at hj;cases hj
theorem BN.le{c':Nat}(h:BN o2 ps o vs c)(hc:c<=c'):BN o2 ps o vs c' :=
 ⟨by have:=h.c4;omega,λi hi=>by have:=h.h2 i hi;omega,λi hi=>by have:=h.ho i hi;omega,h.ne,h.n2,h.no⟩
theorem BN.newV{c' i:Nat}{vs':List Int}(h:BN o2 ps o vs c)(h1:c<=i)(h2:i<c'):BN o2 ps (some i) vs' c':=by
 have:=h.c4;exact⟨b8,λj hj=>by have:=h.h2 j hj;omega,λj hj=>m9,λj k hj hk=>by cases hk;have:=h.h2 j hj;omega,h.n2,λe=>(by grind)⟩
theorem BN.newP{c' i:Nat}{ps':List Int}(h:BN o2 ps o vs c)(h1:c<=i)(h2:i<c'):BN (some i) ps' o vs c':=by
 have:=h.c4;exact⟨b8,λj hj=>m9,λj hj=>by have:=h.ho j hj;omega,λj k hj hk=>by cases hj;have:=h.ho k hk;omega,λe=>(by grind),h.no⟩
end
theorem B7v{l:NmL}{n:List UInt8}{y q:Int × Int}(hl:l.lookup n=some y):Z5 l n q=l/\lkV (I64 0) true (mvV (inL l)) (F8 (.str n) (mkK (inL l)) 0)=some (.tup [I64 y.2,.bool true]) :=
 ⟨by simp_all[Z5],A6j (ok:=true) (by grind[A4g])⟩
theorem B7w{l:NmL}{n:List UInt8}{q:Int × Int}(hl:l.lookup n=none):B2u (Z5 l n q)=⟨0,true,[.mpc .s (mkK (inL l)++[.str n]) (mvV (inL l)++[I64 q.2])]⟩ /\
  lkV (I64 0) true (mvV (inL l)) (F8 (.str n) (mkK (inL l)) 0)=some (.tup [I64 0,.bool false])/\F8 (.str n) (mkK (inL l)) 0=none:=by
 have h:(inL l).lookup n=none:=by rw[A4g,hl];rfl
 refine⟨?_,A6k (ok:=true) h,C4g h⟩;rw[Z5,if_neg (by rw[hl];simp)];simp[inL,mkK,mvV]
theorem E0s{r:Ru}(hk:A0b r.decls)(n:List UInt8):lkV (I64 0) false (mvV (inL (nmL r))) (F8 (.str n) (mkK (inL (nmL r))) 0)=some (I64 (K0 r n).2):=by
 cases hl:(nmL r).lookup n<;>grind[C3x,A6j,A4g,C3y,A6k]
end Go.Pb
namespace Go.Sym
variable [Go.Sym.Tab]
open Go.Eng (KKey)
theorem C8p{α:Type}{pre suf:List α}{x y v : α}{i:Nat}(h:(pre++[y]++suf)[i]? = some v):(i=pre.length/\v=y/\(pre++[x]++suf)[i]? = some x)\/(pre++[x]++suf)[i]? = some v:=by
 grind
theorem GL.frzmC{H H':Hp}{ds:List DV}{id k u u':Nat}{kd:KKey}{ks vs pre suf:List DV}(hb:H id=some ⟨u,true,[.mpc kd ks vs]⟩)(hk:H k=some ⟨u',true,pre++[.mid id]++suf⟩)(hne:k≠id)
  (hk':H' k=some ⟨u',true,pre++[.mp kd ks vs]++suf⟩) (hH:∀j,j≠k->H' j=none\/(j≠id/\H' j=H j)):GL H ds H' ds:=by
 have back:∀j bj,H' j=some bj->j≠id/\∃b0,H j=some b0/\b0.own=bj.own:=by
  grind
 refine⟨λj hj=>?_,fun ρ w a2 hR hA=>?_⟩
 ·grind
 obtain⟨t,ht,hB⟩:=hR.blk id _ hb;rcases hB with ⟨hm,c,e,fr, -, -, -, -,g5, -⟩|⟨hm, -,hs,es,cl,kd',ks',vs',g1,g2,g3,g6⟩
 ·have:=(g5 0 _ rfl).1
  trivial
 cases g2;have hnone : ρ.fm t.block=none:=by
  cases hf : ρ.fm t.block with
  |none=>rfl
  |some es'=>exact absurd rfl ((hR.frm _ _ hf).2 id _ t hb rfl ht)
 obtain⟨ρ2,hρ⟩:∃ ρ2:Ren, ρ2=⟨ρ.nm, ρ.fz, ρ.tab,λk=>if k=t.block then some es else ρ.fm k⟩:=⟨_,rfl⟩;have n1 : ρ2.nm = ρ.nm:=m9
 have n2 : ρ2.fz = ρ.fz:=m9
 have n3:∀k r, ρ2.fm k=some r->(k=t.block/\r=es) \/ ρ.fm k=some r:=by
  intro k r hk;rw[hρ]at hk
  grind
 have n4 : ρ2.fm t.block=some es:=zah
 have hle : ρ.le ρ2:=⟨λi x h=>m9,λb r h=>m9,λb r h=>by
  rw[hρ]
  grind⟩
 have hval:∀v,VRel ρ (.mid id) v->VRel ρ2 (.mp kd ks vs) v:=by
  intro v hv;obtain⟨t',ht', -,rfl⟩:=hv.mid_inv;rw[ht]at ht';cases ht';obtain⟨a1,a2,a3,a4,a5⟩:=g3;exact .mp kd ks vs t.block es n4 a1 a2 a3 (λi x e hx he=>(a4 i x e hx he).mono hle) (λi x e hx he=>(a5 i x e hx he).mono hle)
 refine⟨ρ2,n1,⟨λj bj hj=>?_,λi j bi bj ti tj hi hj hij h1 h2 ho=>?_,λk r hk=>?_,λj bj tj hj ho hjt=>?_,λk r hk=>?_⟩,⟨hA.1,λi x y hx hy=>(hA.2 i x y hx hy).mono hle⟩,?_⟩
 ·rw[n1];by_cases ej:j=k
  ·subst ej;rw[hk']at hj;cases hj;obtain⟨tj,q1,q2⟩:=hR.blk j _ hk;refine⟨tj,q1,?_⟩;rcases q2 with ⟨gm,c,e,fr,p1,p2,p3,p4,p5,p6⟩|⟨-, -, -,es2,cl2,kd2,ks2,vs2, -,p2, -⟩
   ·refine .inl ⟨gm,c,e,fr,p1,p2,m9,p4,λi v hv=>?_,p6⟩;rcases C8p (x:=.mid id) hv with ⟨h1,rfl,h3⟩|h1
    ·obtain⟨q1,v',q2,q3⟩:=p5 i _ h3;exact⟨rfl,v',q2,hval v' q3⟩
    ·obtain⟨q1,v',q2,q3⟩:=p5 i v h1;exact⟨q1,v',q2,q3.mono hle⟩
   ·exfalso;have h3:(DV.mid id)∈[DV.mpc kd2 ks2 vs2]:=by rw[<- p2];simp
    grind
  ·rcases hH j ej with h0|⟨-,h0⟩
   ·grind
   ·obtain⟨tj,q1,q2⟩:=hR.blk j bj (by grind);exact⟨tj,q1,q2.mono hle⟩
 ·rw[n1]at h1 h2;obtain⟨-,b1,e1,e4⟩:=back i bi hi;obtain⟨-,b2,f1, -⟩:=back j bj hj;exact hR.sep i j b1 b2 ti tj e1 f1 hij h1 h2 (e4.trans ho)
 ·rw[n2]at hk;exact hR.frz k r hk
 ·rw[n1]at hjt;rw[n2];obtain⟨-,b1,e1,e4⟩:=back j bj hj;exact hR.dis j b1 tj e1 (e4.trans ho) hjt
 ·rcases n3 k r hk with ⟨rfl,rfl⟩|h1
  ·refine⟨⟨cl,g1,g6⟩,λj bj tj hj ho hjt=>?_⟩;rw[n1]at hjt;obtain⟨hne,b1,e1,e4⟩:=back j bj hj;exact hR.sep j id b1 _ tj t e1 hb hne hjt ht (e4.trans ho)
  ·refine⟨(hR.frm k r h1).1,λj bj tj hj ho hjt=>?_⟩;rw[n1]at hjt;obtain⟨-,b1,e1,e4⟩:=back j bj hj;exact(hR.frm k r h1).2 j b1 tj e1 (e4.trans ho) hjt
 ·refine⟨hle,rfl,rfl,rfl,A0D _,λ_ _ _=>rfl,λj bj tj hj hjt=>?_,λk r hk=>.inl (by rw[<- n2];exact hk),λk r hk=>?_⟩
  ·rw[n1]at hjt;obtain⟨-,b1,e1,e4⟩:=back j bj hj;exact .inr ⟨j,b1,tj,e1,λh=>e4.trans h,hjt,rfl⟩
  grind
theorem D6h{H:Hp}{a k u u' w n:Nat}{pre suf xs ds junk:List DV}(hk:H k=some ⟨w,true,pre++[.slc a 0 n]++suf⟩)(ha:H a=some ⟨u,true,cellsL xs++junk⟩)
  (h1:∀d∈pre++suf,d.one=true) (hl:xs.length=n) (hu:∀x∈xs,x.cells.length=u') (hak:¬a=k) :
  GL H ds ((H.del a).upd k ⟨w,true,pre++[.lst xs]++suf⟩) ds:=by
 have hz:FzL a ⟨u,true,cellsL xs++junk⟩ (pre++[.slc a 0 n]++suf) (pre++[.lst xs]++suf) :=
  FzL.app (FzL.app (FzL.refl _) (.cons _ _ _ _ (Q2 (blk:=⟨u,true,cellsL xs++junk⟩) hl hu ⟨junk,rfl⟩) .nil)) (FzL.refl _)
 refine GL.frzT (id:=a) ha rfl (λj=>?_) (FzL.refl ds);by_cases ej:j=k
 ·subst ej;refine .inr ⟨Ne.symm hak,.inr ⟨_,_,hk,A0,rfl,rfl,hz,λd hd=>?_⟩⟩;simp only[A0O,A1Q,A2F]at hd;rcases hd with hd|rfl|hd
  ·exact h1 d (A3C _ hd)
  ·rfl
  grind
 ·rw[h_ne ej];by_cases ea:j=a
  ·subst ea;left;simp[Hp.del]
  ·refine .inr ⟨ea,.inl ?_⟩;rw[D5 ea]
end Go.Sym
namespace Go.Pb
variable [Go.Sym.Tab]
open Go.Sym
variable {nm:List UInt8->Int}
mutual
theorem E2y:∀e:Ex,(cgE nm e).length<=e.sz
 |.mk k v n a p=>by
  rw[cgE,Ex.sz,A0A,A0E];have:=B6b a;omega
theorem B6b:∀l:List Ex,(G6 nm l).length<=Ex.szs l
 |[]=>by simp[G6]
 |e::l=>by
  rw[G6,Ex.szs,A0A];have:=E2y e;have:=B6b l;omega
end
theorem D8w(S:List (List UInt8))(t:List UInt8):(txS S t).2.length<=S.length+1:=by
 grind[txS]
mutual
theorem E2w:∀(s:St) (p:Nat) (S:List (List UInt8)),(cgS nm p S s).1.length<=2*s.sz/\(cgS nm p S s).2.length<=S.length+s.sz
 |.mk k n t a x y q,p,S=>by
  have ha:=B6b (nm:=nm) a;rw[cgS,St.sz];by_cases h2:k=2
  ·rw[if_pos h2];obtain⟨b1,b2⟩:=A8b x (p+(G6 nm a).length+1) S;by_cases hy:y.length=0
   ·grind
   ·rw[if_neg hy];obtain⟨c1,c2⟩:=A8b y (p+(G6 nm a).length+1+(cgB nm (p+(G6 nm a).length+1) S x).1.length+1) (cgB nm (p+(G6 nm a).length+1) S x).2<;>grind
  ·rw[if_neg h2];by_cases h3:k=3
   ·rw[if_pos h3];obtain⟨b1,b2⟩:=A8b x (p+(G6 nm a).length+1) S<;>grind
   ·rw[if_neg h3];by_cases h18:k=18
    ·rw[if_pos h18];have:=D8w S t;simp only[A0A,A0G,A0L];constructor<;>omega
    grind
theorem A8b:∀(l:List St) (p:Nat) (S:List (List UInt8)),(cgB nm p S l).1.length<=2*St.szs l/\(cgB nm p S l).2.length<=S.length+St.szs l
 |[],p,S=>by simp[cgB]
 |s::l,p,S=>by
  rw[cgB,St.szs];obtain⟨a1,a2⟩:=E2w s p S;obtain⟨b1,b2⟩:=A8b l (p+(cgS nm p S s).1.length) (cgS nm p S s).2<;>grind
end
theorem C5g(l:List St)(x:Cg):(I0 nm l x).1.length<=x.1.length+2*St.szs l/\(I0 nm l x).2.length<=x.2.length+St.szs l:=by
 grind[A8b,I0]
theorem B0e(a b:List St):St.szs (a++b)=St.szs a+St.szs b:=by simp[St.szs_map]
theorem B0d:∀l:List (List St),St.szs l.flatten=(l.map St.szs).sum
 |[]=>rfl
 |a::l=>by rw[A1H,B0e,B0d l];simp
theorem D6w(q:List KB)(k:Ky):((N0 q k).map St.szs).sum<=(q.map λx=>St.szs x.2).sum:=by
 induction q<;>grind[N0]
theorem C3i:∀(M:List Md) (i:Nat) (p:F4),p∈G5 nm i M->St.szs p.2.flatten<=(M.map Md.sz).sum
 |[],_,_,h=>by cases h
 |m::M,i,p,h=>by
  rw[G5]at h;rcases A1Q.1 h with h|h
  ·unfold rfP ptK at h;obtain⟨k, -,hk⟩:=List.mem_filterMap.1 h;split at hk
   ·grind
   ·cases hk;rw[B0d];have h1:=D6w (m.hds.map (hdK nm i)) k;rw[A3U]at h1;have h2:(m.hds.map ((λx:KB=>St.szs x.2)∘hdK nm i)).sum<=(m.hds.map Hd.sz).sum:=by
     generalize m.hds=hs
     induction hs with
     |nil=>simp
     |cons x hs ih =>
      simp only[A0U,A2M];have:St.szs (hdK nm i x).2<=x.sz:=by show St.szs x.body<=1+x.name.length+St.szs x.body;omega
      exact Nat.add_le_add this ih
    grind[Md.sz]
  ·have:=C3i M (i+1) p h
   grind
theorem D9i{l:List F4}(h1:l.Pairwise λa b=>¬b.1.lt a.1)(h2:(l.map (·.1)).Nodup):Srt l:=by
 unfold Srt;have h3:l.Pairwise λa b=>a.1≠b.1:=by
  rw[List.Nodup,List.pairwise_map]at h2;exact h2
 refine(h1.and h3).imp ?_
 grind[Ky.tri]
theorem D0c{r:Ru}(h:ChkR r){s:List F4}(hp:(J5 [] (hkM (nmR r) 0 r.modes)).Perm s)(ho:s.Pairwise λa b=>¬b.1.lt a.1):s=G5 (nmR r) 0 r.modes:=by
 refine D0d (λm hm x hx=>(h.hd m hm x hx).ok h) hp.symm (D9i ho ?_)
 grind[A5o]
end Go.Pb
namespace Go.Pb
variable [Go.Sym.Tab]
theorem C4u(nm:List UInt8->Int):∀(l:List Md) (k:Nat),(hkM nm k l).length=(l.map λm=>m.hds.length).sum
 |[],_=>rfl
 |m::l,k=>by rw[hkM,A0A,A0I,C4u nm l];simp
theorem D7d(q:List KB):PB q.length (J5 [] q):=by
 have key:∀(q:List KB) (n:Nat) (l:List F4),PB n l->PB (n+q.length) (J5 l q):=by
  intro q
  induction q with
  |nil=>intro n l h;exact h
  |cons x q ih =>
   intro n l h;have:=ih (n+1) _ (PB.add (k:=x.1) (b:=x.2) h);exact this.le (by simp only[A0G];omega)
 have:=key q 0 [] ⟨by simp,λp hp=>by cases hp⟩
 grind
theorem C4w{r:Ru}(h:ChkR r):(r.modes.map λm=>m.hds.length).sum<=32*16:=by
 have h1:=h.lens.2;have:∀l:List Md,(∀m∈l,m.hds.length<=32)->(l.map λm=>m.hds.length).sum<=32*l.length:=by
  intro l
  induction l<;>grind
 have:=this r.modes λm hm=>by
  have:=h.mode m hm
  simp_all[V0]
 omega
theorem E1u{r:Ru}(h:ChkR r):(r.modes.map λm=>m.hds.length).sum+r.modes.length<=1000000:=by
 have:=C4w h;have:=h.lens.2;omega
theorem D1l{r:Ru}(h:ChkR r):PB 512 (J5 [] (hkM (nmR r) 0 r.modes)):=(D7d _).le (by
 grind[C4u,C4w])
theorem E3v{r:Ru}(h:ChkR r){s:List F4}(hp:(J5 [] (hkM (nmR r) 0 r.modes)).Perm s):PB 512 s:=by
 have:=D1l h;exact⟨by rw[<- hp.length_eq];exact this.1,λp hm=>this.2 p (hp.mem_iff.2 hm)⟩
theorem D3e{l:List F4}{k:Nat}{q:F4}(h:l[k]? = some q):l.take (k+1)=l.take k++[q]:=by
 grind[List.take_add_one]
abbrev E2x(nm:List UInt8->Int)(q:F4)(x:Cg):Cg:=((I0 nm q.2.flatten x).1++[⟨31,0⟩],(I0 nm q.2.flatten x).2)
theorem D3f(nm:List UInt8->Int){l:List F4}{k:Nat}{q:F4}(h:l[k]? = some q):
  ((cgL nm 0 [] (l.take (k+1))).1,(cgL nm 0 [] (l.take (k+1))).2.2)=E2x nm q ((cgL nm 0 [] (l.take k)).1,(cgL nm 0 [] (l.take k)).2.2) /\
  (cgL nm 0 [] (l.take (k+1))).2.1=(cgL nm 0 [] (l.take k)).2.1++[⟨q.1.mode,q.1.trig,q.1.ix,((cgL nm 0 [] (l.take k)).1.length:Int)⟩]:=by
 simp_all[D3e,B9n,I0]
theorem C7e{b:List (List St)}{j:Nat}{y:List St}(h:b[j]? = some y):(b.take (j+1)).flatten=(b.take j).flatten++y:=by
 grind[List.take_add_one]
theorem A4w(b:List (List St))(j:Nat):St.szs (b.take j).flatten<=St.szs b.flatten:=by
 have h:=congrArg (λl:List (List St)=>St.szs l.flatten) (A1V j b)
 grind[B0e]
theorem B4w{b:List (List St)}{y:List St}(h:y∈b):St.szs y<=St.szs b.flatten:=by
 rw[B0d]
 induction b<;>grind
theorem A3r{H:Sym.Hp}{k u u' n:Nat}{o:Option Nat}{pre suf xs ds:List Sym.DV}(hk:H k=some ⟨0,true,pre++[Sym.todoV o n]++suf⟩)(ho:∀i,o=some i->H i=some ⟨u,true,Sym.cellsL xs⟩/\i≠k)
  (hn:o=none->xs=[]) (h1:∀d∈pre++suf,d.one=true) (hl:xs.length=n) (hu:∀x∈xs,x.cells.length=u') :
  Sym.GL H ds ((Go.Pb.delO H o).upd k ⟨0,true,pre++[.lst xs]++suf⟩) ds:=by
 cases o with
 |none =>
  have e:H=Sym.optH (H.upd k ⟨0,true,pre++[Sym.todoV none n]++suf⟩) none ⟨u',true,Sym.cellsL xs⟩:=by
   funext j
   by_cases ej:j=k
   ·subst ej;simp only[Sym.optH];rw[Sym.hSm,hk]
   simp_all[Sym.optH,Sym.h_ne]
  have g:=Sym.g_fin (Hb:=H) (ci:=k) (o:=none) (n:=n) (ds:=ds) h1 hn (λi h=>by grind) hl hu;rw[<- e]at g;exact g
 |some i =>
  obtain⟨h2,h3⟩:=ho i rfl;exact Sym.g_cell (junk:=[]) hk (by rw[A0Y];exact h2) h1 hl hu h3
open Go.Sym
theorem D4t(q:List KB)(a b:List Ky):ptK q (a++b)=ptK q a++ptK q b:=by grind[ptK]
theorem C9t(q:List KB)(ks:List Ky)(k:Ky):ptK q (ks++[k])=ptK q ks++(if N0 q k=[] then [] else [(k,N0 q k)]):=by
 grind[ptK]
def Y4(i t n:Nat):List Ky:=(List.range t).flatMap (A6m i)++(A6m i t).take n
theorem C6z(i:Nat):Y4 i 0 0=[]:=by rfl
theorem C7a{i t n:Nat}(h:n<128):Y4 i t (n+1)=Y4 i t n++[⟨i,(t:Int)+1,n⟩]:=by
 grind[Y4,List.take_add_one,A6m]
theorem C7b(i t:Nat):Y4 i t 128=Y4 i (t+1) 0:=by
 grind[Y4,List.range_succ,A6m]
theorem C7c(i:Nat):Y4 i 6 0=B2w i:=by simp[Y4,B2w]
theorem D1q{i t n:Nat}(h:t<6):Y4 i t n <+: B2w i:=by
 obtain⟨d,hd⟩:∃d,6=t+1+d:=⟨5-t,by omega⟩;unfold Y4 B2w;rw[hd,List.range_add,A2O,List.range_succ,A2O,A0O]
 grind[List.prefix_append_right_inj]
theorem C7o{nm:List UInt8->Int}{i:Nat}{l:List Hd}{j:Nat}{h:Hd}(hj:l[j]? = some h)(k:Ky):
  N0 ((l.take (j+1)).map (hdK nm i)) k=N0 ((l.take j).map (hdK nm i)) k++if(hdK nm i h).1=k then [h.body] else []:=by
 grind[List.take_add_one,N0,hdK]
theorem B0n(nm:List UInt8->Int):∀(a b:List Md) (i:Nat),G5 nm i (a++b)=G5 nm i a++G5 nm (i+a.length) b
 |[],b,i=>rfl
 |m::a,b,i=>by
  rw[List.cons_append,G5,G5,B0n nm a b,A0O,A0G]
  grind
theorem B3i(nm:List UInt8->Int){M:List Md}{m:Nat}{md:Md}(h:M[m]? = some md):G5 nm 0 (M.take (m+1))=G5 nm 0 (M.take m)++rfP nm m md.hds:=by
 have hl:=(A1C.1 h).1;rw[A0R,h,B0n,A0W,A1I,Nat.min_eq_left (by omega)];simp[G5]
theorem E0k{nm:List UInt8->Int}{M:List Md}{m:Nat}{md:Md}{ks:List Ky}(h:M[m]? = some md)(hk:ks <+: B2w m):
  ∃R,G5 nm 0 M=(G5 nm 0 (M.take m)++ptK (md.hds.map (hdK nm m)) ks)++R:=by
 obtain⟨r,hr⟩:=hk;have e:=congrArg (G5 nm 0) (A1V (m+1) M)
 grind[B0n,B3i,rfP,D4t]
theorem E2u{nm:List UInt8->Int}{L P R:List F4}(h:L=P++R):(cgL nm 0 [] P).1.length<=(cgL nm 0 [] L).1.length/\(cgL nm 0 [] P).2.2.length<=(cgL nm 0 [] L).2.2.length:=by
 have:=B9m (nm:=nm) (l:=L) (S:=[]) P.length
 grind
def wt(b:List (List St)):Nat:=(b.map λl=>2*St.szs l+1).sum
theorem E3o(b:List (List St))(h:b≠[]):2*St.szs b.flatten+1<=wt b:=by
 have key:∀b:List (List St),2*St.szs b.flatten+b.length=wt b:=by
  intro b
  induction b with
  |nil=>rfl
  |cons x b ih =>
   have:wt (x::b)=2*St.szs x+1+wt b:=by simp[wt]
   rw[this,A1H,B0e,A0G];omega
 grind[List.length_pos_iff]
theorem D4f{ks:List Ky}(h:ks.Nodup)(k:Ky)(c:Nat):(ks.map λx=>if k=x then c else 0).sum<=c:=by
 induction ks with
 |nil=>simp
 |cons a ks ih =>
  obtain⟨h1,h2⟩:=A3L.1 h;rw[A0U,A2M];by_cases e:k=a
  ·subst e;have:∀l:List Ky,(∀x∈l,¬k=x)->(l.map λx=>if k=x then c else 0).sum=0:=by
    intro l
    induction l with
    |nil=>intro _;rfl
    |cons a l ih=>intro hl;rw[A0U,A2M,if_neg (hl a A0M),ih λx hx=>hl x (A0H _ hx)]
   rw[this ks λx hx e=>h1 (by rw[e];exact hx),if_pos rfl];omega
  grind
theorem D8j(q:List KB){ks:List Ky}(h:ks.Nodup):(ks.map λk=>wt (N0 q k)).sum<=wt (q.map (·.2)):=by
 induction q with
 |nil=>induction ks<;>simp_all[N0,wt]
 |cons x q ih =>
  have e:(λk=>wt (N0 (x::q) k))=λk=>(if x.1=k then 2*St.szs x.2+1 else 0)+wt (N0 q k):=by
   funext k
   rw[B4l];by_cases h:x.1=k<;>simp[h,wt]
  have add:∀(f g:Ky->Nat) (l:List Ky),(l.map λk=>f k+g k).sum=(l.map f).sum+(l.map g).sum:=by
   intro f g l
   induction l with
   |nil=>rfl
   |cons a l ih=>simp only[A0U,A2M,ih];omega
  rw[e,add];have:=D4f h x.1 (2*St.szs x.2+1)
  grind[wt]
theorem C9s(q:List KB):∀ks:List Ky,((ptK q ks).map λp=>2*St.szs p.2.flatten+1).sum<=(ks.map λk=>wt (N0 q k)).sum
 |[]=>by simp[ptK]
 |k::ks=>by
  have ih:=C9s q ks;unfold ptK at ih ⊢;rw[List.filterMap_cons];by_cases h:N0 q k=[]
  ·grind
  ·simp only[h,if_false,A0U,A2M]
   grind[E3o]
theorem C5t{ks:List Ky}(h:ks.Pairwise Ky.lt):ks.Nodup:=h.imp λ{a b} hab e=>by grind[Ky.lt]
theorem E3n(m:Md)(nm:List UInt8->Int)(i:Nat):wt ((m.hds.map (hdK nm i)).map (·.2))<=2*m.sz:=by
 have:wt ((m.hds.map (hdK nm i)).map (·.2))<=2*(m.hds.map Hd.sz).sum:=by
  generalize m.hds=hs
  induction hs with
  |nil=>simp[wt]
  |cons x hs ih =>
   have e:wt (((x::hs).map (hdK nm i)).map (·.2))=2*St.szs x.body+1+wt ((hs.map (hdK nm i)).map (·.2)):=by simp[wt,hdK]
   have:x.sz=1+x.name.length+St.szs x.body:=rfl;rw[e,A0U,A2M];omega
 grind[Md.sz]
theorem B5a(nm:List UInt8->Int):∀(M:List Md) (i:Nat),((G5 nm i M).map λp=>2*St.szs p.2.flatten+1).sum<=2*(M.map Md.sz).sum
 |[],i=>by simp[G5]
 |m::M,i=>by
  rw[G5,A0P,List.sum_append,A0U,A2M];have h1:=B5a nm M (i+1);have h2:=C9s (m.hds.map (hdK nm i)) (B2w i);have h3:=D8j (m.hds.map (hdK nm i)) (C5t (B8q i))
  grind[E3n,rfP]
theorem D3d{nm:List UInt8->Int}:∀(l:List F4) (p:Nat) (S:List (List UInt8)),(cgL nm p S l).1.length<=(l.map λp=>2*St.szs p.2.flatten+1).sum/\(cgL nm p S l).2.2.length<=S.length+(l.map λp=>2*St.szs p.2.flatten+1).sum
 |[],p,S=>by simp[cgL]
 |q::l,p,S=>by
  rw[cgL];obtain⟨h1,h2⟩:=A8b (nm:=nm) q.2.flatten p S;obtain⟨h3,h4⟩:=D3d (nm:=nm) l (p+(cgB nm p S q.2.flatten).1.length+1) (cgB nm p S q.2.flatten).2<;>grind
theorem E2v(nm:List UInt8->Int)(M:List Md):(cgL nm 0 [] (G5 nm 0 M)).1.length<=2*(M.map Md.sz).sum/\(cgL nm 0 [] (G5 nm 0 M)).2.2.length<=2*(M.map Md.sz).sum:=by
 grind[D3d,B5a]
theorem C5f(nm:List UInt8->Int)(P:List F4)(q:F4):
  ((cgL nm 0 [] (P++[q])).1,(cgL nm 0 [] (P++[q])).2.2)=E2x nm q ((cgL nm 0 [] P).1,(cgL nm 0 [] P).2.2) /\
  (cgL nm 0 [] (P++[q])).2.1=(cgL nm 0 [] P).2.1++[⟨q.1.mode,q.1.trig,q.1.ix,((cgL nm 0 [] P).1.length:Int)⟩]:=by
 simp[B9n,I0]
theorem B9p(nm:List UInt8->Int):∀(l:List F4) (p:Nat) (S:List (List UInt8)),(cgL nm p S l).2.1.length<=(cgL nm p S l).1.length
 |[],p,S=>by simp[cgL]
 |q::l,p,S=>by
  rw[cgL];have:=B9p nm l (p+(cgB nm p S q.2.flatten).1.length+1) (cgB nm p S q.2.flatten).2
  grind
end Go.Pb
end
