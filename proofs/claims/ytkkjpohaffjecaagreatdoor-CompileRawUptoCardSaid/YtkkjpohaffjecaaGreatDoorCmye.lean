/-
  HELPERS of the claim: part 5 of its texts.
-/
import Derived.Test.YtkkjpohaffjecaaGreatDoorCmyd
noncomputable section
set_option linter.unusedVariables false
set_option linter.unusedSectionVars false
set_option linter.unusedSimpArgs false
namespace Go.Pb
variable [Go.Sym.Tab]
open Go.Sym
abbrev Er:=Option (Int × Int)
def cnD(l:List Dc)(k:Int):Nat:=l.countP (fun d=>d.kind == k)
def cnR(r:Ru)(k:Int):Nat:=if k=9 then r.modes.length else cnD r.decls k
def lkD(pre:List Dc):List Dc->List UInt8->Option (Int × Int)
 |[],_=>none
 |d :: l,n=>if d.name=n then some (d.kind,if d.kind<6 then d.value else (cnR ⟨pre,[]⟩ d.kind:Int)) else lkD (pre++[d]) l n
def lkM(i:Nat):List Md->List UInt8->Option (Int × Int)
 |[],_=>none
 |m :: l,n=>if m.name=n then some (9,(i:Int)) else lkM (i+1) l n
def E7(r:Ru)(n:List UInt8):Int × Int:=match lkD [] r.decls n with
 |some q=>q
 |none=>match lkM 0 r.modes n with
  |some q=>q
  |none=>(0,0)
def dnM(r:Ru)(n:List UInt8)(k:Int):Int:=if k=0\/(E7 r n).1=k then 0 else if (E7 r n).1=0 then 8 else 44
def dnE(r:Ru)(n:List UInt8)(k p:Int):Er:=if dnM r n k=0 then none else some (p,dnM r n k)
def kdE(k:Int):Int:=if k=2 then 6 else if k=5 then 1 else if k=6 then 9 else if k=7 then 7 else 0
def kdS(k:Int):Int:=if k=1 then 6 else if k=5\/k=6\/k=7 then 2 else if k=8\/k=9 then 3 else if k=10\/k=11 then 7 else if k=12\/k=13 then 9 else if k=14 then 8 else if k=15 then 4 else if k=16\/k=17 then 5 else 0
def kdH(k:Int):Int:=if k=3\/k=4 then 1 else if k=5 then 7 else if k=6 then 8 else 0
def A3o(k:Int):Int:=if k=1 then 63 else if k=2 then 31 else if k=3\/k=4\/k=5 then 63 else 2147483647
def C4p(k:Int):Bool:=k == 3 || k == 4 || k == 5 || k == 6 || k == 11 || decide (17<=k)
def L7(k:Int):Int:=if C4p k=true then 2 else 1
def A0h(k:Int)(a:List Ex):Int:=if k=11\/k=23\/k=24 then 2 else if k=21\/k=22 then (match a with
 |[]=>1
 |x :: _=>L7 x.kind) else 1
mutual
def erE(r:Ru):Ex->Er
 |.mk k v n a p=>((U6 r a).or (dnE r n (kdE k) p)).or (if a.all (fun x=>L7 x.kind == A0h k a)=true then none else some (p,49))
def U6(r:Ru):List Ex->Er
 |[]=>none
 |x :: l=>(erE r x).or (U6 r l)
end
def tyV(r:Ru)(e:Ex):DV:=match erE r e with
 |some (p,c)=>.tup [I64 0,I64 p,I64 c]
 |none=>.tup [I64 (L7 e.kind),I64 0,I64 0]
def erA(r:Ru)(b:Bool):List Ex->Er
 |[]=>none
 |x :: l=>((erE r x).or (if (L7 x.kind == 2)=b then none else some (x.pos,49))).or (erA r b l)
mutual
def erS(r:Ru):St->Er
 |.mk k n t a x y p=>(((dnE r n (kdS k) p).or (erA r (k == 2) a)).or (erB r x)).or (erB r y)
def erB(r:Ru):List St->Er
 |[]=>none
 |s :: l=>(erS r s).or (erB r l)
end
def erD(pre:List Dc):List Dc->Er
 |[]=>none
 |d :: l=>((if d.value>A3o d.kind then some (d.pos,5) else none:Er).or (if (E7 ⟨pre,[]⟩ d.name).1=0 then none else some (d.pos,7))).or (erD (pre++[d]) l)
def erP(D:List Dc)(pre:List Md):List Md->Er
 |[]=>none
 |m :: l=>((if m.prio>99 then some (m.pos,5) else none:Er).or (if (E7 ⟨D,pre⟩ m.name).1=0 then none else some (m.pos,7))).or (erP D (pre++[m]) l)
def A7a(r:Ru):Er:=(erD [] r.decls).or (erP r.decls [] r.modes)
def erH(r:Ru)(pre:List Hd):List Hd->Er
 |[]=>none
 |h :: l=>(((dnE r h.name (kdH h.trig) h.pos).or (if pre.any (fun x=>x.trig == h.trig && x.name == h.name)=true then some (h.pos,7) else none)).or (erB r h.body)).or (erH r (pre++[h]) l)
def erM(r:Ru):List Md->Er
 |[]=>none
 |m :: l=>(erH r [] m.hds).or (erM r l)
def A3s(r:Ru):Er:=(A7a r).or (erM r r.modes)
def erV:Er->DV
 |some (p,c)=>.tup [I64 p,I64 c]
 |none=>.tup [I64 0,I64 0]
def B4f(r:Ru):DV:=if L1 r=true then erV (A3s r) else .tup [I64 0,I64 1]
theorem B9e(e:Er):(erV e).nl=true:=by cases e<;>rfl
theorem D5h(r:Ru)(e:Ex):(tyV r e).nl=true:=by unfold tyV;split<;>rfl
theorem C7q{D:List Dc}{i:Nat}{d:Dc}{n:List UInt8}(h:D[i]? = some d):lkD (D.take i) (D.drop i) n=if d.name=n then some (d.kind,if d.kind<6 then d.value else (cnR ⟨D.take i,[]⟩ d.kind:Int)) else lkD (D.take (i+1)) (D.drop (i+1)) n:=by
 have hlt:=(A0J.1 h).1;rw[A1C hlt,(A0J.1 h).2,lkD,A0S,h];rfl
theorem C7p{M:List Md}{i:Nat}{m:Md}{n:List UInt8}(h:M[i]? = some m):lkM i (M.drop i) n=if m.name=n then some (9,(i:Int)) else lkM (i+1) (M.drop (i+1)) n:=by
 have hlt:=(A0J.1 h).1;rw[A1C hlt,(A0J.1 h).2,lkM]
theorem C4i{r:Ru}{l:List Ex}{i:Nat}{x:Ex}(h:l[i]? = some x):U6 r (l.drop i)=(erE r x).or (U6 r (l.drop (i+1))):=by
 have hlt:=(A0J.1 h).1;rw[A1C hlt,(A0J.1 h).2,U6]
theorem C9d{r:Ru}{b:Bool}{l:List Ex}{i:Nat}{x:Ex}(h:l[i]? = some x):erA r b (l.drop i)=((erE r x).or (if (L7 x.kind == 2)=b then none else some (x.pos,49))).or (erA r b (l.drop (i+1))):=by
 have hlt:=(A0J.1 h).1;rw[A1C hlt,(A0J.1 h).2,erA]
theorem C9c{r:Ru}{l:List St}{i:Nat}{x:St}(h:l[i]? = some x):erB r (l.drop i)=(erS r x).or (erB r (l.drop (i+1))):=by
 have hlt:=(A0J.1 h).1;rw[A1C hlt,(A0J.1 h).2,erB]
theorem C8x{r:Ru}{l:List Md}{i:Nat}{x:Md}(h:l[i]? = some x):erM r (l.drop i)=(erH r [] x.hds).or (erM r (l.drop (i+1))):=by
 have hlt:=(A0J.1 h).1;rw[A1C hlt,(A0J.1 h).2,erM]
theorem S5{α : Type}{l:List α}{i:Nat}{x : α}(h:l[i]? = some x):l.take i++[x]=l.take (i+1):=by
 rw[A0S,h];rfl
theorem C9b{D:List Dc}{i:Nat}{d:Dc}(h:D[i]? = some d):erD (D.take i) (D.drop i)=((if d.value>A3o d.kind then some (d.pos,5) else none:Er).or (if (E7 ⟨D.take i,[]⟩ d.name).1=0 then none else some (d.pos,7))).or (erD (D.take (i+1)) (D.drop (i+1))):=by
 have hlt:=(A0J.1 h).1;rw[A1C hlt,(A0J.1 h).2,erD,S5 h]
theorem C8w{D:List Dc}{M:List Md}{i:Nat}{m:Md}(h:M[i]? = some m):erP D (M.take i) (M.drop i)=((if m.prio>99 then some (m.pos,5) else none:Er).or (if (E7 ⟨D,M.take i⟩ m.name).1=0 then none else some (m.pos,7))).or (erP D (M.take (i+1)) (M.drop (i+1))):=by
 have hlt:=(A0J.1 h).1;rw[A1C hlt,(A0J.1 h).2,erP,S5 h]
theorem C8z{r:Ru}{l:List Hd}{i:Nat}{h:Hd}(hg:l[i]? = some h):erH r (l.take i) (l.drop i)=(((dnE r h.name (kdH h.trig) h.pos).or (if (l.take i).any (fun x=>x.trig == h.trig && x.name == h.name)=true then some (h.pos,7) else none)).or (erB r h.body)).or (erH r (l.take (i+1)) (l.drop (i+1))):=by
 have hlt:=(A0J.1 hg).1;rw[A1C hlt,(A0J.1 hg).2,erH,S5 hg]
def NzE(e:Er):Prop:=∀ p c,e=some (p,c)->c≠0
theorem NzE.or{a b:Er}(ha:NzE a)(hb:NzE b):NzE (a.or b):=by
 intro p c h;cases a with
 |none=>exact hb p c (by grind)
 |some q=>exact ha p c (by grind)
theorem A1d:NzE none:=fun p c h=>by grind
theorem C0y{b:Prop}[Decidable b]{p c:Int}(h:c≠0):NzE (if b then none else some (p,c)):=by
 intro p' c' e;grind
theorem B3n{b:Prop}[Decidable b]{p c:Int}(h:c≠0):NzE (if b then some (p,c) else none):=by
 intro p' c' e;grind
theorem B1n(r:Ru)(n:List UInt8)(k p:Int):NzE (dnE r n k p):=by
 intro p' c h;unfold dnE at h;grind
mutual
theorem C6z(r:Ru):∀ e:Ex,NzE (erE r e)
 |.mk k v n a p=>by rw[erE];exact ((B5l r a).or (B1n _ _ _ _)).or (C0y (by simp))
theorem B5l(r:Ru):∀ l:List Ex,NzE (U6 r l)
 |[]=>by rw[U6];exact A1d
 |x :: l=>by rw[U6];exact (C6z r x).or (B5l r l)
end
theorem C7a(r:Ru)(b:Bool):∀ l:List Ex,NzE (erA r b l)
 |[]=>by rw[erA];exact A1d
 |x :: l=>by rw[erA];exact ((C6z r x).or (C0y (by simp))).or (C7a r b l)
mutual
theorem E4t(r:Ru):∀ e:St,NzE (erS r e)
 |.mk k n t a x y p=>by rw[erS];exact (((B1n _ _ _ _).or (C7a _ _ _)).or (B3o r x)).or (B3o r y)
theorem B3o(r:Ru):∀ l:List St,NzE (erB r l)
 |[]=>by rw[erB];exact A1d
 |x :: l=>by rw[erB];exact (E4t r x).or (B3o r l)
end
theorem C3j:∀ (l pre:List Dc),NzE (erD pre l)
 |[],pre=>by rw[erD];exact A1d
 |d :: l,pre=>by rw[erD];exact ((B3n (by simp)).or (C0y (by simp))).or (C3j l _)
theorem C6y(D:List Dc):∀ (l pre:List Md),NzE (erP D pre l)
 |[],pre=>by rw[erP];exact A1d
 |d :: l,pre=>by rw[erP];exact ((B3n (by simp)).or (C0y (by simp))).or (C6y D l _)
theorem C6x(r:Ru):NzE (A7a r):=(C3j _ _).or (C6y _ _ _)
theorem D7b(r:Ru):∀ (l pre:List Hd),NzE (erH r pre l)
 |[],pre=>by rw[erH];exact A1d
 |d :: l,pre=>by rw[erH];exact (((B1n _ _ _ _).or (B3n (by simp))).or (B3o r _)).or (D7b r l _)
theorem D1k(r:Ru):∀ (l:List Md),NzE (erM r l)
 |[]=>by rw[erM];exact A1d
 |d :: l=>by rw[erM];exact (D7b r _ _).or (D1k r l)
theorem C1k{k:Int}:∀ {i:Nat} {l:List Ex} {q:Nat × Nat},msL k i l=some q->∀ x∈l, ∃ q,msM x=some q
 |i,[],q,h,x,hx=>by grind
 |i,e :: l,q,h,x,hx=>by
  rw[msL]at h;cases he:msM e with
  |none=>grind
  |some q1 =>
   rw[he]at h;dsimp only at h;cases hl:msL k (i+1) l with
   |none=>grind
   |some q2 =>
    rcases A0Y.1 hx with rfl|hx
    ·grind
    ·exact C1k hl x hx
theorem C1i{e:Ex}{q:Nat × Nat}(h:msM e=some q):∀ x∈e.args, ∃ q,msM x=some q:=by
 cases e with|mk k v n a p =>
 obtain⟨o,d⟩:=q;obtain⟨m1,m2,m3,m4,m5,m6⟩:=A9n h;intro x hx;by_cases hc:I7 k=0
 ·have:a=[]:=A2D (by omega);subst this;cases hx
 ·obtain⟨d',h1, -⟩:=m6 hc;exact C1k h1 x hx
theorem C7k{e:Ex}{q:Nat × Nat}(h:msM e=some q)(hk:e.kind=21\/e.kind=22):e.args.length=2:=by
 cases e with|mk k v n a p =>
 obtain⟨o,d⟩:=q;obtain⟨m1,m2,m3,m4,m5,m6⟩:=A9n h;show a.length=2;rw[m2];rcases hk with hk|hk
 all_goals (have hk:k=_:=hk;subst hk;decide)
theorem D4j(r:Ru)(s:St):erS r s=(((dnE r s.name (kdS s.kind) s.pos).or (erA r (s.kind == 2) s.args)).or (erB r s.thn)).or (erB r s.els):=by
 cases s with|mk k n t a x y p=>rfl
theorem A6i{d:Nat}:∀ {l:List St},F8 d l=true->∀ s∈l,N7 d s=true
 |s0 :: l,h,s,hs=>by
  rw[F8,A0F]at h;rcases A0Y.1 hs with rfl|hs
  ·grind
  ·exact A6i h.2 s hs
theorem A8w{d:Nat}{s:St}(h:N7 d s=true):(∀ x∈s.args, ∃ q,msM x=some q)/\F8 (d+1) s.thn=true/\F8 (d+1) s.els=true:=by
 cases s with|mk k n t a x y p =>
 rw[N7]at h;simp only[A0F]at h;refine⟨fun e he=>?_,h.2.1.2,h.2.2.2⟩;have h1:=A0R.1 h.1.1.1.2.2 e he;unfold S4 at h1
 grind
theorem B4o{r:Ru}(h:L1 r=true):∀ m∈r.modes, ∀ x∈m.hds,F8 1 x.body=true:=by
 intro m hm x hx;unfold L1 at h;simp only[A0F]at h;have h1:=A0R.1 h.2 m hm;unfold Q0 at h1;simp only[A0F]at h1;have h2:=A0R.1 h1.2 x hx;unfold A0x at h2;simp only[A0F]at h2;have h3:=h2.2;unfold M4 at h3
 grind
theorem C5m{r:Ru}{m:Md}(h:m∈r.modes):m.sz<=r.sz:=by
 have:m.sz<=(r.modes.map Md.sz).sum:=J5 h;show _<=(r.decls.map Dc.sz).sum+(r.modes.map Md.sz).sum;omega
theorem C5n{m:Md}{x:Hd}(h:x∈m.hds):x.sz<=m.sz:=by
 have:x.sz<=(m.hds.map Hd.sz).sum:=J5 h;show _<=1+m.name.length+(m.hds.map Hd.sz).sum;omega
theorem A7p(r:Ru):r.decls.length<=r.sz:=by
 have:r.decls.length<=(r.decls.map Dc.sz).sum:=I2 fun x _=>by show 1<=1+_;omega
 show _<=(r.decls.map Dc.sz).sum+(r.modes.map Md.sz).sum;omega
theorem A7o(r:Ru):r.modes.length<=r.sz:=by
 have:r.modes.length<=(r.modes.map Md.sz).sum:=I2 fun x _=>by show 1<=1+_+_;omega
 show _<=(r.decls.map Dc.sz).sum+(r.modes.map Md.sz).sum;omega
theorem D3p(m:Md):m.hds.length<=m.sz:=by
 have:m.hds.length<=(m.hds.map Hd.sz).sum:=I2 fun x _=>by show 1<=1+_+_;omega
 show _<=1+m.name.length+(m.hds.map Hd.sz).sum;omega
theorem A7i{α : Type}(p : α -> Bool)(l:List α)(k:Nat)(x : α)(hx:l[k]? = some x):(l.take (k+1)).any p=((l.take k).any p || p x):=by
 rw[A0S,hx,List.any_append];simp
def A1v(nm:List UInt8->Int)(k v:Int)(n:List UInt8):Ins :=
 if k=1 then ⟨1,v⟩ else if k=3 then ⟨1,1⟩ else if k=4 then ⟨1,0⟩ else if k=2 then ⟨2,nm n⟩ else if k=5 then ⟨4,nm n⟩ else if k=6 then ⟨5,nm n⟩ else if k=7 then ⟨6,nm n⟩
 else if k=8 then ⟨7,0⟩ else if k=9 then ⟨8,0⟩ else if k=10 then ⟨9,0⟩ else if k=11 then ⟨10,0⟩ else ⟨11,k⟩
mutual
def cgE(nm:List UInt8->Int):Ex->List Ins
 |.mk k v n a p=>C5 nm a++[A1v nm k v n]
def C5(nm:List UInt8->Int):List Ex->List Ins
 |[]=>[]
 |x :: l=>cgE nm x++C5 nm l
end
theorem D4m(nm:List UInt8->Int)(e:Ex):cgE nm e=C5 nm e.args++[A1v nm e.kind e.value e.name]:=by cases e;rfl
def stOp(k:Int):Int:=if k=1 then 3 else if k=4 then 15 else if 5<=k/\k<=18 then k+11 else 30
def txS(S:List (List UInt8))(t:List UInt8):Nat × List (List UInt8):=if t∈S then (S.idxOf t,S) else (S.length,S++[t])
abbrev Cg:=List Ins × List (List UInt8)
mutual
def cgS(nm:List UInt8->Int)(p:Nat)(S:List (List UInt8)):St->Cg
 |.mk k n t a x y _ =>
  if k=2 then
   (if y.length=0 then
    (C5 nm a++(⟨13,((p+(C5 nm a).length+1+(cgB nm (p+(C5 nm a).length+1) S x).1.length:Nat):Int)⟩ :: (cgB nm (p+(C5 nm a).length+1) S x).1),(cgB nm (p+(C5 nm a).length+1) S x).2)
   else
    (C5 nm a++(⟨13,((p+(C5 nm a).length+1+(cgB nm (p+(C5 nm a).length+1) S x).1.length+1:Nat):Int)⟩ :: ((cgB nm (p+(C5 nm a).length+1) S x).1 ++
      (⟨12,((p+(C5 nm a).length+1+(cgB nm (p+(C5 nm a).length+1) S x).1.length+1+(cgB nm (p+(C5 nm a).length+1+(cgB nm (p+(C5 nm a).length+1) S x).1.length+1) (cgB nm (p+(C5 nm a).length+1) S x).2 y).1.length:Nat):Int)⟩ ::
       (cgB nm (p+(C5 nm a).length+1+(cgB nm (p+(C5 nm a).length+1) S x).1.length+1) (cgB nm (p+(C5 nm a).length+1) S x).2 y).1))),
     (cgB nm (p+(C5 nm a).length+1+(cgB nm (p+(C5 nm a).length+1) S x).1.length+1) (cgB nm (p+(C5 nm a).length+1) S x).2 y).2))
  else if k=3 then
   (C5 nm a++(⟨14,((p+(C5 nm a).length+1+(cgB nm (p+(C5 nm a).length+1) S x).1.length+1:Nat):Int)⟩ :: ((cgB nm (p+(C5 nm a).length+1) S x).1++[⟨12,((p+(C5 nm a).length:Nat):Int)⟩])),(cgB nm (p+(C5 nm a).length+1) S x).2)
  else if k=18 then (C5 nm a++[⟨29,((txS S t).1:Int)⟩],(txS S t).2)
  else (C5 nm a++[⟨stOp k,nm n⟩],S)
def cgB(nm:List UInt8->Int)(p:Nat)(S:List (List UInt8)):List St->Cg
 |[]=>([],S)
 |s :: l=>((cgS nm p S s).1++(cgB nm (p+(cgS nm p S s).1.length) (cgS nm p S s).2 l).1,(cgB nm (p+(cgS nm p S s).1.length) (cgS nm p S s).2 l).2)
end
structure Ky where
 mode:Int
 trig:Int
 ix:Int
deriving DecidableEq
def Ky.lt(a b:Ky):Prop:=a.mode<b.mode\/(a.mode=b.mode/\(a.trig<b.trig\/(a.trig=b.trig/\a.ix<b.ix)))
theorem Ky.lt_trans{a b c:Ky}(h:a.lt b)(g:b.lt c):a.lt c:=by unfold Ky.lt at *;omega
theorem Ky.lt_irrefl(a:Ky):¬ a.lt a:=by unfold Ky.lt;omega
theorem Ky.tri(a b:Ky):a.lt b\/a=b\/b.lt a:=by
 obtain⟨a1,a2,a3⟩:=a;obtain⟨b1,b2,b3⟩:=b;unfold Ky.lt;simp only[Ky.mk.injEq];omega
abbrev C8:=Ky × List (List St)
def bod(l:List C8)(k:Ky):Option (List (List St)):=(l.find? fun p=>p.1=k).map (·.2)
theorem G5(p:C8)(l:List C8)(k:Ky):bod (p :: l) k=if p.1=k then some p.2 else bod l k:=by
 unfold bod;rw[List.find?_cons];by_cases h:p.1=k<;>simp[h]
def Srt(l:List C8):Prop:=l.Pairwise fun a b=>a.1.lt b.1
theorem A6c{l:List C8}{k:Ky}(h:∀ p∈l,p.1≠k):bod l k=none:=by
 induction l with
 |nil=>rfl
 |cons p l ih =>
  rw[G5,if_neg (h p A0H)];exact ih fun q hq=>h q (A0G _ hq)
theorem C5v:∀ {l m:List C8},Srt l->Srt m->(∀ k,bod l k=bod m k)->l=m
 |[],[],_,_,_=>rfl
 |[],q :: m,_,_,h=>by have:=h q.1;rw[G5,if_pos rfl]at this;cases this
 |p :: l,[],_,_,h=>by have:=h p.1;rw[G5,if_pos rfl]at this;cases this
 |p :: l,q :: m,h1,h2,h=>by
  obtain⟨p1,l1⟩:=A3N.1 h1;obtain⟨q1,m1⟩:=A3N.1 h2;have hpq:p.1=q.1:=by
   rcases Ky.tri p.1 q.1 with g|g|g
   ·exfalso;have:=h p.1;rw[G5,if_pos rfl,A6c (l:=q :: m) (k:=p.1) (fun x hx e=>by
     rcases A0Y.1 hx with rfl|hx
     ·rw[e]at g;exact Ky.lt_irrefl _ g
     ·have:=Ky.lt_trans g (q1 x hx);rw[e]at this;exact Ky.lt_irrefl _ this)]at this
    cases this
   ·exact g
   ·exfalso;have:=h q.1;rw[G5 (p:=q),if_pos rfl,A6c (l:=p :: l) (k:=q.1) (fun x hx e=>by
     rcases A0Y.1 hx with rfl|hx
     ·rw[e]at g;exact Ky.lt_irrefl _ g
     ·have:=Ky.lt_trans g (p1 x hx);rw[e]at this;exact Ky.lt_irrefl _ this)]at this
    cases this
  have hb:=h p.1;rw[G5,if_pos rfl,G5,if_pos hpq.symm]at hb;have e:p=q:=Prod.ext hpq (Option.some.inj hb);subst e
  congr 1
  refine C5v l1 m1 fun k=>?_;by_cases hk:p.1=k
  ·rw[A6c (fun x hx e=>by have:=p1 x hx;rw[e,hk]at this;exact Ky.lt_irrefl _ this),A6c (fun x hx e=>by have:=q1 x hx;rw[e,hk]at this;exact Ky.lt_irrefl _ this)]
  ·have:=h k
   rwa [G5,if_neg hk,G5,if_neg hk]at this
theorem D0a{l m:List C8}(hp:l.Perm m)(hn:(l.map (·.1)).Nodup)(k:Ky):bod l k=bod m k:=by
 induction hp with
 |nil=>rfl
 |cons x _ ih =>
  rw[G5,G5,ih (A2Y.1 hn).2]
 |swap x y l =>
  rw[G5,G5,G5,G5];by_cases h1:y.1=k<;>by_cases h2:x.1=k<;>simp[h1,h2];simp only[A0Q,A2Y,A0Y]at hn;exact absurd (Or.inl (h1.trans h2.symm)) hn.1
 |trans h1 h2 ih1 ih2=>exact (ih1 hn).trans (ih2 ((h1.map _).nodup_iff.1 hn))
def L0(k:Ky)(b:List St):List C8->List C8
 |[]=>[(k,[b])]
 |p :: l=>if p.1=k then (p.1,p.2++[b]) :: l else p :: L0 k b l
theorem D0i(k:Ky)(b:List St)(l:List C8)(q:Ky):bod (L0 k b l) q=if k=q then some ((bod l q).getD []++[b]) else bod l q:=by
 induction l with
 |nil =>
  rw[L0,G5];simp only[bod,List.find?_nil,Option.map_none,Option.getD_none,List.nil_append]
 |cons p l ih =>
  rw[L0];by_cases h:p.1=k
  ·rw[if_pos h,G5,G5];simp only[h];by_cases h2:k=q<;>simp[h2]
  ·rw[if_neg h,G5,G5,ih];by_cases h2:k=q
   ·subst h2;simp[h]
   ·simp[h2]
theorem C4v(k:Ky)(b:List St)(l:List C8):∀ q,q∈(L0 k b l).map (·.1)↔q=k\/q∈l.map (·.1):=by
 intro q
 induction l with
 |nil=>simp[L0]
 |cons p l ih =>
  rw[L0];by_cases h:p.1=k
  ·rw[if_pos h];simp only[A0Q,A0Y,h];constructor
   ·exact fun h=>Or.inr h
   ·rintro (h|h)
    ·exact Or.inl h
    ·exact h
  ·rw[if_neg h];simp only[A0Q,A0Y,ih];constructor
   ·rintro (h|h|h)
    ·exact Or.inr (Or.inl h)
    ·exact Or.inl h
    ·exact Or.inr (Or.inr h)
   ·rintro (h|h|h)
    ·exact Or.inr (Or.inl h)
    ·exact Or.inl h
    ·exact Or.inr (Or.inr h)
theorem B9t(k:Ky)(b:List St):∀ {l:List C8},(l.map (·.1)).Nodup->((L0 k b l).map (·.1)).Nodup:=by
 intro l
 induction l with
 |nil=>intro _;simp[L0]
 |cons p l ih =>
  intro h;rw[L0];obtain⟨h1,h2⟩:=A2Y.1 h;by_cases e:p.1=k
  ·rw[if_pos e];exact h
  ·rw[if_neg e,A0Q,A2Y];refine⟨fun hm=>?_,ih h2⟩;rcases (C4v k b l p.1).1 hm with g|g
   ·exact e g
   ·exact h1 g
abbrev KB:=Ky × List St
def hdK(nm:List UInt8->Int)(i:Nat)(h:Hd):KB:=(⟨i,h.trig,nm h.name⟩,h.body)
def hkM(nm:List UInt8->Int)(i:Nat):List Md->List KB
 |[]=>[]
 |m :: l=>m.hds.map (hdK nm i)++hkM nm (i+1) l
def H5(l:List C8)(q:List KB):List C8:=q.foldl (fun l x=>L0 x.1 x.2 l) l
def J1(q:List KB)(k:Ky):List (List St):=(q.filter fun x=>x.1=k).map (·.2)
theorem B0r(a b:List KB)(k:Ky):J1 (a++b) k=J1 a k++J1 b k:=by simp[J1]
theorem A3l(x:KB)(b:List KB)(k:Ky):J1 (x :: b) k=if x.1=k then x.2 :: J1 b k else J1 b k:=by
 unfold J1;rw[List.filter_cons];by_cases h:x.1=k<;>simp[h]
theorem B7g:∀ (q:List KB) (l:List C8) (k:Ky),bod (H5 l q) k=if J1 q k=[] then bod l k else some ((bod l k).getD []++J1 q k)
 |[],l,k=>by simp[H5,J1]
 |x :: q,l,k=>by
  have h:=B7g q (L0 x.1 x.2 l) k;have e:H5 l (x :: q)=H5 (L0 x.1 x.2 l) q:=rfl;rw[e,h,D0i,A3l];by_cases h1:x.1=k
  ·simp only[h1,if_true,A3W,A0P,List.singleton_append];by_cases h2:J1 q k=[]<;>simp[h2]
  ·simp only[h1,if_false]
theorem A4v:∀ (q:List KB) {l:List C8},(l.map (·.1)).Nodup->((H5 l q).map (·.1)).Nodup
 |[],_,h=>h
 |x :: q,_,h=>A4v q (B9t x.1 x.2 h)
def ptK(q:List KB)(ks:List Ky):List C8:=ks.filterMap fun k=>if J1 q k=[] then none else some (k,J1 q k)
theorem C0p(q:List KB):∀ (ks:List Ky) (k:Ky),bod (ptK q ks) k=if k∈ks/\J1 q k≠[] then some (J1 q k) else none
 |[],k=>by simp[ptK,bod]
 |a :: ks,k=>by
  have ih:=C0p q ks k;unfold ptK at ih ⊢;rw[List.filterMap_cons];by_cases h:J1 q a=[]
  ·simp only[h,if_true];rw[ih];by_cases e:k=a
   ·subst e;simp[h]
   ·simp[e]
  ·simp only[h,if_false];rw[G5];by_cases e:a=k
   ·subst e;simp[h]
   ·rw[if_neg e,ih];have e':¬ k=a:=fun h=>e h.symm;simp[e']
theorem D1e(q:List KB){ks:List Ky}(h:ks.Pairwise Ky.lt):Srt (ptK q ks):=by
 induction ks with
 |nil=>exact List.Pairwise.nil
 |cons a ks ih =>
  obtain⟨h1,h2⟩:=A3N.1 h;unfold ptK;rw[List.filterMap_cons];by_cases e:J1 q a=[]
  ·simp only[e,if_true];exact ih h2
  ·simp only[e,if_false];refine A3N.2 ⟨fun p hp=>?_,ih h2⟩;obtain⟨k,hk,e2⟩:=A4C.1 hp;split at e2
   ·cases e2
   ·cases e2;exact h1 _ hk
def A5u(i:Nat)(t:Nat):List Ky:=(List.range 128).map fun (n:Nat)=>(⟨i,(t:Int)+1,(n:Int)⟩:Ky)
def B1d(i:Nat):List Ky:=(List.range 6).flatMap (A5u i)
theorem A3c{i t:Nat}{k:Ky}:k∈A5u i t↔k.mode=i/\k.trig=(t:Int)+1/\0<=k.ix/\k.ix<128:=by
 unfold A5u;rw[A1A];constructor
 ·rintro⟨n,hn,rfl⟩;have:=A3L.1 hn;exact⟨rfl,rfl,A2I n,by show (n:Int)<128;omega⟩
 ·rintro⟨h1,h2,h3,h4⟩;refine⟨k.ix.toNat,A3L.2 (by omega),?_⟩;obtain⟨a,b,c⟩:=k;simp only at h1 h2 h3 h4;subst h1;subst h2;simp only[Ky.mk.injEq,true_and];exact Int.toNat_of_nonneg h3
theorem A9q{i:Nat}{k:Ky}:k∈B1d i↔k.mode=i/\1<=k.trig/\k.trig<=6/\0<=k.ix/\k.ix<128:=by
 unfold B1d;rw[List.mem_flatMap];constructor
 ·rintro⟨t,ht,h⟩;have:=A3L.1 ht;obtain⟨h1,h2,h3,h4⟩:=A3c.1 h;exact⟨h1,by omega,by omega,h3,h4⟩
 ·rintro⟨h1,h2,h3,h4,h5⟩;exact⟨(k.trig-1).toNat,A3L.2 (by omega),A3c.2 ⟨h1,by omega,h4,h5⟩⟩
theorem C4a(i t:Nat):(A5u i t).Pairwise Ky.lt:=by
 unfold A5u;rw[A4Q];exact List.Pairwise.imp (fun h=>Or.inr ⟨rfl,Or.inr ⟨rfl,Int.ofNat_lt.2 h⟩⟩) List.pairwise_lt_range
theorem B6j{f:Nat->List Ky}(h1:∀ t,(f t).Pairwise Ky.lt)(h2:∀ t u,t<u->∀ a∈f t, ∀ b∈f u,a.lt b):∀ {l:List Nat},l.Pairwise (· < ·)->(l.flatMap f).Pairwise Ky.lt:=by
 intro l
 induction l with
 |nil=>intro _;exact List.Pairwise.nil
 |cons t l ih =>
  intro h;obtain⟨g1,g2⟩:=A3N.1 h;rw[A2A,List.pairwise_append];refine⟨h1 t,ih g2,fun a ha b hb=>?_⟩;obtain⟨u,hu,hb⟩:=List.mem_flatMap.1 hb;exact h2 t u (g1 u hu) a ha b hb
theorem B6h(i:Nat):(B1d i).Pairwise Ky.lt :=
 B6j (C4a i) (fun t u htu a ha b hb=>by
  obtain⟨a1,a2, -, -⟩:=A3c.1 ha;obtain⟨b1,b2, -, -⟩:=A3c.1 hb;unfold Ky.lt;omega) List.pairwise_lt_range
def rfP(nm:List UInt8->Int)(i:Nat)(l:List Hd):List C8:=ptK (l.map (hdK nm i)) (B1d i)
def E0(nm:List UInt8->Int)(i:Nat):List Md->List C8
 |[]=>[]
 |m :: l=>rfP nm i m.hds++E0 nm (i+1) l
def HOk(nm:List UInt8->Int)(h:Hd):Prop:=1<=h.trig/\h.trig<=6/\0<=nm h.name/\nm h.name<128
theorem D3c(a b:List C8)(k:Ky):bod (a++b) k=(bod a k).or (bod b k):=by
 unfold bod;rw[List.find?_append];cases (a.find? fun p=>p.1=k)<;>rfl
theorem C1u{nm:List UInt8->Int}:∀ {l:List Md} {i:Nat} {x:KB},x∈hkM nm i l->(i:Int)<=x.1.mode
 |[],_,_,h=>by cases h
 |m :: l,i,x,h=>by
  rw[hkM]at h;rcases A0X.1 h with h|h
  ·obtain⟨y, -,rfl⟩:=A1A.1 h;exact A3G _
  ·have:=C1u h;omega
theorem A6d{q:List KB}{k:Ky}(h:∀ x∈q,x.1≠k):J1 q k=[]:=by
 unfold J1;rw[List.map_eq_nil_iff,List.filter_eq_nil_iff];intro x hx;simpa using h x hx
theorem D1c{nm:List UInt8->Int}{i:Nat}{l:List Hd}(h:∀ x∈l,HOk nm x)(k:Ky):bod (rfP nm i l) k=if J1 (l.map (hdK nm i)) k=[] then none else some (J1 (l.map (hdK nm i)) k):=by
 unfold rfP;rw[C0p];by_cases e:J1 (l.map (hdK nm i)) k=[]
 ·simp[e]
 ·rw[if_neg e,if_pos];refine⟨?_,e⟩;have:∃ x∈l.map (hdK nm i),x.1=k:=Classical.byContradiction fun hn=>e (A6d fun x hx he=>hn ⟨x,hx,he⟩);obtain⟨x,hx,rfl⟩:=this;obtain⟨y,hy,rfl⟩:=A1A.1 hx;obtain⟨h1,h2,h3,h4⟩:=h y hy;exact A9q.2 ⟨rfl,h1,h2,h3,h4⟩
theorem B5i{nm:List UInt8->Int}:∀ {l:List Md} {i:Nat},(∀ m∈l, ∀ x∈m.hds,HOk nm x)->∀ k:Ky,bod (E0 nm i l) k=if J1 (hkM nm i l) k=[] then none else some (J1 (hkM nm i l) k)
 |[],i,_,k=>by simp[E0,hkM,J1,bod]
 |m :: l,i,h,k=>by
  rw[E0,D3c,D1c (h m A0H),B5i (fun m hm=>h m (A0G _ hm)),hkM,B0r];by_cases e:J1 (m.hds.map (hdK nm i)) k=[]
  ·simp[e]
  ·have hk:k.mode=i:=by
    have:∃ x∈m.hds.map (hdK nm i),x.1=k:=Classical.byContradiction fun hn=>e (A6d fun x hx he=>hn ⟨x,hx,he⟩);obtain⟨x,hx,rfl⟩:=this;obtain⟨y,hy,rfl⟩:=A1A.1 hx;rfl
   have e2:J1 (hkM nm (i+1) l) k=[]:=A6d fun x hx he=>by have:=C1u hx;rw[he,hk]at this;omega
   simp[e,e2]
theorem C0o{q:List KB}{ks:List Ky}{p:C8}(h:p∈ptK q ks):p.1∈ks:=by
 obtain⟨k,hk,e⟩:=A4C.1 h;split at e
 ·cases e
 ·cases e;exact hk
theorem B1m{nm:List UInt8->Int}:∀ {l:List Md} {i:Nat} {p:C8},p∈E0 nm i l->(i:Int)<=p.1.mode
 |[],_,_,h=>by cases h
 |m :: l,i,p,h=>by
  rw[E0]at h;rcases A0X.1 h with h|h
  ·have:=(A9q.1 (C0o h)).1;omega
  ·have:=B1m h;omega
theorem A9e{nm:List UInt8->Int}:∀ (l:List Md) (i:Nat),Srt (E0 nm i l)
 |[],_=>List.Pairwise.nil
 |m :: l,i=>by
  rw[E0];refine List.pairwise_append.2 ⟨D1e _ (B6h i),A9e l (i+1),fun a ha b hb=>?_⟩;have h1:=(A9q.1 (C0o ha)).1;have h2:=B1m hb;unfold Ky.lt;omega
theorem C6v{nm:List UInt8->Int}{l:List Md}{s:List C8}(h:∀ m∈l, ∀ x∈m.hds,HOk nm x)(hp:s.Perm (H5 [] (hkM nm 0 l)))(hs:Srt s):s=E0 nm 0 l:=by
 refine C5v hs (A9e l 0) fun k=>?_;have hn:((H5 [] (hkM nm 0 l)).map (·.1)).Nodup:=A4v _ (by simp);rw[<- D0a hp.symm hn,B7g,B5i h];simp[bod]
mutual
def hE(h:Int):Ex->List Int
 |.mk k v n a p=>hEs h a++[h+(a.length:Int)]
def hEs(h:Int):List Ex->List Int
 |[]=>[]
 |x :: l=>hE h x++hEs (h+1) l
end
mutual
def hS(h:Int):St->List Int
 |.mk k n t a x y _ =>
  if k=2 then (if y.length=0 then hEs h a++((h+1) :: hB h x) else hEs h a++((h+1) :: (hB h x++(h :: hB h y))))
  else if k=3 then hEs h a++((h+1) :: (hB (h+1) x++[h+1]))
  else hEs h a++[h+(a.length:Int)]
def hB(h:Int):List St->List Int
 |[]=>[]
 |s :: l=>hS h s++hB h l
end
section
variable (nm:List UInt8->Int)
mutual
theorem B8y:∀ (e:Ex) (h:Int),(hE h e).length=(cgE nm e).length
 |.mk k v n a p,h=>by rw[hE,cgE,A0A,A0A,O8 a];rfl
theorem O8:∀ (l:List Ex) (h:Int),(hEs h l).length=(C5 nm l).length
 |[],_=>rfl
 |x :: l,h=>by rw[hEs,C5,A0A,A0A,B8y x,O8 l]
end
mutual
theorem C8g:∀ (s:St) (h:Int) (p:Nat) (S:List (List UInt8)),(hS h s).length=(cgS nm p S s).1.length
 |.mk k n t a x y q,h,p,S=>by
  rw[hS,cgS];by_cases h2:k=2
  ·rw[if_pos h2,if_pos h2];by_cases hy:y.length=0
   ·rw[if_pos hy,if_pos hy];simp only[A0A,A0K,O8 nm a,A1g x h (p+(C5 nm a).length+1) S]
   ·rw[if_neg hy,if_neg hy];simp only[A0A,A0K,O8 nm a];rw[A1g x h (p+(C5 nm a).length+1) S];rw[A1g y h (p+(C5 nm a).length+1+(cgB nm (p+(C5 nm a).length+1) S x).1.length+1) (cgB nm (p+(C5 nm a).length+1) S x).2]
  ·rw[if_neg h2,if_neg h2];by_cases h3:k=3
   ·rw[if_pos h3,if_pos h3];simp only[A0A,A0K,O8 nm a,A1g x (h+1) (p+(C5 nm a).length+1) S,A1H]
   ·rw[if_neg h3,if_neg h3];by_cases h4:k=18
    ·rw[if_pos h4];simp only[A0A,A0K,O8 nm a,A1H]
    ·rw[if_neg h4];simp only[A0A,A0K,O8 nm a,A1H]
theorem A1g:∀ (l:List St) (h:Int) (p:Nat) (S:List (List UInt8)),(hB h l).length=(cgB nm p S l).1.length
 |[],_,_,_=>rfl
 |s :: l,h,p,S=>by
  rw[hB,cgB];simp only[A0A];rw[C8g s h p S,A1g l h (p+(cgS nm p S s).1.length) (cgS nm p S s).2]
end
end
def Plc(I:List Ins)(Hs:List Int)(p:Nat)(C:List Ins)(H:List Int):Prop:=∀ i,i<C.length->I[p+i]? = C[i]? /\ Hs[p+i]? = H[i]?
theorem Plc.split{I:List Ins}{Hs:List Int}{p:Nat}{C D:List Ins}{H K:List Int}(h:Plc I Hs p (C++D) (H++K))(hl:H.length=C.length):Plc I Hs p C H/\Plc I Hs (p+C.length) D K:=by
 constructor
 ·intro i hi;obtain⟨h1,h2⟩:=h i (by rw[A0A];omega)
  grind
 ·intro i hi;obtain⟨h1,h2⟩:=h (C.length+i) (by rw[A0A];omega)
  grind
theorem Plc.one{I:List Ins}{Hs:List Int}{p:Nat}{i:Ins}{x:Int}{D:List Ins}{K:List Int}(h:Plc I Hs p (i :: D) (x :: K)):I[p]? = some i/\Hs[p]? = some x/\Plc I Hs (p+1) D K:=by
 refine⟨(h 0 (by simp)).1,(h 0 (by simp)).2,fun j hj=>?_⟩;obtain⟨h1,h2⟩:=h (j+1) (by simpa using hj)
 grind
def Gd(I:List Ins)(Hs:List Int)(p:Nat):Prop:=∀ i x,I[p]? = some i->Hs[p]? = some x ->
 (D0 i.op).1<=x/\x<=48/\¬(i.op=31/\x≠0)/\((D0 i.op).2.2=7->0<=i.A)/\∀ s∈F6 i p x,Hs[s.1]? = some s.2
theorem Gd.mk'{I:List Ins}{Hs:List Int}{p:Nat}{i:Ins}{x:Int}(h1:I[p]? = some i)(h2:Hs[p]? = some x)
  (h:(D0 i.op).1<=x/\x<=48/\¬(i.op=31/\x≠0)/\((D0 i.op).2.2=7->0<=i.A)/\∀ s∈F6 i p x,Hs[s.1]? = some s.2):Gd I Hs p:=by
 intro j y e1 e2
 grind
theorem Gd.next{I:List Ins}{Hs:List Int}{p:Nat}{i:Ins}{x:Int}(h1:I[p]? = some i)(h2:Hs[p]? = some x)(hk:¬ (D0 i.op).2.2=7)(hr:¬ i.op=31)(ht:(D0 i.op).1<=x)(hx:x<=48)
  (hn:Hs[p+1]? = some (x-(D0 i.op).1+(D0 i.op).2.1)):Gd I Hs p:=by
 refine Gd.mk' h1 h2 ⟨ht,hx,fun h=>hr h.1,fun h=>absurd h hk,fun s hs=>?_⟩;have e12:¬ i.op=12:=fun e=>hk (by rw[e];decide);have e13:¬ i.op=13:=fun e=>hk (by rw[e];decide);have e14:¬ i.op=14:=fun e=>hk (by rw[e];decide);unfold F6 at hs
 grind
def exO(k:Int):Int:=if k=1 then 1 else if k=3 then 1 else if k=4 then 1 else if k=2 then 2 else if k=5 then 4 else if k=6 then 5 else if k=7 then 6 else if k=8 then 7 else if k=9 then 8 else if k=10 then 9 else if k=11 then 10 else 11
theorem D2q(nm:List UInt8->Int)(k v:Int)(n:List UInt8):(A1v nm k v n).op=exO k:=by
 unfold A1v exO;simp only[apply_ite Ins.op]
theorem C8s(nm:List UInt8->Int){k:Int}(hk:kOk k=true)(v:Int)(n:List UInt8):
  (D0 (A1v nm k v n).op).1=(I7 k:Int)/\(D0 (A1v nm k v n).op).2.1=1/\¬ (D0 (A1v nm k v n).op).2.2=7/\¬ (A1v nm k v n).op=31:=by
 have h24:1<=k/\k<=24:=by
  unfold kOk at hk;rw[A1G,A0F,A0I,A0I,A0I]at hk;rcases hk with h|h
  ·unfold B6 at h;repeat' split at h
   all_goals first|omega|(simp at *;omega)
  omega
 have hm:k=1\/k=2\/k=3\/k=4\/k=5\/k=6\/k=7\/k=8\/k=9\/k=10\/k=11\/k=12\/k=13\/k=14\/k=15\/k=16\/k=17\/k=18\/k=19\/k=20\/k=21\/k=22\/k=23\/k=24:=by omega
 rw[D2q];rcases hm with rfl|rfl|rfl|rfl|rfl|rfl|rfl|rfl|rfl|rfl|rfl|rfl|rfl|rfl|rfl|rfl|rfl|rfl|rfl|rfl|rfl|rfl|rfl|rfl<;>exact⟨by decide,by decide,by decide,by decide⟩
theorem B1s{k v:Int}{n:List UInt8}{a:List Ex}{p:Int}{o d:Nat}(h:msM (.mk k v n a p)=some (o,d)):
  kOk k=true/\a.length=I7 k/\((I7 k=0/\o=1)\/(¬ I7 k=0/\∃ d',msL k 0 a=some (o,d'))):=by
 rw[msM]at h
 grind
mutual
theorem C1j:∀ {e:Ex} {o d:Nat},msM e=some (o,d)->1<=o
 |.mk k v n a p,o,d,h=>by
  obtain⟨h1,h2,⟨-,rfl⟩|⟨h3,d',h4⟩⟩:=B1s h
  ·omega
  ·have:=B8k h4;omega
theorem B8k:∀ {l:List Ex} {k:Int} {i o d:Nat},msL k i l=some (o,d)->l.length<=o
 |[],_,_,_,_,_=>A0O _
 |e :: l,k,i,o,d,h=>by
  rw[msL]at h;split at h
  ·grind
  ·rename_i o1 d1 g1;split at h
   ·grind
   ·rename_i o2 d2 g2;have h1:=C1j g1;have h2:=B8k g2
    grind
end
section
variable {nm:List UInt8->Int} {I:List Ins} {Hs:List Int}
mutual
theorem gdE:∀ {e:Ex} {o d p:Nat} {x:Int},msM e=some (o,d)->0<=x->x+o<=48->Plc I Hs p (cgE nm e) (hE x e)->Hs[p+(cgE nm e).length]? = some (x+1) ->
  (∀ i,i<(cgE nm e).length->Gd I Hs (p+i))/\Hs[p]? = some x
 |.mk k v n a q,o,d,p,x,h,h0,hx,hp,hn=>by
  obtain⟨h1,h2,h3⟩:=B1s h;rw[cgE,hE]at hp;rw[cgE,A0A]at hn;obtain⟨pa,pb⟩:=hp.split (O8 nm a x);obtain⟨b1,b2, -⟩:=pb.one;obtain⟨e1,e2,e3,e4⟩:=C8s nm h1 v n;have hao:a.length<=o:=by
   rcases h3 with ⟨h3,rfl⟩|⟨-,d',h3⟩
   ·omega
   ·exact B8k h3
  have hargs:(∀ i,i<(C5 nm a).length->Gd I Hs (p+i))/\Hs[p]? = some x:=by
   rcases h3 with ⟨h3, -⟩|⟨-,d',h3⟩
   ·have:a=[]:=A2K.1 (by omega);subst this;refine⟨fun i hi=>by trivial,?_⟩;simpa[C5] using b2
   ·exact E2a h3 h0 hx pa b2
  refine⟨fun i hi=>?_,hargs.2⟩;rw[cgE,A0A,A0N]at hi;by_cases hi2:i<(C5 nm a).length
  ·grind
  ·have:i=(C5 nm a).length:=by omega
   subst this;refine Gd.next b1 b2 e3 e4 (by rw[e1];omega) (by omega) ?_
   grind
theorem E2a:∀ {l:List Ex} {k:Int} {i o d p:Nat} {x:Int},msL k i l=some (o,d)->0<=x->x+o<=48->Plc I Hs p (C5 nm l) (hEs x l)->Hs[p+(C5 nm l).length]? = some (x+(l.length:Int)) ->
  (∀ i,i<(C5 nm l).length->Gd I Hs (p+i))/\Hs[p]? = some x
 |[],_,_,_,_,p,x,h,h0,hx,hp,hn=>⟨fun i hi=>by trivial,by simpa[C5] using hn⟩
 |e :: l,k,j,o,d,p,x,h,h0,hx,hp,hn=>by
  rw[msL]at h;split at h
  ·grind
  ·rename_i o1 d1 g1;split at h
   ·grind
   ·rename_i o2 d2 g2;have hpos:=C1j g1;cases h;rw[C5,hEs]at hp;rw[C5,A0A, <- A2S]at hn;obtain⟨pa,pb⟩:=hp.split (B8y nm e x);obtain⟨r1,r2⟩:=E2a g2 (by omega) (by omega) pb (by grind);obtain⟨s1,s2⟩:=gdE g1 h0 (by omega) pa r2;refine⟨fun i hi=>?_,s2⟩;rw[C5,A0A]at hi;by_cases hi2:i<(cgE nm e).length
    ·grind
    ·have:=r1 (i-(cgE nm e).length) (by omega)
     grind
end
theorem gdA:∀ {l:List Ex} {p:Nat} {x:Int},(∀ e∈l,S4 e=true)->0<=x->x+(l.length:Int)+32<=49->Plc I Hs p (C5 nm l) (hEs x l)->Hs[p+(C5 nm l).length]? = some (x+(l.length:Int)) ->
  (∀ i,i<(C5 nm l).length->Gd I Hs (p+i))/\Hs[p]? = some x
 |[],p,x,h,h0,hx,hp,hn=>⟨fun i hi=>by trivial,by simpa[C5] using hn⟩
 |e :: l,p,x,h,h0,hx,hp,hn=>by
  rw[A0K]at hx hn;have he:=h e A0H;unfold S4 at he;split at he
  ·rename_i o d g;rw[A0F,A0I,A0I]at he;rw[C5,hEs]at hp;rw[C5,A0A, <- A2S]at hn;obtain⟨pa,pb⟩:=hp.split (B8y nm e x);obtain⟨r1,r2⟩:=gdA (fun e he=>h e (A0G _ he)) (by omega) (by push_cast at hx;omega) pb (by rw[hn];congr 1;push_cast;omega);obtain⟨s1,s2⟩:=gdE g h0 (by push_cast at hx;omega) pa r2;refine⟨fun i hi=>?_,s2⟩;rw[C5,A0A]at hi;by_cases hi2:i<(cgE nm e).length
   ·exact s1 i hi2
   ·have:=r1 (i-(cgE nm e).length) (by omega)
    rwa [show p+(cgE nm e).length+(i-(cgE nm e).length)=p+i by omega]at this
  grind
theorem C5t{k:Int}(h1:1<=k)(h2:k<=19)(n2:¬ k=2)(n3:¬ k=3):
  (D0 (stOp k)).1=((J6 k).args:Int)/\(D0 (stOp k)).2.1=0/\¬ (D0 (stOp k)).2.2=7/\¬ stOp k=31:=by
 have hm:k=1\/k=4\/k=5\/k=6\/k=7\/k=8\/k=9\/k=10\/k=11\/k=12\/k=13\/k=14\/k=15\/k=16\/k=17\/k=18\/k=19:=by omega
 rcases hm with rfl|rfl|rfl|rfl|rfl|rfl|rfl|rfl|rfl|rfl|rfl|rfl|rfl|rfl|rfl|rfl|rfl<;>exact⟨by decide,by decide,by decide,by decide⟩
theorem C5z(k:Int):(J6 k).args<=2:=by
 unfold J6;grind
theorem A1w{d:Nat}{k:Int}{n t:List UInt8}{a:List Ex}{x y:List St}{q:Int}(h:N7 d (.mk k n t a x y q)=true):
  1<=k/\k<=19/\a.length=(J6 k).args/\(∀ e∈a,S4 e=true)/\(x=[]\/d+1<=8)/\F8 (d+1) x=true/\(y=[]\/d+1<=8)/\F8 (d+1) y=true/\((J6 k).thn=true\/x=[])/\((J6 k).els=true\/y=[]) /\
   (if (J6 k).name=true then D6 n=true else n=[])/\(if (J6 k).text=true then S1 t=true else t=[]):=by
 rw[N7]at h
 grind
theorem A2g{p m n:Nat}(h1:∀ i,i<m->Gd I Hs (p+i))(h2:∀ i,i<n->Gd I Hs (p+m+i)):∀ i,i<m+n->Gd I Hs (p+i):=fun i hi=>by
 by_cases h:i<m
 ·grind
 ·have:=h2 (i-m) (by omega)
  grind
theorem A1h{p n:Nat}(h1:Gd I Hs p)(h2:∀ i,i<n->Gd I Hs (p+1+i)):∀ i,i<n+1->Gd I Hs (p+i):=fun i hi=>by
 cases i with
 |zero=>omega
 |succ i=>grind
mutual
theorem gdS:∀ {s:St} {d p:Nat} {S:List (List UInt8)} {x:Int},N7 d s=true->d<=8->0<=x->x+1<=d->Plc I Hs p (cgS nm p S s).1 (hS x s)->Hs[p+(cgS nm p S s).1.length]? = some x ->
  (∀ i,i<(cgS nm p S s).1.length->Gd I Hs (p+i))/\Hs[p]? = some x
 |.mk k n t a b c q,d,p,S,x,h,hd,h0,hx,hp,hn=>by
  obtain⟨k1,k2,ha,hv,hb,hvb,hc,hvc, -⟩:=A1w h;have hal:=C5z k;by_cases h2:k=2
  ·subst h2;have ha1:a.length=1:=ha;rw[cgS,if_pos rfl]at hp hn ⊢;rw[hS,if_pos rfl]at hp;by_cases hy:c.length=0
   ·rw[if_pos hy]at hp hn ⊢;rw[if_pos hy]at hp;obtain⟨pa,pb⟩:=hp.split (O8 nm a x);obtain⟨i1,i2,pc⟩:=pb.one;simp only[A0A,A0K]at hn ⊢;have hn1:Hs[p+(C5 nm a).length+1+(cgB nm (p+(C5 nm a).length+1) S b).1.length]? = some x:=by rw[<- hn];congr 1;omega
    obtain⟨t1,t2⟩:=gdB hvb (fun hne=>by rcases hb with hb|hb;exact absurd hb hne;exact hb) h0 (by push_cast;omega) pc hn1;obtain⟨s1,s2⟩:=gdA hv h0 (by omega) pa (by rw[i2,ha1];rfl);refine⟨A2g s1 (A1h (Gd.mk' i1 i2 ⟨by show (1:Int)<=x+1;omega,by omega,fun h=>absurd h.1 (by simp),fun _=>A2I _,fun s hs=>?_⟩) t1),s2⟩;simp only[F6]at hs
    grind
   ·rw[if_neg hy]at hp hn ⊢;rw[if_neg hy]at hp;have hcne:¬ c=[]:=fun e=>hy (by grind);obtain⟨pa,pb⟩:=hp.split (O8 nm a x);obtain⟨i1,i2,pc⟩:=pb.one;obtain⟨pd,pe⟩:=pc.split (A1g nm b x _ S);obtain⟨j1,j2,pf⟩:=pe.one;simp only[A0A,A0K]at hn ⊢;generalize hq1:p+(C5 nm a).length+1=q1 at *;generalize hTT:cgB nm q1 S b=TT at *;generalize hq2:q1+TT.1.length+1=q2 at *;have hn1:Hs[q2+(cgB nm q2 TT.2 c).1.length]? = some x:=by grind
    obtain⟨u1,u2⟩:=gdB hvc (fun hne=>by grind) h0 (by omega) pf hn1;obtain⟨t1,t2⟩:=gdB (p:=q1) (S:=S) hvb (fun hne=>by grind) h0 (by omega) (by grind) (by grind);rw[hTT]at t1;obtain⟨s1,s2⟩:=gdA hv h0 (by omega) pa (by grind);refine⟨?_,s2⟩;refine A2g s1 (A1h (Gd.mk' i1 i2 ⟨by show (1:Int)<=x+1;omega,by omega,fun h=>absurd h.1 (by simp),fun _=>A2I _,fun s hs=>?_⟩) ?_)
    ·simp only[F6]at hs
     grind
    ·rw[hq1];refine A2g t1 (A1h (Gd.mk' j1 j2 ⟨by show (0:Int)<=x;omega,by omega,fun h=>absurd h.1 (by simp),fun _=>A2I _,fun s hs=>?_⟩) ?_)
     ·simp only[F6]at hs;rw[if_neg (by decide),if_pos trivial]at hs;simp only[A0Y,A2R,or_false]at hs;subst hs;show Hs[((q2+(cgB nm q2 TT.2 c).1.length:Nat):Int).toNat]? = some x;rw[A3E,hn1]
     grind
  ·by_cases h3:k=3
   ·subst h3;have ha1:a.length=1:=ha;rw[cgS,if_neg (by decide),if_pos rfl]at hp hn ⊢;rw[hS,if_neg (by simp),if_pos rfl]at hp;obtain⟨pa,pb⟩:=hp.split (O8 nm a x);obtain⟨i1,i2,pc⟩:=pb.one;obtain⟨pd,pe⟩:=pc.split (A1g nm b (x+1) _ S);obtain⟨j1,j2, -⟩:=pe.one;simp only[A0A,A0K,A1H]at hn ⊢;generalize hq1:p+(C5 nm a).length+1=q1 at *;generalize hTT:cgB nm q1 S b=TT at *;have hn1:Hs[q1+TT.1.length+1]? = some x:=by grind
    obtain⟨t1,t2⟩:=gdB (p:=q1) (S:=S) hvb (fun hne=>by grind) (by omega:(0:Int)<=x+1) (by omega) (by grind) (by grind);rw[hTT]at t1;obtain⟨s1,s2⟩:=gdA hv h0 (by omega) pa (by grind);refine⟨?_,s2⟩;refine A2g s1 (A1h (Gd.mk' i1 i2 ⟨by show (1:Int)<=x+1;omega,by omega,fun h=>absurd h.1 (by simp),fun _=>A2I _,fun s hs=>?_⟩) ?_)
    ·simp only[F6]at hs
     grind
    ·rw[hq1];refine A2g t1 (A1h (Gd.mk' j1 j2 ⟨by show (0:Int)<=x+1;omega,by omega,fun h=>absurd h.1 (by simp),fun _=>A2I _,fun s hs=>?_⟩) (fun i hi=>absurd hi (by omega)));simp only[F6]at hs
     grind
   ·obtain⟨e1,e2,e3,e4⟩:=C5t k1 k2 h2 h3;rw[hS,if_neg h2,if_neg h3]at hp;rw[cgS,if_neg h2,if_neg h3]at hp hn ⊢;have key:∀ A:Int,Plc I Hs p (C5 nm a++[⟨stOp k,A⟩]) (hEs x a++[x+(a.length:Int)])->Hs[p+(C5 nm a++[(⟨stOp k,A⟩:Ins)]).length]? = some x ->
      (∀ i,i<(C5 nm a++[(⟨stOp k,A⟩:Ins)]).length->Gd I Hs (p+i))/\Hs[p]? = some x:=fun A hp hn=>by
     obtain⟨pa,pb⟩:=hp.split (O8 nm a x);obtain⟨i1,i2, -⟩:=pb.one;simp only[A0A,A0K,A1H]at hn ⊢;obtain⟨s1,s2⟩:=gdA hv h0 (by omega) pa i2;refine⟨A2g s1 (A1h (Gd.next i1 i2 e3 e4 (by show (D0 (stOp k)).1<=_;rw[e1];omega) (by omega) ?_) (fun i hi=>absurd hi (by omega))),s2⟩;show Hs[p+(C5 nm a).length+1]? = some (x+(a.length:Int)-(D0 (stOp k)).1+(D0 (stOp k)).2.1);rw[e1,e2, <- ha];rw[show p+(C5 nm a).length+1=p+((C5 nm a).length+(0+1)) by omega,hn]
     congr 1
     omega
    by_cases h4:k=18
    ·subst h4;rw[if_pos rfl]at hp hn ⊢;exact key _ hp hn
    grind
theorem gdB:∀ {l:List St} {d p:Nat} {S:List (List UInt8)} {x:Int},F8 d l=true->(l≠[]->d<=8)->0<=x->x+1<=d->Plc I Hs p (cgB nm p S l).1 (hB x l)->Hs[p+(cgB nm p S l).1.length]? = some x ->
  (∀ i,i<(cgB nm p S l).1.length->Gd I Hs (p+i))/\Hs[p]? = some x
 |[],d,p,S,x,h,hd,h0,hx,hp,hn=>⟨fun i hi=>by trivial,by assumption⟩
 |s :: l,d,p,S,x,h,hd,h0,hx,hp,hn=>by
  rw[F8,A0F]at h;rw[cgB]at hp hn ⊢;rw[hB]at hp;simp only[A0A, <- A2S]at hn ⊢;obtain⟨pa,pb⟩:=hp.split (C8g nm s x p S);have hd8:=hd (by simp);obtain⟨r1,r2⟩:=gdB h.2 (fun _=>hd8) h0 hx pb hn;obtain⟨s1,s2⟩:=gdS h.1 hd8 h0 hx pa r2;exact⟨A2g s1 r1,s2⟩
end
end
def cgL(nm:List UInt8->Int)(p:Nat)(S:List (List UInt8)):List C8->List Ins × List Ent × List (List UInt8)
 |[]=>([],[],S)
 |q :: l=>((cgB nm p S q.2.flatten).1++(⟨31,0⟩ :: (cgL nm (p+(cgB nm p S q.2.flatten).1.length+1) (cgB nm p S q.2.flatten).2 l).1),
   ⟨q.1.mode,q.1.trig,q.1.ix,(p:Int)⟩ :: (cgL nm (p+(cgB nm p S q.2.flatten).1.length+1) (cgB nm p S q.2.flatten).2 l).2.1,
   (cgL nm (p+(cgB nm p S q.2.flatten).1.length+1) (cgB nm p S q.2.flatten).2 l).2.2)
def hL:List C8->List Int
 |[]=>[]
 |q :: l=>hB 0 q.2.flatten++(0 :: hL l)
theorem C8h(nm:List UInt8->Int):∀ (l:List C8) (p:Nat) (S:List (List UInt8)),(hL l).length=(cgL nm p S l).1.length
 |[],_,_=>rfl
 |q :: l,p,S=>by
  rw[hL,cgL];simp only[A0A,A0K];rw[A1g nm q.2.flatten 0 p S,C8h nm l (p+(cgB nm p S q.2.flatten).1.length+1) (cgB nm p S q.2.flatten).2]
theorem W7{d:Nat}:∀ {l:List St},F8 d l=true↔∀ s∈l,N7 d s=true
 |[]=>by simp[F8]
 |s :: l=>by rw[F8,A0F,W7];simp
def D3k(q:C8):Prop:=∀ b∈q.2,M4 b 1=true
theorem D3k.sts{q:C8}(h:D3k q):F8 1 q.2.flatten=true:=by
 rw[W7];intro s hs;obtain⟨b,hb,hs⟩:=A4G.1 hs;have:=h b hb;unfold M4 at this;rw[A0F]at this;exact W7.1 this.2 s hs
section
variable {nm:List UInt8->Int} {I:List Ins} {Hs:List Int}
theorem gdL:∀ {l:List C8} {p:Nat} {S:List (List UInt8)},(∀ q∈l,D3k q)->Plc I Hs p (cgL nm p S l).1 (hL l) ->
  (∀ i,i<(cgL nm p S l).1.length->Gd I Hs (p+i))/\(∀ e∈(cgL nm p S l).2.1,0<=e.pos/\Hs[e.pos.toNat]? = some 0)
 |[],_,_,_,_=>⟨fun i hi=>absurd hi (by trivial),fun e he=>by trivial⟩
 |q :: l,p,S,h,hp=>by
  rw[cgL,hL]at hp;rw[cgL];obtain⟨pa,pb⟩:=hp.split (A1g nm q.2.flatten 0 p S);obtain⟨i1,i2,pc⟩:=pb.one;obtain⟨r1,r2⟩:=gdL (fun q hq=>h q (A0G _ hq)) pc;obtain⟨s1,s2⟩:=gdB (h q A0H).sts (fun _=>by decide) (A3G 0) (by decide) pa i2;refine⟨?_,fun e he=>?_⟩
  ·simp only[A0A,A0K];refine A2g s1 (A1h (Gd.mk' i1 i2 ⟨by decide,by decide,fun h=>h.2 rfl,fun h=>absurd h (by decide),fun s hs=>?_⟩) r1);simp only[F6]at hs;rw[if_pos trivial]at hs;cases hs
  grind
end
theorem C5x{c:Prg}{Hs:List Int}(hl:Hs.length=c.instrs.length)(hg:∀ i,i<c.instrs.length->Gd c.instrs Hs i)(he:∀ e∈c.entries,0<=e.pos/\Hs[e.pos.toNat]? = some 0):
  I5 c=true/\(c.instrs.length<=4000->(hR c).isNone=false):=by
 have lt:∀ {p:Nat} {x:Int},Hs[p]? = some x->p<c.instrs.length:=fun h=>by
  grind
 have hj:I5 c=true:=by
  unfold I5;rw[A0F,A0R,A0R];constructor
  ·intro i hi;obtain⟨p,hp,rfl⟩:=List.mem_iff_getElem.1 hi;have h1:=A0B hp;have h2:=A0B (l:=Hs) (i:=p) (by omega);obtain⟨-, -, -,g4,g5⟩:=hg p hp _ _ h1 h2;generalize c.instrs[p]=i at *;unfold A4a;by_cases hk:(D0 i.op).2.2=7
   ·have hA:=g4 hk;have hop:isJ i.op=true:=by rw[A5t];exact decide_eq_true hk
    have ht:i.A.toNat<c.instrs.length:=by
     unfold isJ at hop;simp only[A1G,A0I]at hop;rcases hop with e|e|e
     ·exact lt (g5 (i.A.toNat,Hs[p]) (by unfold F6;rw[if_neg (by omega),if_pos e];exact A0H))
     ·exact lt (g5 (i.A.toNat,Hs[p]-1) (by unfold F6;rw[if_neg (by omega),if_neg (by omega),if_pos e];exact A0G _ A0H))
     ·exact lt (g5 (i.A.toNat,Hs[p]-1) (by unfold F6;rw[if_neg (by omega),if_neg (by omega),if_neg (by omega),if_pos e];exact A0G _ A0H))
    have:inM i.A 0 (c.instrs.length-1)=true:=by unfold inM;rw[A0F,A0I,A0I];omega
    rw[this];simp
   grind
  ·intro e h;obtain⟨h1,h2⟩:=he e h;have:=lt h2;unfold B5x inM
   grind
 refine⟨hj,fun h4=>?_⟩;have hr:∀ p x,Rch c p x->Hs[p]? = some x:=by
  intro p x h
  induction h with
  |ent h=>grind
  | @step p x s h1 h2 h3 ih =>
   have h4:c.instrs[p]? = some (c.ins p):=by
    grind
   exact (hg p (lt ih) _ _ h4 ih).2.2.2.2 s h3
 have hs:=C2a h4 hj;cases hc:hR c with
 |some _=>rfl
 |none =>
  rw[hc]at hs;obtain⟨p,x,h1,h2|⟨y,h2,h3⟩⟩:=hs
  ·have e1:=hr p x h1;have h4:c.instrs[p]? = some (c.ins p):=by
    show _=some (c.instrs.getD p ⟨0,0⟩);rw[A1M,A0B (lt e1)];rfl
   obtain⟨g1,g2,g3, -⟩:=hg p (lt e1) _ _ h4 e1;exact absurd ⟨lt e1,g2,g1,g3⟩ h2
  grind
theorem B7b(nm:List UInt8->Int):∀ (l:List C8) (p:Nat) (S:List (List UInt8)),(cgL nm p S l).2.1.map (fun e=>(⟨e.mode,e.trigger,e.index⟩:Ky))=l.map (·.1)
 |[],_,_=>rfl
 |q :: l,p,S=>by rw[cgL];simp only[A0Q,B7b nm l]
theorem B6y:∀ {l:List Ent},(l.map (fun e=>(⟨e.mode,e.trigger,e.index⟩:Ky))).Pairwise Ky.lt->P2 l=true
 |[],_=>rfl
 |[_],_=>rfl
 |a :: b :: l,h=>by
  rw[A0Q,A3N]at h;rw[P2,B6y h.2,A3H];have:=h.1 ⟨b.mode,b.trigger,b.index⟩ (by simp);unfold Ky.lt at this;simp only at this;unfold B1x
  grind
theorem C4n{nm:List UInt8->Int}{l:List C8}(h:Srt l)(p:Nat)(S:List (List UInt8)):P2 (cgL nm p S l).2.1=true:=by
 refine B6y ?_;rw[B7b];exact A4Q.2 h
open Go.Eng (KKey)
def mkK(l:List (List UInt8 × DV)):List DV:=l.map fun p=>.str p.1
def mvV(l:List (List UInt8 × DV)):List DV:=l.map fun p=>p.2
theorem A0n{n:List UInt8}:∀ (l:List (List UInt8 × DV)) (i:Nat),match E4 (.str n) (mkK l) i with
  |some j=>i<=j/\∃ x,(mvV l)[j-i]? = some x/\l.lookup n=some x
  |none=>l.lookup n=none
 |[],i=>rfl
 |p :: l,i=>by
  obtain⟨a,x⟩:=p;show match E4 (.str n) (.str a :: mkK l) i with
   |some j=>_
   |none=>_
  rw[E4,A6x];cases h:n == a with
  |true =>
   refine⟨A0E _,x,by simp[mvV],?_⟩
   grind
  |false =>
   have ih:=A0n (n:=n) l (i+1);dsimp only;cases hf:E4 (.str n) (mkK l) (i+1) with
   |none=>grind
   |some j =>
    rw[hf]at ih;obtain⟨h1,y,h2,h3⟩:=ih;refine⟨by omega,y,?_,by grind⟩;have e:j-i=(j-(i+1))+1:=by omega
    rw[e];exact h2
theorem A5o{l:List (List UInt8 × DV)}{n:List UInt8}{x z:DV}{ok:Bool}(h:l.lookup n=some x):lkV z ok (mvV l) (E4 (.str n) (mkK l) 0)=some (match ok with
  |true=>.tup [x,.bool true]
  |false=>x):=by
 have:=A0n (n:=n) l 0;cases hf:E4 (.str n) (mkK l) 0 with
 |none=>grind
 |some j =>
  rw[hf]at this;obtain⟨-,y,h2,h3⟩:=this;rw[h3]at h;cases h;simp only[lkV]
  grind
theorem A5p{l:List (List UInt8 × DV)}{n:List UInt8}{z:DV}{ok:Bool}(h:l.lookup n=none):lkV z ok (mvV l) (E4 (.str n) (mkK l) 0)=some (match ok with
  |true=>.tup [z,.bool false]
  |false=>z):=by
 have:=A0n (n:=n) l 0;cases hf:E4 (.str n) (mkK l) 0 with
 |none=>simp only[lkV];grind
 |some j =>
  grind
theorem C1l{l:List (List UInt8 × DV)}{n:List UInt8}(h:l.lookup n=none):E4 (.str n) (mkK l) 0=none:=by
 have:=A0n (n:=n) l 0
 grind
theorem D3z{α : Type}(n:List UInt8)(a:List UInt8)(x : α):∀ l:List (List UInt8 × α),(l++[(a,x)]).lookup n=(l.lookup n).or (if n == a then some x else none)
 |[]=>by grind
 |(b,y) :: l=>by
  grind
def A6w(q:Int × Int):DV:=.agg [I64 q.1,I64 q.2]
def V9(l:List (List UInt8 × (Int × Int)))(n:List UInt8)(q:Int × Int):List (List UInt8 × (Int × Int)):=if (l.lookup n).isSome=true then l else l++[(n,q)]
def Z1(l:List (List UInt8 × (Int × Int))):List (List UInt8 × DV):=l.map fun p=>(p.1,A6w p.2)
theorem X6(n:List UInt8):∀ l:List (List UInt8 × (Int × Int)),(Z1 l).lookup n=(l.lookup n).map A6w
 |[]=>rfl
 |(a,x) :: l=>by
  show ((a,A6w x) :: Z1 l).lookup n=_;rw[List.lookup_cons,List.lookup_cons,X6 n l]
  grind
def S8(pre:List Dc)(d:Dc):Int:=if d.kind=6\/d.kind=7\/d.kind=8 then (cnD pre d.kind:Int) else d.value
def nmD(pre:List Dc)(l:List (List UInt8 × (Int × Int))):List Dc->List (List UInt8 × (Int × Int))
 |[]=>l
 |d :: r=>nmD (pre++[d]) (V9 l d.name (d.kind,S8 pre d)) r
def nmX(i:Nat)(l:List (List UInt8 × (Int × Int))):List Md->List (List UInt8 × (Int × Int))
 |[]=>l
 |m :: r=>nmX (i+1) (V9 l m.name (9,(i:Int))) r
def nmL(r:Ru):List (List UInt8 × (Int × Int)):=nmX 0 (nmD [] [] r.decls) r.modes
def nmV(r:Ru):DV:=.mp .s (mkK (Z1 (nmL r))) (mvV (Z1 (nmL r)))
def ahS:List (Int × Nat)->Int->List (Int × Nat)
 |[],k=>[(k,1)]
 |(a,n) :: l,k=>if a=k then (a,n+1) :: l else (a,n) :: ahS l k
def ahM(l:List Dc):List (Int × Nat):=l.foldl (fun a d=>ahS a d.kind) []
def ahK(l:List (Int × Nat)):List DV:=l.map fun p=>I64 p.1
def ahV(l:List (Int × Nat)):List DV:=l.map fun p=>I64 (p.2:Int)
def ahN(l:List (Int × Nat))(k:Int):Nat:=match l with
 |[]=>0
 |(a,n) :: r=>if a=k then n else ahN r k
theorem B4k(k:Int):∀ (l:List (Int × Nat)) (i:Nat),match E4 (I64 k) (ahK l) i with
  |some j=>i<=j/\∃ n:Nat,(ahV l)[j-i]? = some (I64 (n:Int))/\ahN l k=n/\(ahK l).set (j-i) (I64 k)=ahK (ahS l k)/\(ahV l).set (j-i) (I64 ((n:Int)+1))=ahV (ahS l k)
  |none=>ahN l k=0/\ahK l++[I64 k]=ahK (ahS l k)/\ahV l++[I64 1]=ahV (ahS l k)
 |[],i=>⟨rfl,rfl,rfl⟩
 |(a,n) :: l,i=>by
  have e:E4 (I64 k) (ahK ((a,n) :: l)) i=if k=a then some i else E4 (I64 k) (ahK l) (i+1):=by
   show E4 (I64 k) (I64 a :: ahK l) i=_;rw[E4];show (match k == a with
    |true=>some i
    |false=>E4 (I64 k) (ahK l) (i+1))=_
   grind
  rw[e];by_cases h:k=a
  ·rw[if_pos h];subst h;refine⟨A0E _,n,?_,?_,?_,?_⟩
   ·simp[ahV]
   ·simp[ahN]
   ·simp[ahK,ahS]
   ·simp[ahV,ahS]
  ·rw[if_neg h];have ih:=B4k k l (i+1);have h':¬ a=k:=fun e=>h e.symm;have es:ahS ((a,n) :: l) k=(a,n) :: ahS l k:=by rw[ahS,if_neg h']
   have en:ahN ((a,n) :: l) k=ahN l k:=by rw[ahN,if_neg h']
   rw[es,en];cases hf:E4 (I64 k) (ahK l) (i+1) with
   |none =>
    rw[hf]at ih;obtain⟨i1,i2,i3⟩:=ih;exact⟨i1,congrArg (I64 a :: ·) i2,congrArg (I64 (n:Int) :: ·) i3⟩
   |some j =>
    rw[hf]at ih;obtain⟨i0,m,i1,i2,i3,i4⟩:=ih;have ej:j-i=(j-(i+1))+1:=by omega
    dsimp only;rw[ej];exact⟨by omega,m,i1,i2,congrArg (I64 a :: ·) i3,congrArg (I64 (n:Int) :: ·) i4⟩
theorem D4q(k a:Int):∀ l:List (Int × Nat),ahN (ahS l a) k=ahN l k+(if a=k then 1 else 0)
 |[]=>by simp[ahS,ahN]
 |(b,n) :: l=>by
  rw[ahS];by_cases h:b=a
  ·subst h;rw[if_pos rfl,ahN,ahN]
   grind
  ·rw[if_neg h,ahN,ahN,D4q k a l]
   grind
theorem B0x(l:List Dc)(d:Dc):ahM (l++[d])=ahS (ahM l) d.kind:=by
 unfold ahM;simp
theorem C9r(l:List Dc)(d:Dc)(k:Int):cnD (l++[d]) k=cnD l k+(if d.kind=k then 1 else 0):=by
 unfold cnD;simp
theorem D0f:∀ (m:Nat) (l:List Dc),l.length<=m->∀ k,ahN (ahM l) k=cnD l k:=by
 intro m
 induction m with
 |zero =>
  intro l hl k;have:l=[]:=A2D (by omega);subst this;rfl
 |succ m ih =>
  intro l hl k;by_cases h:l=[]
  ·grind
  ·obtain⟨l',d,rfl⟩:∃ l' d,l=l'++[d]:=⟨l.dropLast,l.getLast h,(List.dropLast_concat_getLast h).symm⟩;rw[B0x,D4q,C9r,ih l' (by grind)]
theorem B9r(l:List Dc)(k:Int):ahN (ahM l) k=cnD l k:=D0f _ l (A0E _) k
theorem B5q{D:List Dc}{i:Nat}{d:Dc}{l:List (List UInt8 × (Int × Int))}(h:D[i]? = some d):nmD (D.take i) l (D.drop i)=nmD (D.take (i+1)) (V9 l d.name (d.kind,S8 (D.take i) d)) (D.drop (i+1)):=by
 have hlt:=(A0J.1 h).1;rw[A1C hlt,(A0J.1 h).2,nmD,S5 h]
theorem B5p{M:List Md}{i:Nat}{m:Md}{l:List (List UInt8 × (Int × Int))}(h:M[i]? = some m):nmX i l (M.drop i)=nmX (i+1) (V9 l m.name (9,(i:Int))) (M.drop (i+1)):=by
 have hlt:=(A0J.1 h).1;rw[A1C hlt,(A0J.1 h).2,nmX]
theorem B9i(l:List Dc)(k:Int):cnD l k<=l.length:=List.countP_le_length
theorem C2o(k:Int)(a:List (Int × Nat)):Sym.lkV (I64 0) false (ahV a) (E4 (I64 k) (ahK a) 0)=some (I64 (ahN a k:Int)):=by
 have:=B4k k a 0;cases hf:E4 (I64 k) (ahK a) 0 with
 |none =>
  rw[hf]at this;obtain⟨h, -, -⟩:=this;rw[h];rfl
 |some j =>
  rw[hf]at this;obtain⟨-,n,h1,h2, -, -⟩:=this;rw[h2];simp only[Sym.lkV]
  grind
theorem D4p(k:Int)(a:List (Int × Nat))(H:Hp)(c id u:Nat):muV H c id u (.i .i64) (ahK a) (ahV a) (I64 k) (I64 ((ahN a k:Int)+1)) (E4 (I64 k) (ahK a) 0)=some (.tup [],H.upd id ⟨u,true,[.mpc (.i .i64) (ahK (ahS a k)) (ahV (ahS a k))]⟩,c):=by
 have:=B4k k a 0;cases hf:E4 (I64 k) (ahK a) 0 with
 |none =>
  rw[hf]at this;obtain⟨h,h1,h2⟩:=this;rw[h];simp only[muV]
  grind
 |some j =>
  rw[hf]at this;obtain⟨-,n,h1,h2,h3,h4⟩:=this;rw[h2];simp only[muV]
  grind
def W5(l:List Dc):Prop:=∀ d∈l,1<=d.kind/\d.kind<=8
theorem D4z{r:Ru}(h:L1 r=true):W5 r.decls:=by
 intro d hd;unfold L1 at h;simp only[A0F]at h;have h1:=A0R.1 h.1.2 d hd;unfold Y8 at h1
 grind
theorem A9b(l:List (List UInt8 × (Int × Int)))(a n:List UInt8)(q:Int × Int):(V9 l a q).lookup n=(l.lookup n).or (if n == a then some q else none):=by
 unfold V9;split
 ·rename_i h;cases hn:n == a with
  |false=>simp
  |true =>
   have e:n=a:=by simpa using hn
   subst e;cases hl:l.lookup n with
   |none=>rw[hl]at h;cases h
   |some x=>rfl
 grind
theorem A9l(n:List UInt8):∀ (M:List Md) (i:Nat) (l:List (List UInt8 × (Int × Int))),(nmX i l M).lookup n=(l.lookup n).or (lkM i M n)
 |[],i,l=>by rw[nmX,lkM,A3K]
 |m :: M,i,l=>by
  rw[nmX,A9l n M,A9b,lkM,A2X]
  grind
theorem A9m(n:List UInt8):∀ (D pre:List Dc) (l:List (List UInt8 × (Int × Int))),W5 D->(nmD pre l D).lookup n=(l.lookup n).or (lkD pre D n)
 |[],pre,l,_=>by rw[nmD,lkD,A3K]
 |d :: D,pre,l,hk=>by
  obtain⟨k1,k2⟩:=hk d A0H;rw[nmD,A9m n D _ _ (fun x hx=>hk x (A0G _ hx)),A9b,lkD,A2X];by_cases h:d.name=n
  ·rw[if_pos h,if_pos (by simp[h])];have e:S8 pre d=(if d.kind<6 then d.value else (cnR ⟨pre,[]⟩ d.kind:Int)):=by
    unfold S8 cnR;by_cases h6:d.kind<6
    ·rw[if_pos h6,if_neg (by omega)]
    ·rw[if_neg h6,if_pos (by omega),if_neg (by omega)]
   rw[e];rfl
  grind
theorem B1o{r:Ru}(hk:W5 r.decls)(n:List UInt8):(nmL r).lookup n=(lkD [] r.decls n).or (lkM 0 r.modes n):=by
 unfold nmL;rw[A9l,A9m n _ _ _ hk];simp
theorem B8q(r:Ru)(n:List UInt8):E7 r n=((lkD [] r.decls n).or (lkM 0 r.modes n)).getD (0,0):=by
 unfold E7
 grind
theorem B8s{n:List UInt8}:∀ {D pre:List Dc} {q:Int × Int},W5 D->lkD pre D n=some q->q.1≠0
 |d :: D,pre,q,hk,h=>by
  rw[lkD]at h;split at h
  ·cases h;have:=hk d A0H;omega
  ·exact B8s (fun x hx=>hk x (A0G _ hx)) h
theorem B8r{n:List UInt8}:∀ {M:List Md} {i:Nat} {q:Int × Int},lkM i M n=some q->q.1≠0
 |m :: M,i,q,h=>by
  rw[lkM]at h;split at h
  ·grind
  ·exact B8r h
theorem C1a{r:Ru}(hk:W5 r.decls){n:List UInt8}{q:Int × Int}(h:(nmL r).lookup n=some q):E7 r n=q/\q.1≠0:=by
 rw[B1o hk]at h;rw[B8q,h];refine⟨rfl,?_⟩;cases hd:lkD [] r.decls n with
 |some p=>rw[hd]at h;cases h;exact B8s hk hd
 |none=>rw[hd]at h;exact B8r h
theorem C1b{r:Ru}(hk:W5 r.decls){n:List UInt8}(h:(nmL r).lookup n=none):E7 r n=(0,0):=by
 rw[B1o hk]at h;rw[B8q,h];rfl
def upS(s:Int × Int)(o:Er):Int × Int:=if s.2=0 then o.getD s else s
theorem K5{s:Int × Int}{a b:Er}(ha:NzE a):upS (upS s a) b=upS s (a.or b):=by
 unfold upS;by_cases h:s.2=0
 ·cases a with
  |none=>simp[h]
  |some q =>
   have:=ha q.1 q.2 rfl;simp[h,this]
 grind
theorem K6(s:Int × Int):upS s none=s:=by unfold upS;simp
theorem C5c(s:Int × Int)(p e:Int)(h:e≠0):upS (upS s (some (p,e))) (some (p,e))=upS s (some (p,e)):=by
 rw[K5 (fun a b hq=>by grind)];rfl
def D0p(k:Int):Bool:=(k == 3 || k == 4 || k == 5 || k == 6 || k == 11 || k == 23 || k == 24) || (decide (17<=k) && decide (k<=22))
theorem D0o{k:Int}(h:k<=24):D0p k=C4p k:=by
 unfold D0p C4p
 grind
theorem C1h{e:Ex}{q:Nat × Nat}(h:msM e=some q):e.kind<=24:=by
 cases e with|mk k v n a p =>
 obtain⟨o,d⟩:=q;obtain⟨m1, -⟩:=A9n h;show k<=24;unfold kOk at m1;simp only[A1G,A0F,A0I]at m1;rcases m1 with m1|m1
 ·have:=B3t m1;omega
 omega
theorem A8n(D:List Dc)(M:List Md)(n:List UInt8)(hk:W5 D):(E7 ⟨D,M⟩ n).1=0↔D.any (fun d=>d.name == n)=false/\M.any (fun d=>d.name == n)=false:=by
 have hD:∀ (D pre:List Dc),lkD pre D n=none↔D.any (fun d=>d.name == n)=false:=by
  intro D
  induction D with
  |nil=>intro pre;simp[lkD]
  |cons d D ih =>
   intro pre;rw[lkD]
   grind
 have hM:∀ (M:List Md) (i:Nat),lkM i M n=none↔M.any (fun d=>d.name == n)=false:=by
  intro M
  induction M with
  |nil=>intro pre;simp[lkM]
  |cons d D ih =>
   intro pre;rw[lkM]
   grind
 rw[B8q, <- hD D [], <- hM M 0];dsimp only;cases h1:lkD [] D n with
 |some q =>
  have:=B8s hk h1
  grind
 |none =>
  cases h2:lkM 0 M n with
  |some q =>
   have:=B8r h2
   grind
  |none=>simp
theorem B2f{r:Ru}{x:Ex}:∀ {l:List Ex} {i:Nat},l[i]? = some x->U6 r (l.take (i+1))=(U6 r (l.take i)).or (erE r x)
 |y :: l,0,h=>by cases h;simp[U6]
 |y :: l,i+1,h=>by
  rw[A1D,A1D,U6,U6,B2f (by simpa using h),A2X]
theorem B6t{r:Ru}{b:Bool}{x:Ex}:∀ {l:List Ex} {i:Nat},l[i]? = some x->erA r b (l.take (i+1))=(erA r b (l.take i)).or ((erE r x).or (if (L7 x.kind == 2)=b then none else some (x.pos,49)))
 |y :: l,0,h=>by cases h;simp[erA]
 |y :: l,i+1,h=>by
  rw[A1D,A1D,erA,erA,B6t (by simpa using h)];grind
theorem B6s{r:Ru}{x:St}:∀ {l:List St} {i:Nat},l[i]? = some x->erB r (l.take (i+1))=(erB r (l.take i)).or (erS r x)
 |y :: l,0,h=>by cases h;simp[erB]
 |y :: l,i+1,h=>by
  rw[A1D,A1D,erB,erB,B6s (by simpa using h),A2X]
theorem E2z(r:Ru)(e:Ex):erE r e=((U6 r e.args).or (dnE r e.name (kdE e.kind) e.pos)).or (if e.args.all (fun x=>L7 x.kind == A0h e.kind e.args)=true then none else some (e.pos,49)):=by
 cases e with|mk k v n a p=>rfl
def stD(pre:List Dc)(d:Dc):Er:=(if d.value>A3o d.kind then some (d.pos,5) else none:Er).or (if (E7 ⟨pre,[]⟩ d.name).1=0 then none else some (d.pos,7))
def stP(D:List Dc)(pre:List Md)(m:Md):Er:=(if m.prio>99 then some (m.pos,5) else none:Er).or (if (E7 ⟨D,pre⟩ m.name).1=0 then none else some (m.pos,7))
theorem B6q(d:Dc):∀ (l pre:List Dc),erD pre (l++[d])=(erD pre l).or (stD (pre++l) d)
 |[],pre=>by rw[List.nil_append,erD,erD,erD,A0W,A3K,A1V];rfl
 |x :: l,pre=>by rw[List.cons_append,erD,erD,B6q d l,A0P];grind
theorem B6m(D:List Dc)(m:Md):∀ (l pre:List Md),erP D pre (l++[m])=(erP D pre l).or (stP D (pre++l) m)
 |[],pre=>by rw[List.nil_append,erP,erP,erP,A0W,A3K,A1V];rfl
 |x :: l,pre=>by rw[List.cons_append,erP,erP,B6m D m l,A0P];grind
theorem C9a{D:List Dc}{i:Nat}{d:Dc}(h:D[i]? = some d):erD [] (D.take (i+1))=(erD [] (D.take i)).or (stD (D.take i) d):=by
 rw[<- S5 h,B6q];rfl
theorem C8v{D:List Dc}{M:List Md}{i:Nat}{m:Md}(h:M[i]? = some m):erP D [] (M.take (i+1))=(erP D [] (M.take i)).or (stP D (M.take i) m):=by
 rw[<- S5 h,B6m];rfl
def V0(l:List (List UInt8)):List (List UInt8 × DV):=l.map fun n=>(n,DV.bool true)
theorem A0z(n:List UInt8):∀ l:List (List UInt8),(V0 l).lookup n=if l.contains n=true then some (DV.bool true) else none
 |[]=>rfl
 |a :: l=>by
  show ((a,DV.bool true) :: V0 l).lookup n=_;rw[List.lookup_cons,A0z n l,List.contains_cons]
  grind
def A7x(l:List (List UInt8))(n:List UInt8):List (List UInt8):=if l.contains n=true then l else l++[n]
theorem B5b(l:List (List UInt8))(n m:List UInt8):(A7x l n).contains m=(l.contains m || m == n):=by
 unfold A7x
 grind
theorem B1q{n:List UInt8}:∀ (l:List (List UInt8)) (i j:Nat),E4 (.str n) (mkK (V0 l)) i=some j->(mkK (V0 l)).set (j-i) (.str n)=mkK (V0 l)/\(mvV (V0 l)).set (j-i) (.bool true)=mvV (V0 l)
 |[],i,j,h=>by cases h
 |a :: l,i,j,h=>by
  have h:E4 (.str n) (.str a :: mkK (V0 l)) i=some j:=h;rw[E4,A6x]at h;cases ha:n == a with
  |true =>
   rw[ha]at h;cases h;have e:n=a:=by simpa using ha
   subst e;rw[A4L]
   trivial
  |false =>
   rw[ha]at h;dsimp only at h;have hlt:=A9p h;obtain⟨h1,h2⟩:=B1q l (i+1) j h;have ej:j-i=(j-(i+1))+1:=by omega
   rw[ej];exact⟨congrArg (DV.str a :: ·) h1,congrArg (DV.bool true :: ·) h2⟩
theorem D5x(n:List UInt8)(l:List (List UInt8))(H:Hp)(c id u:Nat):muV H c id u .s (mkK (V0 l)) (mvV (V0 l)) (.str n) (.bool true) (E4 (.str n) (mkK (V0 l)) 0)=some (.tup [],H.upd id ⟨u,true,[.mpc .s (mkK (V0 (A7x l n))) (mvV (V0 (A7x l n)))]⟩,c):=by
 have hl:=A0z n l;have hf:=A0n (n:=n) (V0 l) 0;cases hm:E4 (.str n) (mkK (V0 l)) 0 with
 |none =>
  rw[hm]at hf;rw[hf]at hl;have hc:l.contains n=false:=by
   cases h:l.contains n with
   |false=>rfl
   |true=>rw[h]at hl;cases hl
  have e:A7x l n=l++[n]:=by unfold A7x;rw[if_neg (by rw[hc];decide)]
  rw[e];simp only[muV];have e1:mkK (V0 (l++[n]))=mkK (V0 l)++[.str n]:=by simp[mkK,V0]
  have e2:mvV (V0 (l++[n]))=mvV (V0 l)++[.bool true]:=by simp[mvV,V0]
  grind
 |some j =>
  rw[hm]at hf;obtain⟨-,x, -,h3⟩:=hf;rw[h3]at hl;have hc:l.contains n=true:=by
   cases h:l.contains n with
   |true=>rfl
   |false=>rw[h]at hl;simp at hl
  have e:A7x l n=l:=by unfold A7x;rw[if_pos hc]
  rw[e];simp only[muV];obtain⟨h1,h2⟩:=B1q l 0 j hm
  grind
theorem D5y(n:List UInt8)(l:List (List UInt8)):Sym.lkV (.bool false) false (mvV (V0 l)) (E4 (.str n) (mkK (V0 l)) 0)=some (.bool (l.contains n)):=by
 cases h:l.contains n with
 |true=>exact A5o (ok:=false) (by rw[A0z,if_pos h])
 |false=>exact A5p (ok:=false) (by rw[A0z,if_neg (by grind)])
def stH(r:Ru)(pre:List Hd)(h:Hd):Er:=((dnE r h.name (kdH h.trig) h.pos).or (if pre.any (fun x=>x.trig == h.trig && x.name == h.name)=true then some (h.pos,7) else none)).or (erB r h.body)
theorem B6p(r:Ru)(h:Hd):∀ (l pre:List Hd),erH r pre (l++[h])=(erH r pre l).or (stH r (pre++l) h)
 |[],pre=>by rw[List.nil_append,erH,erH,erH,A0W,A3K,A1V];rfl
 |x :: l,pre=>by rw[List.cons_append,erH,erH,B6p r h l,A0P];grind
theorem C8y{r:Ru}{l:List Hd}{i:Nat}{h:Hd}(hg:l[i]? = some h):erH r [] (l.take (i+1))=(erH r [] (l.take i)).or (stH r (l.take i) h):=by
 rw[<- S5 hg,B6p];rfl
theorem B6n{r:Ru}{x:Md}:∀ {l:List Md} {i:Nat},l[i]? = some x->erM r (l.take (i+1))=(erM r (l.take i)).or (erH r [] x.hds)
 |y :: l,0,h=>by cases h;simp[erM]
 |y :: l,i+1,h=>by
  rw[A1D,A1D,erM,erM,B6n (by simpa using h),A2X]
theorem D8s(e:Er):erV e=.tup [I64 (upS (0,0) e).1,I64 (upS (0,0) e).2]:=by
 cases e<;>rfl
theorem C1f{α : Type}[DecidableEq α]{l:List α}{x : α}:(l++[x]).Nodup↔l.Nodup/\x ∉ l:=by
 grind
theorem B7e{D:List Dc}{n:List UInt8}:D.any (fun d=>d.name == n)=false↔n ∉ D.map Dc.name:=by
 simp
theorem C4t{D:List Md}{n:List UInt8}:D.any (fun d=>d.name == n)=false↔n ∉ D.map Md.name:=by
 simp
theorem W5.app{a b:List Dc}:W5 (a++b)↔W5 a/\W5 b :=
 ⟨fun h=>⟨fun d hd=>h d (A3I _ hd),fun d hd=>h d (A3R _ hd)⟩,fun h d hd=>(A0X.1 hd).elim (h.1 d) (h.2 d)⟩
theorem C1t{b:Prop}[Decidable b]{q:Int × Int}:((if b then some q else none):Er)=none↔¬b:=by
 simp
theorem B6b{b:Prop}[Decidable b]{q:Int × Int}:((if b then none else some q):Er)=none↔b:=by
 simp
theorem B6r:∀ (D pre:List Dc),W5 (pre++D)->(pre.map Dc.name).Nodup->(erD pre D=none↔(∀ d∈D,¬ d.value>A3o d.kind)/\((pre++D).map Dc.name).Nodup)
 |[],pre,hk,hn=>by rw[erD,A0W];grind
 |d :: l,pre,hk,hn=>by
  have hk':W5 ((pre++[d])++l):=by grind
  have hkp:W5 pre:=(W5.app.1 hk).1;have hl:=A8n pre [] d.name hkp;rw[B7e]at hl;rw[erD,A1F,A1F,C1t,B6b,hl];have e:pre++d :: l=(pre++[d])++l:=by simp
  by_cases hm:d.name∈pre.map Dc.name
  ·grind
  ·have hn':((pre++[d]).map Dc.name).Nodup:=by rw[A0T];exact C1f.2 ⟨hn,hm⟩
   rw[B6r l (pre++[d]) hk' hn',e]
   grind
theorem B0d{D:List Dc}(hk:W5 D):∀ (M pre:List Md),(D.map Dc.name++pre.map Md.name).Nodup->(erP D pre M=none↔(∀ m∈M,¬ m.prio>99)/\(D.map Dc.name++(pre++M).map Md.name).Nodup)
 |[],pre,hn=>by rw[erP,A0W];grind
 |m :: l,pre,hn=>by
  have hl:=A8n D pre m.name hk;rw[B7e,C4t]at hl;rw[erP,A1F,A1F,C1t,B6b,hl];have e:pre++m :: l=(pre++[m])++l:=by simp
  have e2:D.map Dc.name++(pre++[m]).map Md.name=(D.map Dc.name++pre.map Md.name)++[m.name]:=by simp
  by_cases hm:m.name∈D.map Dc.name++pre.map Md.name
  ·grind
  ·have hn':(D.map Dc.name++(pre++[m]).map Md.name).Nodup:=by rw[e2];exact C1f.2 ⟨hn,hm⟩
   rw[B0d hk l (pre++[m]) hn',e]
   grind
def D8i(D:List Dc)(M:List Md):Prop:=(∀ d∈D,¬ d.value>A3o d.kind)/\(∀ m∈M,¬ m.prio>99)/\(D.map Dc.name++M.map Md.name).Nodup
theorem C8a{D:List Dc}{M:List Md}(hk:W5 D):A7a ⟨D,M⟩=none↔D8i D M:=by
 unfold A7a D8i;rw[A1F,B6r D [] hk List.nodup_nil];show (_/\(D.map Dc.name).Nodup)/\erP D [] M=none↔_;constructor
 ·rintro⟨⟨h1,h2⟩,h3⟩;obtain⟨h4,h5⟩:=(B0d hk M [] (by simpa using h2)).1 h3
  grind
 ·rintro⟨h1,h4,h5⟩;have h2:(D.map Dc.name).Nodup:=(List.nodup_append.1 h5).1;exact⟨⟨h1,h2⟩,(B0d hk M [] (by grind)).2 ⟨h4,h5⟩⟩
def SmK(r r':Ru):Prop:=∀ n,(E7 r n).1=(E7 r' n).1
section
variable {r r':Ru} (h:SmK r r')
include h
end
theorem B6o{r:Ru}:∀ {l:List Md},erM r l=none↔∀ m∈l,erH r [] m.hds=none
 |[]=>by rw[erM];simp
 |x :: l=>by
  rw[erM,A1F,B6o];simp
def z0(q:Int × Int):Int × Int:=(0,q.2)
section
variable {r r':Ru} (h:SmK r' r)
include h
end
def NmR(r:Ru)(q:Int × Int):Prop:=0<=q.2/\(q.1<6->1<=q.1/\q.2<=A3o q.1)/\(6<=q.1->q.2<(cnR r q.1:Int)/\q.1<=9)
theorem D2x(a b:List Dc)(k:Int):cnD (a++b) k=cnD a k+cnD b k:=by simp[cnD,List.countP_append]
theorem D9a{r:Ru}{pre l:List Dc}{d:Dc}(h:r.decls=pre++d :: l)(hk:¬ d.kind=9):cnR ⟨pre,[]⟩ d.kind<cnR r d.kind:=by
 unfold cnR;rw[if_neg hk,if_neg hk,h,D2x];have:1<=cnD (d :: l) d.kind:=by
  unfold cnD;rw[List.countP_cons];simp
 show cnD pre d.kind<_;omega
theorem C1p{r:Ru}{n:List UInt8}:∀ {l pre:List Dc} {q:Int × Int},r.decls=pre++l->(∀ d∈l,Y8 d=true/\¬ d.value>A3o d.kind)->lkD pre l n=some q->NmR r q
 |[],_,_,_,_,h=>by cases h
 |d :: l,pre,q,e,hd,h=>by
  rw[lkD]at h;split at h
  ·cases h;obtain⟨h1,h2⟩:=hd d A0H;unfold Y8 at h1;simp only[A0F,A0I]at h1;obtain⟨⟨⟨⟨k1,k2⟩, -⟩,k3⟩,k4⟩:=h1;by_cases h6:d.kind<6
   ·refine⟨?_,fun _=>⟨k1,?_⟩,fun h=>absurd h6 (by simp only at h;omega)⟩
    ·simp only[h6,if_true];rw[if_neg (by omega)]at k3;exact k3
    ·simp only[h6,if_true];omega
   ·refine⟨?_,fun h=>absurd h h6,fun _=>⟨?_,by show d.kind<=9;omega⟩⟩
    ·simp only[h6,if_false];omega
    ·simp only[h6,if_false];have:=D9a (r:=r) e (by omega:¬ d.kind=9);omega
  ·exact C1p (pre:=pre++[d]) (by rw[e];simp) (fun x hx=>hd x (A0G _ hx)) h
theorem C1o{r:Ru}{n:List UInt8}:∀ {l:List Md} {i:Nat} {q:Int × Int},i+l.length=r.modes.length->lkM i l n=some q->NmR r q
 |[],_,_,_,h=>by cases h
 |m :: l,i,q,e,h=>by
  rw[lkM]at h;split at h
  ·cases h;refine⟨A2I _,fun h=>absurd h (by show ¬ (9:Int)<6;decide),fun _=>⟨?_,by show (9:Int)<=9;decide⟩⟩;show (i:Int)<(cnR r 9:Int);unfold cnR;rw[if_pos rfl];rw[A0K]at e;omega
  ·exact C1o (by rw[A0K]at e;omega) h
structure ChkR (r:Ru):Prop where
 vl:L1 r=true
 ck:A3s r=none
theorem ChkR.decl{r:Ru}(h:ChkR r):∀ d∈r.decls,Y8 d=true:=by
 have:=h.vl;unfold L1 at this;simp only[A0F,A0I,A0R]at this;exact this.1.2
theorem ChkR.mode{r:Ru}(h:ChkR r):∀ d∈r.modes,Q0 d=true:=by
 have:=h.vl;unfold L1 at this;simp only[A0F,A0I,A0R]at this;exact this.2
theorem ChkR.lens{r:Ru}(h:ChkR r):r.decls.length<=128/\r.modes.length<=16:=by
 have:=h.vl;unfold L1 at this;simp only[A0F,A0I,A0R]at this;exact this.1.1
theorem ChkR.kd{r:Ru}(h:ChkR r):W5 r.decls:=by
 intro d hd;have:=h.decl d hd;unfold Y8 at this;simp only[A0F,A0I]at this;omega
theorem ChkR.hea{r:Ru}(h:ChkR r):D8i r.decls r.modes:=by
 have:=h.ck;unfold A3s at this;rw[A1F]at this;exact (C8a h.kd).1 this.1
theorem ChkR.erm{r:Ru}(h:ChkR r):∀ m∈r.modes,erH r [] m.hds=none:=by
 have:=h.ck;unfold A3s at this;rw[A1F]at this;exact B6o.1 this.2
theorem ChkR.num{r:Ru}(h:ChkR r){n:List UInt8}(hn:¬ (E7 r n).1=0):NmR r (E7 r n):=by
 unfold E7 at hn ⊢;cases h1:lkD [] r.decls n with
 |some q=>exact C1p (r:=r) (pre:=[]) rfl (fun d hd=>⟨h.decl d hd,h.hea.1 d hd⟩) h1
 |none =>
  rw[h1]at hn;cases h2:lkM 0 r.modes n with
  |some q=>exact C1o (r:=r) (by simp) h2
  |none=>rw[h2]at hn;exact absurd rfl hn
theorem ChkR.den{r:Ru}(h:ChkR r){n:List UInt8}{k:Int}(hk:¬ k=0)(hd:dnM r n k=0):(E7 r n).1=k:=by
 unfold dnM at hd;split at hd
 ·rename_i g;rcases g with g|g
  ·exact absurd g hk
  ·exact g
 ·split at hd<;>cases hd
theorem A9w{n:List UInt8}(h:D6 n=true):n≠[]:=by
 rintro rfl
 revert h
 unfold D6;simp
theorem B5v{n:List UInt8}:∀ {l pre:List Dc},(∀ d∈l,d.name≠n)->lkD pre l n=none
 |[],_,_=>rfl
 |d :: l,pre,h=>by rw[lkD,if_neg (h d A0H)];exact B5v fun x hx=>h x (A0G _ hx)
theorem B5u{n:List UInt8}:∀ {l:List Md} {i:Nat},(∀ d∈l,d.name≠n)->lkM i l n=none
 |[],_,_=>rfl
 |d :: l,i,h=>by rw[lkM,if_neg (h d A0H)];exact B5u fun x hx=>h x (A0G _ hx)
theorem ChkR.nil{r:Ru}(h:ChkR r):E7 r []=(0,0):=by
 unfold E7;rw[B5v (fun d hd=>by
  have:=h.decl d hd;unfold Y8 at this;simp only[A0F,A0I]at this;exact A9w this.1.1.2),B5u (fun d hd=>by
  have:=h.mode d hd;unfold Q0 at this;simp only[A0F,A0I]at this;exact A9w this.1.1.1.1)]
structure Hdr (r:Ru) (m:Nat) (c:Prg):Prop where
 va:c.vars.length=cnR r 6
 pr:c.prios.length=r.modes.length
 ti:c.timers=(cnR r 7:Int)
 ev:c.events=(cnR r 8:Int)
 st:m<=c.strings.length
theorem Hdr.le{r:Ru}{m n:Nat}{c:Prg}(h:Hdr r n c)(hm:m<=n):Hdr r m c:=⟨h.va,h.pr,h.ti,h.ev,A1E hm h.st⟩
def NI(r:Ru)(m:Nat)(i:Ins):Prop:=∀ c:Prg,Hdr r m c->D2 c i=true
theorem NI.le{r:Ru}{m n:Nat}{i:Ins}(h:NI r m i)(hm:m<=n):NI r n i:=fun c hc=>h c (hc.le hm)
theorem L9{a lo hi:Int}(h1:lo<=a)(h2:a<=hi):inM a lo hi=true:=by unfold inM;rw[decide_eq_true h1,decide_eq_true h2];rfl
theorem NmR.ni{r:Ru}{q:Int × Int}(h:NmR r q){m:Nat}{op:Int}(hq:(q.1=1/\(D0 op).2.2=3)\/(q.1=2/\(D0 op).2.2=8)\/((q.1=3\/q.1=4\/q.1=5)/\(D0 op).2.2=9)\/(q.1=6/\(D0 op).2.2=2) \/
  (q.1=7/\(D0 op).2.2=5)\/(q.1=8/\(D0 op).2.2=10)\/(q.1=9/\(D0 op).2.2=4)):NI r m ⟨op,q.2⟩:=by
 obtain⟨q1,q2⟩:=q;obtain⟨h0,h1,h2⟩:=h;simp only at hq h0 h1 h2;intro c hc;unfold D2;rcases hq with ⟨rfl,e⟩|⟨rfl,e⟩|⟨hh,e⟩|⟨rfl,e⟩|⟨rfl,e⟩|⟨rfl,e⟩|⟨rfl,e⟩
 ·have:=(h1 (by decide)).2;simp only[e,F9];exact L9 h0 this
 ·have:=(h1 (by decide)).2;simp only[e,F9];exact L9 h0 this
 ·have h63:q2<=63:=by
   rcases hh with rfl|rfl|rfl
   ·exact (h1 (by decide)).2
   ·exact (h1 (by decide)).2
   ·exact (h1 (by decide)).2
  simp only[e,F9];exact L9 h0 h63
 ·have:=(h2 (by decide)).1;simp only[e,F9];exact L9 h0 (by rw[hc.va];omega)
 ·have:=(h2 (by decide)).1;simp only[e,F9];exact L9 h0 (by rw[hc.ti];omega)
 ·have:=(h2 (by decide)).1;simp only[e,F9];exact L9 h0 (by rw[hc.ev];omega)
 ·have:=(h2 (by decide)).1;have e9:cnR r 9=r.modes.length:=by unfold cnR;rw[if_pos rfl]
  simp only[e,F9];exact L9 h0 (by rw[hc.pr];omega)
theorem A3b{r:Ru}{m:Nat}{op:Int}(h:(D0 op).2.2=0):NI r m ⟨op,0⟩:=fun c hc=>by
 unfold D2;simp only[h,F9];rfl
theorem A5j{r:Ru}{m:Nat}{op a:Int}(h:(D0 op).2.2=7):NI r m ⟨op,a⟩:=fun c hc=>by
 unfold D2;simp only[h,F9];rfl
def NdE(r:Ru)(k v:Int)(n:List UInt8):Prop:=kOk k=true/\A1x k v=true/\dnM r n (kdE k)=0
theorem E1b{r:Ru}(h:ChkR r){k v:Int}{n:List UInt8}(hn:NdE r k v n)(m:Nat):NI r m (A1v (fun n=>(E7 r n).2) k v n):=by
 obtain⟨h1,h2,h3⟩:=hn;have h24:1<=k/\k<=24:=by
  unfold kOk at h1;rw[A1G,A0F,A0I,A0I,A0I]at h1;rcases h1 with h|h
  ·unfold B6 at h;repeat' split at h
   all_goals first|omega|(simp at *;omega)
  ·exact h
 have hd:∀ {q:Int},¬ q=0->kdE k=q->(E7 r n).1=q/\NmR r (E7 r n):=fun hq e=>by
  rw[e]at h3;have e1:=h.den hq h3;exact⟨e1,h.num (by rw[e1];exact hq)⟩
 unfold A1v;by_cases k1:k=1
 ·rw[if_pos k1];intro c hc;have hv : -2147483647<=v/\v<=2147483647:=by
   unfold A1x at h2;simp only[A1G,A0F,A1Y,A0I]at h2;omega
  unfold D2;exact L9 hv.1 hv.2
 rw[if_neg k1];by_cases k3:k=3
 ·rw[if_pos k3];exact fun c hc=>rfl
 rw[if_neg k3];by_cases k4:k=4
 ·rw[if_pos k4];exact fun c hc=>rfl
 rw[if_neg k4];by_cases k2:k=2
 ·rw[if_pos k2];obtain⟨e1,e2⟩:=hd (q:=6) (by decide) (by rw[k2];decide);exact e2.ni (.inr (.inr (.inr (.inl ⟨e1,by decide⟩))))
 rw[if_neg k2];by_cases k5:k=5
 ·rw[if_pos k5];obtain⟨e1,e2⟩:=hd (q:=1) (by decide) (by rw[k5];decide);exact e2.ni (.inl ⟨e1,by decide⟩)
 rw[if_neg k5];by_cases k6:k=6
 ·rw[if_pos k6];obtain⟨e1,e2⟩:=hd (q:=9) (by decide) (by rw[k6];decide);exact e2.ni (.inr (.inr (.inr (.inr (.inr (.inr ⟨e1,by decide⟩))))))
 rw[if_neg k6];by_cases k7:k=7
 ·rw[if_pos k7];obtain⟨e1,e2⟩:=hd (q:=7) (by decide) (by rw[k7];decide);exact e2.ni (.inr (.inr (.inr (.inr (.inl ⟨e1,by decide⟩)))))
 rw[if_neg k7];by_cases k8:k=8
 ·rw[if_pos k8];exact A3b (by decide)
 rw[if_neg k8];by_cases k9:k=9
 ·rw[if_pos k9];exact A3b (by decide)
 rw[if_neg k9];by_cases k10:k=10
 ·rw[if_pos k10];exact A3b (by decide)
 rw[if_neg k10];by_cases k11:k=11
 ·rw[if_pos k11];exact A3b (by decide)
 rw[if_neg k11];intro c hc;unfold D2;exact L9 (show (12:Int)<=k by omega) (show k<=24 by omega)
mutual
theorem C7h{r:Ru}(h:ChkR r)(m:Nat):∀ {e:Ex} {o d:Nat},msM e=some (o,d)->erE r e=none->∀ i∈cgE (fun n=>(E7 r n).2) e,NI r m i
 |.mk k v n a p,o,d,h1,h2,i,hi=>by
  rw[erE,A1F,A1F]at h2;obtain⟨⟨g1,g2⟩, -⟩:=h2;rw[msM]at h1;split at h1
  ·cases h1
  ·rename_i g;have k1:kOk k=true:=Classical.byContradiction fun e=>g (.inl (by simpa using e));have k2:A1x k v=true:=Classical.byContradiction fun e=>g (.inr (.inr (.inr (by simpa using e))));have k0:a.length=I7 k:=Classical.byContradiction fun e=>g (.inr (.inl e));have k3:dnM r n (kdE k)=0:=by
    unfold dnE at g2;split at g2
    ·assumption
    ·cases g2
   rw[cgE]at hi;rcases A0X.1 hi with hi|hi
   ·split at h1
    ·rename_i hc;have:a=[]:=A2K.1 (by omega);subst this;simp[C5]at hi
    ·split at h1
     ·cases h1
     ·rename_i o2 d2 g4;exact C1c h m g4 g1 i hi
   ·rw[A1K]at hi;subst hi;exact E1b h ⟨k1,k2,k3⟩ m
theorem C1c{r:Ru}(h:ChkR r)(m:Nat):∀ {l:List Ex} {k:Int} {j o d:Nat},msL k j l=some (o,d)->U6 r l=none->∀ i∈C5 (fun n=>(E7 r n).2) l,NI r m i
 |[],_,_,_,_,_,_,i,hi=>by simp[C5]at hi
 |e :: l,k,j,o,d,h1,h2,i,hi=>by
  rw[U6,A1F]at h2;rw[msL]at h1;split at h1
  ·cases h1
  ·rename_i o1 d1 g1;split at h1
   ·cases h1
   ·rename_i o2 d2 g2;rw[C5]at hi;rcases A0X.1 hi with hi|hi
    ·exact C7h h m g1 h2.1 i hi
    ·exact C1c h m g2 h2.2 i hi
end
theorem D5l(S:List (List UInt8))(t:List UInt8):S.length<=(txS S t).2.length:=by
 unfold txS;split
 ·exact A0E _
 ·simp
theorem D5k(S:List (List UInt8))(t:List UInt8):(txS S t).1<(txS S t).2.length:=by
 unfold txS;split
 ·rename_i h;exact List.idxOf_lt_length_of_mem h
 ·simp
theorem D0n{S:List (List UInt8)}{t x:List UInt8}(h:x∈(txS S t).2):x∈S\/x=t:=by
 unfold txS at h;split at h
 ·exact .inl h
 ·simpa using h
mutual
theorem C9u(nm:List UInt8->Int):∀ (s:St) (p:Nat) (S:List (List UInt8)),S.length<=(cgS nm p S s).2.length
 |.mk k n t a x y q,p,S=>by
  rw[cgS];split
  ·split
   ·exact Y0 nm x _ S
   ·exact A1E (Y0 nm x _ S) (Y0 nm y _ _)
  ·split
   ·exact Y0 nm x _ S
   ·split
    ·exact D5l S t
    ·exact A0E _
theorem Y0(nm:List UInt8->Int):∀ (l:List St) (p:Nat) (S:List (List UInt8)),S.length<=(cgB nm p S l).2.length
 |[],_,_=>A0E _
 |s :: l,p,S=>by
  rw[cgB];exact A1E (C9u nm s p S) (Y0 nm l _ _)
end
theorem C2f{r:Ru}{b:Bool}:∀ {l:List Ex},erA r b l=none->∀ e∈l,erE r e=none
 |[],_,e,he=>by cases he
 |x :: l,h,e,he=>by
  rw[erA,A1F,A1F]at h;rcases A0Y.1 he with rfl|he
  ·exact h.1.1
  ·exact C2f h.2 e he
theorem C1d{r:Ru}(h:ChkR r)(m:Nat):∀ {l:List Ex},(∀ e∈l,S4 e=true)->(∀ e∈l,erE r e=none)->∀ i∈C5 (fun n=>(E7 r n).2) l,NI r m i
 |[],_,_,i,hi=>by simp[C5]at hi
 |e :: l,h1,h2,i,hi=>by
  rw[C5]at hi;rcases A0X.1 hi with hi|hi
  ·have hv:=h1 e A0H;unfold S4 at hv;split at hv
   ·rename_i o d g;exact C7h h m g (h2 e A0H) i hi
   ·cases hv
  ·exact C1d h m (fun e he=>h1 e (A0G _ he)) (fun e he=>h2 e (A0G _ he)) i hi
theorem E1a{r:Ru}(h:ChkR r){k:Int}{n:List UInt8}(h1:1<=k)(h2:k<=19)(n2:¬ k=2)(n3:¬ k=3)(n18:¬ k=18)(hn:if (J6 k).name=true then D6 n=true else n=[])(hd:dnM r n (kdS k)=0)(m:Nat):
  NI r m ⟨stOp k,(E7 r n).2⟩:=by
 have hm:k=1\/k=4\/k=5\/k=6\/k=7\/k=8\/k=9\/k=10\/k=11\/k=12\/k=13\/k=14\/k=15\/k=16\/k=17\/k=19:=by omega
 have hx:∀ {q:Int},¬ q=0->kdS k=q->(E7 r n).1=q/\NmR r (E7 r n):=fun hq e=>by
  rw[e]at hd;have e1:=h.den hq hd;exact⟨e1,h.num (by rw[e1];exact hq)⟩
 have hz:n=[]->(D0 (stOp k)).2.2=0->NI r m ⟨stOp k,(E7 r n).2⟩:=fun e g=>by
  subst e;rw[h.nil];exact A3b g
 rcases hm with rfl|rfl|rfl|rfl|rfl|rfl|rfl|rfl|rfl|rfl|rfl|rfl|rfl|rfl|rfl|rfl
 ·obtain⟨e1,e2⟩:=hx (q:=6) (by decide) (by decide);exact e2.ni (.inr (.inr (.inr (.inl ⟨e1,by decide⟩))))
 ·rw[if_neg (by decide)]at hn;exact hz hn (by decide)
 ·obtain⟨e1,e2⟩:=hx (q:=2) (by decide) (by decide);exact e2.ni (.inr (.inl ⟨e1,by decide⟩))
 ·obtain⟨e1,e2⟩:=hx (q:=2) (by decide) (by decide);exact e2.ni (.inr (.inl ⟨e1,by decide⟩))
 ·obtain⟨e1,e2⟩:=hx (q:=2) (by decide) (by decide);exact e2.ni (.inr (.inl ⟨e1,by decide⟩))
 ·obtain⟨e1,e2⟩:=hx (q:=3) (by decide) (by decide);exact e2.ni (.inr (.inr (.inl ⟨.inl e1,by decide⟩)))
 ·obtain⟨e1,e2⟩:=hx (q:=3) (by decide) (by decide);exact e2.ni (.inr (.inr (.inl ⟨.inl e1,by decide⟩)))
 ·obtain⟨e1,e2⟩:=hx (q:=7) (by decide) (by decide);exact e2.ni (.inr (.inr (.inr (.inr (.inl ⟨e1,by decide⟩)))))
 ·obtain⟨e1,e2⟩:=hx (q:=7) (by decide) (by decide);exact e2.ni (.inr (.inr (.inr (.inr (.inl ⟨e1,by decide⟩)))))
 ·obtain⟨e1,e2⟩:=hx (q:=9) (by decide) (by decide);exact e2.ni (.inr (.inr (.inr (.inr (.inr (.inr ⟨e1,by decide⟩))))))
 ·obtain⟨e1,e2⟩:=hx (q:=9) (by decide) (by decide);exact e2.ni (.inr (.inr (.inr (.inr (.inr (.inr ⟨e1,by decide⟩))))))
 ·obtain⟨e1,e2⟩:=hx (q:=8) (by decide) (by decide);exact e2.ni (.inr (.inr (.inr (.inr (.inr (.inl ⟨e1,by decide⟩))))))
 ·obtain⟨e1,e2⟩:=hx (q:=4) (by decide) (by decide);exact e2.ni (.inr (.inr (.inl ⟨.inr (.inl e1),by decide⟩)))
 ·obtain⟨e1,e2⟩:=hx (q:=5) (by decide) (by decide);exact e2.ni (.inr (.inr (.inl ⟨.inr (.inr e1),by decide⟩)))
 ·obtain⟨e1,e2⟩:=hx (q:=5) (by decide) (by decide);exact e2.ni (.inr (.inr (.inl ⟨.inr (.inr e1),by decide⟩)))
 ·rw[if_neg (by decide)]at hn;exact hz hn (by decide)
theorem D1n{r:Ru}{m j:Nat}(h:j<m):NI r m ⟨29,(j:Int)⟩:=fun c hc=>by
 have:=hc.st;unfold D2;exact L9 (show (0:Int)<=(j:Int) by omega) (show (j:Int)<=(c.strings.length:Int)-1 by omega)
mutual
theorem D7i{r:Ru}(h:ChkR r):∀ {s:St} {d p:Nat} {S:List (List UInt8)},N7 d s=true->erS r s=none->∀ i∈(cgS (fun n=>(E7 r n).2) p S s).1,NI r (cgS (fun n=>(E7 r n).2) p S s).2.length i
 |.mk k n t a x y q,d,p,S,hv,he,i,hi=>by
  obtain⟨k1,k2,ha,hva,hb,hvb,hc,hvc,h8,h9,hn,ht⟩:=A1w hv;rw[erS,A1F,A1F,A1F]at he;obtain⟨⟨⟨e1,e2⟩,e3⟩,e4⟩:=he;have hd:dnM r n (kdS k)=0:=by
   unfold dnE at e1;split at e1
   ·assumption
   ·cases e1
  have hA:∀ m, ∀ i∈C5 (fun n=>(E7 r n).2) a,NI r m i:=fun m=>C1d h m hva (C2f e2);rw[cgS]at hi ⊢;by_cases g2:k=2
  ·rw[if_pos g2]at hi ⊢;by_cases hy:y.length=0
   ·rw[if_pos hy]at hi ⊢;rcases A0X.1 hi with hi|hi
    ·exact hA _ i hi
    ·rcases A0Y.1 hi with rfl|hi
     ·exact A5j (by decide)
     ·exact A6u h hvb e3 i hi
   ·rw[if_neg hy]at hi ⊢;rcases A0X.1 hi with hi|hi
    ·exact hA _ i hi
    ·rcases A0Y.1 hi with rfl|hi
     ·exact A5j (by decide)
     ·rcases A0X.1 hi with hi|hi
      ·exact (A6u h hvb e3 i hi).le (Y0 _ y _ _)
      ·rcases A0Y.1 hi with rfl|hi
       ·exact A5j (by decide)
       ·exact A6u h hvc e4 i hi
  ·rw[if_neg g2]at hi ⊢;by_cases g3:k=3
   ·rw[if_pos g3]at hi ⊢;rcases A0X.1 hi with hi|hi
    ·exact hA _ i hi
    ·rcases A0Y.1 hi with rfl|hi
     ·exact A5j (by decide)
     ·rcases A0X.1 hi with hi|hi
      ·exact A6u h hvb e3 i hi
      ·rw[A1K]at hi;subst hi;exact A5j (by decide)
   ·rw[if_neg g3]at hi ⊢;by_cases g18:k=18
    ·rw[if_pos g18]at hi ⊢;rcases A0X.1 hi with hi|hi
     ·exact hA _ i hi
     ·rw[A1K]at hi;subst hi;exact D1n (D5k S t)
    ·rw[if_neg g18]at hi ⊢;rcases A0X.1 hi with hi|hi
     ·exact hA _ i hi
     ·rw[A1K]at hi;subst hi;exact E1a h k1 k2 g2 g3 g18 hn hd _
theorem A6u{r:Ru}(h:ChkR r):∀ {l:List St} {d p:Nat} {S:List (List UInt8)},F8 d l=true->erB r l=none->∀ i∈(cgB (fun n=>(E7 r n).2) p S l).1,NI r (cgB (fun n=>(E7 r n).2) p S l).2.length i
 |[],_,_,_,_,_,i,hi=>by simp[cgB]at hi
 |s :: l,d,p,S,hv,he,i,hi=>by
  rw[F8,A0F]at hv;rw[erB,A1F]at he;rw[cgB]at hi ⊢;rcases A0X.1 hi with hi|hi
  ·exact (D7i h hv.1 he.1 i hi).le (Y0 _ l _ _)
  ·exact A6u h hv.2 he.2 i hi
end
mutual
theorem D5i{nm:List UInt8->Int}:∀ {s:St} {d p:Nat} {S:List (List UInt8)},N7 d s=true->(∀ x∈S,O3 x=true)->∀ x∈(cgS nm p S s).2,O3 x=true
 |.mk k n t a b c q,d,p,S,hv,hS,x,hx=>by
  obtain⟨k1,k2,ha,hva,hb,hvb,hc,hvc,h8,h9,hn,ht⟩:=A1w hv;rw[cgS]at hx;by_cases g2:k=2
  ·rw[if_pos g2]at hx;by_cases hy:c.length=0
   ·rw[if_pos hy]at hx;exact A6j hvb hS x hx
   ·rw[if_neg hy]at hx;exact A6j hvc (fun z hz=>A6j hvb hS z hz) x hx
  ·rw[if_neg g2]at hx;by_cases g3:k=3
   ·rw[if_pos g3]at hx;exact A6j hvb hS x hx
   ·rw[if_neg g3]at hx;by_cases g18:k=18
    ·rw[if_pos g18]at hx;rcases D0n hx with hx|rfl
     ·exact hS x hx
     ·subst g18;rw[if_pos (by decide)]at ht;unfold S1 at ht;unfold O3;exact ht
    ·rw[if_neg g18]at hx;exact hS x hx
theorem A6j{nm:List UInt8->Int}:∀ {l:List St} {d p:Nat} {S:List (List UInt8)},F8 d l=true->(∀ x∈S,O3 x=true)->∀ x∈(cgB nm p S l).2,O3 x=true
 |[],_,_,_,_,hS,x,hx=>hS x (by simpa[cgB] using hx)
 |s :: l,d,p,S,hv,hS,x,hx=>by
  rw[F8,A0F]at hv;rw[cgB]at hx;exact A6j hv.2 (fun z hz=>D5i hv.1 hS z hz) x hx
end
abbrev nmR(r:Ru):List UInt8->Int:=fun n=>(E7 r n).2
def cmC(r:Ru):Prg :=
 ⟨(cgL (nmR r) 0 [] (E0 (nmR r) 0 r.modes)).1,(cgL (nmR r) 0 [] (E0 (nmR r) 0 r.modes)).2.2,(cgL (nmR r) 0 [] (E0 (nmR r) 0 r.modes)).2.1,r.modes.map (·.prio),
  (r.decls.filter fun d=>d.kind == 6).map (·.value),(cnR r 7:Int),(cnR r 8:Int)⟩
theorem B4a{r:Ru}:∀ {l:List St},erB r l=none↔∀ s∈l,erS r s=none
 |[]=>by simp[erB]
 |s :: l=>by rw[erB,A1F,B4a];simp
theorem C2e{r:Ru}:∀ {l pre:List Hd},erH r pre l=none->∀ h∈l,dnM r h.name (kdH h.trig)=0/\erB r h.body=none
 |[],_,_,h,hh=>by grind
 |x :: l,pre,h,y,hy=>by
  rw[erH,A1F,A1F,A1F]at h;obtain⟨⟨⟨h1, -⟩,h2⟩,h3⟩:=h;rcases A0Y.1 hy with rfl|hy
  ·refine⟨?_,h2⟩;unfold dnE at h1
   grind
  ·exact C2e h3 y hy
structure HdF (r:Ru) (h:Hd):Prop where
 tr:1<=h.trig/\h.trig<=6
 bl:M4 h.body 1=true
 er:erB r h.body=none
 nn:h.trig<3->(E7 r h.name).2=0
 nd:3<=h.trig->(E7 r h.name).1=kdH h.trig/\NmR r (E7 r h.name)
theorem ChkR.hd{r:Ru}(h:ChkR r):∀ m∈r.modes, ∀ x∈m.hds,HdF r x:=by
 intro m hm x hx;have hv:=h.mode m hm;unfold Q0 at hv;simp only[A0F,A0I,A0R]at hv;have hv:=hv.2 x hx;unfold A0x at hv;simp only[A0F,A0I]at hv;obtain⟨⟨⟨v1,v2⟩,v3⟩,v4⟩:=hv;obtain⟨d1,d2⟩:=C2e (h.erm m hm) x hx;refine⟨⟨v1,v2⟩,v4,d2,fun ht=>?_,fun ht=>?_⟩
 ·rw[if_neg (by omega)]at v3;have:x.name=[]:=by grind
  rw[this,h.nil]
 ·have hk:¬ kdH x.trig=0:=by
   have:x.trig=3\/x.trig=4\/x.trig=5\/x.trig=6:=by omega
   rcases this with e|e|e|e<;>rw[e]<;>decide
  have e1:=h.den hk d1;exact⟨e1,h.num (by omega)⟩
theorem B0j{r:Ru}(h:ChkR r)(k:Int)(hk:¬ k=9):cnR r k<=128:=by
 unfold cnR;rw[if_neg hk];exact A1E (B9i _ _) h.lens.1
theorem HdF.ok{r:Ru}(hr:ChkR r){h:Hd}(hf:HdF r h):HOk (nmR r) h:=by
 refine⟨hf.tr.1,hf.tr.2,?_⟩;show 0<=(E7 r h.name).2/\(E7 r h.name).2<128;by_cases ht:h.trig<3
 ·rw[hf.nn ht];simp
 ·obtain⟨e,n0,n1,n2⟩:=hf.nd (by omega);refine⟨n0,?_⟩;have:h.trig=3\/h.trig=4\/h.trig=5\/h.trig=6:=by have:=hf.tr;omega
  rcases this with g|g|g|g
  ·rw[g]at e;have e:(E7 r h.name).1=1:=e;have:=(n1 (by omega)).2;rw[e]at this;have:(E7 r h.name).2<=63:=this;omega
  ·rw[g]at e;have e:(E7 r h.name).1=1:=e;have:=(n1 (by omega)).2;rw[e]at this;have:(E7 r h.name).2<=63:=this;omega
  ·rw[g]at e;have e:(E7 r h.name).1=7:=e;have:=(n2 (by omega)).1;rw[e]at this;have:=B0j hr 7 (by simp);omega
  ·rw[g]at e;have e:(E7 r h.name).1=8:=e;have:=(n2 (by omega)).1;rw[e]at this;have:=B0j hr 8 (by simp);omega
structure PtF (r:Ru) (q:C8):Prop where
 md:0<=q.1.mode/\q.1.mode<(r.modes.length:Int)
 ky:∃ h,HdF r h/\q.1.trig=h.trig/\q.1.ix=(E7 r h.name).2
 bo:∀ b∈q.2, ∃ h,HdF r h/\b=h.body
theorem C0k{nm:List UInt8->Int}{i:Nat}{l:List Hd}{q:C8}(h:q∈rfP nm i l):(∃ x∈l,(hdK nm i x).1=q.1)/\∀ b∈q.2, ∃ x∈l,b=x.body:=by
 unfold rfP ptK at h;obtain⟨k,hk,e⟩:=A4C.1 h;split at e
 ·grind
 ·rename_i hne;cases e;constructor
  ·refine Classical.byContradiction fun hn=>hne (A6d fun x hx he=>?_)
   grind
  ·intro b hb;unfold J1 at hb;obtain⟨x,hx,rfl⟩:=A1A.1 hb;obtain⟨y,hy,rfl⟩:=A1A.1 (List.mem_filter.1 hx).1;exact⟨y,hy,rfl⟩
theorem B5h{r:Ru}:∀ {l:List Md} {i:Nat},(∀ m∈l, ∀ x∈m.hds,HdF r x)->i+l.length<=r.modes.length->∀ q∈E0 (nmR r) i l,PtF r q
 |[],_,_,_,q,hq=>by trivial
 |m :: l,i,h,hl,q,hq=>by
  rw[A0K]at hl;rw[E0]at hq;rcases A0X.1 hq with hq|hq
  ·obtain⟨⟨x,hx,e⟩,hb⟩:=C0k hq;refine⟨?_,⟨x,h m A0H x hx,by rw[<- e];rfl,by rw[<- e];rfl⟩,fun b hb'=>?_⟩
   ·rw[<- e];show (0:Int)<=(i:Int)/\(i:Int)<_;omega
   grind
  ·exact B5h (fun m hm=>h m (A0G _ hm)) (by omega) q hq
theorem PtF.sts{r:Ru}{q:C8}(h:PtF r q):F8 1 q.2.flatten=true/\erB r q.2.flatten=none:=by
 constructor
 ·rw[W7];intro s hs;obtain⟨b,hb,hs⟩:=A4G.1 hs;obtain⟨x,hx,rfl⟩:=h.bo b hb;have:=hx.bl;unfold M4 at this;rw[A0F]at this;exact W7.1 this.2 s hs
 ·rw[B4a];intro s hs;obtain⟨b,hb,hs⟩:=A4G.1 hs;obtain⟨x,hx,rfl⟩:=h.bo b hb;exact B4a.1 hx.er s hs
theorem PtF.ok{r:Ru}{q:C8}(h:PtF r q):D3k q:=fun b hb=>by
 obtain⟨x,hx,rfl⟩:=h.bo b hb;exact hx.bl
theorem B9n(nm:List UInt8->Int):∀ (l:List C8) (p:Nat) (S:List (List UInt8)),S.length<=(cgL nm p S l).2.2.length
 |[],_,_=>A0E _
 |q :: l,p,S=>by rw[cgL];exact A1E (Y0 nm _ p S) (B9n nm l _ _)
theorem C7g{r:Ru}(h:ChkR r):∀ {l:List C8} {p:Nat} {S:List (List UInt8)},(∀ q∈l,PtF r q)->∀ i∈(cgL (nmR r) p S l).1,NI r (cgL (nmR r) p S l).2.2.length i
 |[],_,_,_,i,hi=>by trivial
 |q :: l,p,S,hq,i,hi=>by
  have h1:=(hq q A0H).sts;rw[cgL]at hi ⊢;rcases A0X.1 hi with hi|hi
  ·exact (A6u h h1.1 h1.2 i hi).le (B9n _ l _ _)
  ·rcases A0Y.1 hi with rfl|hi
   ·exact A3b (by rfl)
   ·exact C7g h (fun q hq'=>hq q (A0G _ hq')) i hi
theorem C5g{r:Ru}:∀ {l:List C8} {p:Nat} {S:List (List UInt8)},(∀ q∈l,PtF r q)->(∀ x∈S,O3 x=true)->∀ x∈(cgL (nmR r) p S l).2.2,O3 x=true
 |[],_,_,_,hS,x,hx=>hS x (by assumption)
 |q :: l,p,S,hq,hS,x,hx=>by
  rw[cgL]at hx;exact C5g (fun q hq'=>hq q (A0G _ hq')) (A6j (hq q A0H).sts.1 hS) x hx
theorem C7d{q:List KB}:∀ {ks:List Ky},ks.Nodup->(∀ k∈ks, ∃ x∈q,x.1=k)->ks.length<=q.length:=by
 induction q with
 |nil =>
  intro ks _ h;cases ks with
  |nil=>omega
  |cons k ks=>obtain⟨x,hx, -⟩:=h k A0H;grind
 |cons x q ih =>
  intro ks hn h;have h1:=ih (ks:=ks.erase x.1) (hn.erase _) (fun k hk=>by
   obtain⟨g1,g2⟩:=(hn.mem_erase_iff).1 hk;obtain⟨y,hy,e⟩:=h k g2;rcases A0Y.1 hy with rfl|hy
   ·exact absurd e.symm g1
   ·exact⟨y,hy,e⟩)
  grind
theorem C7z{nm:List UInt8->Int}:∀ {l:List Md} {i:Nat},(∀ m∈l,m.hds.length<=32)->(hkM nm i l).length<=32 * l.length
 |[],_,_=>A0O _
 |m :: l,i,h=>by
  have h1:=h m A0H;have h2:=C7z (nm:=nm) (l:=l) (i:=i+1) (fun m hm=>h m (A0G _ hm));rw[hkM,A0A,A0C,A0K];omega
theorem Srt.nodup{l:List C8}(h:Srt l):(l.map (·.1)).Nodup:=by
 refine A4Q.2 (List.Pairwise.imp (fun {a b} g e=>?_) h);rw[e]at g;exact Ky.lt_irrefl _ g
theorem C0j{nm:List UInt8->Int}:∀ {l:List Md} {i:Nat} {q:C8},q∈E0 nm i l->∃ x∈hkM nm i l,x.1=q.1
 |[],_,_,h=>by cases h
 |m :: l,i,q,h=>by
  rw[E0]at h;rw[hkM];rcases A0X.1 h with h|h
  ·obtain⟨⟨x,hx,e⟩, -⟩:=C0k h
   grind
  ·obtain⟨x,hx,e⟩:=C0j h
   grind
theorem A2j(nm:List UInt8->Int):∀ (l:List C8) (p:Nat) (S:List (List UInt8)),(cgL nm p S l).2.1.length=l.length
 |[],_,_=>rfl
 |q :: l,p,S=>by rw[cgL];simp only[A0K,A2j nm l]
theorem B2j{nm:List UInt8->Int}:∀ {l:List C8} {p:Nat} {S:List (List UInt8)} {e:Ent},e∈(cgL nm p S l).2.1->∃ q∈l,e.mode=q.1.mode/\e.trigger=q.1.trig/\e.index=q.1.ix
 |[],_,_,_,h=>by trivial
 |q :: l,p,S,e,h=>by
  rw[cgL]at h;rcases A0Y.1 h with rfl|h
  ·simp
  ·obtain⟨x,hx,e1⟩:=B2j h
   grind
theorem C5a{r:Ru}(h:ChkR r)(h1:(cmC r).instrs.length<=4000)(h2:(cmC r).strings.length<=200):J4 (cmC r)=0:=by
 have hH:=h.hd;have hP:∀ q∈E0 (nmR r) 0 r.modes,PtF r q:=B5h hH (by omega);have hS:=A9e (nm:=nmR r) r.modes 0;have hvars:(cmC r).vars.length=cnR r 6:=by
  show ((r.decls.filter fun d=>d.kind == 6).map (·.value)).length=cnR r 6;unfold cnR cnD;rw[if_neg (by decide),A0C,List.countP_eq_length_filter]
 have hent:(cmC r).entries.length<=512:=by
  show (cgL (nmR r) 0 [] (E0 (nmR r) 0 r.modes)).2.1.length<=512;rw[A2j, <- A0C (f:=fun q:C8=>q.1)];refine A1E (C7d (q:=hkM (nmR r) 0 r.modes) hS.nodup fun k hk=>?_) (A1E (C7z fun m hm=>?_) (Nat.mul_le_mul_left 32 h.lens.2))
  ·obtain⟨q,hq,rfl⟩:=A1A.1 hk;exact C0j hq
  ·have:=h.mode m hm;unfold Q0 at this;simp only[A0F,A0I]at this;exact this.1.2
 have hlim:M9 (cmC r)=true:=by
  have e6:=B0j h 6 (by decide);have e7:=B0j h 7 (by decide);have e8:=B0j h 8 (by decide);have ep:(cmC r).prios.length<=16:=by show (r.modes.map (·.prio)).length<=16;rw[A0C];exact h.lens.2
  unfold M9;rw[decide_eq_true h1,decide_eq_true h2,decide_eq_true hent,decide_eq_true ep,decide_eq_true (by rw[hvars];exact e6)];have i7:inM (cmC r).timers 0 128=true:=L9 (show (0:Int)<=(cnR r 7:Int) by omega) (show (cnR r 7:Int)<=128 by omega);have i8:inM (cmC r).events 0 128=true:=L9 (show (0:Int)<=(cnR r 8:Int) by omega) (show (cnR r 8:Int)<=128 by omega);rw[i7,i8];rfl
 have hhdr:Hdr r (cmC r).strings.length (cmC r):=⟨hvars,A0C _,rfl,rfl,A0E _⟩;have hparts:X3 (cmC r)=true:=by
  unfold X3;simp only[A0F,A0R];refine⟨⟨⟨⟨C5g hP (fun x hx=>by cases hx),fun n hn=>?_⟩,fun n hn=>?_⟩,fun e he=>?_⟩,fun i hi=>C7g h hP i hi _ hhdr⟩
  ·obtain⟨m,hm,rfl⟩:=A1A.1 hn;have:=h.mode m hm;unfold Q0 at this;simp only[A0F,A0I]at this;have:=h.hea.2.1 m hm;exact L9 (by omega) (by omega)
  ·obtain⟨d,hd,rfl⟩:=A1A.1 hn;obtain⟨hd,hk⟩:=List.mem_filter.1 hd;have hk:d.kind=6:=by simpa using hk
   have:=h.decl d hd;unfold Y8 at this;simp only[A0F,A0I]at this;have h4:=h.hea.1 d hd;rw[hk]at h4;have h5:¬ d.value>2147483647:=h4;rw[if_pos hk]at this;exact L9 (by omega) (by omega)
  ·obtain⟨q,hq,e1,e2,e3⟩:=B2j he;obtain⟨⟨m1,m2⟩,⟨x,hx,x1,x2⟩, -⟩:=hP q hq;unfold A2i;rw[e1,e2,e3,x1,x2];have ep:(cmC r).prios.length=r.modes.length:=A0C _;rw[L9 m1 (by rw[ep];omega),A2N];have ht:x.trig=1\/x.trig=2\/x.trig=3\/x.trig=4\/x.trig=5\/x.trig=6:=by have:=hx.tr;omega
   rcases ht with g|g|g|g|g|g
   ·have:=hx.nn (by omega);rw[g,this];rfl
   ·have:=hx.nn (by omega);rw[g,this];rfl
   ·obtain⟨e,n0,n1,n2⟩:=hx.nd (by omega);rw[g]at e;have e:(E7 r x.name).1=1:=e;have:=(n1 (by omega)).2;rw[e]at this;have:(E7 r x.name).2<=63:=this;rw[g,if_neg (by decide),if_pos (by decide)];exact L9 n0 this
   ·obtain⟨e,n0,n1,n2⟩:=hx.nd (by omega);rw[g]at e;have e:(E7 r x.name).1=1:=e;have:=(n1 (by omega)).2;rw[e]at this;have:(E7 r x.name).2<=63:=this;rw[g,if_neg (by decide),if_pos (by decide)];exact L9 n0 this
   ·obtain⟨e,n0,n1,n2⟩:=hx.nd (by omega);rw[g]at e;have e:(E7 r x.name).1=7:=e;have:=(n2 (by omega)).1;rw[e]at this;rw[g,if_neg (by decide),if_neg (by decide),if_pos (by decide)];exact L9 n0 (show (E7 r x.name).2<=(cnR r 7:Int)-1 by omega)
   ·obtain⟨e,n0,n1,n2⟩:=hx.nd (by omega);rw[g]at e;have e:(E7 r x.name).1=8:=e;have:=(n2 (by omega)).1;rw[e]at this;rw[g,if_neg (by decide),if_neg (by decide),if_neg (by decide),if_pos (by decide)];exact L9 n0 (show (E7 r x.name).2<=(cnR r 8:Int)-1 by omega)
 have hg:=gdL (nm:=nmR r) (I:=(cmC r).instrs) (Hs:=hL (E0 (nmR r) 0 r.modes)) (l:=E0 (nmR r) 0 r.modes) (p:=0) (S:=[]) (fun q hq=>(hP q hq).ok) (fun i hi=>by rw[A1J];exact⟨rfl,rfl⟩);obtain⟨hj,hr⟩:=C5x (c:=cmC r) (Hs:=hL (E0 (nmR r) 0 r.modes)) (C8h _ _ 0 []) (fun i hi=>by have:=hg.1 i hi;rwa [A1J]at this) hg.2;unfold J4;have hc:P2 (cmC r).entries=true:=C4n hS 0 []
 grind
theorem B4g(nm:List UInt8->Int):∀ (a b:List C8) (p:Nat) (S:List (List UInt8)),
  cgL nm p S (a++b)=((cgL nm p S a).1++(cgL nm (p+(cgL nm p S a).1.length) (cgL nm p S a).2.2 b).1,(cgL nm p S a).2.1++(cgL nm (p+(cgL nm p S a).1.length) (cgL nm p S a).2.2 b).2.1,(cgL nm (p+(cgL nm p S a).1.length) (cgL nm p S a).2.2 b).2.2)
 |[],b,p,S=>by simp[cgL]
 |q :: a,b,p,S=>by
  rw[List.cons_append,cgL,B4g nm a b,cgL];have e:p+(cgB nm p S q.2.flatten).1.length+1+(cgL nm (p+(cgB nm p S q.2.flatten).1.length+1) (cgB nm p S q.2.flatten).2 a).1.length =
    p+((cgB nm p S q.2.flatten).1++((⟨31,0⟩:Ins) :: (cgL nm (p+(cgB nm p S q.2.flatten).1.length+1) (cgB nm p S q.2.flatten).2 a).1)).length:=by
   rw[A0A,A0K];omega
  rw[e];simp only[A0P,List.cons_append]
theorem B6z{nm:List UInt8->Int}{l:List C8}{S:List (List UInt8)}(k:Nat):(cgL nm 0 S (l.take k)).1.length<=(cgL nm 0 S l).1.length/\(cgL nm 0 S (l.take k)).2.2.length<=(cgL nm 0 S l).2.2.length:=by
 have h:=B4g nm (l.take k) (l.drop k) 0 S;rw[A1W]at h;rw[h];constructor
 ·rw[A0A];omega
 ·exact B9n nm _ _ _
theorem B7a(nm:List UInt8->Int)(l:List C8)(q:C8)(S:List (List UInt8)):cgL nm 0 S (l++[q]) =
  ((cgL nm 0 S l).1++((cgB nm (cgL nm 0 S l).1.length (cgL nm 0 S l).2.2 q.2.flatten).1++[⟨31,0⟩]),(cgL nm 0 S l).2.1++[⟨q.1.mode,q.1.trig,q.1.ix,((cgL nm 0 S l).1.length:Int)⟩],(cgB nm (cgL nm 0 S l).1.length (cgL nm 0 S l).2.2 q.2.flatten).2):=by
 rw[B4g,A1J];rfl
def B4l:Prg:=⟨[],[],[],[],[],0,0⟩
def U7(r:Ru):Prg × Int × Int :=
 if L1 r=true then
  match A3s r with
  |some (p,c)=>(B4l,p,c)
  |none=>if 4000<(cmC r).instrs.length\/200<(cmC r).strings.length then (B4l,0,9) else (cmC r,0,0)
 else (B4l,0,1)
def B4e(q:Prg × Int × Int):DV:=.tup [q.1.v,I64 q.2.1,I64 q.2.2]
theorem B7o:J4 B4l=0:=by decide
theorem B2m(r:Ru):J4 (U7 r).1=0:=by
 unfold U7;by_cases h1:L1 r=true
 ·rw[if_pos h1];cases h2:A3s r with
  |some q=>exact B7o
  |none =>
   show J4 (if 4000<(cmC r).instrs.length\/200<(cmC r).strings.length then (B4l,(0:Int),(9:Int)) else (cmC r,0,0)).1=0;by_cases h3:4000<(cmC r).instrs.length\/200<(cmC r).strings.length
   ·rw[if_pos h3];exact B7o
   ·rw[if_neg h3];exact C5a ⟨h1,h2⟩ (by omega) (by omega)
 ·rw[if_neg h1];exact B7o
abbrev txC(S:List (List UInt8)):List DV:=S.map DV.str
abbrev gmB(t:Nat)(a b:Option Nat)(mk:DV->DV->List DV)(x:Cg):Blk:=⟨0,true,mk (todoV a x.1.length) (todoV b x.2.length)⟩
def GM(H0:Hp)(t:Nat)(a b:Option Nat)(mk:DV->DV->List DV)(x:Cg):Hp :=
 optH (optH (H0.upd t (gmB t a b mk x)) a ⟨2,true,X8 x.1⟩) b ⟨1,true,txC x.2⟩
structure GN (H0:Hp) (t:Nat) (a b:Option Nat) (x:Cg) (c:Nat):Prop where
 tc:t<c
 ha:∀ i,a=some i->i≠t/\i<c/\H0 i=none
 hb:∀ i,b=some i->i≠t/\i<c/\H0 i=none
 ne:∀ i j,a=some i->b=some j->i≠j
 an:a=none->x.1=[]
 bn:b=none->x.2=[]
 fr:∀ j,c<=j->H0 j=none
section
variable {H0:Hp} {t c c' i:Nat} {a b:Option Nat} {mk:DV->DV->List DV} {x y:Cg}
theorem W6(h:GN H0 t a b x c):GM H0 t a b mk x t=some (gmB t a b mk x):=by
 rw[GM,B7 (fun i hi=>Ne.symm (h.hb i hi).1),B7 (fun i hi=>Ne.symm (h.ha i hi).1),h_same]
theorem A4x(h:GN H0 t a b x c){i:Nat}(hi:a=some i):GM H0 t a b mk x i=some ⟨2,true,X8 x.1⟩:=by
 rw[GM,B7 (fun j hj=>h.ne i j hi hj)];subst hi;exact h_same
theorem A6h{i:Nat}(hi:b=some i):GM H0 t a b mk x i=some ⟨1,true,txC x.2⟩:=by
 rw[GM];subst hi;exact h_same
theorem D0j{j:Nat}(h1:j≠t)(h2:a≠some j)(h3:b≠some j):GM H0 t a b mk x j=H0 j:=by
 rw[GM,B7 (fun i hi e=>h3 (by rw[e];exact hi)),B7 (fun i hi e=>h2 (by rw[e];exact hi)),h_ne h1]
theorem S0(h:GN H0 t a b x c){j:Nat}{B:Blk}(hj:H0 j=some B)(ht:j≠t):GM H0 t a b mk x j=some B:=by
 rw[D0j ht (fun e=>by have:=(h.ha j e).2.2;rw[hj]at this;cases this) (fun e=>by have:=(h.hb j e).2.2;rw[hj]at this;cases this),hj]
theorem A7l(h:GN H0 t a b x c){j:Nat}(hj:c<=j):GM H0 t a b mk x j=none:=by
 have:=h.tc;rw[D0j (by omega) (fun e=>by have:=(h.ha j e).2.1;omega) (fun e=>by have:=(h.hb j e).2.1;omega)];exact h.fr j hj
theorem A4w{X:Hp}(ht:X t=some (gmB t a b mk x))(ha:∀ i,a=some i->X i=some ⟨2,true,X8 x.1⟩)(hb:∀ i,b=some i->X i=some ⟨1,true,txC x.2⟩)(ho:∀ j B,j≠t->H0 j=some B->X j=some B):
  Sub (GM H0 t a b mk x) X:=by
 intro j B hj;rw[GM]at hj;by_cases h1:b=some j
 ·subst h1;simp only[optH]at hj;rw[h_same]at hj;rw[<- hj];exact hb j rfl
 rw[B7 (fun i hi e=>h1 (by rw[e];exact hi))]at hj;by_cases h2:a=some j
 ·subst h2;simp only[optH]at hj;rw[h_same]at hj;rw[<- hj];exact ha j rfl
 rw[B7 (fun i hi e=>h2 (by rw[e];exact hi))]at hj;by_cases h3:j=t
 ·subst h3;rw[h_same]at hj;rw[<- hj];exact ht
 rw[h_ne h3]at hj;exact ho j B h3 hj
theorem GN.le(h:GN H0 t a b x c)(hc:c<=c'):GN H0 t a b x c' :=
 ⟨by have:=h.tc;omega,fun i hi=>by have:=h.ha i hi;exact⟨this.1,by omega,this.2.2⟩,fun i hi=>by have:=h.hb i hi;exact⟨this.1,by omega,this.2.2⟩,h.ne,h.an,h.bn,fun j hj=>h.fr j (by omega)⟩
theorem GN.newA(h:GN H0 t a b x c)(h1:c<=i)(h2:i<c')(he:y.2=x.2):GN H0 t (some i) b y c':=by
 have:=h.tc;exact⟨by omega,fun j hj=>by cases hj;exact⟨by omega,h2,h.fr _ h1⟩,fun j hj=>by have:=h.hb j hj;exact⟨this.1,by omega,this.2.2⟩,fun j k hj hk=>by cases hj;have:=h.hb k hk;omega,fun e=>(by cases e),fun e=>(by rw[he];exact h.bn e),fun j hj=>h.fr j (by omega)⟩
theorem GN.newB(h:GN H0 t a b x c)(h1:c<=i)(h2:i<c')(he:y.1=x.1):GN H0 t a (some i) y c':=by
 have:=h.tc;exact⟨by omega,fun j hj=>by have:=h.ha j hj;exact⟨this.1,by omega,this.2.2⟩,fun j hj=>by cases hj;exact⟨by omega,h2,h.fr _ h1⟩,fun j k hj hk=>by cases hk;have:=h.ha j hj;omega,fun e=>(by rw[he];exact h.an e),fun e=>(by cases e),fun j hj=>h.fr j (by omega)⟩
theorem GN.keep(h:GN H0 t a b x c)(hc:c<=c')(h1:a=none->y.1=[])(h2:b=none->y.2=[]):GN H0 t a b y c' :=
 ⟨by have:=h.tc;omega,fun i hi=>by have:=h.ha i hi;exact⟨this.1,by omega,this.2.2⟩,fun i hi=>by have:=h.hb i hi;exact⟨this.1,by omega,this.2.2⟩,h.ne,h1,h2,fun j hj=>h.fr j (by omega)⟩
end
section
variable {H0:Hp} {t c c' j:Nat} {a b:Option Nat} {mk:DV->DV->List DV} {x y:Cg} {B:Blk}
theorem D0k(h1:j≠t)(h2:a≠some j)(h3:b≠some j):(GM H0 t a b mk x).upd j B=GM (H0.upd j B) t a b mk x:=by
 funext i
 by_cases e:i=j
 ·subst e;rw[h_same,D0j h1 h2 h3,h_same]
 ·rw[h_ne e];unfold GM;cases a with
  |none =>
   cases b with
   |none=>simp only[optH,Hp.upd,if_neg e]
   |some b=>simp only[optH,Hp.upd,if_neg e]
  |some a =>
   cases b with
   |none=>simp only[optH,Hp.upd,if_neg e]
   |some b=>simp only[optH,Hp.upd,if_neg e]
theorem GN.com(h:GN H0 t a b x c)(hj:c<=j):(GM H0 t a b mk x).upd j B=GM (H0.upd j B) t a b mk x :=
 D0k (by have:=h.tc;omega) (fun e=>by have:=(h.ha j e).2.1;omega) (fun e=>by have:=(h.hb j e).2.1;omega)
theorem GN.box(h:GN H0 t a b x c)(hj:c<=j)(hc:j<c'):GN (H0.upd j B) t a b x c':=by
 have:=h.tc;exact⟨by omega,fun i hi=>by have:=h.ha i hi;exact⟨this.1,by omega,by rw[hnO];exact this.2.2⟩,fun i hi=>by have:=h.hb i hi;exact⟨this.1,by omega,by rw[hnO];exact this.2.2⟩,h.ne,h.an,h.bn,fun i hi=>by rw[hnO];exact h.fr i (by omega)⟩
theorem J0(hj:H0 j=none)(ht:j≠t)(h:GN (H0.upd j B) t a b x c'):Sub (GM H0 t a b mk x) (GM (H0.upd j B) t a b mk x) :=
 A4w (W6 h) (fun i hi=>A4x h hi) (fun i hi=>A6h hi) (fun i Q hi hQ=>S0 h (by
  rw[h_ne (by rintro rfl;rw[hj]at hQ;cases hQ)];exact hQ) hi)
theorem GN.unbox(h:GN (H0.upd j B) t a b x c')(hj:H0 j=none)(hc:c<=c')(hf:∀ i,c<=i->H0 i=none):GN H0 t a b x c' :=
 ⟨h.tc,fun i hi=>by
  have:=h.ha i hi;exact⟨this.1,this.2.1,by by_cases e:i=j;(· subst e;exact hj);(· have h3:=this.2.2;rw[h_ne e]at h3;exact h3)⟩,fun i hi=>by
  have:=h.hb i hi;exact⟨this.1,this.2.1,by by_cases e:i=j;(· subst e;exact hj);(· have h3:=this.2.2;rw[h_ne e]at h3;exact h3)⟩,h.ne,h.an,h.bn,fun i hi=>hf i (by omega)⟩
end
theorem B2a(l:List Ins)(i:Ins):X8 (l++[i])=X8 l++[I64 i.op,I64 i.A]:=by rw[A2e,A9x]
theorem B6a(l m:List Ins)(op a z:Int):(X8 (l++⟨op,a⟩ :: m)).take (l.length * 2+1)++(I64 z).cells++(X8 (l++⟨op,a⟩ :: m)).drop (l.length * 2+1+1)=X8 (l++⟨op,z⟩ :: m):=by
 have e:∀ y:Int,l++(⟨op,y⟩:Ins) :: m=l++([⟨op,y⟩]++m):=fun _=>rfl;rw[e,e,A2e,A2e,A2e,A2e,A9x,A9x];have h:=A2d l;rw[List.take_append,List.drop_append,A0M (by omega),A1Q (by omega),h,show l.length * 2+1-l.length * 2=1 by omega,show l.length * 2+1+1-l.length * 2=2 by omega,A0P,A0P];rfl
theorem C9l{H0:Hp}{t c i:Nat}{a b:Option Nat}{mk:DV->DV->List DV}{x y:Cg}{B B2 B3:Blk}(h:GN H0 t a b x c)(hi:c<i)(h2:y.2=x.2)(e2:B2=⟨2,true,X8 y.1⟩)(e3:B3=gmB t (some i) b mk y):
  Sub (GM H0 t (some i) b mk y) (((delO ((GM H0 t a b mk x).upd c B) a).upd i B2).upd t B3):=by
 have:=h.tc;refine A4w ?_ (fun j hj=>?_) (fun j hj=>?_) (fun j Q hj hQ=>?_)
 ·rw[h_same,e3]
 ·cases hj;rw[hnO,h_same,e2]
 ·have q:=h.hb j hj;rw[h_ne q.1,hnO,B0 (fun k hk e=>h.ne k j hk hj e.symm),hnO,A6h hj,h2]
 ·have q:j<c:=A1T fun hc=>by rw[h.fr j hc]at hQ;cases hQ
  rw[h_ne hj,hnO,B0 (fun k hk e=>by have:=(h.ha k hk).2.2;rw[<- e,hQ]at this;cases this),hnO,S0 h hQ hj]
theorem C5f{H0:Hp}{t c i:Nat}{a b:Option Nat}{mk:DV->DV->List DV}{x y:Cg}{B B2 B3:Blk}(h:GN H0 t a b x c)(hi:c<i)(h2:y.1=x.1)(e2:B2=⟨1,true,txC y.2⟩)(e3:B3=gmB t a (some i) mk y):
  Sub (GM H0 t a (some i) mk y) (((delO ((GM H0 t a b mk x).upd c B) b).upd i B2).upd t B3):=by
 have:=h.tc;refine A4w ?_ (fun j hj=>?_) (fun j hj=>?_) (fun j Q hj hQ=>?_)
 ·rw[h_same,e3]
 ·have q:=h.ha j hj;rw[h_ne q.1,hnO,B0 (fun k hk e=>h.ne j k hj hk e),hnO,A4x h hj,h2]
 ·cases hj;rw[hnO,h_same,e2]
 ·have q:j<c:=A1T fun hc=>by rw[h.fr j hc]at hQ;cases hQ
  rw[h_ne hj,hnO,B0 (fun k hk e=>by have:=(h.hb k hk).2.2;rw[<- e,hQ]at this;cases this),hnO,S0 h hQ hj]
abbrev pcC(k:Ky)(b:DV):List DV:=[I64 k.mode,I64 k.trig,I64 k.ix,I64 0,b]
def ptC:List Nat->List C8->List DV
 |i :: is,p :: l=>pcC p.1 (.slc i 0 p.2.length)++ptC is l
 |_,_=>[]
abbrev bdB(b:List (List St)):Blk:=⟨1,true,b.map D3⟩
def A0e(H0:Hp):List Nat->List C8->Hp
 |i :: is,p :: l=>(A0e H0 is l).upd i (bdB p.2)
 |_,_=>H0
def PM(H0:Hp)(o:Option Nat)(is:List Nat)(l:List C8):Hp:=optH (A0e H0 is l) o ⟨5,true,ptC is l⟩
structure PN (H0:Hp) (o:Option Nat) (is:List Nat) (l:List C8) (c:Nat):Prop where
 len:is.length=l.length
 nd:is.Nodup
 fi:∀ i∈is,i<c/\H0 i=none/\o≠some i
 fo:∀ i,o=some i->i<c/\H0 i=none
 no:o=none->l=[]
 fr:∀ j,c<=j->H0 j=none
theorem B3x{H0:Hp}{j:Nat}:∀ {is:List Nat} {l:List C8},j ∉ is->A0e H0 is l j=H0 j
 |[],_,_=>rfl
 |_ :: _,[],_=>rfl
 |i :: is,p :: l,h=>by
  rw[A0e,h_ne (fun e=>h (by grind))];exact B3x fun hm=>h (A0G _ hm)
theorem C2d{H0:Hp}:∀ {is:List Nat} {l:List C8} {n i:Nat} {p:C8},is.Nodup->is[n]? = some i->l[n]? = some p->A0e H0 is l i=some (bdB p.2)
 |i :: is,p :: l,0,_,_,_,h1,h2=>by cases h1;cases h2;rw[A0e];exact h_same
 |i :: is,p :: l,n+1,j,q,hn,h1,h2=>by
  obtain⟨a,b⟩:=A2Y.1 hn;have hm:j∈is:=A0U h1;rw[A0e,h_ne (fun e=>a (by grind))];exact C2d b h1 h2
theorem B2d{H0:Hp}{j:Nat}{B:Blk}:∀ {is:List Nat} {l:List C8},A0e H0 is l j=some B->H0 j=some B\/∃ (n:Nat) (p:C8),is[n]? = some j/\l[n]? = some p/\B=bdB p.2
 |[],_,h=>.inl h
 |_ :: _,[],h=>.inl h
 |i :: is,p :: l,h=>by
  rw[A0e]at h;by_cases e:j=i
  ·subst e;rw[h_same]at h;cases h;exact .inr ⟨0,p,rfl,rfl,rfl⟩
  ·rw[h_ne e]at h;rcases B2d h with h|⟨n,q,a,b,c⟩
   ·grind
   ·exact .inr ⟨n+1,q,a,b,c⟩
section
variable {H0 X:Hp} {o:Option Nat} {is:List Nat} {l:List C8} {c c':Nat}
theorem D3m(h:PN H0 o is l c){n i:Nat}{p:C8}(h1:is[n]? = some i)(h2:l[n]? = some p):PM H0 o is l i=some (bdB p.2):=by
 rw[PM,B7 (fun j hj e=>(h.fi i (A0U h1)).2.2 (by grind))];exact C2d h.nd h1 h2
theorem D3l{i:Nat}(hi:o=some i):PM H0 o is l i=some ⟨5,true,ptC is l⟩:=by subst hi;exact h_same
theorem E3t{j:Nat}(h1:o≠some j)(h2:j ∉ is):PM H0 o is l j=H0 j:=by
 rw[PM,B7 (fun i hi e=>h1 (by grind)),B3x h2]
theorem B4m(h:PN H0 o is l c){j:Nat}{B:Blk}(hj:H0 j=some B):PM H0 o is l j=some B:=by
 rw[E3t (fun e=>by have:=(h.fo j e).2;grind) (fun hm=>by have:=(h.fi j hm).2.1;grind),hj]
theorem D9k(h:PN H0 o is l c){j:Nat}(hj:c<=j):PM H0 o is l j=none:=by
 rw[E3t (fun e=>by have:=(h.fo j e).1;omega) (fun hm=>by have:=(h.fi j hm).1;omega)];exact h.fr j hj
theorem B9u(h1:∀ (n i:Nat) (p:C8),is[n]? = some i->l[n]? = some p->X i=some (bdB p.2))(h2:∀ i,o=some i->X i=some ⟨5,true,ptC is l⟩)(h3:∀ j B,H0 j=some B->X j=some B):Sub (PM H0 o is l) X:=by
 intro j B hj;rw[PM]at hj;by_cases e:o=some j
 ·subst e;simp only[optH]at hj;rw[h_same]at hj;rw[<- hj];exact h2 j rfl
 rw[B7 (fun i hi e'=>e (by rw[e'];exact hi))]at hj;rcases B2d hj with h|⟨n,p,a,b,rfl⟩
 ·exact h3 j B h
 grind
end
theorem Z5:∀ {is:List Nat} {l:List C8},is.length=l.length->(ptC is l).length=l.length * 5
 |[],[],_=>rfl
 |i :: is,p :: l,h=>by
  rw[ptC,A0A,Z5 (Nat.succ.inj h)]
  grind
theorem C0s:∀ {is:List Nat} {l:List C8} {is':List Nat} {l':List C8},is.length=l.length->ptC (is++is') (l++l')=ptC is l++ptC is' l'
 |[],[],_,_,_=>rfl
 |i :: is,p :: l,_,_,h=>by
  rw[List.cons_append,List.cons_append,ptC,ptC,C0s (Nat.succ.inj h),A0P]
theorem B8c:∀ {is:List Nat} {l:List C8} {k i:Nat} {p:C8},is.length=l.length->is[k]? = some i->l[k]? = some p->((ptC is l).drop (k * 5)).take 5=pcC p.1 (.slc i 0 p.2.length)
 |i :: is,p :: l,0,_,_,_,h1,h2=>by cases h1;cases h2;rfl
 |i :: is,p :: l,k+1,j,q,hl,h1,h2=>by
  have e:(k+1) * 5=5+k * 5:=by omega
  rw[ptC,e, <- A4F];exact B8c (Nat.succ.inj hl) h1 h2
theorem C0r:∀ {is:List Nat} {l:List C8} {k i:Nat} {p q:C8},is.length=l.length->is[k]? = some i->l[k]? = some p->q.1=p.1->∀ j,(ptC is l).take (k * 5+4)++[.slc j 0 q.2.length]++(ptC is l).drop (k * 5+4+1)=ptC (is.set k j) (l.set k q)
 |i :: is,p :: l,0,_,_,q,_,h1,h2,h3,j=>by cases h1;cases h2;rw[A4M,A4M,ptC,ptC,h3];rfl
 |i :: is,p :: l,k+1,i',p',q,hl,h1,h2,h3,j=>by
  have ih:=C0r (Nat.succ.inj hl) h1 h2 h3 j;rw[A4N,A4N,ptC,ptC, <- ih,show (k+1) * 5+4=5+(k * 5+4) by omega,show 5+(k * 5+4)+1=5+(k * 5+4+1) by omega]
  grind
theorem D1g{is:List Nat}{l:List C8}(h:is.length=l.length)(k:Ky)(b:List St)(j:Nat):
  (ptC is l++pcC k .snil).take (l.length * 5+4)++[.slc j 0 1]++(ptC is l++pcC k .snil).drop (l.length * 5+4+1)=ptC (is++[j]) (l++[(k,[b])]):=by
 have hl:=Z5 h;rw[C0s h,List.take_append,List.drop_append,A0M (by omega),A1Q (by omega),hl,show l.length * 5+4-l.length * 5=4 by omega,show l.length * 5+4+1-l.length * 5=5 by omega,A0P,A0P];rfl
theorem C7i{D:Nat}:∀ {is:List Nat} {n:Nat},is.Nodup->D ∉ is->(is.set n D).Nodup
 |[],_,_,_=>by simp
 |i :: is,0,h,hd=>by
  grind
 |i :: is,n+1,h,hd=>by
  rw[A4N];obtain⟨h1,h2⟩:=A2Y.1 h;refine A2Y.2 ⟨fun hm=>?_,C7i h2 fun hm=>hd (A0G _ hm)⟩
  grind
theorem C7j:∀ {is:List Nat} {k n q:Nat},is.Nodup->is[k]? = some q->is[n]? = some q->k=n
 |i :: is,0,0,_,_,_,_=>rfl
 |i :: is,0,n+1,q,h,h1,h2=>by
  grind
 |i :: is,k+1,0,q,h,h1,h2=>by
  grind
 |i :: is,k+1,n+1,q,h,h1,h2=>by rw[C7j (A2Y.1 h).2 h1 h2]
theorem C6n{is:List Nat}{l:List C8}{k i:Nat}{p:C8}(hl:is.length=l.length)(h1:is[k]? = some i)(h2:l[k]? = some p):(ptC is l)[k * 5+4]? = some (.slc i 0 p.2.length):=by
 have h:=congrArg (fun z:List DV=>z[4]?) (B8c hl h1 h2)
 grind
def ixP(k:Ky):List C8->Nat->Int
 |[],_ => -1
 |p :: l,n=>if p.1=k then (n:Int) else ixP k l (n+1)
theorem B5y{k:Ky}:∀ {l:List C8} {n:Nat} {x:Int},ixP k l n=x->¬ x = -1->∃ (m:Nat) (a b:List C8) (q:List (List St)),l=a++(k,q) :: b/\m=a.length/\x=((n+m:Nat):Int)/\∀ s,L0 k s l=a++(k,q++[s]) :: b
 |[],n,x,h,hn=>absurd h.symm hn
 |p :: l,n,x,h,hn=>by
  rw[ixP]at h;by_cases e:p.1=k
  ·rw[if_pos e]at h;refine⟨0,[],l,p.2,by grind,rfl,h.symm,fun s=>?_⟩;rw[L0,if_pos e,e];rfl
  ·rw[if_neg e]at h;obtain⟨m,a,b,q,h1,h2,h3,h4⟩:=B5y h hn;refine⟨m+1,p :: a,b,q,by grind,by grind,by omega,fun s=>?_⟩;rw[L0,if_neg e,h4];rfl
theorem B5z{k:Ky}:∀ {l:List C8} {n:Nat},ixP k l n = -1->∀ s,L0 k s l=l++[(k,[s])]
 |[],n,h,s=>rfl
 |p :: l,n,h,s=>by
  rw[ixP]at h;by_cases e:p.1=k
  ·grind
  ·rw[if_neg e]at h;rw[L0,if_neg e,B5z h s];rfl
theorem C7t{k:Ky}{l:List C8}{p:C8}{n:Nat}(h:l[n]? = some p):ixP k (l.drop n) n=if p.1=k then (n:Int) else ixP k (l.drop (n+1)) (n+1):=by
 rw[List.drop_eq_getElem?_toList_append,h];rfl
section
variable {H0:Hp} {o:Option Nat} {is:List Nat} {l:List C8} {c c' j:Nat} {B:Blk}
theorem D9l(h1:o≠some j)(h2:j ∉ is):(PM H0 o is l).upd j B=PM (H0.upd j B) o is l:=by
 have key:∀ (is:List Nat) (l:List C8),j ∉ is->(A0e H0 is l).upd j B=A0e (H0.upd j B) is l:=by
  intro is
  induction is with
  |nil=>intro l _;rfl
  |cons i is ih =>
   intro l h;cases l with
   |nil=>rfl
   |cons p l =>
    rw[A0e,A0e, <- ih l (fun hm=>h (A0G _ hm))];have hji:j≠i:=fun e=>h (by grind)
    funext k
    by_cases e:k=j
    ·subst e;rw[h_same,h_ne hji,h_same]
    ·rw[h_ne e];by_cases e2:k=i
     ·subst e2;rw[h_same,h_same]
     ·rw[h_ne e2,h_ne e2,h_ne e]
 unfold PM;rw[<- key is l h2];cases o with
 |none=>rfl
 |some i =>
  have hji:j≠i:=fun e=>h1 (by rw[e])
  funext k
  simp only[optH];by_cases e:k=j
  ·subst e;rw[h_same,h_ne hji,h_same]
  ·rw[h_ne e];by_cases e2:k=i
   ·subst e2;rw[h_same,h_same]
   ·rw[h_ne e2,h_ne e2,h_ne e]
theorem PN.com(h:PN H0 o is l c)(hj:c<=j):(PM H0 o is l).upd j B=PM (H0.upd j B) o is l :=
 D9l (fun e=>by have:=(h.fo j e).1;omega) (fun hm=>by have:=(h.fi j hm).1;omega)
theorem PN.box(h:PN H0 o is l c)(hj:c<=j)(hc:j<c'):PN (H0.upd j B) o is l c' :=
 ⟨h.len,h.nd,fun i hi=>by have:=h.fi i hi;exact⟨by omega,by rw[hnO];grind,this.2.2⟩,fun i hi=>by have:=h.fo i hi;exact⟨by omega,by rw[hnO];grind⟩,h.no,fun i hi=>by rw[hnO];exact h.fr i (by omega)⟩
theorem PN.le(h:PN H0 o is l c)(hc:c<=c'):PN H0 o is l c' :=
 ⟨h.len,h.nd,fun i hi=>by have:=h.fi i hi;grind,fun i hi=>by have:=h.fo i hi;grind,h.no,fun i hi=>h.fr i (by omega)⟩
theorem B4n(hj:H0 j=none)(h:PN (H0.upd j B) o is l c'):Sub (PM H0 o is l) (PM (H0.upd j B) o is l) :=
 B9u (fun n i p h1 h2=>D3m h h1 h2) (fun i hi=>D3l hi) (fun i Q hQ=>B4m h (by rw[h_ne (by rintro rfl;rw[hj]at hQ;cases hQ)];omega))
theorem PN.unbox(h:PN (H0.upd j B) o is l c')(hj:H0 j=none)(hc:c<=c')(hf:∀ i,c<=i->H0 i=none):PN H0 o is l c' :=
 ⟨h.len,h.nd,fun i hi=>by
  have:=h.fi i hi;exact⟨this.1,by by_cases e:i=j;(· grind);(· have h3:=this.2.1;rw[h_ne e]at h3;omega),this.2.2⟩,fun i hi=>by
  have:=h.fo i hi;exact⟨this.1,by by_cases e:i=j;(· grind);(· have h3:=this.2;rw[h_ne e]at h3;omega)⟩,h.no,fun i hi=>hf i (by omega)⟩
end
def PB(n:Nat)(l:List C8):Prop:=l.length<=n/\∀ p∈l,p.2.length<=n
theorem PB.add{n:Nat}{k:Ky}{b:List St}:∀ {l:List C8},PB n l->PB (n+1) (L0 k b l)
 |[],_=>⟨by simp[L0],fun p hp=>by simp[L0]at hp;grind⟩
 |p :: l,⟨h1,h2⟩=>by
  rw[L0];split
  ·refine⟨by simp only[A0K]at h1 ⊢;omega,fun q hq=>?_⟩
   grind
  ·have key:∀ (n:Nat) (l:List C8),(∀ p∈l,p.2.length<=n)->(L0 k b l).length<=l.length+1/\∀ p∈L0 k b l,p.2.length<=n+1:=by
    intro n l
    induction l with
    |nil=>intro _;exact⟨by simp[L0],fun p hp=>by simp[L0]at hp;subst hp;simp⟩
    |cons p l ih =>
     intro h;obtain⟨i1,i2⟩:=ih fun q hq=>h q (A0G _ hq);rw[L0];split
     ·refine⟨by simp only[A0K];omega,fun q hq=>?_⟩;rcases A0Y.1 hq with rfl|hq
      ·have:=h p A0H;simp only[A0A,A0N];omega
      ·have:=h q (A0G _ hq);omega
     ·refine⟨by simp only[A0K];omega,fun q hq=>?_⟩;rcases A0Y.1 hq with rfl|hq
      ·have:=h q A0H;omega
      ·exact i2 q hq
   obtain⟨k1,k2⟩:=key n l fun q hq=>h2 q (A0G _ hq);refine⟨by simp only[A0K]at h1 ⊢;omega,fun q hq=>?_⟩
   grind
theorem PB.le{n m:Nat}{l:List C8}(h:PB n l)(hm:n<=m):PB m l:=⟨by have:=h.1;omega,fun p hp=>by have:=h.2 p hp;omega⟩
theorem B6d(nm:List UInt8->Int):∀ {M:List Md} {i k:Nat} {m:Md},M[i]? = some m->hkM nm k (M.take (i+1))=hkM nm k (M.take i)++m.hds.map (hdK nm (k+i))
 |[],_,_,_,h=>by grind
 |x :: M,0,k,m,h=>by
  cases h;simp[hkM]
 |x :: M,i+1,k,m,h=>by
  rw[A1D,A1D,hkM,hkM,B6d nm (i:=i) (k:=k+1) h,A0P,show k+1+i=k+(i+1) by omega]
theorem C4w(l:List C8)(q:List KB)(x:KB):H5 l (q++[x])=L0 x.1 x.2 (H5 l q):=by
 unfold H5;simp
theorem B7h(l:List C8)(a b:List KB):H5 l (a++b)=H5 (H5 l a) b:=by unfold H5;simp
def A3q(x:List UInt8):Nat->List (List UInt8)->Int
 |_,[] => -1
 |k,w :: l=>if (x == w)=true then (k:Int) else A3q x (k+1) l
section
variable {L:List Tok} {E:Int}
end
variable {nm:List UInt8->Int}
def A0t(nm:List UInt8->Int)(s:St)(x:Cg):Cg:=(x.1++(cgS nm x.1.length x.2 s).1,(cgS nm x.1.length x.2 s).2)
def F5(nm:List UInt8->Int)(l:List St)(x:Cg):Cg:=(x.1++(cgB nm x.1.length x.2 l).1,(cgB nm x.1.length x.2 l).2)
theorem M2(x:Cg):F5 nm [] x=x:=by simp[F5,cgB]
theorem A7g(s:St)(l:List St)(x:Cg):F5 nm (s :: l) x=F5 nm l (A0t nm s x):=by
 unfold F5 A0t;rw[cgB];simp
theorem R6:∀ (a b:List St) (x:Cg),F5 nm (a++b) x=F5 nm b (F5 nm a x)
 |[],b,x=>by rw[M2];rfl
 |s :: a,b,x=>by rw[List.cons_append,A7g,A7g,R6 a b]
theorem B2p{l:List St}{k:Nat}{s:St}(h:l[k]? = some s)(x:Cg):F5 nm (l.take (k+1)) x=A0t nm s (F5 nm (l.take k) x):=by
 rw[A0S,h,R6];show F5 nm [s] _=_;rw[A7g,M2]
def B7j(x y:Cg):Prop:=x.1.length<=y.1.length/\x.2.length<=y.2.length
theorem B4i(l:List St)(x:Cg):B7j x (F5 nm l x):=⟨by simp[F5],Y0 nm l _ _⟩
theorem D2z(s:St)(x:Cg):B7j x (A0t nm s x):=⟨by simp[A0t],C9u nm s _ _⟩
theorem B2o(l:List St)(k:Nat)(x:Cg):B7j (F5 nm (l.take k) x) (F5 nm l x):=by
 have h:=R6 (nm:=nm) (l.take k) (l.drop k) x;rw[A1W]at h;rw[h];exact B4i _ _
def CgB(x:Cg):Prop:=x.1.length<=99999999/\x.2.length<=99999999
theorem B7j.bnd{x y:Cg}(h:B7j x y)(hy:CgB y):CgB x:=⟨A1E h.1 hy.1,A1E h.2 hy.2⟩
section
variable {k:Int} {n t:List UInt8} {a:List Ex} {u v:List St} {q:Int} {x x1:Cg}
theorem B0o(h1:x1=(x.1++C5 nm a,x.2))(hv:v.length=0):A0t nm (.mk 2 n t a u v q) x =
  (x1.1++⟨13,((x1.1++(⟨13,0⟩:Ins) :: (cgB nm (x1.1.length+1) x1.2 u).1).length:Int)⟩ :: (cgB nm (x1.1.length+1) x1.2 u).1,(cgB nm (x1.1.length+1) x1.2 u).2):=by
 subst h1;unfold A0t;rw[cgS,if_pos rfl,if_pos hv]
 grind
theorem B0n(h1:x1=(x.1++C5 nm a,x.2))(hv:¬ v.length=0){T:Cg}(hT:T=cgB nm (x1.1.length+1) x1.2 u){W:Cg}(hW:W=cgB nm (x1.1.length+1+T.1.length+1) T.2 v):A0t nm (.mk 2 n t a u v q) x =
  ((x1.1++⟨13,((x1.1.length+1+T.1.length+1:Nat):Int)⟩ :: T.1)++⟨12,((x1.1.length+1+T.1.length+1+W.1.length:Nat):Int)⟩ :: W.1,W.2):=by
 subst hW hT h1;unfold A0t;rw[cgS,if_pos rfl,if_neg hv];simp
theorem B0l(h1:x1=(x.1++C5 nm a,x.2)){T:Cg}(hT:T=cgB nm (x1.1.length+1) x1.2 u):A0t nm (.mk 3 n t a u v q) x =
  (x1.1++⟨14,((x1.1.length+1+T.1.length+1:Nat):Int)⟩ :: (T.1++[⟨12,(x1.1.length:Int)⟩]),T.2):=by
 subst hT h1;unfold A0t;rw[cgS,if_neg (by decide),if_pos rfl];simp
theorem B0k(h1:x1=(x.1++C5 nm a,x.2)):A0t nm (.mk 18 n t a u v q) x=(x1.1++[⟨29,((txS x1.2 t).1:Int)⟩],(txS x1.2 t).2):=by
 subst h1;unfold A0t;rw[cgS,if_neg (by decide),if_neg (by decide),if_pos rfl];simp
theorem B0m(h1:x1=(x.1++C5 nm a,x.2))(h2:¬ k=2)(h3:¬ k=3)(h18:¬ k=18):A0t nm (.mk k n t a u v q) x=(x1.1++[⟨Pb.stOp k,nm n⟩],x1.2):=by
 subst h1;unfold A0t;rw[cgS,if_neg h2,if_neg h3,if_neg h18];simp
theorem B2n(s:St)(x:Cg):B7j (x.1++C5 nm s.args,x.2) (A0t nm s x):=by
 obtain⟨k,n,t,a,u,v,q⟩:=s;refine⟨?_,show x.2.length<=_ from (D2z _ _).2⟩;simp only[St.args];by_cases h2:k=2
 ·subst h2;by_cases hv:v.length=0
  ·rw[B0o rfl hv];simp
  ·rw[B0n rfl hv rfl rfl];simp
 ·by_cases h3:k=3
  ·subst h3;rw[B0l rfl rfl];simp
  ·by_cases h18:k=18
   ·subst h18;rw[B0k rfl];simp
   ·rw[B0m rfl h2 h3 h18];simp
end
section
variable {H0:Hp} {t c i d:Nat} {b:Option Nat} {mk:DV->DV->List DV} {l r:List Ins} {S:List (List UInt8)} {op k z:Int}
theorem D9n(h:GN H0 t (some i) b (l++⟨op,k⟩ :: r,S) c)(z:Int):(GM H0 t (some i) b mk (l++⟨op,k⟩ :: r,S)).upd i ⟨2,true,X8 (l++⟨op,z⟩ :: r)⟩=GM H0 t (some i) b mk (l++⟨op,z⟩ :: r,S):=by
 have h2:=h.ha i rfl;have h':GN H0 t (some i) b (l++⟨op,z⟩ :: r,S) c:=h.keep (A0E _) (fun e=>by grind) (fun e=>h.bn e)
 funext j
 by_cases e:j=i
 ·subst e;rw[h_same,A4x h' rfl]
 ·rw[h_ne e];by_cases et:j=t
  ·subst et;rw[W6 h,W6 h'];simp
  ·by_cases eb:b=some j
   ·rw[A6h eb,A6h eb]
   ·rw[D0j et (fun q=>e (by grind)) eb,D0j et (fun q=>e (by grind)) eb]
theorem C2r(h:GN H0 t (some i) b (l++⟨op,k⟩ :: r,S) c)(z:Int):stB (GM H0 t (some i) b mk (l++⟨op,k⟩ :: r,S)) d i 1 (l.length * 2+1) (I64 z) (some ⟨2,true,X8 (l++⟨op,k⟩ :: r)⟩)=some (.tup [],GM H0 t (some i) b mk (l++⟨op,z⟩ :: r,S),d):=by
 have hcl:=A2d (l++⟨op,k⟩ :: r);have hle:l.length<(l++(⟨op,k⟩:Ins) :: r).length:=by simp
 exact (A6e (i:=1) rfl (by omega) rfl).trans (by rw[B6a,D9n h])
theorem GN.mend(h:GN H0 t (some i) b (l++⟨op,k⟩ :: r,S) c)(z:Int):GN H0 t (some i) b (l++⟨op,z⟩ :: r,S) c:=h.keep (A0E _) (fun e=>by grind) (fun e=>h.bn e)
theorem GN.some{a:Option Nat}{i0:Ins}(h:GN H0 t a b (l++i0 :: r,S) c):∃ i,a=some i:=by
 cases a with
 |none=>have:=h.an rfl;simp_all
 |some i=>simp
end
end Go.Pb
namespace Go.Pb
variable [Go.Sym.Tab]
open Go.Sym
abbrev NmL:=List (List UInt8 × (Int × Int))
def inL(l:NmL):List (List UInt8 × DV):=l.map fun p=>(p.1,I64 p.2.2)
theorem A0o(n:List UInt8):∀ l:NmL,(inL l).lookup n=(l.lookup n).map fun q=>I64 q.2
 |[]=>rfl
 |p :: l=>by
  simp only[inL,A0Q,List.lookup];cases n == p.1 with
  |true=>rfl
  |false=>exact A0o n l
abbrev A9k(l:NmL):Blk:=⟨0,true,[.mpc .s (mkK (inL l)) (mvV (inL l))]⟩
abbrev bgC(o2:Option Nat)(ps:List Int)(o:Option Nat)(vs:List Int)(t n:Int)(m:DV):List DV:=[.snil,.snil,.snil,todoV o2 ps.length,todoV o vs.length,I64 t,I64 n,m]
def bgM(D:List Dc)(M:List Md)(l:NmL)(a:List (Int × Nat))(o2:Option Nat)(ps:List Int)(o:Option Nat)(vs:List Int):Hp :=
 optH (optH ((((nil.upd 0 ⟨0,true,[C3 D,C7 M]⟩).upd 1 (A9k l)).upd 2 ⟨0,true,bgC o2 ps o vs 0 0 (.mid 1)⟩).upd 3 ⟨0,true,[.mpc (.i .i64) (ahK a) (ahV a)]⟩) o2 ⟨1,true,ps.map I64⟩) o ⟨1,true,vs.map I64⟩
structure BN (o2:Option Nat) (ps:List Int) (o:Option Nat) (vs:List Int) (c:Nat):Prop where
 c4:4<=c
 h2:∀ i,o2=some i->4<=i/\i<c
 ho:∀ i,o=some i->4<=i/\i<c
 ne:∀ i j,o2=some i->o=some j->i≠j
 n2:o2=none->ps=[]
 no:o=none->vs=[]
section
variable {D:List Dc} {M:List Md} {l:NmL} {a:List (Int × Nat)} {o2 o:Option Nat} {ps vs:List Int} {c:Nat} {X:Hp}
theorem C2l(h:BN o2 ps o vs c){j:Nat}(hj:j<4):bgM D M l a o2 ps o vs j=((((nil.upd 0 ⟨0,true,[C3 D,C7 M]⟩).upd 1 (A9k l)).upd 2 ⟨0,true,bgC o2 ps o vs 0 0 (.mid 1)⟩).upd 3 ⟨0,true,[.mpc (.i .i64) (ahK a) (ahV a)]⟩) j:=by
 rw[bgM,B7 (fun i hi=>by have:=h.ho i hi;omega),B7 (fun i hi=>by have:=h.h2 i hi;omega)]
theorem bg0(h:BN o2 ps o vs c):bgM D M l a o2 ps o vs 0=some ⟨0,true,[C3 D,C7 M]⟩:=by rw[C2l h (by decide)];rfl
theorem bg1(h:BN o2 ps o vs c):bgM D M l a o2 ps o vs 1=some (A9k l):=by rw[C2l h (by decide)];rfl
theorem bg2(h:BN o2 ps o vs c):bgM D M l a o2 ps o vs 2=some ⟨0,true,bgC o2 ps o vs 0 0 (.mid 1)⟩:=by rw[C2l h (by decide)];rfl
theorem bg3(h:BN o2 ps o vs c):bgM D M l a o2 ps o vs 3=some ⟨0,true,[.mpc (.i .i64) (ahK a) (ahV a)]⟩:=by rw[C2l h (by decide)];rfl
theorem bgP(h:BN o2 ps o vs c){i:Nat}(hi:o2=some i):bgM D M l a o2 ps o vs i=some ⟨1,true,ps.map I64⟩:=by
 rw[bgM,B7 (fun j hj=>h.ne i j hi hj)];subst hi;exact h_same
theorem bgV{i:Nat}(hi:o=some i):bgM D M l a o2 ps o vs i=some ⟨1,true,vs.map I64⟩:=by
 rw[bgM];subst hi;exact h_same
theorem bgN(h:BN o2 ps o vs c){j:Nat}(hj:c<=j):bgM D M l a o2 ps o vs j=none:=by
 have:=h.c4;rw[bgM,B7 (fun i hi=>by have:=h.ho i hi;omega),B7 (fun i hi=>by have:=h.h2 i hi;omega),hnO,hnO,hnO,hnO];rfl
theorem B0t(h0:X 0=some ⟨0,true,[C3 D,C7 M]⟩)(h1:X 1=some (A9k l))(h2:X 2=some ⟨0,true,bgC o2 ps o vs 0 0 (.mid 1)⟩)(h3:X 3=some ⟨0,true,[.mpc (.i .i64) (ahK a) (ahV a)]⟩)
  (hp:∀ i,o2=some i->X i=some ⟨1,true,ps.map I64⟩) (hv:∀ i,o=some i->X i=some ⟨1,true,vs.map I64⟩):Sub (bgM D M l a o2 ps o vs) X:=by
 intro j B hj;rw[bgM]at hj;by_cases e1:o=some j
 ·subst e1;simp only[optH]at hj;rw[h_same]at hj;rw[<- hj];exact hv j rfl
 rw[B7 (fun i hi e=>e1 (by rw[e];exact hi))]at hj;by_cases e2:o2=some j
 ·subst e2;simp only[optH]at hj;rw[h_same]at hj;rw[<- hj];exact hp j rfl
 rw[B7 (fun i hi e=>e2 (by rw[e];exact hi))]at hj;by_cases e3:j=3
 ·subst e3;rw[h_same]at hj;rw[<- hj];exact h3
 rw[h_ne e3]at hj;by_cases e4:j=2
 ·subst e4;rw[h_same]at hj;rw[<- hj];exact h2
 rw[h_ne e4]at hj;by_cases e5:j=1
 ·subst e5;rw[h_same]at hj;rw[<- hj];exact h1
 rw[h_ne e5]at hj;by_cases e6:j=0
 ·subst e6;rw[h_same]at hj;rw[<- hj];exact h0
 rw[h_ne e6]at hj;cases hj
theorem BN.le{c':Nat}(h:BN o2 ps o vs c)(hc:c<=c'):BN o2 ps o vs c' :=
 ⟨by have:=h.c4;omega,fun i hi=>by have:=h.h2 i hi;omega,fun i hi=>by have:=h.ho i hi;omega,h.ne,h.n2,h.no⟩
theorem BN.newV{c' i:Nat}{vs':List Int}(h:BN o2 ps o vs c)(h1:c<=i)(h2:i<c'):BN o2 ps (some i) vs' c':=by
 have:=h.c4;exact⟨by omega,fun j hj=>by have:=h.h2 j hj;omega,fun j hj=>by cases hj;omega,fun j k hj hk=>by cases hk;have:=h.h2 j hj;omega,h.n2,fun e=>(by cases e)⟩
theorem BN.newP{c' i:Nat}{ps':List Int}(h:BN o2 ps o vs c)(h1:c<=i)(h2:i<c'):BN (some i) ps' o vs c':=by
 have:=h.c4;exact⟨by omega,fun j hj=>by cases hj;omega,fun j hj=>by have:=h.ho j hj;omega,fun j k hj hk=>by cases hj;have:=h.ho k hk;omega,fun e=>(by cases e),h.no⟩
end
theorem B5n{l:NmL}{n:List UInt8}{y q:Int × Int}(hl:l.lookup n=some y):V9 l n q=l/\lkV (I64 0) true (mvV (inL l)) (E4 (.str n) (mkK (inL l)) 0)=some (.tup [I64 y.2,.bool true]) :=
 ⟨by rw[V9,if_pos (by rw[hl];rfl)],A5o (ok:=true) (by rw[A0o,hl];rfl)⟩
theorem B5o{l:NmL}{n:List UInt8}{q:Int × Int}(hl:l.lookup n=none):A9k (V9 l n q)=⟨0,true,[.mpc .s (mkK (inL l)++[.str n]) (mvV (inL l)++[I64 q.2])]⟩ /\
  lkV (I64 0) true (mvV (inL l)) (E4 (.str n) (mkK (inL l)) 0)=some (.tup [I64 0,.bool false])/\E4 (.str n) (mkK (inL l)) 0=none:=by
 have h:(inL l).lookup n=none:=by rw[A0o,hl];rfl
 refine⟨?_,A5p (ok:=true) h,C1l h⟩;rw[V9,if_neg (by rw[hl];simp)];simp[A9k,inL,mkK,mvV]
theorem D7c{r:Ru}(hk:W5 r.decls)(n:List UInt8):lkV (I64 0) false (mvV (inL (nmL r))) (E4 (.str n) (mkK (inL (nmL r))) 0)=some (I64 (E7 r n).2):=by
 cases hl:(nmL r).lookup n with
 |some q =>
  obtain⟨h1,h2⟩:=C1a hk hl;rw[h1];exact A5o (ok:=false) (by rw[A0o,hl];rfl)
 |none =>
  rw[C1b hk hl];exact A5p (ok:=false) (by rw[A0o,hl];rfl)
end Go.Pb
namespace Go.Sym
variable [Go.Sym.Tab]
open Go.Eng (KKey)
theorem C5o{α : Type}{pre suf:List α}{x y v : α}{i:Nat}(h:(pre++[y]++suf)[i]? = some v):(i=pre.length/\v=y/\(pre++[x]++suf)[i]? = some x)\/(pre++[x]++suf)[i]? = some v:=by
 rw[A0P]at h ⊢;by_cases h1:i<pre.length
 ·right;rw[A2E h1]at h ⊢;exact h
 ·rw[A1S (by omega)]at h ⊢;by_cases h2:i=pre.length
  ·left;rw[h2,A4L]at h ⊢;cases h;exact⟨rfl,rfl,rfl⟩
  ·right;obtain⟨n,hn⟩:∃ n,i-pre.length=n+1:=⟨i-pre.length-1,by omega⟩;rw[hn]at h ⊢;exact h
theorem GL.frzmC{H H':Hp}{ds:List DV}{id k u u':Nat}{kd:KKey}{ks vs pre suf:List DV}(hb:H id=some ⟨u,true,[.mpc kd ks vs]⟩)(hk:H k=some ⟨u',true,pre++[.mid id]++suf⟩)(hne:k≠id)
  (hk':H' k=some ⟨u',true,pre++[.mp kd ks vs]++suf⟩) (hH:∀ j,j≠k->H' j=none\/(j≠id/\H' j=H j)):GL H ds H' ds:=by
 have back:∀ j bj,H' j=some bj->j≠id/\∃ b0,H j=some b0/\b0.own=bj.own:=by
  intro j bj hj;by_cases e:j=k
  ·subst e;rw[hk']at hj;cases hj;exact⟨hne,_,hk,rfl⟩
  ·rcases hH j e with h0|⟨hne,h0⟩
   ·rw[h0]at hj;cases hj
   ·exact⟨hne,bj,by rw[<- h0];exact hj,rfl⟩
 refine⟨fun j hj=>?_,fun ρ w a2 hR hA=>?_⟩
 ·cases h:H' j with
  |none=>exact absurd h hj
  |some b =>
   obtain⟨-,b0,h1, -⟩:=back j b h;rw[h1];simp
 obtain⟨t,ht,hB⟩:=hR.blk id _ hb;rcases hB with ⟨hm,c,e,fr, -, -, -, -,g5, -⟩|⟨hm, -,hs,es,cl,kd',ks',vs',g1,g2,g3,g6⟩
 ·have:=(g5 0 _ rfl).1;simp[DV.one]at this
 cases g2;have hnone : ρ.fm t.block=none:=by
  cases hf : ρ.fm t.block with
  |none=>rfl
  |some es'=>exact absurd rfl ((hR.frm _ _ hf).2 id _ t hb rfl ht)
 obtain⟨ρ2,hρ⟩:∃ ρ2:Ren, ρ2=⟨ρ.nm, ρ.fz, ρ.tab,fun k=>if k=t.block then some es else ρ.fm k⟩:=⟨_,rfl⟩;have n1 : ρ2.nm = ρ.nm:=by rw[hρ]
 have n2 : ρ2.fz = ρ.fz:=by rw[hρ]
 have n3:∀ k r, ρ2.fm k=some r->(k=t.block/\r=es) \/ ρ.fm k=some r:=by
  intro k r hk;rw[hρ]at hk;simp only at hk;split at hk
  ·rename_i h;cases hk;exact .inl ⟨h,rfl⟩
  ·exact .inr hk
 have n4 : ρ2.fm t.block=some es:=by rw[hρ];simp
 have hle : ρ.le ρ2:=⟨fun i x h=>by rw[n1];exact h,fun b r h=>by rw[n2];exact h,fun b r h=>by
  rw[hρ];simp only;rw[if_neg (fun e=>by rw[e,hnone]at h;cases h)];exact h⟩
 have hval:∀ v,VRel ρ (.mid id) v->VRel ρ2 (.mp kd ks vs) v:=by
  intro v hv;obtain⟨t',ht', -,rfl⟩:=hv.mid_inv;rw[ht]at ht';cases ht';obtain⟨a1,a2,a3,a4,a5⟩:=g3;exact .mp kd ks vs t.block es n4 a1 a2 a3 (fun i x e hx he=>(a4 i x e hx he).mono hle) (fun i x e hx he=>(a5 i x e hx he).mono hle)
 refine⟨ρ2,n1,⟨fun j bj hj=>?_,fun i j bi bj ti tj hi hj hij h1 h2 ho=>?_,fun k r hk=>?_,fun j bj tj hj ho hjt=>?_,fun k r hk=>?_⟩,⟨hA.1,fun i x y hx hy=>(hA.2 i x y hx hy).mono hle⟩,?_⟩
 ·rw[n1];by_cases ej:j=k
  ·subst ej;rw[hk']at hj;cases hj;obtain⟨tj,q1,q2⟩:=hR.blk j _ hk;refine⟨tj,q1,?_⟩;rcases q2 with ⟨gm,c,e,fr,p1,p2,p3,p4,p5,p6⟩|⟨-, -, -,es2,cl2,kd2,ks2,vs2, -,p2, -⟩
   ·refine .inl ⟨gm,c,e,fr,p1,p2,by simp only[A0A,A0N]at p3 ⊢;exact p3,p4,fun i v hv=>?_,p6⟩;rcases C5o (x:=.mid id) hv with ⟨h1,rfl,h3⟩|h1
    ·obtain⟨q1,v',q2,q3⟩:=p5 i _ h3;exact⟨rfl,v',q2,hval v' q3⟩
    ·obtain⟨q1,v',q2,q3⟩:=p5 i v h1;exact⟨q1,v',q2,q3.mono hle⟩
   ·exfalso;have h3:(DV.mid id)∈[DV.mpc kd2 ks2 vs2]:=by rw[<- p2];simp
    simp at h3
  ·rcases hH j ej with h0|⟨-,h0⟩
   ·rw[h0]at hj;cases hj
   ·obtain⟨tj,q1,q2⟩:=hR.blk j bj (by rw[<- h0];exact hj);exact⟨tj,q1,q2.mono hle⟩
 ·rw[n1]at h1 h2;obtain⟨-,b1,e1,e4⟩:=back i bi hi;obtain⟨-,b2,f1, -⟩:=back j bj hj;exact hR.sep i j b1 b2 ti tj e1 f1 hij h1 h2 (e4.trans ho)
 ·rw[n2]at hk;exact hR.frz k r hk
 ·rw[n1]at hjt;rw[n2];obtain⟨-,b1,e1,e4⟩:=back j bj hj;exact hR.dis j b1 tj e1 (e4.trans ho) hjt
 ·rcases n3 k r hk with ⟨rfl,rfl⟩|h1
  ·refine⟨⟨cl,g1,g6⟩,fun j bj tj hj ho hjt=>?_⟩;rw[n1]at hjt;obtain⟨hne,b1,e1,e4⟩:=back j bj hj;exact hR.sep j id b1 _ tj t e1 hb hne hjt ht (e4.trans ho)
  ·refine⟨(hR.frm k r h1).1,fun j bj tj hj ho hjt=>?_⟩;rw[n1]at hjt;obtain⟨-,b1,e1,e4⟩:=back j bj hj;exact (hR.frm k r h1).2 j b1 tj e1 (e4.trans ho) hjt
 ·refine⟨hle,rfl,rfl,rfl,A0E _,fun _ _ _=>rfl,fun j bj tj hj hjt=>?_,fun k r hk=>.inl (by rw[<- n2];exact hk),fun k r hk=>?_⟩
  ·rw[n1]at hjt;obtain⟨-,b1,e1,e4⟩:=back j bj hj;exact .inr ⟨j,b1,tj,e1,fun h=>e4.trans h,hjt,rfl⟩
  ·rcases n3 k r hk with ⟨rfl,rfl⟩|h1
   ·exact .inr (.inr ⟨id,_,t,hb,rfl,ht,rfl⟩)
   ·exact .inl h1
theorem D2o{H:Hp}{a k u u' w n:Nat}{pre suf xs ds junk:List DV}(hk:H k=some ⟨w,true,pre++[.slc a 0 n]++suf⟩)(ha:H a=some ⟨u,true,cellsL xs++junk⟩)
  (h1:∀ d∈pre++suf,d.one=true) (hl:xs.length=n) (hu:∀ x∈xs,x.cells.length=u') (hak:¬ a=k) :
  GL H ds ((H.del a).upd k ⟨w,true,pre++[.lst xs]++suf⟩) ds:=by
 have hz:FzL a ⟨u,true,cellsL xs++junk⟩ (pre++[.slc a 0 n]++suf) (pre++[.lst xs]++suf) :=
  FzL.app (FzL.app (FzL.refl _) (.cons _ _ _ _ (P0 (blk:=⟨u,true,cellsL xs++junk⟩) hl hu ⟨junk,rfl⟩) .nil)) (FzL.refl _)
 refine GL.frzT (id:=a) ha rfl (fun j=>?_) (FzL.refl ds);by_cases ej:j=k
 ·subst ej;refine .inr ⟨Ne.symm hak,.inr ⟨_,_,hk,h_same,rfl,rfl,hz,fun d hd=>?_⟩⟩;simp only[A0P,A0X,A1K]at hd;rcases hd with hd|rfl|hd
  ·exact h1 d (A3I _ hd)
  ·rfl
  ·exact h1 d (A3R _ hd)
 ·rw[h_ne ej];by_cases ea:j=a
  ·subst ea;left;simp[Hp.del]
  ·refine .inr ⟨ea,.inl ?_⟩;rw[G4 ea]
end Go.Sym
namespace Go.Pb
variable [Go.Sym.Tab]
open Go.Sym
variable {nm:List UInt8->Int}
mutual
theorem D9e:∀ e:Ex,(cgE nm e).length<=e.sz
 |.mk k v n a p=>by
  rw[cgE,Ex.sz,A0A,A0N];have:=B4h a;omega
theorem B4h:∀ l:List Ex,(C5 nm l).length<=Ex.szs l
 |[]=>by simp[C5]
 |e :: l=>by
  rw[C5,Ex.szs,A0A];have:=D9e e;have:=B4h l;omega
end
theorem D5j(S:List (List UInt8))(t:List UInt8):(txS S t).2.length<=S.length+1:=by
 unfold txS;split<;>simp
mutual
theorem D9d:∀ (s:St) (p:Nat) (S:List (List UInt8)),(cgS nm p S s).1.length<=2 * s.sz/\(cgS nm p S s).2.length<=S.length+s.sz
 |.mk k n t a x y q,p,S=>by
  have ha:=B4h (nm:=nm) a;rw[cgS,St.sz];by_cases h2:k=2
  ·rw[if_pos h2];obtain⟨b1,b2⟩:=A7h x (p+(C5 nm a).length+1) S;by_cases hy:y.length=0
   ·rw[if_pos hy];simp only[A0A,A0K];constructor<;>omega
   ·rw[if_neg hy];obtain⟨c1,c2⟩:=A7h y (p+(C5 nm a).length+1+(cgB nm (p+(C5 nm a).length+1) S x).1.length+1) (cgB nm (p+(C5 nm a).length+1) S x).2;simp only[A0A,A0K];constructor<;>omega
  ·rw[if_neg h2];by_cases h3:k=3
   ·rw[if_pos h3];obtain⟨b1,b2⟩:=A7h x (p+(C5 nm a).length+1) S;simp only[A0A,A0K,A1H];constructor<;>omega
   ·rw[if_neg h3];by_cases h18:k=18
    ·rw[if_pos h18];have:=D5j S t;simp only[A0A,A0K,A1H];constructor<;>omega
    ·rw[if_neg h18];simp only[A0A,A0K,A1H];constructor<;>omega
theorem A7h:∀ (l:List St) (p:Nat) (S:List (List UInt8)),(cgB nm p S l).1.length<=2 * St.szs l/\(cgB nm p S l).2.length<=S.length+St.szs l
 |[],p,S=>by simp[cgB]
 |s :: l,p,S=>by
  rw[cgB,St.szs];obtain⟨a1,a2⟩:=D9d s p S;obtain⟨b1,b2⟩:=A7h l (p+(cgS nm p S s).1.length) (cgS nm p S s).2;simp only[A0A];constructor<;>omega
end
theorem C2k(l:List St)(x:Cg):(F5 nm l x).1.length<=x.1.length+2 * St.szs l/\(F5 nm l x).2.length<=x.2.length+St.szs l:=by
 obtain⟨h1,h2⟩:=A7h (nm:=nm) l x.1.length x.2;unfold F5;exact⟨by rw[A0A];omega,h2⟩
theorem A8z(a b:List St):St.szs (a++b)=St.szs a+St.szs b:=by simp[St.szs_map]
theorem A8y:∀ l:List (List St),St.szs l.flatten=(l.map St.szs).sum
 |[]=>rfl
 |a :: l=>by rw[A1L,A8z,A8y l];simp
theorem D3d(q:List KB)(k:Ky):((J1 q k).map St.szs).sum<=(q.map fun x=>St.szs x.2).sum:=by
 induction q with
 |nil=>simp[J1]
 |cons x q ih =>
  rw[A3l];split
  ·simp only[A0Q,A1R];omega
  ·simp only[A0Q,A1R];omega
theorem C0i:∀ (M:List Md) (i:Nat) (p:C8),p∈E0 nm i M->St.szs p.2.flatten<=(M.map Md.sz).sum
 |[],_,_,h=>by cases h
 |m :: M,i,p,h=>by
  rw[E0]at h;rcases A0X.1 h with h|h
  ·unfold rfP ptK at h;obtain⟨k, -,hk⟩:=A4C.1 h;split at hk
   ·cases hk
   ·cases hk;rw[A8y];have h1:=D3d (m.hds.map (hdK nm i)) k;rw[A2V]at h1;have h2:(m.hds.map ((fun x:KB=>St.szs x.2)∘hdK nm i)).sum<=(m.hds.map Hd.sz).sum:=by
     generalize m.hds=hs
     induction hs with
     |nil=>simp
     |cons x hs ih =>
      simp only[A0Q,A1R];have:St.szs (hdK nm i x).2<=x.sz:=by show St.szs x.body<=1+x.name.length+St.szs x.body;omega
      exact Nat.add_le_add this ih
    simp only[A0Q,A1R,Md.sz];omega
  ·have:=C0i M (i+1) p h;simp only[A0Q,A1R];omega
theorem D5w{l:List C8}(h1:l.Pairwise fun a b=>¬ b.1.lt a.1)(h2:(l.map (·.1)).Nodup):Srt l:=by
 unfold Srt;have h3:l.Pairwise fun a b=>a.1≠b.1:=by
  rw[List.Nodup,A4Q]at h2;exact h2
 refine (h1.and h3).imp ?_;rintro a b ⟨g1,g2⟩;rcases Ky.tri a.1 b.1 with g|g|g
 ·exact g
 ·exact absurd g g2
 ·exact absurd g g1
theorem C6u{r:Ru}(h:ChkR r){s:List C8}(hp:(H5 [] (hkM (nmR r) 0 r.modes)).Perm s)(ho:s.Pairwise fun a b=>¬ b.1.lt a.1):s=E0 (nmR r) 0 r.modes:=by
 refine C6v (fun m hm x hx=>(h.hd m hm x hx).ok h) hp.symm (D5w ho ?_);exact ((hp.map _).nodup_iff).1 (A4v _ (by simp))
end Go.Pb
namespace Go.Pb
variable [Go.Sym.Tab]
theorem C1v(nm:List UInt8->Int):∀ (l:List Md) (k:Nat),(hkM nm k l).length=(l.map fun m=>m.hds.length).sum
 |[],_=>rfl
 |m :: l,k=>by rw[hkM,A0A,A0C,C1v nm l];simp
theorem D3i(q:List KB):PB q.length (H5 [] q):=by
 have key:∀ (q:List KB) (n:Nat) (l:List C8),PB n l->PB (n+q.length) (H5 l q):=by
  intro q
  induction q with
  |nil=>intro n l h;exact h
  |cons x q ih =>
   intro n l h;have:=ih (n+1) _ (PB.add (k:=x.1) (b:=x.2) h);exact this.le (by simp only[A0K];omega)
 have:=key q 0 [] ⟨by simp,fun p hp=>by cases hp⟩
 rwa [A1J]at this
theorem C1w{r:Ru}(h:ChkR r):(r.modes.map fun m=>m.hds.length).sum<=32 * 16:=by
 have h1:=h.lens.2;have:∀ l:List Md,(∀ m∈l,m.hds.length<=32)->(l.map fun m=>m.hds.length).sum<=32 * l.length:=by
  intro l
  induction l with
  |nil=>intro _;simp
  |cons m l ih =>
   intro hl;have a:=hl m A0H;have b:=ih fun x hx=>hl x (A0G _ hx);simp only[A0Q,A1R,A0K];omega
 have:=this r.modes fun m hm=>by
  have:=h.mode m hm;unfold Q0 at this;simp only[A0F,A0I]at this;exact this.1.2
 omega
theorem D8g{r:Ru}(h:ChkR r):(r.modes.map fun m=>m.hds.length).sum+r.modes.length<=1000000:=by
 have:=C1w h;have:=h.lens.2;omega
theorem C8b{r:Ru}(h:ChkR r):PB 512 (H5 [] (hkM (nmR r) 0 r.modes)):=(D3i _).le (by
 rw[C1v];have:=C1w h;omega)
theorem D9z{r:Ru}(h:ChkR r){s:List C8}(hp:(H5 [] (hkM (nmR r) 0 r.modes)).Perm s):PB 512 s:=by
 have:=C8b h;exact⟨by rw[<- hp.length_eq];exact this.1,fun p hm=>this.2 p (hp.mem_iff.2 hm)⟩
theorem C9x{l:List C8}{k:Nat}{q:C8}(h:l[k]? = some q):l.take (k+1)=l.take k++[q]:=by
 rw[A0S,h];rfl
abbrev C9v(nm:List UInt8->Int)(q:C8)(x:Cg):Cg:=((F5 nm q.2.flatten x).1++[⟨31,0⟩],(F5 nm q.2.flatten x).2)
theorem C9y(nm:List UInt8->Int){l:List C8}{k:Nat}{q:C8}(h:l[k]? = some q):
  ((cgL nm 0 [] (l.take (k+1))).1,(cgL nm 0 [] (l.take (k+1))).2.2)=C9v nm q ((cgL nm 0 [] (l.take k)).1,(cgL nm 0 [] (l.take k)).2.2) /\
  (cgL nm 0 [] (l.take (k+1))).2.1=(cgL nm 0 [] (l.take k)).2.1++[⟨q.1.mode,q.1.trig,q.1.ix,((cgL nm 0 [] (l.take k)).1.length:Int)⟩]:=by
 rw[C9x h,B7a];simp[C9v,F5]
theorem C4g{b:List (List St)}{j:Nat}{y:List St}(h:b[j]? = some y):(b.take (j+1)).flatten=(b.take j).flatten++y:=by
 rw[A0S,h];simp
theorem A3v(b:List (List St))(j:Nat):St.szs (b.take j).flatten<=St.szs b.flatten:=by
 have h:=congrArg (fun l:List (List St)=>St.szs l.flatten) (A1W j b);simp only[A2W,A8z]at h;omega
theorem B3a{b:List (List St)}{y:List St}(h:y∈b):St.szs y<=St.szs b.flatten:=by
 rw[A8y]
 induction b with
 |nil=>cases h
 |cons x b ih =>
  rw[A0Q,A1R];rcases A0Y.1 h with rfl|h
  ·omega
  ·have:=ih h;omega
theorem A2h{H:Sym.Hp}{k u u' n:Nat}{o:Option Nat}{pre suf xs ds:List Sym.DV}(hk:H k=some ⟨0,true,pre++[Sym.todoV o n]++suf⟩)(ho:∀ i,o=some i->H i=some ⟨u,true,Sym.cellsL xs⟩/\i≠k)
  (hn:o=none->xs=[]) (h1:∀ d∈pre++suf,d.one=true) (hl:xs.length=n) (hu:∀ x∈xs,x.cells.length=u') :
  Sym.GL H ds ((Go.Pb.delO H o).upd k ⟨0,true,pre++[.lst xs]++suf⟩) ds:=by
 cases o with
 |none =>
  have e:H=Sym.optH (H.upd k ⟨0,true,pre++[Sym.todoV none n]++suf⟩) none ⟨u',true,Sym.cellsL xs⟩:=by
   funext j
   by_cases ej:j=k
   ·subst ej;simp only[Sym.optH];rw[Sym.h_same,hk]
   ·simp only[Sym.optH];rw[Sym.h_ne ej]
  have g:=Sym.g_fin (Hb:=H) (ci:=k) (o:=none) (n:=n) (ds:=ds) h1 hn (fun i h=>by cases h) hl hu;rw[<- e]at g;exact g
 |some i =>
  obtain⟨h2,h3⟩:=ho i rfl;exact Sym.g_cell (junk:=[]) hk (by rw[A0W];exact h2) h1 hl hu h3
open Go.Sym
theorem C0q(q:List KB)(a b:List Ky):ptK q (a++b)=ptK q a++ptK q b:=by unfold ptK;simp
theorem C6m(q:List KB)(ks:List Ky)(k:Ky):ptK q (ks++[k])=ptK q ks++(if J1 q k=[] then [] else [(k,J1 q k)]):=by
 rw[C0q]
 congr 1
 unfold ptK
 grind
def U5(i t n:Nat):List Ky:=(List.range t).flatMap (A5u i)++(A5u i t).take n
theorem C4b(i:Nat):U5 i 0 0=[]:=by rfl
theorem C4c{i t n:Nat}(h:n<128):U5 i t (n+1)=U5 i t n++[⟨i,(t:Int)+1,n⟩]:=by
 unfold U5;rw[A0P,A0S]
 congr 2
 unfold A5u
 grind
theorem C4d(i t:Nat):U5 i t 128=U5 i (t+1) 0:=by
 unfold U5;rw[List.range_succ,A2P,A0M (by simp[A5u])];simp
theorem C4e(i:Nat):U5 i 6 0=B1d i:=by simp[U5,B1d]
theorem C8i{i t n:Nat}(h:t<6):U5 i t n <+: B1d i:=by
 obtain⟨d,hd⟩:∃ d,6=t+1+d:=⟨5-t,by omega⟩;unfold U5 B1d;rw[hd,List.range_add,A2P,List.range_succ,A2P,A0P];refine (List.prefix_append_right_inj _).2 ?_
 grind
theorem C4q{nm:List UInt8->Int}{i:Nat}{l:List Hd}{j:Nat}{h:Hd}(hj:l[j]? = some h)(k:Ky):
  J1 ((l.take (j+1)).map (hdK nm i)) k=J1 ((l.take j).map (hdK nm i)) k++if (hdK nm i h).1=k then [h.body] else []:=by
 rw[A0S,hj,A0T,B0r]
 congr 1
 show J1 [hdK nm i h] k=_;rw[A3l];rfl
theorem A9f(nm:List UInt8->Int):∀ (a b:List Md) (i:Nat),E0 nm i (a++b)=E0 nm i a++E0 nm (i+a.length) b
 |[],b,i=>rfl
 |m :: a,b,i=>by
  rw[List.cons_append,E0,E0,A9f nm a b,A0P,A0K]
  grind
theorem B1l(nm:List UInt8->Int){M:List Md}{m:Nat}{md:Md}(h:M[m]? = some md):E0 nm 0 (M.take (m+1))=E0 nm 0 (M.take m)++rfP nm m md.hds:=by
 have hl:=(A0J.1 h).1;rw[A0S,h,A9f,A1B,A1J,Nat.min_eq_left (by omega)];simp[E0]
theorem D6x{nm:List UInt8->Int}{M:List Md}{m:Nat}{md:Md}{ks:List Ky}(h:M[m]? = some md)(hk:ks <+: B1d m):
  ∃ R,E0 nm 0 M=(E0 nm 0 (M.take m)++ptK (md.hds.map (hdK nm m)) ks)++R:=by
 obtain⟨r,hr⟩:=hk;have e:=congrArg (E0 nm 0) (A1W (m+1) M);rw[A9f,B1l nm h]at e;unfold rfP at e;rw[<- hr,C0q, <- A0P,A0P]at e
 grind
theorem D9b{nm:List UInt8->Int}{L P R:List C8}(h:L=P++R):(cgL nm 0 [] P).1.length<=(cgL nm 0 [] L).1.length/\(cgL nm 0 [] P).2.2.length<=(cgL nm 0 [] L).2.2.length:=by
 have:=B6z (nm:=nm) (l:=L) (S:=[]) P.length
 grind
def wt(b:List (List St)):Nat:=(b.map fun l=>2 * St.szs l+1).sum
theorem D9t(b:List (List St))(h:b≠[]):2 * St.szs b.flatten+1<=wt b:=by
 have key:∀ b:List (List St),2 * St.szs b.flatten+b.length=wt b:=by
  intro b
  induction b with
  |nil=>rfl
  |cons x b ih =>
   have:wt (x :: b)=2 * St.szs x+1+wt b:=by rfl
   rw[this,A1L,A8z,A0K];omega
 have:=key b;have:0<b.length:=List.length_pos_iff.2 h;omega
theorem D0u{ks:List Ky}(h:ks.Nodup)(k:Ky)(c:Nat):(ks.map fun x=>if k=x then c else 0).sum<=c:=by
 induction ks with
 |nil=>simp
 |cons a ks ih =>
  obtain⟨h1,h2⟩:=A2Y.1 h;rw[A0Q,A1R];by_cases e:k=a
  ·subst e;have:∀ l:List Ky,(∀ x∈l,¬ k=x)->(l.map fun x=>if k=x then c else 0).sum=0:=by
    intro l
    induction l with
    |nil=>intro _;rfl
    |cons a l ih=>intro hl;rw[A0Q,A1R,if_neg (hl a A0H),ih fun x hx=>hl x (A0G _ hx)]
   rw[this ks fun x hx e=>h1 (by rw[e];exact hx),if_pos rfl];omega
  grind
theorem D4v(q:List KB){ks:List Ky}(h:ks.Nodup):(ks.map fun k=>wt (J1 q k)).sum<=wt (q.map (·.2)):=by
 induction q with
 |nil=>induction ks with
  |nil=>simp
  |cons a ks ih=>simp[J1,wt]at ih ⊢;grind
 |cons x q ih =>
  have e:(fun k=>wt (J1 (x :: q) k))=fun k=>(if x.1=k then 2 * St.szs x.2+1 else 0)+wt (J1 q k):=by
   funext k
   rw[A3l];by_cases h:x.1=k<;>simp[h,wt]
  have add:∀ (f g:Ky->Nat) (l:List Ky),(l.map fun k=>f k+g k).sum=(l.map f).sum+(l.map g).sum:=by
   intro f g l
   induction l with
   |nil=>rfl
   |cons a l ih=>grind
  rw[e,add];have:=D0u h x.1 (2 * St.szs x.2+1);have e2:wt ((x :: q).map (·.2))=2 * St.szs x.2+1+wt (q.map (·.2)):=by rfl
  omega
theorem C6l(q:List KB):∀ ks:List Ky,((ptK q ks).map fun p=>2 * St.szs p.2.flatten+1).sum<=(ks.map fun k=>wt (J1 q k)).sum
 |[]=>by simp[ptK]
 |k :: ks=>by
  have ih:=C6l q ks;unfold ptK at ih ⊢;rw[List.filterMap_cons];by_cases h:J1 q k=[]
  ·grind
  ·simp only[h,if_false,A0Q,A1R];have:=D9t _ h;omega
theorem C2y{ks:List Ky}(h:ks.Pairwise Ky.lt):ks.Nodup:=h.imp fun {a b} hab e=>by subst e;unfold Ky.lt at hab;omega
theorem D9s(m:Md)(nm:List UInt8->Int)(i:Nat):wt ((m.hds.map (hdK nm i)).map (·.2))<=2 * m.sz:=by
 have:wt ((m.hds.map (hdK nm i)).map (·.2))<=2 * (m.hds.map Hd.sz).sum:=by
  generalize m.hds=hs
  induction hs with
  |nil=>simp[wt]
  |cons x hs ih =>
   have e:wt (((x :: hs).map (hdK nm i)).map (·.2))=2 * St.szs x.body+1+wt ((hs.map (hdK nm i)).map (·.2)):=by simp[wt,hdK]
   have:x.sz=1+x.name.length+St.szs x.body:=rfl
   grind
 unfold Md.sz;omega
theorem C0h(nm:List UInt8->Int):∀ (M:List Md) (i:Nat),((E0 nm i M).map fun p=>2 * St.szs p.2.flatten+1).sum<=2 * (M.map Md.sz).sum
 |[],i=>by simp[E0]
 |m :: M,i=>by
  rw[E0,A0T,A4I,A0Q,A1R];have h1:=C0h nm M (i+1);have h2:=C6l (m.hds.map (hdK nm i)) (B1d i);have h3:=D4v (m.hds.map (hdK nm i)) (C2y (B6h i));have h4:=D9s m nm i;unfold rfP;omega
theorem C9w{nm:List UInt8->Int}:∀ (l:List C8) (p:Nat) (S:List (List UInt8)),(cgL nm p S l).1.length<=(l.map fun p=>2 * St.szs p.2.flatten+1).sum/\(cgL nm p S l).2.2.length<=S.length+(l.map fun p=>2 * St.szs p.2.flatten+1).sum
 |[],p,S=>by simp[cgL]
 |q :: l,p,S=>by
  rw[cgL];obtain⟨h1,h2⟩:=A7h (nm:=nm) q.2.flatten p S;obtain⟨h3,h4⟩:=C9w (nm:=nm) l (p+(cgB nm p S q.2.flatten).1.length+1) (cgB nm p S q.2.flatten).2
  grind
theorem D9c(nm:List UInt8->Int)(M:List Md):(cgL nm 0 [] (E0 nm 0 M)).1.length<=2 * (M.map Md.sz).sum/\(cgL nm 0 [] (E0 nm 0 M)).2.2.length<=2 * (M.map Md.sz).sum:=by
 obtain⟨h1,h2⟩:=C9w (nm:=nm) (E0 nm 0 M) 0 [];have:=C0h nm M 0
 grind
theorem C2j(nm:List UInt8->Int)(P:List C8)(q:C8):
  ((cgL nm 0 [] (P++[q])).1,(cgL nm 0 [] (P++[q])).2.2)=C9v nm q ((cgL nm 0 [] P).1,(cgL nm 0 [] P).2.2) /\
  (cgL nm 0 [] (P++[q])).2.1=(cgL nm 0 [] P).2.1++[⟨q.1.mode,q.1.trig,q.1.ix,((cgL nm 0 [] P).1.length:Int)⟩]:=by
 rw[B7a];simp[C9v,F5]
theorem B7c(nm:List UInt8->Int):∀ (l:List C8) (p:Nat) (S:List (List UInt8)),(cgL nm p S l).2.1.length<=(cgL nm p S l).1.length
 |[],p,S=>by simp[cgL]
 |q :: l,p,S=>by
  rw[cgL];have:=B7c nm l (p+(cgB nm p S q.2.flatten).1.length+1) (cgB nm p S q.2.flatten).2
  grind
end Go.Pb
end
