/-
  HELPERS of the claim: part 6 of its texts.
-/
import Derived.Test.YtnkkfehegdplgaaGreatDoorCcde
import Derived.Shelf.SlSortCmp.WholeK
import Derived.Lib.ItoaNum
import Derived.Lib.Space
import Derived.Test.YtnkkfehegdplgaaGreatDoorProg
noncomputable section
set_option linter.unusedVariables false
set_option linter.unusedSectionVars false
set_option linter.unusedSimpArgs false
namespace Go.Sym
variable [Go.Sym.Tab]
open Go.Eng (K4)
open Go.RowKit Go.Proofs Go.Sort
variable {P:Program} {ρ:Ren} {H:Hp} {w:World}
theorem B2f.size{b:Blk}{t:Tgt}(h:B2f ρ b t w):t.block<w.heap.size:=by
 rcases h with ⟨-,c,e,fr,h1, -⟩|⟨-, -, -,es,cl,kd,ks,vs,h3, -⟩
 ·exact(A0Z.1 h1).1
 grind
theorem Rep.grown(hR:Rep ρ H w){w':World}(hp:∀k,k<w.heap.size->w'.heap[k]? = w.heap[k]?):Rep ρ H w' where
 blk:=λid b hb=>by
  obtain⟨t,h1,h2⟩:=hR.blk id b hb;exact⟨t,h1,h2.world (hp _ h2.size)⟩
 sep:=hR.sep
 frz:=λb r hb=>by
  obtain⟨e,fr,h⟩:=hR.frz b r hb
  grind
 dis:=hR.dis
 frm:=λb es hb=>by
  obtain⟨⟨cl,h,hs⟩,h2⟩:=hR.frm b es hb
  grind
theorem D1s(w:World)(os:Array Obj){k:Nat}(hk:k<w.heap.size):(grow w os).heap[k]? = w.heap[k]? := by
 show(w.heap++os)[k]? = _
 grind
inductive F2 {α β:Type} (R : α -> β->Prop):List α->List β->Prop where
 |nil:F2 R [] []
 |cons {a b l m}:R a b->F2 R l m->F2 R (a::l) (b::m)
theorem F2.len{α β:Type}{R : α -> β->Prop}{l:List α}{m:List β}(h:F2 R l m):l.length=m.length:=by
 induction h with
 |nil=>rfl
 |cons _ _ ih=>grind
theorem F2.get{α β:Type}{R : α -> β->Prop}{l:List α}{m:List β}(h:F2 R l m):∀ {k:Nat} {a : α},l[k]? = some a->∃b,m[k]? = some b/\R a b:=by
 induction h with
 |nil=>simp
 |cons h1 _ ih =>
  grind
theorem F2.perm{α β:Type}{R : α -> β->Prop}{m m':List β}(hp:m.Perm m'):∀ {l:List α},F2 R l m->∃l',l.Perm l'/\F2 R l' m':=by
 induction hp with
 |nil=>intro l h;cases h;exact⟨[],.nil,.nil⟩
 |cons x _ ih =>
  intro l h;cases h with
  |cons h1 h2 =>
   obtain⟨l',a,b⟩:=ih h2;exact⟨_::l',a.cons _,.cons h1 b⟩
 |swap x y l0 =>
  intro l h;cases h with
  |cons h1 h2 =>
   cases h2 with
   |cons h3 h4=>exact⟨_,.swap _ _ _,.cons h3 (.cons h1 h4)⟩
 |trans _ _ ih1 ih2 =>
  intro l h;obtain⟨l1,a,b⟩:=ih1 h;obtain⟨l2,c,d⟩:=ih2 b;exact⟨l2,a.trans c,d⟩
end Go.Sym
namespace Go.Pb
variable [Go.Sym.Tab]
open Go.Sym
variable {nm:List UInt8->Int}
mutual
theorem F1n:∀e:Ex,(cgE nm e).length<=e.sz
 |.mk k v n a p=>by
  rw[cgE,Ex.sz,A0A,A0I];have:=B9h a;omega
theorem B9h:∀l:List Ex,(C7 nm l).length<=Ex.szs l
 |[]=>by simp[C7]
 |e::l=>by
  rw[C7,Ex.szs,A0A];have:=F1n e;have:=B9h l;omega
end
theorem E6o(S:List (List UInt8))(t:List UInt8):(txS S t).2.length<=S.length+1:=by
 grind[txS]
mutual
theorem F1l:∀(s:St) (p:Nat) (S:List (List UInt8)),(cgS nm p S s).1.length<=2*s.sz/\(cgS nm p S s).2.length<=S.length+s.sz
 |.mk k n t a x y q,p,S=>by
  have ha:=B9h (nm:=nm) a;rw[cgS,St.sz];by_cases h2:k=2
  ·rw[if_pos h2];obtain⟨b1,b2⟩:=B5d x (p+(C7 nm a).length+1) S;by_cases hy:y.length=0
   ·grind
   ·rw[if_neg hy];obtain⟨c1,c2⟩:=B5d y (p+(C7 nm a).length+1+(cgB nm (p+(C7 nm a).length+1) S x).1.length+1) (cgB nm (p+(C7 nm a).length+1) S x).2<;>grind
  ·rw[if_neg h2];by_cases h3:k=3
   ·rw[if_pos h3];obtain⟨b1,b2⟩:=B5d x (p+(C7 nm a).length+1) S<;>grind
   ·rw[if_neg h3];by_cases h18:k=18
    ·rw[if_pos h18];have:=E6o S t;simp only[A0A,A0C,A0M];constructor<;>omega
    grind
theorem B5d:∀(l:List St) (p:Nat) (S:List (List UInt8)),(cgB nm p S l).1.length<=2*St.szs l/\(cgB nm p S l).2.length<=S.length+St.szs l
 |[],p,S=>by simp[cgB]
 |s::l,p,S=>by
  rw[cgB,St.szs];obtain⟨a1,a2⟩:=F1l s p S;obtain⟨b1,b2⟩:=B5d l (p+(cgS nm p S s).1.length) (cgS nm p S s).2<;>grind
end
theorem C9r(l:List St)(x:Cg):(T6 nm l x).1.length<=x.1.length+2*St.szs l/\(T6 nm l x).2.length<=x.2.length+St.szs l:=by
 grind[B5d,T6]
theorem C0a(a b:List St):St.szs (a++b)=St.szs a+St.szs b:=by simp[St.szs_map]
theorem B3g:∀l:List (List St),St.szs l.flatten=(l.map St.szs).sum
 |[]=>rfl
 |a::l=>by rw[A1K,C0a,B3g l];simp
theorem E3t(q:List KB)(k:Ky):((U5 q k).map St.szs).sum<=(q.map λx=>St.szs x.2).sum:=by
 induction q<;>grind[U5]
theorem C7i:∀(M:List Md) (i:Nat) (p:D6),p∈V7 nm i M->St.szs p.2.flatten<=(M.map Md.sz).sum
 |[],_,_,h=>y8
 |m::M,i,p,h=>by
  rw[V7]at h;rcases A1A.1 h with h|h
  ·unfold rfP ptK at h;obtain⟨k, -,hk⟩:=A4T.1 h;split at hk
   ·grind
   ·cases hk;rw[B3g];have h1:=E3t (m.hds.map (hdK nm i)) k;rw[A2E]at h1;have h2:(m.hds.map ((λx:KB=>St.szs x.2)∘hdK nm i)).sum<=(m.hds.map Hd.sz).sum:=by
     generalize m.hds=hs
     induction hs with
     |nil=>simp
     |cons x hs ih =>
      simp only[A0P,A3D];have:St.szs (hdK nm i x).2<=x.sz:=by show St.szs x.body<=1+x.name.length+St.szs x.body;omega
      exact Nat.add_le_add this ih
    grind[Md.sz]
  ·have:=C7i M (i+1) p h
   grind
theorem E7c{l:List D6}(h1:l.Pairwise λa b=>¬b.1.lt a.1)(h2:(l.map (·.1)).Nodup):Srt l:=by
 unfold Srt;have h3:l.Pairwise λa b=>a.1≠b.1:=by
  rw[List.Nodup,A4U]at h2;exact h2
 refine(h1.and h3).imp ?_
 grind[Ky.tri]
theorem D5v{r:Ru}(h:ChkR r){s:List D6}(hp:(J8 [] (hkM (nmR r) 0 r.modes)).Perm s)(ho:s.Pairwise λa b=>¬b.1.lt a.1):s=V7 (nmR r) 0 r.modes:=by
 refine D5w (λm hm x hx=>(h.hd m hm x hx).ok h) hp.symm (E7c ho ?_)
 grind[A8b]
end Go.Pb
namespace Go.Pb
variable [Go.Sym.Tab]
theorem C9a(nm:List UInt8->Int):∀(l:List Md) (k:Nat),(hkM nm k l).length=(l.map λm=>m.hds.length).sum
 |[],_=>rfl
 |m::l,k=>by rw[hkM,A0A,A0N,C9a nm l];simp
theorem E4b(q:List KB):PB q.length (J8 [] q):=by
 have key:∀(q:List KB) (n:Nat) (l:List D6),PB n l->PB (n+q.length) (J8 l q):=by
  intro q
  induction q with
  |nil=>intro n l h;exact h
  |cons x q ih =>
   intro n l h;have:=ih (n+1) _ (PB.add (k:=x.1) (b:=x.2) h);exact this.le (by simp only[A0C];omega)
 have:=key q 0 [] ⟨by simp,λp hp=>by cases hp⟩
 grind
theorem C9c{r:Ru}(h:ChkR r):(r.modes.map λm=>m.hds.length).sum<=32*16:=by
 have h1:=h.lens.2;have:∀l:List Md,(∀m∈l,m.hds.length<=32)->(l.map λm=>m.hds.length).sum<=32*l.length:=by
  intro l
  induction l<;>grind
 have:=this r.modes λm hm=>by
  have:=h.mode m hm
  simp_all[X4]
 omega
theorem F0f{r:Ru}(h:ChkR r):(r.modes.map λm=>m.hds.length).sum+r.modes.length<=1000000:=by
 have:=C9c h;have:=h.lens.2;omega
theorem D7e{r:Ru}(h:ChkR r):PB 512 (J8 [] (hkM (nmR r) 0 r.modes)):=(E4b _).le (by
 grind[C9a,C9c])
theorem F2w{r:Ru}(h:ChkR r){s:List D6}(hp:(J8 [] (hkM (nmR r) 0 r.modes)).Perm s):PB 512 s:=by
 have:=D7e h;exact⟨by rw[<- hp.length_eq];exact this.1,λp hm=>this.2 p (hp.mem_iff.2 hm)⟩
theorem D8y{l:List D6}{k:Nat}{q:D6}(h:l[k]? = some q):l.take (k+1)=l.take k++[q]:=by
 grind[List.take_add_one]
abbrev F6r(nm:List UInt8->Int)(q:D6)(x:Cg):Cg:=((T6 nm q.2.flatten x).1++[⟨31,0⟩],(T6 nm q.2.flatten x).2)
theorem D9b(nm:List UInt8->Int){l:List D6}{k:Nat}{q:D6}(h:l[k]? = some q):
  ((cgL nm 0 [] (l.take (k+1))).1,(cgL nm 0 [] (l.take (k+1))).2.2)=F6r nm q ((cgL nm 0 [] (l.take k)).1,(cgL nm 0 [] (l.take k)).2.2) /\
  (cgL nm 0 [] (l.take (k+1))).2.1=(cgL nm 0 [] (l.take k)).2.1++[⟨q.1.mode,q.1.trig,q.1.ix,((cgL nm 0 [] (l.take k)).1.length:Int)⟩]:=by
 simp_all[D8y,D9a,T6]
theorem D1v{b:List (List St)}{j:Nat}{y:List St}(h:b[j]? = some y):(b.take (j+1)).flatten=(b.take j).flatten++y:=by
 grind[List.take_add_one]
theorem A6y(b:List (List St))(j:Nat):St.szs (b.take j).flatten<=St.szs b.flatten:=by
 have h:=congrArg (λl:List (List St)=>St.szs l.flatten) (A1P j b)
 grind[C0a]
theorem B8a{b:List (List St)}{y:List St}(h:y∈b):St.szs y<=St.szs b.flatten:=by
 rw[B3g]
 induction b<;>grind
theorem C5m{H:Sym.Hp}{k u u' n:Nat}{o:Option Nat}{pre suf xs ds:List Sym.DV}(hk:H k=some ⟨0,true,pre++[Sym.todoV o n]++suf⟩)(ho:∀i,o=some i->H i=some ⟨u,true,Sym.cellsL xs⟩/\i≠k)
  (hn:o=none->xs=[]) (h1:∀d∈pre++suf,d.one=true) (hl:xs.length=n) (hu:∀x∈xs,x.cells.length=u') :
  Sym.GL H ds ((Go.Pb.delO H o).upd k ⟨0,true,pre++[.lst xs]++suf⟩) ds:=by
 cases o with
 |none =>
  have e:H=Sym.optH (H.upd k ⟨0,true,pre++[Sym.todoV none n]++suf⟩) none ⟨u',true,Sym.cellsL xs⟩:=by
   funext j
   by_cases ej:j=k
   ·subst ej;simp only[Sym.optH];rw[Sym.hSm,hk]
   simp_all[Sym.optH,Sym.h_ne]
  have g:=Sym.g_fin (Hb:=H) (ci:=k) (o:=none) (n:=n) (ds:=ds) h1 hn (λi h=>by grind) hl hu;rw[<- e]at g;exact g
 |some i =>
  obtain⟨h2,h3⟩:=ho i rfl;exact Sym.g_cell (junk:=[]) hk (by rw[A1D];exact h2) h1 hl hu h3
end Go.Pb
namespace Go.Sym
variable [Go.Sym.Tab]
open Go.Eng (Opd FOp AOp EOp IOp IOper DReg IC RV IFn P0 B1q isNew)
mutual
def N7:DV->DV->Bool
 |.bot,.bot=>true
 |.bool a,.bool b=>a==b
 |.int k n,.int l m=>k==l&&n==m
 |.str a,.str b=>a==b
 |.pnil,.pnil=>true
 |.ptr a b,.ptr c d=>a==c&&b==d
 |.snil,.snil=>true
 |.slc a b c,.slc x y z=>a==x&&b==y&&c==z
 |.lst a,.lst b=>A4v a b
 |.fptr a,.fptr b=>A4v a b
 |.agg a,.agg b=>A4v a b
 |.tup a,.tup b=>A4v a b
 |.mid a,.mid b=>a==b
 |.mnil,.mnil=>true
 |.func f a c,.func g b d=>f==g&&A4v a b&&A4v c d
 |_,_=>false
def A4v:List DV->List DV->Bool
 |[],[]=>true
 |a::l,b::m=>N7 a b&&A4v l m
 |_,_=>false
end
mutual
theorem B3n:∀(a b:DV),N7 a b=true->a=b
 |.bot,b,h=>z8
 |.bool _,b,h=>v8
 |.int _ _,b,h=>v8
 |.str _,b,h=>v8
 |.pnil,b,h=>z8
 |.ptr _ _,b,h=>v8
 |.snil,b,h=>z8
 |.slc _ _ _,b,h=>v8
 |.lst a,b,h=>by cases b with
  |lst b=>simp only[N7]at h;rw[A0q a b h]
  |_=>simp[N7]at h
 |.fptr a,b,h=>by cases b with
  |fptr b=>simp only[N7]at h;rw[A0q a b h]
  |_=>simp[N7]at h
 |.fnil,b,h=>w5
 |.func f a c,b,h=>by cases b with
  |func g b d=>simp only[N7,A0G,A1S]at h;rw[h.1.1,A0q a b h.1.2,A0q c d h.2]
  |_=>simp[N7]at h
 |.inil,b,h=>w5
 |.iface _ _,b,h=>w5
 |.agg a,b,h=>by cases b with
  |agg b=>simp only[N7]at h;rw[A0q a b h]
  |_=>simp[N7]at h
 |.tup a,b,h=>by cases b with
  |tup b=>simp only[N7]at h;rw[A0q a b h]
  |_=>simp[N7]at h
 |.mpc _ _ _,b,h=>w5
 |.mid _,b,h=>v8
 |.mp _ _ _,b,h=>w5
 |.mnil,b,h=>z8
 |.ub,b,h=>w5
theorem A0q:∀(a b:List DV),A4v a b=true->a=b
 |[],[],_=>rfl
 |[],_::_,h=>by simp[A4v]at h
 |_::_,[],h=>by simp[A4v]at h
 |a::l,b::m,h=>by
  simp only[A4v,A0G]at h;rw[B3n a b h.1,A0q l m h.2]
end
def C0k:Option Blk->Option Blk->Bool
 |none,none=>true
 |some a,some b=>a.unit==b.unit&&a.own==b.own&&A4v a.cells b.cells
 |_,_=>false
theorem D4u:∀(a b:Option Blk),C0k a b=true->a=b
 |none,none,_=>rfl
 |none,some _,h=>by simp[C0k]at h
 |some _,none,h=>by simp[C0k]at h
 |some ⟨a,b,c⟩,some ⟨x,y,z⟩,h=>by
  simp only[C0k,A0G,A1S]at h;rw[h.1.1,h.1.2,A0q c z h.2]
def fcN(n:Nat)(k:Nat->Bool):Bool:=match n with
 |0=>k 0
 |n+1=>k (n+1)
theorem B0x(n:Nat)(k:Nat->Bool):fcN n k=k n:=by cases n<;>rfl
def fcI(z:Int)(k:Int->Bool):Bool:=match z with
 |.ofNat n=>fcN n λn=>k (.ofNat n)
 |.negSucc n=>fcN n λn=>k (.negSucc n)
theorem F0o(z:Int)(k:Int->Bool):fcI z k=k z:=by cases z<;>simp only[fcI,B0x]<;>rfl
def fcV(v:DV)(k:DV->Bool):Bool:=match v with
 |.bool b=>match b with
  |true=>k (.bool true)
  |false=>k (.bool false)
 |.int t z=>fcI z λz=>k (.int t z)
 |.ptr i o=>fcN i λi=>fcN o λo=>k (.ptr i o)
 |.slc i o n=>fcN i λi=>fcN o λo=>fcN n λn=>k (.slc i o n)
 |v=>k v
theorem C5r(v:DV)(k:DV->Bool):fcV v k=k v:=by
 cases v with
 |bool b=>cases b<;>rfl
 |int t z=>simp only[fcV,F0o]
 |ptr i o=>simp only[fcV,B0x]
 |slc i o n=>simp only[fcV,B0x]
 |_=>rfl
abbrev Tl:=List (Nat × DV)
def A0y(a:List DV):Tl->Tm
 |[],j=>A5d a j
 |(e,w)::r,j=>match Nat.beq e j with
  |true=>w
  |false=>A0y a r j
def C4k(d:Nat)(v:DV):Tl->Tl
 |[]=>[(d,v)]
 |(e,w)::r=>match Nat.beq e d with
  |true=>(d,v)::r
  |false=>(e,w)::C4k d v r
def E0r(d:Nat)(v:DV):Tl->(Tl->Bool)->Bool
 |[],k=>k [(d,v)]
 |(e,w)::r,k=>match Nat.beq e d with
  |true=>k ((d,v)::r)
  |false=>E0r d v r λr'=>k ((e,w)::r')
theorem C7q(d:Nat)(v:DV):∀(l:Tl) (k:Tl->Bool),E0r d v l k=k (C4k d v l)
 |[],k=>rfl
 |(e,w)::r,k=>by
  unfold E0r C4k;cases Nat.beq e d with
  |true=>rfl
  |false=>exact C7q d v r _
theorem get_put(a:List DV)(d:Nat)(v:DV):∀l:Tl,A0y a (C4k d v l)=(A0y a l).upd d v
 |[]=>by
  funext j
  show(match Nat.beq d j with|true=>v|false=>A5d a j)=if j=d then v else A5d a j
  cases h:Nat.beq d j with
  |true=>rw[if_pos (A3Q h).symm]
  |false=>rw[if_neg λe=>Nat.ne_of_beq_eq_false h e.symm]
 |(e,w)::r=>by
  funext j
  have ih:=congrFun (get_put a d v r) j;show A0y a (match Nat.beq e d with|true=>(d,v)::r|false=>(e,w)::C4k d v r) j=if j=d then v else A0y a ((e,w)::r) j
  cases h:Nat.beq e d with
  |true =>
   obtain rfl:=A3Q h;show(match Nat.beq e j with|true=>v|false=>A0y a r j)=if j=e then v else(match Nat.beq e j with|true=>w|false=>A0y a r j)
   cases h2:Nat.beq e j with
   |true=>rw[if_pos (A3Q h2).symm]
   |false=>rw[if_neg λx=>Nat.ne_of_beq_eq_false h2 x.symm]
  |false =>
   show(match Nat.beq e j with|true=>w|false=>A0y a (C4k d v r) j)=if j=d then v else(match Nat.beq e j with|true=>w|false=>A0y a r j)
   cases h2:Nat.beq e j with
   |true=>rw[if_neg λx=>Nat.ne_of_beq_eq_false h ((A3Q h2).trans x)]
   |false=>exact ih
def D3g(d:Option Nat)(v:DV)(l:Tl)(k:Tl->Bool):Bool:=match d with
 |some d=>E0r d v l k
 |none=>k l
abbrev B1o:=Nat->List DV->Hp->Nat->(DV->Hp->Nat->Bool)->Bool
def C4s(call:B1o)(T:Tm)(H:Hp)(c:Nat)(k:DV->Hp->Nat->Bool):IOp->Bool
 |.pur f=>match fev H (ev T) f with
  |some v=>fcV v λv=>k v H c
  |none=>false
 |.new f=>match aev (ev T) f with
  |some (m,b)=>fcN (c+1) λc'=>k (mkv c m) (H.upd c b) c'
  |none=>false
 |.eff f=>match eev H c (ev T) f with
  |some (v,H',c')=>fcV v λv=>fcN c' λc'=>k v H' c'
  |none=>false
 |.call f args=>call f (args.map (ev T)) H c k
 |.callv x args=>match ev T x with
  |.func f a c'=>call f (a++args.map (ev T)++c') H c k
  |_=>false
abbrev Kn:=Tl->Hp->Nat->Bool
def evR(call:B1o)(a:List DV)(k:Kn):List IOper->Tl->Hp->Nat->Bool
 |[],l,H,c=>k l H c
 |o::os,l,H,c=>match X2 (A0y a l) o.guard with
  |some true=>C4s call (A0y a l) H c (λv H' c'=>D3g o.dst v l λl'=>evR call a k os l' H' c') o.op
  |some false=>D3g o.dst (.tup []) l λl'=>evR call a k os l' H c
  |none=>false
def F1d(call:B1o)(T:Tm)(H:Hp)(c:Nat)(o:IOper)(k:DV->Hp->Nat->Bool):Bool :=
 match X2 T o.guard with
 |some true=>C4s call T H c k o.op
 |some false=>k (.tup []) H c
 |none=>false
def agE(io:List IOper)(c0:Nat)(s:St)(j:Nat):Bool:=match io[j]? with
 |some o=>match A4x s (c0+j) o with
  |some (v,ob)=>(match o.dst with
   |some d=>N7 (s.T d) v
   |none=>true)&&C0k (s.H (c0+j)) ob
  |none=>false
 |none=>false
def evD(call:B1o)(a:List DV)(k:Kn)(io:List IOper)(c0:Nat):List (Nat × Option (List Nat))->Tl->Hp->Nat->Bool
 |[],l,H,c=>k l H c
 |(i,none)::r,l,H,c=>match io[i]? with
  |some o=>match A4x ⟨A0y a l,H,c⟩ (c0+i) o with
   |some (v,ob)=>fcV v λv=>D3g o.dst v l λl'=>evD call a k io c0 r l' (A4d H (c0+i) ob) c
   |none=>false
  |none=>false
 |(i,some pend)::r,l,H,c=>match io[i]? with
  |some o=>F1d call (A0y a l) (K3 H ((pend.filter (isNew io)).map (c0 + ·))) c o λv H' c'=>D3g o.dst v l λl' =>
    (pend.all λj=>agE io c0 ⟨A0y a l',O9 ((pend.filter (isNew io)).map (c0 + ·)) H H',c'⟩ j) &&
    evD call a k io c0 r l' (O9 ((pend.filter (isNew io)).map (c0 + ·)) H H') c'
  |none=>false
abbrev Ke:=Exit->Tl->Hp->Nat->Bool
def lpE(body:Tl->Hp->Nat->Ke->Bool)(k:Ke):Nat->Tl->Hp->Nat->Bool
 |0,_,_,_=>false
 |n+1,l,H,c=>body l H c λe l' H' c'=>match e with
  |.normal=>lpE body k n l' H' c'
  |e=>k e l' H' c'
def evI(call:B1o)(F:Nat)(a:List DV):IC->Tl->Hp->Nat->Ke->Bool
 |.skip,l,H,c,k=>k .normal l H c
 |.reg ops,l,H,c,k=>evR call a (k .normal) ops l H c
 |.drw n d,l,H,c,k=>fcN (c+n) λc'=>evD call a (k .normal) d.ops c d.plan l H c'
 |.seq x y,l,H,c,k=>evI call F a x l H c λe l' H' c'=>match e with
  |.normal=>evI call F a y l' H' c' k
  |e=>k e l' H' c'
 |.cond o x y,l,H,c,k=>match ev (A0y a l) o with
  |.bool b=>match b with
   |true=>evI call F a x l H c k
   |false=>evI call F a y l H c k
  |_=>false
 |.blk id x,l,H,c,k=>evI call F a x l H c λe l' H' c'=>match e with
  |.exit i=>if i=id then k .normal l' H' c' else k (.exit i) l' H' c'
  |e=>k e l' H' c'
 |.loop x,l,H,c,k=>lpE (evI call F a x) k F l H c
 |.exit id,l,H,c,k=>k (.exit id) l H c
 |.ret,l,H,c,k=>k .ret l H c
 |.bad,_,_,_,_=>false
 |.rg _,_,_,_,_=>false
def clE(P:Program)(F:Nat)(O:Nat->List DV->Option DV):Nat->B1o
 |0,_,_,_,_,_=>false
 |n+1,f,args,H,c,k=>match O f args with
  |some r=>k r H c
  |none=>match(P.funcs[f]?).bind (B1q P) with
   |some i=>Nat.ble args.length i.n&&evI (clE P F O n) F args i.body [] H c λe l H' c'=>match e with
    |.normal=>(match A7m ⟨A0y args l,H',c'⟩ i.res with
     |some v=>k v H' c'
     |none=>false)
    |.ret=>(match A7m ⟨A0y args l,H',c'⟩ i.res with
     |some v=>k v H' c'
     |none=>false)
    |_=>false
   |none=>false
section
variable {P:Program} {call:B1o} {F N:Nat} {a:List DV}
def B1g(P:Program)(call:B1o):Prop:=∀f args H c k,call f args H c k=true->AC P f args H c λv H' c'=>k v H' c'=true
theorem B2g{d:Option Nat}{v:DV}{l:Tl}{k:Tl->Bool}(h:D3g d v l k=true):∃l',k l'=true/\A0y a l'=J3 (A0y a l) d v:=by
 cases d with
 |none=>exact⟨l,h,rfl⟩
 |some d=>exact⟨C4k d v l,(C7q d v l k).symm.trans h,get_put a d v l⟩
theorem C7z(hc:B1g P call){T:Tm}{H:Hp}{c:Nat}{k:DV->Hp->Nat->Bool}{K:DV->Hp->Nat->Prop}(hk:∀v H c,k v H c=true->K v H c):∀ {i:IOp},C4s call T H c k i=true->V0 P ⟨T,H,c⟩ K i
 |.pur f,h=>by
  simp only[C4s]at h;simp only[V0];split at h
  ·rename_i v hv;rw[C5r]at h;simp only[hv];exact hk _ _ _ h
  ·cases h
 |.new f,h=>by
  simp only[C4s]at h;simp only[V0];split at h
  ·rename_i m b hv;rw[B0x]at h;simp only[hv];exact hk _ _ _ h
  ·cases h
 |.eff f,h=>by
  simp only[C4s]at h;simp only[V0];split at h
  ·rename_i v H' c' hv;rw[C5r,B0x]at h;simp only[hv];exact hk _ _ _ h
  ·cases h
 |.call f args,h=>(hc _ _ _ _ _ h).mono hk
 |.callv x args,h=>by
  simp only[C4s]at h;simp only[V0];split at h
  ·rename_i f a c hv;simp only[hv];exact(hc _ _ _ _ _ h).mono hk
  ·cases h
theorem C5t(hc:B1g P call){k:Kn}{Q:St->Prop}(hk:∀l H c,k l H c=true->Q ⟨A0y a l,H,c⟩):∀(os:List IOper) (l:Tl) (H:Hp) (c:Nat),evR call a k os l H c=true->rwp P Q os ⟨A0y a l,H,c⟩
 |[],l,H,c,h=>hk l H c h
 |o::os,l,H,c,h=>by
  simp only[evR]at h;unfold rwp;split at h
  ·rename_i hw;simp only[hw];exact C7z hc (λv H c h=>by
    obtain⟨l',h1,h2⟩:=B2g (a:=a) h;rw[<- h2];exact C5t hc hk os _ _ _ h1) h
  ·rename_i hw;simp only[hw];obtain⟨l',h1,h2⟩:=B2g (a:=a) h;rw[<- h2];exact C5t hc hk os _ _ _ h1
  ·cases h
theorem E3b(hc:B1g P call){T:Tm}{H:Hp}{c:Nat}{o:IOper}{k:DV->Hp->Nat->Bool}{K:DV->Hp->Nat->Prop}(hk:∀v H c,k v H c=true->K v H c)(h:F1d call T H c o k=true):C2p P ⟨T,H,c⟩ o K:=by
 unfold F1d at h;unfold C2p;split at h
 ·rename_i hw;simp only[hw];exact C7z hc hk h
 ·rename_i hw;simp only[hw];exact hk _ _ _ h
 ·cases h
theorem F1x{io:List IOper}{c0:Nat}{s:St}{j:Nat}(h:agE io c0 s j=true):A5x io c0 s j:=by
 unfold agE at h;unfold A5x;split at h
 ·rename_i o ho;split at h
  ·rename_i v ob hv;simp only[ho,hv];rw[A0G]at h;refine⟨λd hd=>?_,D4u _ _ h.2⟩;have h1:=h.1;rw[hd]at h1;exact B3n _ _ h1
  ·cases h
 ·cases h
theorem D9o{io:List IOper}{c0:Nat}{s:St}:∀ {l:List Nat},l.all (λj=>agE io c0 s j)=true->A1g io c0 s l
 |[],_=>trivial
 |j::l,h=>by
  rw[A2Q,A0G]at h;exact⟨F1x h.1,D9o h.2⟩
theorem C5u(hc:B1g P call){k:Kn}{Q:St->Prop}(hk:∀l H c,k l H c=true->Q ⟨A0y a l,H,c⟩){io:List IOper}{c0:Nat}:∀(p:List (Nat × Option (List Nat))) (l:Tl) (H:Hp) (c:Nat),evD call a k io c0 p l H c=true->dwp P Q io c0 p ⟨A0y a l,H,c⟩
 |[],l,H,c,h=>hk l H c h
 |(i,none)::r,l,H,c,h=>by
  simp only[evD]at h;unfold dwp;split at h
  ·rename_i o ho;split at h
   ·rename_i v ob hv;rw[C5r]at h;simp only[ho,hv];obtain⟨l',h1,h2⟩:=B2g (a:=a) h;rw[<- h2];exact C5u hc hk r _ _ _ h1
   ·cases h
  ·cases h
 |(i,some pend)::r,l,H,c,h=>by
  simp only[evD]at h;unfold dwp;split at h
  ·rename_i o ho;simp only[ho];refine E3b hc (λv H c h=>?_) h;obtain⟨l',h1,h2⟩:=B2g (a:=a) h;rw[A0G]at h1;rw[<- h2];exact⟨D9o h1.1,C5u hc hk r _ _ _ h1.2⟩
  ·cases h
theorem IW.seq{x y:IC}{s:St}{Q:Exit->St->Prop}(h:IW P N x s (B1h (λs'=>IW P N y s' Q) Q)):IW P N (.seq x y) s Q:=by
 intro hm c hc;cases c<;>simp only[Go.Eng.trC]at hc<;>(try(cases hc;done))
 case seq a b =>
  split at hc
  ·rename_i x' y' hx hy;cases hc;refine .seq ((h hm a hx).mono λe s' q=>?_);cases e with
   |normal=>exact q hm b hy
   |_=>exact q
  ·cases hc
 all_goals(repeat'(split at hc))<;>(try(cases hc;done))
 all_goals simp at hc
theorem IW.blk{id:Nat}{x:IC}{s:St}{Q:Exit->St->Prop}(h:IW P N x s (C6i id Q)):IW P N (.blk id x) s Q:=by
 intro hm c hc;cases c<;>simp only[Go.Eng.trC]at hc<;>(try(cases hc;done))
 case block i b =>
  simp only[A0T]at hc;obtain⟨x',hx,he⟩:=hc;cases he;exact .block (h hm b hx)
 all_goals(repeat'(split at hc))<;>(try(cases hc;done))
 all_goals simp at hc
theorem F0t(hc:B1g P call):∀(ic:IC) (l:Tl) (H:Hp) (c:Nat) (k:Ke) (Q:Exit->St->Prop),(∀e l H c,k e l H c=true->Q e ⟨A0y a l,H,c⟩)->evI call F a ic l H c k=true->IW P N ic ⟨A0y a l,H,c⟩ Q:=by
 intro ic
 induction ic with
 |skip=>intro l H c k Q hk h;exact IW.of (hk _ _ _ _ h)
 |reg ops=>intro l H c k Q hk h;exact IW.of (C5t hc (hk .normal) ops l H c h)
 |drw n d =>
  intro l H c k Q hk h;simp only[evI,B0x]at h;exact IW.of (C5u hc (hk .normal) _ _ _ _ h)
 |seq x y ihx ihy =>
  intro l H c k Q hk h;simp only[evI]at h;refine IW.seq (ihx l H c _ (B1h _ Q) (λe l' H' c' h=>?_) h);cases e with
  |normal=>exact ihy l' H' c' k Q hk h
  |_=>exact hk _ _ _ _ h
 |cond o x y ihx ihy =>
  intro l H c k Q hk h;simp only[evI]at h;split at h
  ·rename_i b hb;refine IW.of ?_;unfold wpI;simp only[hb];cases b with
   |true=>exact⟨λ_=>ihx l H c k Q hk h,λe=>(by cases e)⟩
   |false=>exact⟨λe=>(by cases e),λ_=>ihy l H c k Q hk h⟩
  ·cases h
 |blk id x ih =>
  intro l H c k Q hk h;simp only[evI]at h;refine IW.blk (ih l H c _ (C6i id Q) (λe l' H' c' h=>?_) h);cases e with
  |exit i =>
   simp only[C6i]at h ⊢;by_cases e:i=id
   ·rw[if_pos e]at h ⊢;exact hk _ _ _ _ h
   ·rw[if_neg e]at h ⊢;exact hk _ _ _ _ h
  |_=>exact hk _ _ _ _ h
 |loop x ih =>
  intro l H c k Q hk h;refine IW.loop (λn s => ∃l,s.T=A0y a l/\lpE (evI call F a x) k n l s.H s.c=true) F ⟨l,rfl,h⟩ λn s ⟨l,e,h⟩=>?_;obtain⟨T,H,c⟩:=s;simp only at e h;subst e;cases n with
  |zero=>cases h
  |succ n =>
   refine ih l H c _ (B1h _ Q) (λe l' H' c' h=>?_) h;cases e with
   |normal=>exact⟨n,A1Q _,l',rfl,h⟩
   |_=>exact hk _ _ _ _ h
 |exit id=>intro l H c k Q hk h;exact IW.of (hk _ _ _ _ h)
 |ret=>intro l H c k Q hk h;exact IW.of (hk _ _ _ _ h)
 |bad=>intro l H c k Q hk h;cases h
 |rg r=>intro l H c k Q hk h;cases h
def F2b(P:Program)(O:Nat->List DV->Option DV):Prop:=∀f args r,O f args=some r->PC P f args r
theorem D8v(hm:P.follows .mixedOrders=true){O:Nat->List DV->Option DV}(hO:F2b P O):∀n,B1g P (clE P F O n)
 |0,_,_,_,_,_,h=>y8
 |n+1,f,args,H,c,k,h=>by
  simp only[clE]at h;split at h
  ·rename_i r hr;exact((hO f args r hr).at H c).mono λv H' c' ⟨h1,h2,h3⟩=>by rw[h1,h2,h3];exact h
  ·split at h
   ·rename_i i hi;rw[A0G]at h;refine AC.of hm (i:=i) hi (A0F h.1) (F0t (a:=args) (D8v hm hO n) _ [] H c _ _ (λe l H' c' h=>?_) h.2);cases e<;>simp only[C4f]at h ⊢ <;> (try(cases h;done));all_goals(split at h<;>simp_all)
   ·cases h
theorem PC.run(hm:P.follows .mixedOrders=true)(O:Nat->List DV->Option DV)(hO:F2b P O)(F n f:Nat)(args:List DV)(r:DV)(na:DV.nlL args=true)(nr:r.nl=true)(h:clE P F O n f args nil 0 (λv _ _=>N7 v r)=true):PC P f args r :=
 ⟨na,nr,(D8v hm hO n _ _ _ _ _ h).mono λv H' c' e=>B3n _ _ e⟩
end
end Go.Sym
namespace Go.Pb
variable [Go.Sym.Tab]
open Go.Sym
def F6t:List (List UInt8):=[[50,49,52,55,52,56,51,54,52,55],[49,48,48,48,48,48,48],[54,53,53,51,54],[49,48,48,48,48,48]]
def bqB(c:UInt8):Bool := !ptB c&&decide (c.toNat≠61)&&decide (c.toNat≠38)&&decide (c.toNat≠124)
def bd:List UInt8->Bool
 |[]=>true
 |c::_=>bqB c
theorem C9s{c:UInt8}(h:bqB c=true):ptB c=false/\c.toNat≠61/\c.toNat≠38/\c.toNat≠124:=by
 simp_all[bqB]
theorem E5s{r:List UInt8}(hr:bd r=true):∀c q,r=c::q->ptB c=false:=λc q e=>by subst e;exact(C9s hr).1
theorem F6u{r:List UInt8}(hr:bd r=true):∀c q,r=c::q->dgB c=false:=λc q e=>by
 have:=E5s hr c q e
 grind[ptB]
theorem D9i{c d:UInt8}{q:List UInt8}(h:bd (d::q)=true):A9x c d=false:=by
 obtain⟨h0,h1,h2,h3⟩:=C9s h;simp[A9x];omega
theorem D4g{p:UInt8->Bool}:∀r:List UInt8,(∀c q,r=c::q->p c=false)->F3 p r=0
 |[],_=>rfl
 |c::r,h=>by simp_all[F3]
theorem B3i{p:UInt8->Bool}{r:List UInt8}(hr:∀c q,r=c::q->p c=false):∀s:List UInt8,F3 p (s.take (F3 p s)++r)=F3 p s
 |[]=>by grind[D4g]
 |c::s=>by
  by_cases h:p c=true
  ·have e:F3 p (c::s)=F3 p s+1:=by simp only[F3];rw[if_pos h]
   rw[e,A0Y,List.cons_append];simp only[F3];rw[if_pos h,B3i hr s]
  simp_all[D4g]
theorem E0l{r:List UInt8}(hr:bd r=true):∀ {s:List UInt8},I4 s≠0->I4 (s.take (I4 s)++r)=I4 s
 |[],h=>absurd rfl h
 |[c],h=>by
  have ho:B0i c=true:=by
   grind[I4]
  have e:I4 [c]=1:=by simp[I4,ho]
  rw[e,A0Y,A1J,List.cons_append,List.nil_append]
  match r,hr with
  |[],_=>omega
  |d::r,hr=>simp only[I4];rw[if_neg (by grind[D9i]),if_pos ho]
 |c::d::q,h=>by
  by_cases h2:A9x c d=true
  ·simp_all[I4]
  ·have ho:B0i c=true:=by
    simp_all[B0i,I4];omega
   have e:I4 (c::d::q)=1:=by simp_all[I4]
   rw[e,A0Y,A1J,List.cons_append,List.nil_append]
   match r,hr with
   |[],_=>simp_all[I4]
   |d::r,hr=>simp only[I4];rw[if_neg (by grind[D9i]),if_pos ho]
theorem D1c{s r:List UInt8}(h:(A7 s).err=0)(hr:bd r=true):A7 (s.take (A7 s).n++r)=A7 s:=by
 cases s with
 |nil=>trivial
 |cons c q =>
  obtain⟨hn1,hn2⟩:=A8s h;obtain⟨k,hk⟩:∃k,(A7 (c::q)).n=k+1:=⟨(A7 (c::q)).n-1,by omega⟩;have hform:(c::q).take (A7 (c::q)).n++r=c::(q.take k++r):=j8
  have htk:(c::(q.take k++r)).take (A7 (c::q)).n=(c::q).take (A7 (c::q)).n:=j8
  have hp:=B3i (p:=ptB) (E5s hr) (c::q);have hg:=B3i (p:=dgB) (F6u hr) (c::q);rw[hform];by_cases hl:ltB c=true
  ·by_cases h12:12<F3 ptB (c::q)
   ·rw[A7,if_pos hl,if_pos h12]at h;simp[nxE]at h
   simp_all[A7]
  ·by_cases hd:dgB c=true
   ·by_cases h1:1<F3 dgB (c::q)/\c.toNat=48
    ·simp_all[A7,nxE]
    ·by_cases h2:2147483647<Y3 ((c::q).take (F3 dgB (c::q)))
     ·simp_all[A7,nxE]
     ·have e:A7 (c::q)=⟨3,[],(Y3 ((c::q).take (F3 dgB (c::q))):Int),F3 dgB (c::q),0⟩:=by rw[A7,if_neg hl,if_pos hd,if_neg h1,if_neg h2]
      have en:(A7 (c::q)).n=F3 dgB (c::q):=by rw[e]
      simp_all[A7]
   ·by_cases h34:c.toNat=34
    ·cases hq:quM q with
     |none=>simp_all[A7,nxE]
     |some x =>
      obtain⟨t,m⟩:=x;by_cases h32:32<t.length
      ·rw[A7,if_neg hl,if_neg hd,if_pos h34,hq]at h;simp only at h;rw[if_pos h32]at h;simp[nxE]at h
      simp_all[A7,C4j]
    ·by_cases hs:I4 (c::q)=0
     ·simp_all[A7,nxE]
     ·have e:A7 (c::q)=⟨5,(c::q).take (I4 (c::q)),0,I4 (c::q),0⟩:=by rw[A7,if_neg hl,if_neg hd,if_neg h34,if_neg hs]
      have en:(A7 (c::q)).n=I4 (c::q):=by rw[e]
      have hsg:=E0l hr hs
      simp_all[A7]
abbrev T3:=Int × List UInt8 × Int
def st3(t:Tok):T3:=(t.kind,t.text,t.value)
def Lk(r:List UInt8)(tr:List T3):Prop:=∀(s:List UInt8) (k:Nat),s.drop k=r->∃l,A3z s (k+skM false r) l/\l.map st3=tr
theorem D9r:Lk [] []:=by
 intro s k hs;have hl:s.length<=k:=by
  simp_all
 exact⟨[],z6,rfl⟩
theorem D9q{c:UInt8}{r:List UInt8}{tr:List T3}(hc:A4j c=true)(h:Lk r tr):Lk (c::r) tr:=by
 intro s k hs;have e:skM false (c::r)=skM false r+1:=by simp only[skM];rw[if_pos hc]
 rw[e];obtain⟨l,h1,h2⟩:=h s (k+1) (by rw[<- A3E,hs];rfl)<;>grind
theorem C6p{a r:List UInt8}{K V:Int}{T:List UInt8}{tr:List T3}(hx:A7 (a++r)=⟨K,T,V,a.length,0⟩)(ha:a≠[])(h:Lk r tr):Lk (a++r) ((K,T,V)::tr):=by
 intro s k hs;have h0:skM false (a++r)=0:=E1h (by grind);rw[h0,A3C];have hl:k<s.length:=by
  have:=congrArg List.length hs;have h2:0<a.length:=by cases a with|nil=>exact absurd rfl ha|cons _ _=>simp
  grind
 have hd:s.drop (k+a.length)=r:=by grind[List.drop_drop,List.drop_left]
 obtain⟨l,h1,h2⟩:=h s _ hd;refine⟨nxT (A7 (s.drop k)) (k:Int)::l,⟨hl,j8,rfl,by grind⟩,?_⟩;rw[A0P,h2,hs,hx];rfl
theorem A3z.uniq{s:List UInt8}:∀ {k:Nat} {l l':List Tok},A3z s k l->A3z s k l'->l=l'
 |k,[],[],_,_=>rfl
 |k,[],t::l',h,h'=>by have h:s.length<=k:=h;have:=h'.1;omega
 |k,t::l,[],h,h'=>by have h':s.length<=k:=h';have:=h.1;omega
 |k,t::l,t'::l',h,h'=>by
  obtain⟨-, -,h3,h4⟩:=h;obtain⟨-, -,g3,g4⟩:=h';rw[h3,g3,A3z.uniq h4 g4]
def Pc(b:Bool)(p:List UInt8)(tp:List T3):Prop:=∀r tr,(b=true->bd r=true)->Lk r tr->Lk (p++r) (tp++tr)
def B5u(b:Bool):Nat->List UInt8->Option (List T3)
 |0,_=>none
 |_+1,[]=>some []
 |f+1,c::s=>if A4j c=true then B5u b f s else
  let x:=A7 (c::s)
  let q:=(c::s).drop x.n
  if x.err=0/\1<=x.n/\x.n<=(c::s).length/\bd q=true/\(q=[]->b=true) then(B5u b f q).map λl=>(x.kind,x.text,x.value)::l else none
theorem F1s{q r:List UInt8}(h:bd q=true)(h2:q=[]->bd r=true):bd (q++r)=true:=by
 cases q with
 |nil=>grind
 |cons c q=>exact h
theorem B0p{b:Bool}:∀(f:Nat) (s:List UInt8) (ts:List T3),B5u b f s=some ts->Pc b s ts
 |0,s,ts,h=>l9
 |f+1,[],ts,h=>by
  simp only[B5u]at h;cases h;exact λr tr _ hr=>hr
 |f+1,c::s,ts,h=>by
  unfold B5u at h;split at h
  ·rename_i hc;have ih:=B0p f s ts h;intro r tr hb hr;exact D9q hc (ih r tr hb hr)
  ·dsimp only at h;split at h
   ·rename_i hx;obtain⟨h1,h2,h3,h4,h5⟩:=hx;obtain⟨l,hl,rfl⟩:=A0T.1 h;have ih:=B0p f _ l hl;intro r tr hb hr;have hbd:bd ((c::s).drop (A7 (c::s)).n++r)=true:=F1s h4 λe=>hb (h5 e);have hn:=D1c h1 hbd;rw[<- A0K,A1P]at hn;have hlen:((c::s).take (A7 (c::s)).n).length=(A7 (c::s)).n:=by rw[A1C];omega
    have:=C6p (a:=(c::s).take (A7 (c::s)).n) (r:=(c::s).drop (A7 (c::s)).n++r) (K:=(A7 (c::s)).kind) (T:=(A7 (c::s)).text) (V:=(A7 (c::s)).value) (tr:=l++tr)
     (by rw[<- A0K,A1P,hn,hlen];revert h1;cases A7 (c::s);intro h1;simp only at h1;rw[h1]) (λe=>by rw[e]at hlen;simp at hlen;omega) (ih r tr hb hr)
    rw[<- A0K,A1P]at this;exact this
   grind
theorem Pc.app{b b':Bool}{p p':List UInt8}{t t':List T3}(h:Pc b p t)(h':Pc b' p' t')(hb:b=true->∀r,(b'=true->bd r=true)->bd (p'++r)=true):Pc b' (p++p') (t++t'):=by
 intro r tr hr hl;rw[A0K,A0K];exact h _ _ (λe=>hb e r hr) (h' r tr hr hl)
theorem Pc.lit{b b':Bool}{p:List UInt8}{c:UInt8}{q:List UInt8}{t t':List T3}(h:Pc b p t)(h':Pc b' (c::q) t')(hc:bqB c=true):Pc b' (p++c::q) (t++t'):=h.app h' λ_ _ _=>hc
theorem Pc.pre{b':Bool}{p p':List UInt8}{t t':List T3}(h:Pc false p t)(h':Pc b' p' t'):Pc b' (p++p') (t++t'):=h.app h' λe=>j8
theorem A7r{c:UInt8}(h1:B0i c=true)(h2:(ltB c||dgB c||A4j c)=false)(h3:c.toNat≠34/\c.toNat≠35/\c.toNat≠60/\c.toNat≠62/\c.toNat≠61/\c.toNat≠33/\c.toNat≠38/\c.toNat≠124):Pc false [c] [(5,[c],0)]:=by
 intro r tr _ hr;have h2':ltB c=false/\dgB c=false/\A4j c=false:=by simpa[and_assoc] using h2
 obtain⟨a1,a2,a3⟩:=h2';have ht:∀d,A9x c d=false:=λd=>by
  unfold A9x;rw[Bool.eq_false_iff];intro h4;simp at h4;omega
 have hs:I4 (c::r)=1:=by
  cases r with
  |nil=>simp only[I4];rw[if_pos h1]
  |cons d r=>simp only[I4];rw[if_neg (by rw[ht];simp),if_pos h1]
 have hn:A7 (c::r)=⟨5,[c],0,1,0⟩:=by
  rw[A7,if_neg (by rw[a1];simp),if_neg (by rw[a2];simp),if_neg h3.1,hs,if_neg (by decide)];rfl
 grind[C6p]
theorem E8p{d:UInt8}{p:List UInt8}{b:Bool}{t:List T3}(h:Pc b (d::p) t)(hd:d.toNat≠61):Pc b (33::d::p) ((5,[33],0)::t):=by
 intro r tr hb hr;have hn:A7 (33::d::(p++r))=⟨5,[33],0,1,0⟩:=by
  have hs:I4 (33::d::(p++r))=1:=by
   simp only[I4];rw[if_neg (by grind[A9x]),if_pos (by rfl)]
  rw[A7,if_neg (by decide),if_neg (by decide),if_neg (by simp),hs,if_neg (by simp)];rfl
 exact C6p (a:=[33]) hn (by simp) (h r tr hb hr)
theorem Pc.toks{b:Bool}{s:List UInt8}{ts:List T3}(h:Pc b s ts)(h0:(J2 s).2.2=0):(J2 s).1.map st3=ts:=by
 have:=h [] [] (λ_=>rfl) D9r;rw[A1D,A1D]at this;obtain⟨l,h1,h2⟩:=this s 0 rfl;rw[A1F]at h1;rw[(A5h h0).2.uniq h1,h2]
theorem Pc.scan{b:Bool}{s:List UInt8}{ts:List T3}(h:Pc b s ts)(hl:s.length<=20000):(J2 s).2.2=0:=by
 have:=h [] [] (λ_=>rfl) D9r;rw[A1D,A1D]at this;obtain⟨l,h1,h2⟩:=this s 0 rfl;rw[A1F]at h1;rw[C0s hl h1]
def B7o(t:T3):Nat->List (List UInt8)->Int
 |_,[] => -1
 |k,x::l=>if((t.1==5||t.1==2)&&t.2.1==x)=true then(k:Int) else B7o t (k+1) l
def U6(t:T3)(l:List (List UInt8)):Int:=B7o t 0 l
section
variable {L:List Tok} {E:Int}
def Tk(L:List Tok)(s:Rd):List T3:=(L.drop s.i).map st3
theorem A4e{s:Rd}{t:T3}{q:List T3}(h:Tk L s=t::q):st3 (B1 L E s)=t/\(L.drop (s.i+1)).map st3=q/\s.i<L.length:=by
 have hl:s.i<L.length:=by
  have:=congrArg List.length h;simp[Tk]at this;omega
 grind[List.drop_eq_getElem_cons,Tk,B1]
theorem D3t{s:Rd}(h:Tk L s=[]):B1 L E s=⟨0,[],0,E⟩:=by
 simp_all[Tk,B1]
theorem A1k{s:Rd}{t:T3}{q:List T3}{x:List UInt8}(h:Tk L s=t::q)(ho:okR s=true):isR L E s x=((t.1==5||t.1==2)&&t.2.1==x):=by
 obtain⟨h1, -, -⟩:=A4e (E:=E) h;unfold isR;rw[ho,A2D, <- h1];rfl
theorem B4m{s:Rd}{t:T3}{q:List T3}{k:Int}(h:Tk L s=t::q)(ho:okR s=true):N9 L E s k=(t.1==k):=by
 obtain⟨h1, -, -⟩:=A4e (E:=E) h;unfold N9;rw[ho,A2D, <- h1];rfl
theorem C9w{s:Rd}{t:T3}{q:List T3}(h:Tk L s=t::q)(ho:okR s=true):∀(l:List (List UInt8)) (k:Nat),A2i L E s k l=B7o t k l
 |[],k=>rfl
 |x::l,k=>by
  rw[A2i,B7o,A1k h ho,C9w h ho l (k+1)]
theorem V6{s:Rd}{t:T3}{q:List T3}{l:List (List UInt8)}(h:Tk L s=t::q)(ho:okR s=true):B8 L E s l=U6 t l:=C9w h ho l 0
theorem B9k{s:Rd}(h:∀x,isR L E s x=false):∀(l:List (List UInt8)) (k:Nat),A2i L E s k l = -1
 |[],k=>rfl
 |x::l,k=>by rw[A2i,if_neg (by grind)];exact B9k h l (k+1)
theorem C3f{s:Rd}{l:List (List UInt8)}(h:okR s=false):B8 L E s l = -1:=B9k (λx=>by grind[isR]) l 0
theorem C9v{s:Rd}{l:List (List UInt8)}(h:Tk L s=[]):B8 L E s l = -1:=B9k (λx=>by grind[isR,D3t]) l 0
theorem A1s{t:T3}(h5:t.1≠5)(h2:t.1≠2):∀(l:List (List UInt8)) (k:Nat),B7o t k l = -1
 |[],k=>rfl
 |x::l,k=>by
  rw[B7o,if_neg (by grind)];exact A1s h5 h2 l (k+1)
def B2b(n:Int)(rest:List T3):Prop:=∀t q,rest=t::q->U6 t C9<0\/B0 (12+U6 t C9)<n
theorem B2b.up{n m:Int}{rest:List T3}(h:B2b n rest)(hm:n<=m):B2b m rest:=λt q e=>(h t q e).imp id λh=>a8
theorem C8r{n:Int}{e:Ex}{s:Rd}{rest:List T3}(h:okR s=true->Tk L s=rest)(hn:B2b n rest):Lop L E n e s (e,s):=by
 apply Lop.stop;cases ho:okR s with
 |false=>grind[C3f]
 |true =>
  have ht:=h ho;cases rest with
  |nil=>grind[C9v]
  |cons t q =>
   rw[V6 ht ho];exact(hn t q rfl).imp id λh=>a8
inductive TyE (Nm:Int->List UInt8->Prop):Bool->Ex->Nat->Prop where
 |num {v p:Int}:TyE Nm true (.mk 1 v [] [] p) 1
 |var {n:List UInt8} {p:Int}:Nm 6 n->TyE Nm true (.mk 2 0 n [] p) 1
 |word0 {k:Nat} {ty:Bool} {p:Int}:(k,ty)∈[(0,false),(1,false),(2,true),(3,true)]->TyE Nm ty (.mk (A3d.getD k 0) 0 [] [] p) 1
 |word1 {k:Nat} {nk:Int} {ty:Bool} {n:List UInt8} {p:Int}:(k,ty,nk)∈[(4,false,(1:Int)),(5,false,9),(6,true,7)]->Nm nk n->TyE Nm ty (.mk (A3d.getD k 0) 0 n [] p) 1
 |neg {a:Ex} {p:Int} {w:Nat}:TyE Nm true a w->TyE Nm true (.mk 10 0 [] [a] p) (w+1)
 |not {a:Ex} {p:Int} {w:Nat}:TyE Nm false a w->TyE Nm false (.mk 11 0 [] [a] p) (w+1)
 |bin {k w w2:Nat} {ta ty:Bool} {a b:Ex} {p:Int}:k<13->(ta=decide (k<11))->(ty=decide (k<5))->TyE Nm ta a w->TyE Nm ta b w2->TyE Nm ty (.mk (12+(k:Int)) 0 [] [a,b] p) (w+w2+1)
inductive GX (Nm:Int->List UInt8->Prop):Int->Bool->Nat->Nat->Nat->List T3->Prop where
 |num {v:Int}:GX Nm 6 true 0 1 1 [(3,[],v)]
 |var {n:List UInt8}:Nm 6 n->GX Nm 6 true 0 1 1 [(1,n,0)]
 |word0 {k:Nat} {ty:Bool}:(k,ty)∈[(0,false),(1,false),(2,true),(3,true)]->GX Nm 6 ty 0 1 1 [(2,I0.getD k [],0)]
 |word1 {k:Nat} {nk:Int} {ty:Bool} {n:List UInt8}:(k,ty,nk)∈[(4,false,(1:Int)),(5,false,9),(6,true,7)]->Nm nk n->GX Nm 6 ty 0 1 1 [(2,I0.getD k [],0),(1,n,0)]
 |neg {d c w:Nat} {a:List T3}:GX Nm 6 true d c w a->GX Nm 6 true (d+1) c (w+1) ((5,[45],0)::a)
 |not {d c w:Nat} {a:List T3}:GX Nm 6 false d c w a->GX Nm 6 false (d+1) c (w+1) ((5,[33],0)::a)
 |par {m:Int} {ty:Bool} {d c w:Nat} {a:List T3}:GX Nm m ty d c w a->GX Nm 6 ty (d+1) c w ((5,[40],0)::(a++[(5,[41],0)]))
 |bin {k:Nat} {m1 m2:Int} {ta ty:Bool} {d1 d2 c1 c2 w1 w2:Nat} {a b:List T3}:k<13->(ta=decide (k<11))->(ty=decide (k<5))->B0 (12+(k:Int))<m1->B0 (12+(k:Int))<m2 ->
   GX Nm m1 ta d1 c1 w1 a->GX Nm m2 ta d2 c2 w2 b->GX Nm (B0 (12+(k:Int))) ty (max d1 d2) (c1+c2) (w1+w2+1) (a++(5,C9.getD k [],0)::b)
def Res(L:List Tok)(Nm:Int->List UInt8->Prop)(s:Rd)(r:Ex × Rd)(rest:List T3)(d c:Nat)(ty:Bool)(w:Nat):Prop :=
 (s.par+d<=16->s.ops+c<=32->okR r.2=true)/\(okR r.2=true->Tk L r.2=rest/\TyE Nm ty r.1 w/\r.2.par=s.par/\r.2.ops=s.ops+c)
def PzU(L:List Tok)(E:Int)(Nm:Int->List UInt8->Prop)(ts:List T3)(d c:Nat)(ty:Bool)(w:Nat):Prop:=∀s rest,okR s=true->Tk L s=ts++rest->∃r,Un L E s r/\Res L Nm s r rest d c ty w
def Pz(L:List Tok)(E:Int)(Nm:Int->List UInt8->Prop)(m:Int)(ts:List T3)(d c:Nat)(ty:Bool)(w:Nat):Prop:=∀n,1<=n->n<=m->∀s rest,okR s=true->Tk L s=ts++rest->B2b n rest->∃r,Bin L E n s r/\Res L Nm s r rest d c ty w
variable {Nm:Int->List UInt8->Prop}
theorem F1q{n:Int}{s:Rd}{r:Ex × Rd}{rest:List T3}{d c w:Nat}{ty:Bool}(hn:n<=5)(h:Bin L E (n+1) s r)(hr:Res L Nm s r rest d c ty w)(ho:B2b n rest):Bin L E n s r :=
 Bin.go hn h (C8r (λh=>(hr.2 h).1) ho)
theorem Pz.of{m:Int}{ts:List T3}{d c w:Nat}{ty:Bool}(hm:m<=6)(h:∀s rest,okR s=true->Tk L s=ts++rest->B2b m rest->∃r,Bin L E m s r/\Res L Nm s r rest d c ty w):Pz L E Nm m ts d c ty w:=by
 intro n hn1 hnm s rest ho ht hno;obtain⟨k,hk⟩:∃k:Nat,n=m-k:=⟨(m-n).toNat,by omega⟩
 induction k generalizing n with
 |zero =>
  simp_all
 |succ k ih =>
  obtain⟨r,h1,h2⟩:=ih (n+1) (by omega) (by omega) (hno.up (by omega)) (by omega);exact⟨r,F1q (by omega) h1 h2 hno,h2⟩
theorem PzU.pz{ts:List T3}{d c w:Nat}{ty:Bool}(h:PzU L E Nm ts d c ty w):Pz L E Nm 6 ts d c ty w :=
 Pz.of (by omega) λs rest ho ht _=>by
  obtain⟨r,h1,h2⟩:=h s rest ho ht;exact⟨r,Bin.un (by omega) h1,h2⟩
theorem A7v{s:Rd}{n m e:Int}(h:n<=m):C6 L E s n m e=s:=by simp_all[C6,if_neg]
theorem D6t{s:Rd}{n m e:Int}(he:e≠0)(h:m<n):okR (C6 L E s n m e)=false:=by simp_all[C6,B2y]
theorem B3f{s s':Rd}(h:s'.i=s.i+1){t:T3}{q:List T3}(ht:Tk L s=t::q):Tk L s'=q:=by
 unfold Tk;rw[h];exact(A4e (E:=0) ht).2.1
theorem A8m{s:Rd}{t:T3}{q:List T3}(ho:okR s=true)(ht:Tk L s=t::q)(hp:U6 t Q4<0)(hk:0<=U6 t I0\/t.1=3\/t.1=1):
  ∃r,Un L E s r/\(s.ops+1<=32->U6 t I0<4->okR r.2=true)/\(s.ops+1<=32->4<=U6 t I0->∀n q',q=(1,n,0)::q'->okR r.2=true/\Tk L r.2=q'/\r.1=.mk (A3d.getD (U6 t I0).toNat 0) 0 n [] (B1 L E s).pos) /\
   (okR r.2=true->r.2.par=s.par/\r.2.ops=s.ops+1/\s.ops+1<=32 /\
    (U6 t I0<4->Tk L r.2=q/\r.1=(if 0<=U6 t I0 then .mk (A3d.getD (U6 t I0).toNat 0) 0 [] [] (B1 L E s).pos else if t.1=3 then .mk 1 t.2.2 [] [] (B1 L E s).pos else .mk 2 0 t.2.1 [] (B1 L E s).pos))):=by
 refine⟨N3 L E s,Un.prim (by rw[V6 ht ho];exact hp),?_⟩;obtain⟨h1,h2,h3⟩:=A4e (E:=E) ht;have hg:¬(B8 L E s I0<0/\N9 L E s 3=false/\N9 L E s 1=false):=by
  rw[V6 ht ho,B4m ht ho,B4m ht ho];rintro⟨a,b,c⟩;rcases hk with hk|hk|hk
  ·omega
  ·rw[hk]at b;cases b
  ·rw[hk]at c;cases c
 unfold N3;dsimp only;rw[if_neg hg,V6 ht ho];by_cases hop:s.ops+1<=32
 ·rw[A7v hop];have ho1:okR ({ s with ops:=s.ops+1 }:Rd)=true:=ho;rw[if_neg (by rw[ho1];simp)];have htn:Tk L (A5 { s with ops:=s.ops+1 })=q:=B3f (s:=s) rfl ht;have hon:okR (A5 { s with ops:=s.ops+1 })=true:=ho;by_cases h0:0<=U6 t I0
  ·rw[if_pos h0];by_cases h4:4<=U6 t I0
   ·rw[if_pos h4];refine⟨λ_ h=>a8,λ_ _ n q' hq=>?_,λhok=>⟨?_,?_,hop,λh=>by omega⟩⟩
    ·rw[hq]at htn;have e:A8 L E (A5 { s with ops:=s.ops+1 }) 1=(B1 L E (A5 { s with ops:=s.ops+1 }),A5 (A5 { s with ops:=s.ops+1 })):=by
      unfold A8;rw[if_neg (by rw[B4m htn hon];simp)]
     rw[e];refine⟨ho,B3f (s:=A5 { s with ops:=s.ops+1 }) rfl htn,?_⟩;have:=(A4e (E:=E) htn).1;have e2:(B1 L E (A5 { s with ops:=s.ops+1 })).text=n:=congrArg (λx=>x.2.1) this;rw[e2]
    ·rw[(A4f hok).2];rfl
    ·rw[(A4f hok).2];rfl
   ·rw[if_neg h4];refine⟨λ_ _=>hon,λ_ h=>absurd h h4,λhok=>⟨rfl,rfl,hop,λ_=>⟨htn,?_⟩⟩⟩;rw[if_pos h0]
  ·rw[if_neg h0];have e1:(B1 L E s).kind=t.1:=congrArg (λx=>x.1) h1;have e2:(B1 L E s).value=t.2.2:=congrArg (λx=>x.2.2) h1;have e3:(B1 L E s).text=t.2.1:=congrArg (λx=>x.2.1) h1;rw[e1,e2,e3];refine⟨λ_ _=>?_,λ_ h=>a8,λhok=>⟨?_,?_,hop,λ_=>⟨?_,?_⟩⟩⟩
   ·split<;>exact hon
   ·split<;>rfl
   ·split<;>rfl
   ·split<;>exact htn
   ·rw[if_neg h0];split<;>rfl
 simp_all[D6t];omega
theorem B7n(k:Nat)(hk:k<7):U6 (2,I0.getD k [],0) I0=k/\U6 (2,I0.getD k [],0) Q4<0:=by
 have:∀k,k<7->U6 (2,I0.getD k [],0) I0=k/\U6 (2,I0.getD k [],0) Q4<0:=n7
 grind
theorem D2q(k:Nat)(hk:k<13):U6 (5,C9.getD k [],0) C9=k:=by
 have:∀k,k<13->U6 (5,C9.getD k [],0) C9=k:=n7
 grind
theorem E8q{k:Nat}(hk:k<13):1<=B0 (12+(k:Int))/\B0 (12+(k:Int))<=5:=by
 grind[B0]
theorem D3k{s:Rd}(h:s.par+1<=16)(ho:okR s=true):okR (C6 L E s (s.par+1) 16 50)=true:=by grind[A7v]
theorem D3l{s:Rd}{rest:List T3}{d c w:Nat}{ty:Bool}(h:16<s.par+1)(ha:0<=B8 L E s Q4):∃r,Un L E s r/\Res L Nm s r rest (d+1) c ty w:=by
 have hl:=D6t (L:=L) (E:=E) (s:=s) (n:=s.par+1) (m:=16) (e:=50) (by decide) h;refine⟨_,Un.bad ha hl,λh1 _=>?_,λh1=>?_⟩
 ·have:((d+1:Nat):Int)=d+1:=by omega
  omega
 grind
theorem C7x{s:Rd}{k:Int}{x:List UInt8}{a rest:List T3}{d c w:Nat}{ty:Bool}(hx:U6 (5,x,0) Q4=k)(h0:0<=k)(h2:k≠2)(h:PzU L E Nm a d c ty w)
  (hq:∀e p,TyE Nm ty e w->TyE Nm ty (.mk (10+k) 0 [] [e] p) (w+1)) (ho:okR s=true) (ht:Tk L s=(5,x,0)::(a++rest)):∃r,Un L E s r/\Res L Nm s r rest (d+1) c ty (w+1):=by
 have ha:B8 L E s Q4=k:=by grind[V6]
 by_cases h16:s.par+1<=16
 ·have hl:=D3k (L:=L) (E:=E) h16 ho;have htn:Tk L { s with i:=s.i+1,par:=s.par+1 }=a++rest:=B3f (s:=s) rfl ht;obtain⟨r,h1,h3,h4⟩:=h { s with i:=s.i+1,par:=s.par+1 } rest ho htn;obtain⟨e,s3⟩:=r;refine⟨_,Un.pre (by omega) (by omega) hl h1,λp1 p2=>?_,λhok=>?_⟩
  ·have:((d+1:Nat):Int)=d+1:=by rfl
   exact h3 (by grind) p2
  ·obtain⟨q1,q2,q3,q4⟩:=h4 hok;rw[ha];exact⟨q1,hq _ _ q2,j8,q4⟩
 ·exact D3l (by omega) (by omega)
theorem F0h{m:Int}{ty:Bool}{d c w:Nat}{ts:List T3}(h:GX Nm m ty d c w ts):1<=m/\m<=6/\Pz L E Nm m ts d c ty w/\(m=6->PzU L E Nm ts d c ty w):=by
 have key:∀ {ts:List T3} {d c w:Nat} {ty:Bool},PzU L E Nm ts d c ty w->1<=(6:Int)/\(6:Int)<=6/\Pz L E Nm 6 ts d c ty w/\((6:Int)=6->PzU L E Nm ts d c ty w):=λh=>⟨a8,a8,h.pz,λ_=>h⟩
 induction h with
 | @num v =>
  refine key λs rest ho ht=>?_;have a1:U6 (3,[],v) Q4 = -1:=A1s (by simp) (by simp) _ _;have a2:U6 (3,[],v) I0 = -1:=A1s (by simp) (by simp) _ _;obtain⟨r,h1,h2, -,h3⟩:=A8m (E:=E) ho ht (by omega) (.inr (.inl rfl));rw[a2]at h2 h3;refine⟨r,h1,λ_ p2=>h2 (by omega) (by simp),λhok=>?_⟩;obtain⟨q1,q2, -,q3⟩:=h3 hok;obtain⟨q4,q5⟩:=q3 (by simp);rw[if_neg (by simp),if_pos rfl]at q5;exact⟨q4,by rw[q5];exact .num,q1,by omega⟩
 | @var n hn =>
  refine key λs rest ho ht=>?_;have a1:U6 (1,n,0) Q4 = -1:=A1s (by simp) (by simp) _ _;have a2:U6 (1,n,0) I0 = -1:=A1s (by simp) (by simp) _ _;obtain⟨r,h1,h2, -,h3⟩:=A8m (E:=E) ho ht (by omega) (.inr (.inr rfl));rw[a2]at h2 h3;refine⟨r,h1,λ_ p2=>h2 (by omega) (by simp),λhok=>?_⟩;obtain⟨q1,q2, -,q3⟩:=h3 hok;obtain⟨q4,q5⟩:=q3 (by simp);rw[if_neg (by simp),if_neg (by simp)]at q5;exact⟨q4,by rw[q5];exact .var hn,q1,by omega⟩
 | @word0 k ty hk =>
  refine key λs rest ho ht=>?_;have hk4:k<4:=by
   grind
  obtain⟨a2,a1⟩:=B7n k (by omega);obtain⟨r,h1,h2, -,h3⟩:=A8m (E:=E) ho ht a1 (.inl (by omega));rw[a2]at h2 h3;refine⟨r,h1,λ_ p2=>h2 (by omega) (by omega),λhok=>?_⟩;obtain⟨q1,q2, -,q3⟩:=h3 hok;obtain⟨q4,q5⟩:=q3 (by omega);rw[if_pos (by omega),A1U]at q5;exact⟨q4,by rw[q5];exact .word0 hk,q1,by omega⟩
 | @word1 k nk ty n hk hn =>
  refine key λs rest ho ht=>?_;have hk4:4<=k/\k<7:=by
   grind
  obtain⟨a2,a1⟩:=B7n k (by omega);obtain⟨r,h1, -,h2,h3⟩:=A8m (E:=E) ho ht a1 (.inl (by omega));rw[a2,A1U]at h2;by_cases hop:s.ops+1<=32
  ·obtain⟨q1,q2,q3⟩:=h2 hop (by omega) n rest rfl;obtain⟨q4,q5, -, -⟩:=h3 q1;exact⟨r,h1,λ_ _=>q1,λ_=>⟨q2,by rw[q3];exact .word1 hk hn,q4,by omega⟩⟩
  ·exact⟨r,h1,λ_ p2=>absurd (by omega) hop,λhok=>absurd (h3 hok).2.2.1 hop⟩
 | @neg d c w a _ ih=>exact key λs rest ho ht=>C7x (k:=0) rfl (by simp) (by simp) (ih.2.2.2 rfl) (λe p h=>.neg h) ho ht
 | @not d c w a _ ih=>exact key λs rest ho ht=>C7x (k:=1) rfl (by simp) (by simp) (ih.2.2.2 rfl) (λe p h=>.not h) ho ht
 | @par m ty d c w a _ ih =>
  refine key λs rest ho ht=>?_;obtain⟨hm1,hm6,hz, -⟩:=ih;have ha:B8 L E s Q4=2:=by rw[V6 ht ho];rfl
  by_cases h16:s.par+1<=16
  ·have hl:=D3k (L:=L) (E:=E) h16 ho;have htn:Tk L { s with i:=s.i+1,par:=s.par+1 }=a++(5,[41],0)::rest:=by
    grind[B3f]
   obtain⟨r,h1,h3,h4⟩:=hz 1 (by simp) hm1 { s with i:=s.i+1,par:=s.par+1 } _ ho htn (λt q e=>by
    injection e with e1 e2;subst e1;trivial)
   obtain⟨e,s3⟩:=r;refine⟨_,Un.par ha hl h1,λp1 p2=>?_,λhok=>?_⟩
   ·have:((d+1:Nat):Int)=d+1:=by rfl
    have k1:=h3 (by grind) p2;obtain⟨q1, -, -, -⟩:=h4 k1;show okR (D9 L E s3 [41])=true;unfold D9;rw[if_neg (by rw[A1k q1 k1];simp)];exact k1
   ·have k0:okR (D9 L E s3 [41])=true:=hok;obtain⟨k1,k2⟩:=B4t k0;have k3:okR s3=true:=(A4w k1).1;obtain⟨q1,q2,q3,q4⟩:=h4 k3;refine⟨?_,q2,?_,?_⟩
    ·have:Tk L (D9 L E s3 [41])=rest:=by rw[k2];exact B3f (s:=s3) rfl q1
     trivial
    ·show(D9 L E s3 [41]).par-1=s.par;rw[k2];show s3.par-1=s.par
     grind
    ·show(D9 L E s3 [41]).ops=s.ops+c;rw[k2];exact q4
  ·exact D3l (by omega) (by omega)
 | @bin k m1 m2 ta ty d1 d2 c1 c2 w1 w2 a b hk hta hty hm1 hm2 _ _ iha ihb =>
  obtain⟨hl1,hl5⟩:=E8q hk;obtain⟨-, -,hza, -⟩:=iha;obtain⟨-, -,hzb, -⟩:=ihb;refine⟨hl1,a8,?_,λh=>by omega⟩;refine Pz.of (by omega) λs rest ho ht hno=>?_;generalize hlv:B0 (12+(k:Int))=lv at *;have hsg:=D2q k hk;have ht':Tk L s=a++(5,C9.getD k [],0)::(b++rest):=j8
  obtain⟨⟨e,s1⟩,h1,h2,h3⟩:=hza (lv+1) (by omega) (by omega) s _ ho ht' (λt q e=>by
   grind)
  cases ho1:okR s1 with
  |false =>
   refine⟨(e,s1),Bin.go (by omega) h1 (Lop.stop (.inl (by rw[C3f ho1];decide))),λp1 p2=>?_,λhok=>?_⟩
   ·have:=h2 (by omega) (by omega);exact absurd this (by rw[ho1];simp)
   grind
  |true =>
   obtain⟨q1,q2,q3,q4⟩:=h3 ho1;have ham:B8 L E s1 C9=k:=by grind[V6]
   have htn:Tk L (A5 s1)=b++rest:=B3f (s:=s1) rfl q1;obtain⟨⟨x,s2⟩,g1,g2,g3⟩:=hzb (lv+1) (by omega) (by omega) (A5 s1) rest ho1 htn (hno.up (by omega));have hres:∀p,Res L Nm s (.mk (12+(k:Int)) 0 [] [e,x] p,s2) rest (max d1 d2) (c1+c2) ty (w1+w2+1):=by
    intro p;refine⟨λp1 p2=>?_,λhok=>?_⟩
    ·exact g2 (by show s1.par+d2<=16;grind) (by show s1.ops+c2<=32;grind)
    ·obtain⟨w1,w2,w3,w4⟩:=g3 hok;refine⟨w1,.bin hk hta hty q2 w2,?_,?_⟩
     ·have:(A5 s1).par=s1.par:=rfl;dsimp only at q3 w3 ⊢;omega
     grind[A5]
   by_cases h33:lv=3
   ·refine⟨_,Bin.go (by omega) h1 (Lop.three (by rw[ham];omega) (by rw[ham];exact hlv) h33 g1),?_⟩
    grind
   ·refine⟨_,Bin.go (by omega) h1 (Lop.more (by rw[ham];omega) (by rw[ham];exact hlv) h33 g1 (C8r (rest:=rest) (λh=>(g3 h).1) hno)),?_⟩
    grind
end
mutual
def St.n:St->Nat
 |.mk k _ _ a x y _=>(C7 (λ_=>0) a).length+St.ns x+St.ns y+(if k=18 then 21 else 2)
def St.ns:List St->Nat
 |[]=>0
 |s::l=>s.n+St.ns l
end
theorem C4u:∀a b:List St,St.ns (a++b)=St.ns a+St.ns b
 |[],b=>by simp[St.ns]
 |s::a,b=>by rw[List.cons_append,St.ns,St.ns,C4u a b];omega
theorem F2p(S:List (List UInt8))(t:List UInt8):(txS S t).2.length<=S.length+1:=by
 grind[txS]
theorem F1m(nm:List UInt8->Int)(a:List Ex):(C7 nm a).length=(C7 (λ_=>0) a).length:=by
 rw[<- S7 nm a 0,S7 (λ_=>0) a 0]
mutual
theorem F6q(nm:List UInt8->Int):∀(s:St) (p:Nat) (S:List (List UInt8)),(cgS nm p S s).1.length+20*(cgS nm p S s).2.length<=s.n+20*S.length
 |.mk k n t a x y q,p,S=>by
  have ha:=F1m nm a;rw[cgS,St.n];by_cases h2:k=2
  ·rw[if_pos h2,show(if k=18 then 21 else 2)=2 from if_neg (by omega)];have hx:=C3b nm x (p+(C7 nm a).length+1) S;by_cases hy:y.length=0
   ·grind
   ·rw[if_neg hy];have hy:=C3b nm y (p+(C7 nm a).length+1+(cgB nm (p+(C7 nm a).length+1) S x).1.length+1) (cgB nm (p+(C7 nm a).length+1) S x).2
    grind
  ·rw[if_neg h2];by_cases h3:k=3
   ·rw[if_pos h3,show(if k=18 then 21 else 2)=2 from if_neg (by omega)];have hx:=C3b nm x (p+(C7 nm a).length+1) S
    grind
   ·rw[if_neg h3];by_cases h4:k=18
    ·rw[if_pos h4,if_pos h4];have:=F2p S t;simp only[A0A,A0C,A0M];omega
    grind
theorem C3b(nm:List UInt8->Int):∀(l:List St) (p:Nat) (S:List (List UInt8)),(cgB nm p S l).1.length+20*(cgB nm p S l).2.length<=St.ns l+20*S.length
 |[],p,S=>by simp[cgB,St.ns]
 |s::l,p,S=>by
  have h1:=F6q nm s p S;have h2:=C3b nm l (p+(cgS nm p S s).1.length) (cgS nm p S s).2
  grind[cgB,St.ns]
end
def KB.n(x:KB):Nat:=St.ns x.2+1
theorem E4s(nm:List UInt8->Int):∀(ks:List Ky) (q:List KB),ks.Nodup->((ptK q ks).map λp=>St.ns p.2.flatten+1).sum<=(q.map KB.n).sum
 |[],q,_=>by simp[ptK]
 |k::ks,q,h=>by
  obtain⟨h1,h2⟩:=A3P.1 h;have ih:=E4s nm ks (q.filter λx=>¬x.1=k) h2;have e:∀ks:List Ky,k ∉ ks->ptK (q.filter λx=>¬x.1=k) ks=ptK q ks:=by
   intro ks
   induction ks with
   |nil=>intro _;rfl
   |cons k' ks ih =>
    intro hk;obtain⟨n1,n2⟩:=not_or.1 λh=>hk (A0U.2 h);have:U5 (q.filter λx=>¬x.1=k) k'=U5 q k':=by
     unfold U5;rw[List.filter_filter]
     congr 1
     apply List.filter_congr;intro x _;by_cases e:x.1=k'
     ·simp[e,Ne.symm n1]
     ·simp[e]
    unfold ptK at ih ⊢;rw[A4O,A4O,this,ih n2]
  rw[e ks h1]at ih;have hs:∀q:List KB,(q.map KB.n).sum=((U5 q k).map λb=>St.ns b+1).sum+((q.filter λx=>¬x.1=k).map KB.n).sum:=by
   intro q
   induction q with
   |nil=>rfl
   |cons x q ih =>
    rw[B7k];by_cases e:x.1=k
    ·simp[e,ih,KB.n];omega
    ·simp[e,ih];omega
  have hb:∀l:List (List St),l≠[]->St.ns l.flatten+1<=(l.map λb=>St.ns b+1).sum:=by
   intro l
   induction l with
   |nil=>intro h;exact absurd rfl h
   |cons a l ih =>
    intro _;rw[A1K,C4u,A0P,A3D];by_cases h:l=[]
    ·subst h;simp[St.ns]
    ·have:=ih h;omega
  grind[ptK]
def Md.n(m:Md):Nat:=(m.hds.map λh=>St.ns h.body+1).sum
theorem D4z(nm:List UInt8->Int):∀(l:List Md) (i:Nat),((V7 nm i l).map λp=>St.ns p.2.flatten+1).sum<=(l.map Md.n).sum
 |[],i=>by simp[V7]
 |m::l,i=>by
  have h1:=E4s nm (D7m i) (m.hds.map (hdK nm i)) ((B4n i).imp λh e=>by grind[Ky.lt_irrefl]);have h2:=D4z nm l (i+1);rw[A2E]at h1;rw[V7,A0S,List.sum_append,A0P,A3D];exact Nat.add_le_add h1 h2
theorem E5p(nm:List UInt8->Int):∀(l:List D6) (p:Nat) (S:List (List UInt8)),(cgL nm p S l).1.length+20*(cgL nm p S l).2.2.length<=(l.map λp=>St.ns p.2.flatten+1).sum+20*S.length
 |[],p,S=>by simp[cgL]
 |q::l,p,S=>by
  have h1:=C3b nm q.2.flatten p S;have h2:=E5p nm l (p+(cgB nm p S q.2.flatten).1.length+1) (cgB nm p S q.2.flatten).2
  grind[cgL]
theorem D2g{r:Ru}(h:ChkR r)(hn:(r.modes.map Md.n).sum<=4000):C2u r=(cmC r,0,0):=by
 have h1:=E5p (nmR r) (V7 (nmR r) 0 r.modes) 0 [];have h2:=D4z (nmR r) r.modes 0;have h3:(cmC r).instrs.length+20*(cmC r).strings.length<=4000:=A1B h1 (by simpa using A1B h2 hn);unfold C2u;rw[if_pos h.1,h.2]
 grind
def C3j(Nm:Int->List UInt8->Prop)(R:Ru):Prop:=∀k n,Nm k n->(H5 R n).1=k
theorem A4z{R:Ru}{n:List UInt8}{k p:Int}(h:k=0\/(H5 R n).1=k):dnE R n k p=none:=by
 simp_all[dnE,dnM]
theorem E4i{w:Nat}{Nm:Int->List UInt8->Prop}{R:Ru}(hR:C3j Nm R){ty:Bool}{e:Ex}(h:TyE Nm ty e w):erE R e=none/\A0a e.kind=(if ty=true then 1 else 2):=by
 induction h with
 |num=>trivial
 |var hn=>exact⟨by simp[erE,Z2,A4z (.inr (hR _ _ hn)),show kdE 2=6 from rfl],rfl⟩
 | @word0 k ty p hk =>
  simp only[A0U,Prod.mk.injEq,A1R,or_false]at hk;rcases hk with ⟨rfl,rfl⟩|⟨rfl,rfl⟩|⟨rfl,rfl⟩|⟨rfl,rfl⟩
  all_goals exact⟨by rw[erE,Z2,A4z (.inl (by decide))];rfl,rfl⟩
 | @word1 k nk ty n p hk hn =>
  have hl:=hR _ _ hn;simp only[A0U,Prod.mk.injEq,A1R,or_false]at hk;rcases hk with ⟨rfl,rfl,rfl⟩|⟨rfl,rfl,rfl⟩|⟨rfl,rfl,rfl⟩
  all_goals exact⟨by rw[erE,Z2,A4z (.inr (by rw[hl];rfl))];rfl,rfl⟩
 |neg _ ih =>
  refine⟨?_,rfl⟩;rw[erE,Z2,Z2,ih.1,A4z (.inl (by rfl))];simp[ih.2,A4a]
 |not _ ih =>
  refine⟨?_,rfl⟩;rw[erE,Z2,Z2,ih.1,A4z (.inl (by rfl))];simp[ih.2,A4a]
 | @bin k w w2 ta ty a b p hk hta hty _ _ iha ihb =>
  have e1:∀k:Nat,k<13->kdE (12+(k:Int))=0/\A0a (12+(k:Int))=(if decide (k<5)=true then 1 else 2)/\(k<11->k≠9->k≠10->∀x,A4a (12+(k:Int)) x=1)/\((k=9\/k=10)->∀x y,A4a (12+(k:Int)) (x::y)=A0a x.kind)/\(11<=k->∀x,A4a (12+(k:Int)) x=2):=by
   intro k hk;refine⟨?_,?_,λh1 h2 h3 x=>?_,λh x y=>?_,λh x=>?_⟩
   ·unfold kdE;rw[if_neg (by omega),if_neg (by omega),if_neg (by omega),if_neg (by omega)]
   ·have:∀k:Nat,k<13->A0a (12+(k:Int))=(if decide (k<5)=true then 1 else 2):=by decide
    exact this k hk
   ·unfold A4a;rw[if_neg (by omega),if_neg (by omega)]
   ·unfold A4a;rw[if_neg (by omega),if_pos (by omega)]
   ·unfold A4a;rw[if_pos (by omega)]
  obtain⟨g1,g2,g3,g4,g5⟩:=e1 k hk;refine⟨?_,by rw[show(Ex.mk (12+(k:Int)) 0 [] [a,b] p).kind=12+(k:Int) from rfl,g2,hty]⟩;rw[erE,Z2,Z2,Z2,iha.1,ihb.1,A4z (.inl g1)]
  grind
theorem E6l{w:Nat}{Nm:Int->List UInt8->Prop}{ty:Bool}{e:Ex}(h:TyE Nm ty e w)(nm:List UInt8->Int):(cgE nm e).length=w:=by
 induction h<;>grind[cgE,C7]
structure OkA (Nm:Int->List UInt8->Prop) (b:Bool) (a:List Ex) (N:Nat):Prop where
 er:∀R,C3j Nm R->erA R b a=none
 sz:∀nm,(C7 nm a).length<=N
structure OkS (Nm:Int->List UInt8->Prop) (x:St) (N:Nat):Prop where
 er:∀R,C3j Nm R->erS R x=none
 sz:x.n<=N
structure OkB (Nm:Int->List UInt8->Prop) (l:List St) (N:Nat):Prop where
 er:∀R,C3j Nm R->erB R l=none
 sz:St.ns l<=N
theorem OkA.nil{Nm:Int->List UInt8->Prop}{b:Bool}:OkA Nm b [] 0:=⟨λR _=>rfl,λnm=>A0E _⟩
theorem OkA.one{Nm:Int->List UInt8->Prop}{w:Nat}{ty b:Bool}{e:Ex}(h:TyE Nm ty e w)(hb:b = !ty):OkA Nm b [e] w:=by
 refine⟨λR hR=>?_,λnm=>?_⟩
 ·grind[E4i,erA]
 ·rw[C7,C7,A1D,E6l h nm];omega
theorem OkA.two{Nm:Int->List UInt8->Prop}{w w2:Nat}{e x:Ex}(h:TyE Nm true e w)(h':TyE Nm true x w2):OkA Nm false [e,x] (w+w2):=by
 refine⟨λR hR=>?_,λnm=>?_⟩
 ·grind[E4i,erA]
 ·rw[C7,C7,C7,A1D,A0A,E6l h nm,E6l h' nm];omega
theorem C9l(R:Ru):∀(a b:List St),erB R (a++b)=(erB R a).or (erB R b)
 |[],b=>by rfl
 |x::a,b=>by rw[List.cons_append,erB,erB,C9l R a b];grind
theorem OkB.nil{Nm:Int->List UInt8->Prop}:OkB Nm [] 0:=⟨λR _=>by rfl,by trivial⟩
theorem OkB.app{Nm:Int->List UInt8->Prop}{a b:List St}{A B:Nat}(h:OkB Nm a A)(h':OkB Nm b B):OkB Nm (a++b) (A+B) :=
 ⟨λR hR=>by rw[C9l,h.er R hR,h'.er R hR];rfl,by rw[C4u];have:=h.sz;have:=h'.sz;omega⟩
theorem OkS.blk{Nm:Int->List UInt8->Prop}{x:St}{N:Nat}(h:OkS Nm x N):OkB Nm [x] N :=
 ⟨λR hR=>by rw[erB,h.er R hR,erB];rfl,by rw[St.ns,St.ns];have:=h.sz;omega⟩
theorem OkS.of{Nm:Int->List UInt8->Prop}{k p:Int}{n t:List UInt8}{a:List Ex}{x y:List St}{A X Y N:Nat}(h1:kdS k=0\/Nm (kdS k) n)(h2:OkA Nm (k==2) a A)(h3:OkB Nm x X)(h4:OkB Nm y Y)
  (hN:A+X+Y+(if k=18 then 21 else 2)<=N):OkS Nm (.mk k n t a x y p) N:=by
 refine⟨λR hR=>?_,?_⟩
 ·rw[erS,A4z (h1.imp id (hR _ _)),h2.er R hR,h3.er R hR,h4.er R hR];rfl
 ·have:=h2.sz λ_=>0;have:=h3.sz;have:=h4.sz;rw[St.n];omega
section
variable {L:List Tok} {E:Int}
structure At (L:List Tok) (s:Rd) (q:List T3):Prop where
 ok:okR s=true
 tk:Tk L s=q
theorem At.nxt{s:Rd}{t:T3}{q:List T3}(h:At L s (t::q)):At L (A5 s) q:=⟨h.ok,B3f (s:=s) rfl h.tk⟩
theorem At.take{s:Rd}{k v:Int}{n:List UInt8}{q:List T3}(h:At L s ((k,n,v)::q)):A8 L E s k=(B1 L E s,A5 s)/\(B1 L E s).text=n/\(B1 L E s).value=v:=by
 have h1:=(A4e (E:=E) h.tk).1;refine⟨?_,congrArg (λx=>x.2.1) h1,congrArg (λx=>x.2.2) h1⟩;unfold A8;rw[if_neg (by rw[B4m h.tk h.ok];simp)]
theorem At.exp{s:Rd}{c v:Int}{x:List UInt8}{q:List T3}(h:At L s ((c,x,v)::q))(hc:c=5\/c=2):D9 L E s x=A5 s:=by
 unfold D9;rw[if_neg (by rw[A1k h.tk h.ok];grind)]
variable {Nm:Int->List UInt8->Prop}
theorem At.xpn{m:Int}{ty:Bool}{d c w:Nat}{a rest:List T3}{s:Rd}(hx:GX Nm m ty d c w a)(hd:d<=16)(hc:c<=32)(h:At L s (a++rest))(hno:B2b 1 rest):∃e s1,Xpn L E s (e,s1)/\At L s1 rest/\TyE Nm ty e w:=by
 obtain⟨h1,h2,hz, -⟩:=F0h (L:=L) (E:=E) hx;obtain⟨⟨e,s1⟩,g1,g2,g3⟩:=hz 1 (by simp) h1 { s with ops:=0,par:=0 } rest h.ok h.tk hno;have k:=g2 (by grind) (by grind);obtain⟨k1,k2, -, -⟩:=g3 k;exact⟨e,s1,g1,⟨k,k1⟩,k2⟩
theorem A3r{x:List UInt8}{q:List T3}{n:Int}(h:U6 (5,x,0) C9 = -1):B2b n ((5,x,0)::q):=λt q' e=>by
 grind
def SX(Nm:Int->List UInt8->Prop)(ty:Bool)(a:List T3)(w:Nat):Prop:=∃m d c,d<=16/\c<=32/\GX Nm m ty d c w a
theorem At.sx{ty:Bool}{a rest:List T3}{w:Nat}{s:Rd}(hx:SX Nm ty a w)(h:At L s (a++rest))(hno:B2b 1 rest):∃e s1,Xpn L E s (e,s1)/\At L s1 rest/\TyE Nm ty e w:=by
 obtain⟨m,d,c,hd,hc,hg⟩:=hx;exact h.xpn hg hd hc hno
abbrev wdT(j:Nat):T3:=(2,B7.getD j [],0)
abbrev sgT(x:List UInt8):T3:=(5,x,0)
def C8j:List (Nat × Int):=[(3,2),(4,2),(5,2),(9,7),(10,9),(11,9),(12,8),(13,4),(14,5),(15,5)]
inductive GS (Nm:Int->List UInt8->Prop) (B:List T3->Nat->Prop):List T3->Nat->Prop where
 |set {n:List UInt8} {a:List T3} {w:Nat}:Nm 6 n->SX Nm true a w->GS Nm B ((1,n,0)::sgT [61]::(a++[sgT [59]])) (w+2)
 |name {j:Nat} {k:Int} {n:List UInt8}:(j,k)∈C8j->Nm k n->GS Nm B [wdT j,(1,n,0),sgT [59]] 2
 |score {a:List T3} {w:Nat}:SX Nm true a w->GS Nm B (wdT 2::(a++[sgT [59]])) (w+2)
 |arg {j:Nat} {k:Int} {n:List UInt8} {a:List T3} {w:Nat}:(j,k)∈[(6,(3:Int)),(8,7)]->Nm k n->SX Nm true a w->GS Nm B (wdT j::(1,n,0)::(a++[sgT [59]])) (w+2)
 |blink {n:List UInt8} {a b:List T3} {w w2:Nat}:Nm 3 n->SX Nm true a w->SX Nm true b w2->GS Nm B (wdT 7::(1,n,0)::(a++sgT [44]::(b++[sgT [59]]))) (w+w2+2)
 |text {x:List UInt8} {a:List T3} {w:Nat}:SX Nm true a w->GS Nm B (wdT 16::(4,x,0)::sgT [44]::(a++[sgT [59]])) (w+21)
 |consume:GS Nm B [wdT 17,sgT [59]] 2
 |rep {a b:List T3} {w m:Nat}:SX Nm true a w->B b m->GS Nm B (wdT 1::(a++b)) (w+m+2)
 |ifs {a b:List T3} {w m:Nat}:SX Nm false a w->B b m->GS Nm B (wdT 0::(a++b)) (w+m+2)
 |ife {a b c:List T3} {w m m2:Nat}:SX Nm false a w->B b m->B c m2->GS Nm B (wdT 0::(a++(b++(2,[101,108,115,101],0)::c))) (w+m+m2+2)
 |ifi {a b a2 c:List T3} {w m w2 m2:Nat}:SX Nm false a w->B b m->SX Nm false a2 w2->B c m2->GS Nm B (wdT 0::(a++(b++(2,[101,108,115,101],0)::wdT 0::(a2++c)))) (w+m+(w2+m2+2)+2)
inductive GR (S:List T3->Nat->Prop):Nat->List T3->Nat->Prop where
 |nil:GR S 0 [] 0
 |snoc {k:Nat} {us a:List T3} {n m:Nat}:GR S k us n->S a m->GR S (k+1) (us++a) (n+m)
def GB(S:List T3->Nat->Prop)(ts:List T3)(N:Nat):Prop:=∃k us,k<=64/\GR S k us N/\ts=sgT [123]::(us++[sgT [125]])
def B9o(rest:List T3):Prop:=∀t q,rest=t::q->((t.1==5||t.1==2)&&t.2.1 == [101,108,115,101])=false
def E4d(L:List Tok)(E:Int)(Nm:Int->List UInt8->Prop)(b:Int)(ts:List T3)(N:Nat):Prop:=∀(d:Int) s rest,d+b<=8->At L s (ts++rest)->B9o rest ->
 ∃x s1,R0 L E d s (x,s1)/\At L s1 rest/\OkS Nm x N
def D9u(L:List Tok)(E:Int)(Nm:Int->List UInt8->Prop)(b:Int)(ts:List T3)(N:Nat):Prop:=∀(d:Int) s rest,d+b<=8->At L s (ts++rest) ->
 ∃x s1,A9u L E d s (x,s1)/\At L s1 rest/\OkB Nm x N
theorem D3b{j:Nat}(h:j<18):U6 (wdT j) B7=j:=by
 have:∀j,j<18->U6 (wdT j) B7=j:=n7
 grind
theorem B8o{s:Rd}{d:Int}(h:d<=8):C6 L E s d 8 50=s:=A7v h
theorem A6b{s:Rd}{d:Int}{j:Nat}{q:List T3}{r:St × Rd}(hd:d<=8)(hj:2<=j)(hj2:j<18)(h:At L s (wdT j::q))(he:Evt (λf=>N6 L E f (2+(j:Int)) (B1 L E s).pos (A5 s)) r):R0 L E d s r:=by
 have ha:B8 L E s B7=j:=by rw[V6 h.tk h.ok];exact D3b hj2
 refine R0.tail (by rw[B8o hd];exact h.ok) (by rw[ha];omega) ?_
 grind
theorem E1d{s:Rd}{rest:List T3}(h:At L s rest)(hne:B9o rest):isR L E s [101,108,115,101]=false:=by
 cases rest with
 |nil=>unfold isR;rw[D3t (E:=E) h.tk];simp
 |cons t q=>rw[A1k h.tk h.ok];exact hne t q rfl
theorem C6h{b:Int}{j:Nat}{a c rest:List T3}{d:Int}{s:Rd}{w m:Nat}(hj:j=0\/j=1)(hd:d<=8)(hdb:d+1+b<=8)(ha:SX Nm (decide (j=1)) a w)(hc:D9u L E Nm b c m)(hch:∃q,c=sgT [123]::q)
  (hs:At L s (wdT j::(a++(c++rest)))) (hne:B9o rest):∃x s1,R0 L E d s (x,s1)/\At L s1 rest/\OkS Nm x (w+m+2):=by
 have hl:okR (C6 L E s d 8 50)=true:=by rw[B8o hd];exact hs.ok
 have ham:B8 L E s B7=j:=by rw[V6 hs.tk hs.ok];grind[D3b]
 obtain⟨q,rfl⟩:=hch;obtain⟨e,s1,x1,x2,x3⟩:=hs.nxt.sx (E:=E) ha (A3r (by rfl));obtain⟨t,s2,y1,y2,y3⟩:=hc (d+1) s1 rest hdb x2;refine⟨_,s2,R0.blk hl (by omega) x1 y1 (λh=>?_),y2,?_⟩
 ·grind[E1d]
 ·rw[ham];rcases hj with rfl|rfl
  ·exact .of (.inl (by rfl)) (.one x3 rfl) y3 .nil (by simp)
  ·exact .of (.inl (by rfl)) (.one x3 rfl) y3 .nil (by simp)
theorem E5g{B:List T3->Nat->Prop}{b:Int}(hb : -2<=b)(hb2:∀ts n,B ts n->0<=b)(hB:∀ts n,B ts n->D9u L E Nm b ts n)(hBh:∀ts n,B ts n->∃q,ts=sgT [123]::q){ts:List T3}{N:Nat}(h:GS Nm B ts N):E4d L E Nm (b+2) ts N:=by
 intro d s rest hd hs hne;have hd8:d<=8:=a8
 have hl:okR (C6 L E s d 8 50)=true:=by rw[B8o hd8];exact hs.ok
 have n59:∀q,B2b 1 (sgT [59]::q):=λq=>A3r (by rfl);have n44:∀q,B2b 1 (sgT [44]::q):=λq=>A3r (by rfl);cases h with
 | @set n a w hn ha =>
  have hs:At L s ((1,n,0)::sgT [61]::(a++sgT [59]::rest)):=j8
  obtain⟨t1,t2, -⟩:=hs.take (E:=E);have h2:=hs.nxt.nxt;have e1:D9 L E (A8 L E s 1).2 [61]=A5 (A5 s):=by rw[t1];exact hs.nxt.exp (.inl rfl)
  obtain⟨e,s1,x1,x2,x3⟩:=h2.sx (E:=E) ha (n59 _);have hk:B8 L E s B7<0:=by rw[V6 hs.tk hs.ok,show U6 (1,n,0) B7 = -1 from A1s (by simp) (by simp) _ _];simp
  refine⟨_,_,R0.set hl hk (by rw[e1];exact x1),?_,?_⟩
  ·rw[x2.exp (.inl rfl)];exact x2.nxt
  ·rw[t1];refine .of (.inr ?_) (.one x3 rfl) .nil .nil (by simp);rw[t2];exact hn
 | @name j k n hj hn =>
  have hs:At L s (wdT j::(1,n,0)::sgT [59]::rest):=j8
  have hjj:3<=j/\j<=15/\j≠6/\j≠7/\j≠8/\kdS (2+(j:Int))=k/\(2+(j:Int)==2)=false:=by
   simp only[C8j,A0U,Prod.mk.injEq,A1R,or_false]at hj;rcases hj with ⟨rfl,rfl⟩|⟨rfl,rfl⟩|⟨rfl,rfl⟩|⟨rfl,rfl⟩|⟨rfl,rfl⟩|⟨rfl,rfl⟩|⟨rfl,rfl⟩|⟨rfl,rfl⟩|⟨rfl,rfl⟩|⟨rfl,rfl⟩<;>decide
  obtain⟨j1,j2,j3,j4,j5,j6,j7⟩:=hjj;obtain⟨t1,t2, -⟩:=hs.nxt.take (E:=E);have x2:=hs.nxt.nxt;refine⟨_,_,A6b (r:=(.mk (2+(j:Int)) n [] [] [] [] (B1 L E s).pos,A5 (A5 (A5 s)))) hd8 (by omega) (by omega) hs (Evt.one λf=>?_),x2.nxt,?_⟩
  ·unfold N6;rw[if_neg (by omega),if_neg (by omega),if_neg (by omega),t1];dsimp only;rw[if_neg (by omega),t2,x2.exp (.inl rfl)]
  ·exact .of (.inr (by grind)) .nil .nil .nil (by grind)
 | @score a w ha =>
  have hs:At L s (wdT 2::(a++sgT [59]::rest)):=j8
  obtain⟨e,s1,x1,x2,x3⟩:=hs.nxt.sx (E:=E) ha (n59 _);refine⟨_,_,A6b (r:=(.mk 4 [] [] [e] [] [] (B1 L E s).pos,A5 s1)) hd8 (by omega) (by omega) hs (x1.map λf h=>?_),x2.nxt,?_⟩
  ·unfold N6;rw[if_pos (by rfl),h];dsimp only;rw[x2.exp (.inl rfl)];rfl
  ·exact .of (.inl (by rfl)) (.one x3 rfl) .nil .nil (by simp)
 | @arg j k n a w hj hn ha =>
  have hs:At L s (wdT j::(1,n,0)::(a++sgT [59]::rest)):=j8
  have hjj:(j=6\/j=8)/\kdS (2+(j:Int))=k/\(2+(j:Int)==2)=false:=by
   simp only[A0U,Prod.mk.injEq,A1R,or_false]at hj;rcases hj with ⟨rfl,rfl⟩|⟨rfl,rfl⟩<;>decide
  obtain⟨j1,j6,j7⟩:=hjj;obtain⟨t1,t2, -⟩:=hs.nxt.take (E:=E);obtain⟨e,s1,x1,x2,x3⟩:=hs.nxt.nxt.sx (E:=E) ha (n59 _);refine⟨_,_,A6b (r:=(.mk (2+(j:Int)) n [] [e] [] [] (B1 L E s).pos,A5 s1)) hd8 (by omega) (by omega) hs (x1.map λf h=>?_),x2.nxt,?_⟩
  ·unfold N6;rw[if_neg (by omega),if_neg (by omega),if_neg (by omega),t1];dsimp only;rw[if_pos (by omega),h];dsimp only;rw[if_neg (by omega),t2,x2.exp (.inl rfl)]
  ·exact .of (.inr (by grind)) (.one x3 (by grind)) .nil .nil (by grind)
 | @blink n a a2 w w2 hn ha ha2 =>
  have hs:At L s (wdT 7::(1,n,0)::(a++sgT [44]::(a2++sgT [59]::rest))):=j8
  obtain⟨t1,t2, -⟩:=hs.nxt.take (E:=E);obtain⟨e,s1,x1,x2,x3⟩:=hs.nxt.nxt.sx (E:=E) ha (n44 _);obtain⟨e2,s2,y1,y2,y3⟩:=x2.nxt.sx (E:=E) ha2 (n59 _);refine⟨_,_,A6b (r:=(.mk 9 n [] [e,e2] [] [] (B1 L E s).pos,A5 s2)) hd8 (by omega) (by omega) hs (x1.map2 y1 λf h h2=>?_),y2.nxt,?_⟩
  ·unfold N6;rw[if_neg (by simp),if_neg (by simp),if_neg (by simp),t1];dsimp only;rw[if_pos (by simp),h];dsimp only;rw[if_pos (by rfl),x2.exp (.inl rfl),h2];dsimp only;rw[t2,y2.exp (.inl rfl)];rfl
  ·exact .of (.inr hn) (.two x3 y3) .nil .nil (by simp)
 | @text x a w ha =>
  have hs:At L s (wdT 16::(4,x,0)::sgT [44]::(a++sgT [59]::rest)):=j8
  obtain⟨t1,t2, -⟩:=hs.nxt.take (E:=E);have h3:=hs.nxt.nxt;obtain⟨e,s1,x1,x2,x3⟩:=h3.nxt.sx (E:=E) ha (n59 _);refine⟨_,_,A6b (r:=(.mk 18 [] x [e] [] [] (B1 L E s).pos,A5 s1)) hd8 (by omega) (by omega) hs (x1.map λf h=>?_),x2.nxt,?_⟩
  ·unfold N6;rw[if_neg (by simp),if_pos (by rfl),t1];dsimp only;rw[h3.exp (.inl rfl),h];dsimp only;rw[t2,x2.exp (.inl rfl)];rfl
  ·exact .of (.inl (by rfl)) (.one x3 rfl) .nil .nil (by simp)
 |consume =>
  have hs:At L s (wdT 17::sgT [59]::rest):=j8
  refine⟨_,_,A6b (r:=(.mk 19 [] [] [] [] [] (B1 L E s).pos,A5 (A5 s))) hd8 (by omega) (by omega) hs (Evt.one λf=>?_),hs.nxt.nxt,?_⟩
  ·unfold N6;rw[if_neg (by simp),if_neg (by simp),if_pos (by rfl),hs.nxt.exp (.inl rfl)];rfl
  ·exact .of (.inl (by rfl)) .nil .nil .nil (by simp)
 | @rep a c w m ha hc=>exact C6h (.inr rfl) hd8 (by omega) ha (hB c _ hc) (hBh c _ hc) (by grind) hne
 | @ifs a c w m ha hc=>exact C6h (.inl rfl) hd8 (by omega) ha (hB c _ hc) (hBh c _ hc) (by grind) hne
 | @ife a c c2 w m m2 ha hc hc2 =>
  have hs:At L s (wdT 0::(a++(c++(2,[101,108,115,101],0)::(c2++rest)))):=j8
  have ham:B8 L E s B7=0:=by rw[V6 hs.tk hs.ok];rfl
  have hcb:=hB c _ hc;have hcb2:=hB c2 _ hc2;obtain⟨q,rfl⟩:=hBh c _ hc;obtain⟨q2,rfl⟩:=hBh c2 _ hc2;obtain⟨e,s1,x1,x2,x3⟩:=hs.nxt.sx (E:=E) ha (A3r (by rfl));obtain⟨t,s2,y1,y2,y3⟩:=hcb (d+1) s1 _ (by omega) x2;have he:isR L E s2 [101,108,115,101]=true:=by rw[A1k y2.tk y2.ok];rfl
  have hi:isR L E (A5 s2) [105,102]=false:=by rw[A1k y2.nxt.tk y2.nxt.ok];rfl
  obtain⟨o,s3,z1,z2,z3⟩:=hcb2 (d+1) (A5 s2) rest (by omega) y2.nxt;exact⟨_,s3,R0.els hl ham x1 y1 he (A9t.blk hi z1),z2,.of (.inl (by rfl)) (.one x3 rfl) y3 z3 (by simp)⟩
 | @ifi a c a2 c2 w m w2 m2 ha hc ha2 hc2 =>
  have hb3:=hb2 c _ hc;have hs:At L s (wdT 0::(a++(c++(2,[101,108,115,101],0)::wdT 0::(a2++(c2++rest))))):=j8
  have ham:B8 L E s B7=0:=by rw[V6 hs.tk hs.ok];rfl
  have hcb:=hB c _ hc;obtain⟨q,rfl⟩:=hBh c _ hc;obtain⟨e,s1,x1,x2,x3⟩:=hs.nxt.sx (E:=E) ha (A3r (by rfl));obtain⟨t,s2,y1,y2,y3⟩:=hcb (d+1) s1 _ (by omega) x2;have he:isR L E s2 [101,108,115,101]=true:=by rw[A1k y2.tk y2.ok];rfl
  have hi:isR L E (A5 s2) [105,102]=true:=by rw[A1k y2.nxt.tk y2.nxt.ok];rfl
  obtain⟨x,s3,z1,z2,z3⟩:=C6h (E:=E) (j:=0) (d:=d+1) (.inl rfl) (by omega) (by omega) ha2 (hB c2 _ hc2) (hBh c2 _ hc2) y2.nxt hne;exact⟨_,s3,R0.els hl ham x1 y1 he (A9t.iff hi z1),z2,.of (.inl (by rfl)) (.one x3 rfl) y3 z3.blk (by simp)⟩
theorem E2q{B:List T3->Nat->Prop}{ts:List T3}{N:Nat}(h:GS Nm B ts N):∃t q,ts=t::q/\(0<=U6 t B7\/t.1=1)/\((t.1==5||t.1==2)&&t.2.1 == [125])=false/\((t.1==5||t.1==2)&&t.2.1 == [101,108,115,101])=false:=by
 have hw:∀j,j<18->(0<=U6 (wdT j) B7\/(wdT j).1=1)/\(((wdT j).1==5||(wdT j).1==2)&&(wdT j).2.1 == [125])=false/\(((wdT j).1==5||(wdT j).1==2)&&(wdT j).2.1 == [101,108,115,101])=false:=n7
 cases h with
 |set=>simp
 | @name j k n hj _ =>
  have hjj:j<18:=by
   simp only[C8j,A0U,Prod.mk.injEq,A1R,or_false]at hj;omega
  grind
 |score=>grind
 | @arg j k n a w hj _ _ =>
  grind
 |blink=>grind
 |text=>grind
 |consume=>grind
 |rep=>grind
 |ifs=>grind
 |ife=>grind
 |ifi=>grind
theorem F4u{B:List T3->Nat->Prop}{b:Int}(hS:∀ts N,GS Nm B ts N->E4d L E Nm b ts N){k N:Nat}{us:List T3}(h:GR (GS Nm B) k us N):∀(d:Int) s rest,d+b<=8->k<=64->At L s (us++rest)->B9o rest ->
  ∃xs s1,xs.length=k/\OkB Nm xs N/\At L s1 rest/\∀r,A1f L E d xs s1 r->A1f L E d [] s r:=by
 induction h with
 |nil=>exact λd s rest _ _ h _=>⟨[],s,rfl,.nil,h,λ_ h=>h⟩
 | @snoc k us a n m _ ha ih =>
  intro d s rest hd hk hs hne;obtain⟨t,q,e,h1,h2,h3⟩:=E2q ha;obtain⟨xs,s1,x1,x2,x3,x4⟩:=ih d s (a++rest) hd (by omega) (by grind) (λt' q' e'=>by
   grind)
  have g0:At L s1 (t::(q++rest)):=j8
  have hi:isR L E s1 [125]=false:=by rw[A1k g0.tk g0.ok];omega
  have hg:¬(B8 L E s1 B7<0/\N9 L E s1 1=false):=by
   rw[V6 g0.tk g0.ok,B4m g0.tk g0.ok]
   grind
  have hlm:C6 L E s1 ((xs.length:Int)+1) 64 9=s1:=A7v (by omega);obtain⟨x,s2,y1,y2,y3⟩:=hS a m ha d s1 rest hd x3 hne;exact⟨xs++[x],s2,j8,x2.app y3.blk,y2,λr hr=>x4 r (A1f.more ⟨g0.ok,hi⟩ hg (by grind) hr)⟩
theorem E5q{B:List T3->Nat->Prop}{b:Int}(hS:∀ts N,GS Nm B ts N->E4d L E Nm b ts N){ts:List T3}{N:Nat}(h:GB (GS Nm B) ts N):D9u L E Nm b ts N:=by
 obtain⟨k,us,hk,hx,rfl⟩:=h;intro d s rest hd hs;have hs:At L s (sgT [123]::(us++sgT [125]::rest)):=j8
 obtain⟨xs,s1,x1,x2,x3,x4⟩:=F4u hS hx d (A5 s) _ hd hk hs.nxt (λt q e=>by grind);have hi:isR L E s1 [125]=true:=by rw[A1k x3.tk x3.ok];rfl
 have:=x4 _ (A1f.stop (L:=L) (E:=E) (d:=d) (l:=xs) (s:=s1) (by grind));rw[x3.exp (.inl rfl)]at this;exact⟨xs,_,A9u.mk (by rw[hs.exp (.inl rfl)];omega),x3.nxt,x2⟩
def GSd(Nm:Int->List UInt8->Prop):Nat->List T3->Nat->Prop
 |0=>GS Nm λ_ _=>False
 |n+1=>GS Nm (GB (GSd Nm n))
theorem C2a(n:Nat):∃B,GSd Nm n=GS Nm B:=by cases n<;>exact⟨_,rfl⟩
theorem D7l:∀(n:Nat) (ts:List T3) (N:Nat),GSd Nm n ts N->E4d L E Nm (2*n) ts N
 |0,ts,N,h=>by
  have h0:GS Nm (λ_ _=>False) ts N:=h;have:=E5g (L:=L) (E:=E) (b := -2) (A2U _) (λ_ _ h=>h.elim) (λ_ _ h=>h.elim) (λ_ _ h=>h.elim) h0
  grind
 |n+1,ts,N,h=>by
  have h1:GS Nm (GB (GSd Nm n)) ts N:=h;have:=E5g (L:=L) (E:=E) (b:=2*n) (by omega) (λ_ _ _=>by omega) (λt m ht=>by
   obtain⟨B,e⟩:=C2a (Nm:=Nm) n;rw[e]at ht;exact E5q (λq m hq=>D7l n q m (by rw[e];exact hq)) ht) (λt m ht=>by
   obtain⟨k,us, -, -,rfl⟩:=ht;exact⟨_,rfl⟩) h1
  grind
theorem F0m(n:Nat){ts:List T3}{N:Nat}(h:GB (GSd Nm n) ts N):D9u L E Nm (2*n) ts N:=by
 obtain⟨B,e⟩:=C2a (Nm:=Nm) n;rw[e]at h;exact E5q (λq m hq=>D7l n q m (by simp_all)) h
end
abbrev D3:=Nat × List UInt8 × Int
def st4(d:Dc):Int × List UInt8 × Int:=(d.kind,d.name,d.value)
def D2e(d:D3):List T3:=if d.1<6 then(if d.2.2<0 then [(5,[45],0),(3,[], -d.2.2)] else [(3,[],d.2.2)]) else []
def dT(d:D3):List T3:=(2,F0.getD d.1 [],0)::(1,d.2.1,0)::(D2e d++[(5,[59],0)])
def dWf(d:D3):Prop:=d.1<8/\(d.1<5->0<=d.2.2)/\(6<=d.1->d.2.2=0)
section
variable {L:List Tok} {E:Int}
theorem F1g{d:D3}{rest:List T3}{s:Rd}(hw:dWf d)(h:At L s (dT d++rest)):∃s1,Z3 L E (d.1:Int) s=(⟨1+(d.1:Int),d.2.1,d.2.2,(B1 L E s).pos⟩,s1)/\At L s1 rest:=by
 obtain⟨k,n,v⟩:=d;obtain⟨h1,h2,h3⟩:=hw;dsimp only at h1 h2 h3 ⊢;have h:At L s ((2,F0.getD k [],0)::(1,n,0)::(D2e (k,n,v)++(5,[59],0)::rest)):=by grind[dT]
 obtain⟨t1,t2, -⟩:=h.nxt.take (E:=E);have g:=h.nxt.nxt;unfold Z3;dsimp only;rw[t1];dsimp only;rw[t2];by_cases h6:k<6
 ·rw[if_pos (by omega)];by_cases hv:v<0
  ·have g2:At L (A5 (A5 s)) ((5,[45],0)::(3,[], -v)::(5,[59],0)::rest):=by
    simp_all[D2e]
   have hk:k=5:=by
    omega
   subst hk;have hm:(((5:Nat):Int)+1==6&&isR L E (A5 (A5 s)) [45])=true:=by rw[A1k g2.tk g2.ok];rfl
   simp only[if_pos hm];obtain⟨u1, -,u3⟩:=g2.nxt.take (E:=E);rw[u1];dsimp only;rw[u3,Int.neg_neg,g2.nxt.nxt.exp (.inl rfl)];exact⟨_,rfl,g2.nxt.nxt.nxt⟩
  ·have g:At L (A5 (A5 s)) ((3,[],v)::(5,[59],0)::rest):=by
    simp_all[D2e]
   have hm:((k:Int)+1==6&&isR L E (A5 (A5 s)) [45])=false:=by rw[A1k g.tk g.ok];simp
   have hm2:¬((k:Int)+1==6&&isR L E (A5 (A5 s)) [45])=true:=j8
   simp only[if_neg hm2];obtain⟨u1, -,u3⟩:=g.take (E:=E);rw[u1];dsimp only;rw[u3,g.nxt.exp (.inl rfl)];exact⟨_,rfl,g.nxt.nxt⟩
 ·rw[if_neg (by omega)];have g:At L (A5 (A5 s)) ((5,[59],0)::rest):=by
   simp_all[D2e]
  rw[g.exp (.inl rfl),h3 (by omega)];exact⟨_,rfl,g.nxt⟩
theorem E3h{k:Nat}(h:k<8):U6 (2,F0.getD k [],0) F0=k:=by
 have:∀k,k<8->U6 (2,F0.getD k [],0) F0=k:=n7
 grind
theorem D4y(rest:List T3)(hr:∀t q,rest=t::q->U6 t F0 = -1):∀(ds:List D3) (acc:List Dc) (s:Rd),acc.length+ds.length<=128->(∀d∈ds,dWf d)->At L s ((ds.map dT).flatten++rest) ->
  ∃l s1,Evt (λf=>A1d L E f acc s) (acc++l,s1)/\At L s1 rest/\l.map st4=ds.map λd=>(1+(d.1:Int),d.2.1,d.2.2)
 |[],acc,s,hl,hw,h=>by
  have h:At L s rest:=h;have ha:B8 L E s F0 = -1:=by
   cases rest with
   |nil=>exact C9v h.tk
   |cons t q=>rw[V6 h.tk h.ok];exact hr t q rfl
  refine⟨[],s,Evt.one λf=>?_,h,rfl⟩
  simp_all[A1d]
 |d::ds,acc,s,hl,hw,h=>by
  have h:At L s (dT d++((ds.map dT).flatten++rest)):=by simpa using h
  have hd:=hw d A0H;have ha:B8 L E s F0=d.1:=by
   have h':At L s ((2,F0.getD d.1 [],0)::(1,d.2.1,0)::(D2e d++(5,[59],0)::((ds.map dT).flatten++rest))):=by simpa[dT] using h
   rw[V6 h'.tk h'.ok];exact E3h hd.1
  obtain⟨s1,e1,h1⟩:=F1g (E:=E) hd h;obtain⟨l,s2,g1,g2,g3⟩:=D4y rest hr ds (acc++[⟨1+(d.1:Int),d.2.1,d.2.2,(B1 L E s).pos⟩]) s1 (by simp only[A0C,A0A,A0M]at hl ⊢;omega) (λx hx=>hw x (A0D _ hx)) h1;refine⟨⟨1+(d.1:Int),d.2.1,d.2.2,(B1 L E s).pos⟩::l,s2,?_,g2,by rw[A0P,A0P,g3];rfl⟩;rw[show acc++⟨1+(d.1:Int),d.2.1,d.2.2,(B1 L E s).pos⟩::l=acc++[⟨1+(d.1:Int),d.2.1,d.2.2,(B1 L E s).pos⟩]++l by simp];refine g1.ext λf hf=>?_;have hlm:C6 L E s ((acc.length:Int)+1) 128 9=s:=A7v (by simp only[A0C]at hl;omega);rw[A1d];dsimp only;rw[ha,if_neg (by omega),hlm,if_pos h.ok,e1];omega
variable {Nm:Int->List UInt8->Prop}
abbrev H3:=Nat × List UInt8 × List T3 × Nat
def hT(h:H3):List T3:=(2,[111,110],0)::(2,F8.getD h.1 [],0)::((if 2<=h.1 then [(1,h.2.1,0)] else [])++h.2.2.1)
def hWf(L:List Tok)(E:Int)(Nm:Int->List UInt8->Prop)(h:H3):Prop:=h.1<6/\(h.1<2->h.2.1=[])/\D9u L E Nm 4 h.2.2.1 h.2.2.2
def st5(h:Hd):Int × List UInt8:=(h.trig,h.name)
theorem D3p{k:Nat}(h:k<6):U6 (2,F8.getD k [],0) F8=k:=by
 have:∀k,k<6->U6 (2,F8.getD k [],0) F8=k:=n7
 grind
theorem D6m(rest:List T3):∀(hs:List H3) (acc:List Hd) (s:Rd),acc.length+hs.length<=32->(∀h∈hs,hWf L E Nm h)->At L s ((hs.map hT).flatten++(5,[125],0)::rest) ->
  ∃l s1,Evt (λf=>A2a L E f acc s) (acc++l,s1)/\At L s1 rest/\l.map st5=hs.map (λh=>(1+(h.1:Int),h.2.1))/\(∀R,C3j Nm R->∀h∈l,erB R h.body=none)/\(l.map λh=>St.ns h.body+1).sum<=(hs.map λh=>h.2.2.2+1).sum
 |[],acc,s,hl,hw,h=>by
  have h:At L s ((5,[125],0)::rest):=h;have hi:isR L E s [125]=true:=by rw[A1k h.tk h.ok];rfl
  refine⟨[],A5 s,Evt.one λf=>?_,h.nxt,rfl,(λR _ x hx=>by grind),A0E _⟩;rw[A2a,if_neg (by grind),h.exp (.inl rfl),A1D]
 |(k,n,b,N)::hs,acc,s,hl,hw,h=>by
  obtain⟨hk,hn,hb⟩:=hw _ A0H;dsimp only at hk hn hb;have h:At L s ((2,[111,110],0)::(2,F8.getD k [],0)::((if 2<=k then [(1,n,0)] else [])++(b++((hs.map hT).flatten++(5,[125],0)::rest)))):=by grind[hT]
  have hi:isR L E s [125]=false:=by rw[A1k h.tk h.ok];rfl
  have hon:isR L E s [111,110]=true:=by rw[A1k h.tk h.ok];rfl
  have hlm:C6 L E s ((acc.length:Int)+1) 32 9=s:=A7v (by grind);have he:D9 L E s [111,110]=A5 s:=h.exp (.inr rfl);have ha:B8 L E (A5 s) F8=k:=by rw[V6 h.nxt.tk h.nxt.ok];exact D3p hk
  have g:=h.nxt.nxt;obtain⟨s4,hs4,g4⟩:∃s4,((if 2<=(k:Int) then(A8 L E (A5 (A5 s)) 1).1.text else [])=n/\(if 2<=(k:Int) then(A8 L E (A5 (A5 s)) 1).2 else A5 (A5 s))=s4)/\At L s4 (b++((hs.map hT).flatten++(5,[125],0)::rest)):=by
   by_cases h2:2<=k
   ·rw[if_pos h2]at g;obtain⟨t1,t2, -⟩:=g.take (E:=E);rw[if_pos (by omega),if_pos (by omega),t1];exact⟨_,⟨t2,rfl⟩,g.nxt⟩
   grind
  obtain⟨x,s5,x1,x2,x3⟩:=hb 1 s4 _ (by simp) g4;obtain⟨l,s6,y1,y2,y3,y4,y5⟩:=D6m rest hs (acc++[⟨1+(k:Int),n,x,(B1 L E s).pos⟩]) s5 (by grind) (λz hz=>hw z (A0D _ hz)) x2;refine⟨⟨1+(k:Int),n,x,(B1 L E s).pos⟩::l,s6,?_,y2,by rw[A0P,A0P,y3];rfl,λR hR z hz=>?_,by have:=x3.sz;grind⟩
  ·rw[show acc++⟨1+(k:Int),n,x,(B1 L E s).pos⟩::l=acc++[⟨1+(k:Int),n,x,(B1 L E s).pos⟩]++l by simp];refine x1.ext2 y1 λf hx hy=>?_;rw[A2a,if_pos ⟨h.ok,hi⟩,if_neg (by rw[hon];decide),hlm]
   grind
  ·rcases A0U.1 hz with rfl|hz
   ·exact x3.er R hR
   grind
abbrev M3:=List UInt8 × Int × List H3
def mT(m:M3):List T3:=(2,[109,111,100,101],0)::(1,m.1,0)::(3,[],m.2.1)::(5,[123],0)::((m.2.2.map hT).flatten++[(5,[125],0)])
def F7c(Nm:Int->List UInt8->Prop)(m:M3)(x:Md):Prop:=x.name=m.1/\x.prio=m.2.1/\x.hds.map st5=m.2.2.map (λh=>(1+(h.1:Int),h.2.1))/\(∀R,C3j Nm R->∀h∈x.hds,erB R h.body=none)/\x.n<=(m.2.2.map λh=>h.2.2.2+1).sum
inductive MsOk (Nm:Int->List UInt8->Prop):List M3->List Md->Prop where
 |nil:MsOk Nm [] []
 |cons {m:M3} {x:Md} {ms:List M3} {l:List Md}:F7c Nm m x->MsOk Nm ms l->MsOk Nm (m::ms) (x::l)
def mWf(L:List Tok)(E:Int)(Nm:Int->List UInt8->Prop)(m:M3):Prop:=m.2.2.length<=32/\∀h∈m.2.2,hWf L E Nm h
theorem E9l{m:M3}{rest:List T3}{s:Rd}(hw:mWf L E Nm m)(h:At L s (mT m++rest)):∃x s1,Evt (λf=>A6u L E f s) (x,s1)/\At L s1 rest/\F7c Nm m x:=by
 obtain⟨n,p,hs⟩:=m;have h:At L s ((2,[109,111,100,101],0)::(1,n,0)::(3,[],p)::(5,[123],0)::((hs.map hT).flatten++(5,[125],0)::rest)):=by simpa[mT] using h
 have e1:D9 L E s [109,111,100,101]=A5 s:=h.exp (.inr rfl);obtain⟨t1,t2, -⟩:=h.nxt.take (E:=E);obtain⟨u1, -,u3⟩:=h.nxt.nxt.take (E:=E);have e2:=h.nxt.nxt.nxt.exp (E:=E) (.inl rfl);obtain⟨l,s1,x1,x2,x3,x4,x5⟩:=D6m (E:=E) rest hs [] _ (by simpa using hw.1) hw.2 h.nxt.nxt.nxt.nxt;refine⟨⟨n,p,l,(B1 L E s).pos⟩,s1,x1.map λf hf=>?_,x2,rfl,rfl,x3,x4,x5⟩
 grind[A6u]
theorem D4w:∀(ms:List M3) (acc:List Md) (s:Rd),acc.length+ms.length<=16->(∀m∈ms,mWf L E Nm m)->At L s (ms.map mT).flatten ->
  ∃l s1,Evt (λf=>A0r L E f acc s) (acc++l,s1)/\okR s1=true/\MsOk Nm ms l
 |[],acc,s,hl,hw,h=>by
  have hi:¬s.i<L.length:=by
   have:=congrArg List.length h.tk;simp[Tk]at this;omega
  refine⟨[],s,Evt.one λf=>?_,h.ok,.nil⟩
  simp_all[A0r,if_neg]
 |m::ms,acc,s,hl,hw,h=>by
  have h:At L s (mT m++(ms.map mT).flatten):=by simpa using h
  obtain⟨x,s1,x1,x2,x3⟩:=E9l (E:=E) (hw m A0H) h;obtain⟨l,s2,y1,y2,y3⟩:=D4w ms (acc++[x]) s1 (by simp only[A0C,A0A,A0M]at hl ⊢;omega) (λz hz=>hw z (A0D _ hz)) x2;refine⟨x::l,s2,?_,y2,.cons x3 y3⟩;have hlm:C6 L E s ((acc.length:Int)+1) 16 9=s:=A7v (by simp only[A0C]at hl;omega);have h0:At L s ((2,[109,111,100,101],0)::(1,m.1,0)::(3,[],m.2.1)::(5,[123],0)::((m.2.2.map hT).flatten++(5,[125],0)::(ms.map mT).flatten)):=by simpa[mT] using h
  have hmd:isR L E s [109,111,100,101]=true:=by rw[A1k h0.tk h0.ok];rfl
  rw[show acc++x::l=acc++[x]++l by simp];refine x1.ext2 y1 λf hx hy=>?_;rw[A0r,if_pos ⟨h.ok,(A4e (E:=E) h0.tk).2.2⟩,if_neg (by rw[hmd];decide)];dsimp only;rw[hlm,if_pos h.ok,hx];omega
theorem E7k{ds:List D3}{ms:List M3}(hd:ds.length<=128)(hm:ms.length<=16)(hdw:∀d∈ds,dWf d)(hmw:∀m∈ms,mWf L E Nm m)(h:L.map st3=(ds.map dT).flatten++(ms.map mT).flatten):
  ∃D M s1,A2l L E=(⟨D,M⟩,s1)/\okR s1=true/\D.map st4=(ds.map λd=>(1+(d.1:Int),d.2.1,d.2.2))/\MsOk Nm ms M:=by
 have h0:At L rd0 ((ds.map dT).flatten++(ms.map mT).flatten):=⟨rfl,by unfold Tk;exact h⟩;obtain⟨D,s1,x1,x2,x3⟩:=D4y (E:=E) (ms.map mT).flatten (λt q e=>by
  cases ms with
  |nil=>cases e
  |cons m ms =>
   have e':mT m++(ms.map mT).flatten=t::q:=by simpa using e
   unfold mT at e';injection e' with e1 e2
   subst e1;decide) ds [] rd0 (by simpa using hd) hdw h0
 obtain⟨M,s2,y1,y2,y3⟩:=D4w (E:=E) ms [] s1 (by simpa using hm) hmw x2;refine⟨D,M,s2,(A7l L E).uniq (x1.map2 y1 λf hx hy=>?_),y2,x3,y3⟩
 grind[B1r]
end
def A5c(v:Int):List D3:=[(0,[115,119,48],3),(0,[115,119,49],9),(0,[115,119,50],40),(0,[115,119,51],63),(1,[99,111,105,108,48],0),(1,[99,111,105,108,49],7),(1,[99,111,105,108,50],31),
 (2,[108,97,109,112,48],0),(2,[108,97,109,112,49],9),(2,[108,97,109,112,50],33),(2,[108,97,109,112,51],63),(3,[115,110,100,48],0),(3,[115,110,100,49],5),(4,[115,104,111,119,48],0),(4,[115,104,111,119,49],1),
 (5,[118,48],v),(5,[118,49],1),(5,[118,50],0),(6,[116,109,48],0),(6,[116,109,49],0),(7,[101,118,48],0),(7,[101,118,49],0)]
def A7t:List Int:=[0,5, -7,2147483647]
def A3g:List (List UInt8):=[[109,111,100,101,48],[109,111,100,101,49],[109,111,100,101,50]]
def A7u(v:Int):List (Int × List UInt8 × Int):=(A5c v).map λd=>(1+(d.1:Int),d.2.1,d.2.2)
def NmM(k:Int)(n:List UInt8):Prop:=(k,n)∈((A7u 0).map λq=>(q.1,q.2.1))++A3g.map λn=>(9,n)
theorem D7t(D:List Dc)(n:List UInt8):(D.find? λd=>d.name==n).map Dc.kind=((D.map st4).find? λq=>q.2.1==n).map (·.1):=by
 induction D with
 |nil=>rfl
 |cons d D ih =>
  rw[A0P,List.find?_cons,List.find?_cons];show Option.map Dc.kind (match d.name==n with|true=>some d|false=>D.find? λd=>d.name==n)=Option.map (·.1) (match d.name==n with|true=>some (st4 d)|false=>(D.map st4).find? λq=>q.2.1==n);cases d.name==n
  ·exact ih
  rfl
theorem D3z{v:Int}{D:List Dc}{M:List Md}(hD:D.map st4=A7u v)(hM:M.map Md.name=A3g):C3j NmM ⟨D,M⟩:=by
 intro k n hn;rw[D6n,D7t,hD];have hM2:M.any (λm=>m.name==n)=A3g.any λx=>x==n:=by rw[<- hM,List.any_map];rfl
 rw[hM2];unfold NmM at hn;have key:∀q∈((A7u 0).map λq=>(q.1,q.2.1))++A3g.map (λn=>((9:Int),n)),((((A7u v).find? λx=>x.2.1==q.2).map (·.1)).or (if(A3g.any λx=>x==q.2)=true then some 9 else none)).getD 0=q.1:=by
  intro q hq;simp only[A7u,A5c,A3g,A0P,List.map_nil,List.cons_append,List.nil_append,A0U,A1R,or_false]at hq;rcases hq with rfl|rfl|rfl|rfl|rfl|rfl|rfl|rfl|rfl|rfl|rfl|rfl|rfl|rfl|rfl|rfl|rfl|rfl|rfl|rfl|rfl|rfl|rfl|rfl|rfl<;>rfl
 grind
theorem E2m{v:Int}(hv:v∈A7t){D:List Dc}{M:List Md}(hD:D.map st4=A7u v)(hM:M.map Md.name=A3g)(hp:∀m∈M,m.prio<=99):A1e D/\E2p D M:=by
 have h1:∀v∈A7t, ∀q∈A7u v,(1<=q.1/\q.1<=8)/\¬q.2.2>B4c q.1:=n7
 have h2:∀v∈A7t,((A7u v).map (·.2.1)++A3g).Nodup:=n7
 have hq:∀d∈D,st4 d∈A7u v:=λd hd=>by rw[<- hD];exact A4N hd
 have hn:D.map Dc.name=(A7u v).map (·.2.1):=by rw[<- hD,A2E];rfl
 refine⟨?_,λd hd=>(h1 v hv _ (hq d hd)).2,λm hm h=>by have:=hp m hm;omega,?_⟩
 ·intro d hd;exact(h1 v hv _ (hq d hd)).1
 grind
theorem D8f{R:Ru}:∀(l pre:List Hd),((pre++l).map st5).Nodup->(∀h∈l,(kdH h.trig=0\/(H5 R h.name).1=kdH h.trig)/\erB R h.body=none)->erH R pre l=none
 |[],pre,_,_=>rfl
 |h::l,pre,hn,hl=>by
  obtain⟨h1,h2⟩:=hl h A0H;have hn2:((pre++[h]++l).map st5).Nodup:=zab
  have ih:=D8f l (pre++[h]) hn2 λx hx=>hl x (A0D _ hx);have hp:(pre.any λx=>x.trig==h.trig&&x.name==h.name)=false:=by
   rw[Bool.eq_false_iff];intro ha;obtain⟨x,hx,he⟩:=List.any_eq_true.1 ha;simp only[A0G,A1S]at he;rw[A0S,A4V]at hn;refine hn.2.2 (st5 x) (A4N hx) (st5 h) (by simp) ?_;unfold st5;rw[he.1,he.2]
  simp_all[erH,A4z]
def F2c(hs:List H3):Prop:=(hs.map λh=>(1+(h.1:Int),h.2.1)).Nodup/\∀h∈hs,kdH (1+(h.1:Int))=0\/NmM (kdH (1+(h.1:Int))) h.2.1
theorem C8k:∀ {ms:List M3} {M:List Md},MsOk NmM ms M->M.map Md.name=ms.map (·.1)/\M.length=ms.length/\((∀m∈ms,m.2.1<=99)->∀x∈M,x.prio<=99)
 |_,_,.nil=>⟨rfl,rfl,λ_ x h=>by grind⟩
 |m::ms,x::l,.cons h t=>by
  obtain⟨h1,h2,h3⟩:=C8k t;refine⟨by rw[A0P,A0P,h1,h.1],by rw[A0C,A0C,h2],λhp y hy=>?_⟩;rcases A0U.1 hy with rfl|hy
  ·rw[h.2.1];exact hp m A0H
  grind
theorem D6j{R:Ru}(hR:C3j NmM R):∀ {ms:List M3} {M:List Md},MsOk NmM ms M->(∀m∈ms,F2c m.2.2)->∀x∈M,erH R [] x.hds=none
 |_,_,.nil,_=>λx h=>j8
 |m::ms,x::l,.cons h t,hh=>by
  intro y hy;rcases A0U.1 hy with rfl|hy
  ·obtain⟨-, -,h3,h4, -⟩:=h;obtain⟨g1,g2⟩:=hh m A0H;refine D8f y.hds [] (by grind) λz hz=>⟨?_,h4 R hR z hz⟩;have hm:st5 z∈m.2.2.map (λh=>(1+(h.1:Int),h.2.1)):=by grind
   obtain⟨q,hq,e⟩:=A0X.1 hm;have e1:z.trig=1+(q.1:Int):=(congrArg (·.1) e).symm;have e2:z.name=q.2.1:=(congrArg (·.2) e).symm;rw[e1,e2];exact(g2 q hq).imp id λh=>hR _ _ h
  ·exact D6j hR t (λz hz=>hh z (A0D _ hz)) y hy
theorem E1r:∀v∈A7t, ∀d∈A5c v,dWf d:=by
 intro v hv d hd;have:∀v∈A7t, ∀d∈A5c v,d.1<8/\(d.1<5->0<=d.2.2)/\(6<=d.1->d.2.2=0):=n7
 exact this v hv d hd
theorem F3x{Nm:Int->List UInt8->Prop}:∀ {ms:List M3} {M:List Md},MsOk Nm ms M->(M.map Md.n).sum<=(ms.map λm=>(m.2.2.map λh=>h.2.2.2+1).sum).sum/\M.map (λx=>x.hds.map st5)=ms.map λm=>m.2.2.map λh=>(1+(h.1:Int),h.2.1)
 |_,_,.nil=>⟨A0E _,rfl⟩
 |m::ms,x::l,.cons h t=>by
  obtain⟨h1,h2⟩:=F3x t;have:=h.2.2.2.2;simp only[A0P,A3D];exact⟨a8,by rw[h2,h.2.2.1]⟩
theorem E1u{s:List UInt8}{v:Int}{ms:List M3}(hv:v∈A7t)(hm:ms.map (·.1)=A3g)(hp:∀m∈ms,m.2.1<=99)(hh:∀m∈ms,F2c m.2.2)(hmw:∀L E, ∀m∈ms,mWf L E NmM m)
  (h0:(J2 s).2.2=0) (h:(J2 s).1.map st3=((A5c v).map dT).flatten++(ms.map mT).flatten) :
  B1y (O7 s).1=none/\(O7 s).2.2=0/\(O7 s).1.decls.map st4=A7u v/\(O7 s).1.modes.map Md.name=A3g/\((O7 s).1.modes.map Md.n).sum<=(ms.map λm=>(m.2.2.map λh=>h.2.2.2+1).sum).sum /\
   (O7 s).1.modes.map (λx=>x.hds.map st5)=ms.map λm=>m.2.2.map λh=>(1+(h.1:Int),h.2.1):=by
 unfold O7;dsimp only;rw[if_neg (by simpa using h0)];have hl3:ms.length=3:=by have:=congrArg List.length hm;simpa[A3g] using this
 obtain⟨D,M,s1,h1,h2,h3,h4⟩:=E7k (E:=s.length) (Nm:=NmM) (ds:=A5c v) (ms:=ms) (by show(22:Nat)<=128;decide) (by omega) (E1r v hv) (λm hm=>hmw _ _ m hm) h;obtain⟨g1,g2,g3⟩:=C8k h4;rw[hm]at g1;have hs:=D3z (v:=v) (D:=D) (M:=M) h3 g1;obtain⟨k1,k2⟩:=E2m hv (D:=D) (M:=M) h3 g1 (g3 hp);obtain⟨n1,n2⟩:=F3x h4;rw[h1];dsimp only;rw[if_neg (by rw[h2];decide)];refine⟨?_,rfl,h3,g1,n1,n2⟩;show(B8s ⟨D,M⟩).or (erM ⟨D,M⟩ M)=none
 grind[C1z,B4v,D6j]
end Go.Pb
set_option maxRecDepth 100000
namespace Go.Pb
variable [Go.Sym.Tab]
open Go.Sym
theorem Pc.up{p:List UInt8}{t:List T3}(h:Pc false p t)(b:Bool):Pc b p t:=λr tr _ hr=>h r tr (λe=>by grind) hr
def dcS:Nat->List UInt8
 |10=>[49,48]
 |11=>[49,49]
 |n=>[A4s n]
theorem F6j{n:Nat}(h:n<12):A4t (n:Int)=dcS n:=by
 by_cases h10:n<10
 ·rw[B9c (by omega) (by omega)];have e:Z7 (n:Int)=n:=by unfold Z7;omega
  rw[e];unfold dcS
  grind
 ·have:n=10\/n=11:=by omega
  rw[C9o (by omega),B9c (by omega) (by grind[A2d])];rcases this with rfl|rfl<;>rfl
def nmB(k:Int)(n:List UInt8):Bool:=(((A7u 0).map λq=>(q.1,q.2.1))++A3g.map λn=>((9:Int),n)).any λ(q:Int × List UInt8)=>q.1==k&&q.2==n
theorem D6b{k:Int}{n:List UInt8}(h:nmB k n=true):NmM k n:=by
 obtain⟨q,h1,h2⟩:=List.any_eq_true.1 h;simp only[A0G,A1S]at h2
 grind[NmM]
def B0q(b:Bool)(s:List UInt8)(ts:List T3):Bool:=B5u b 100 s==some ts
theorem E1v{b:Bool}{s:List UInt8}{ts:List T3}(h:B0q b s ts=true):B5u b 100 s=some ts:=by grind[B0q]
theorem I5{b:Bool}{w:List UInt8}{ts:List T3}(h:B0q b w ts=true):Pc b w ts:=B0p _ _ _ (E1v h)
theorem A3e{b:Bool}{c:UInt8}{p:List UInt8}{t:List T3}(hc:A4j c=true)(h:Pc b p t):Pc b (c::p) t:=λr tr hb hr=>D9q hc (h r tr hb hr)
theorem C0x:Pc false [59] [(5,[59],0)]:=A7r (by rfl) (by rfl) (by simp)
theorem E4v:Pc false [123] [(5,[123],0)]:=A7r (by rfl) (by rfl) (by simp)
theorem E4u:Pc false [125] [(5,[125],0)]:=A7r (by rfl) (by rfl) (by simp)
def NQ(p:List UInt8)(n:Nat)(s:List UInt8):Prop:=∃k,k<n/\s=p++dcS k
theorem NQ.pc{p s:List UInt8}{n:Nat}{k:Int}(h:NQ p n s)(hk:((List.range n).all λj=>B0q true (p++dcS j) [(1,p++dcS j,0)]&&nmB k (p++dcS j))=true):Pc true s [(1,s,0)]/\NmM k s:=by
 obtain⟨j,hj,rfl⟩:=h<;>simp_all[I5,D6b]
def coS:Nat->List UInt8
 |0=>[60]
 |1=>[60,61]
 |2=>[62]
 |3=>[62,61]
 |4=>[61,61]
 |_=>[33,61]
inductive EX:Bool->Int->List UInt8->Nat->Prop where
 |tru {D:Int}:EX false D [116,114,117,101] 1
 |fls {D:Int}:EX false D [102,97,108,115,101] 1
 |act {D:Int} {s:List UInt8}:NQ [109,111,100,101] 3 s->EX false D (97::99::116::105::118::101::32::s) 1
 |clo {D:Int} {s:List UInt8}:NQ [115,119] 4 s->EX false D (99::108::111::115::101::100::32::s) 1
 |var {D:Int} {s:List UInt8}:NQ [118] 3 s->EX true D s 1
 |ply {D:Int}:EX true D [112,108,97,121,101,114] 1
 |bal {D:Int}:EX true D [98,97,108,108] 1
 |lft {D:Int} {s:List UInt8}:NQ [116,109] 2 s->EX true D (108::101::102::116::32::s) 1
 |num {D:Int} {s:List UInt8}:NQ [] 12 s->EX true D s 1
 |big {D:Int} {s:List UInt8}:s∈F6t->EX true D s 1
 |zero {ty:Bool} {D:Int} {s:List UInt8} {n:Nat}:EX ty 0 s n->EX ty D s n
 |neg {D:Int} {s:List UInt8} {n:Nat}:decide (D<=0)=false->EX true 0 s n->EX true D (45::s) (n+1)
 |not {D:Int} {s:List UInt8} {n:Nat}:decide (D<=0)=false->EX false 0 s n->EX false D (33::s) (n+1)
 |bin {D:Int} {s s2:List UInt8} {n m:Nat} {c:UInt8}:c∈[42,47,37,43,45]->decide (D<=0)=false->EX true (D-1) s n->EX true (D-1) s2 m->EX true D (40::(s++32::c::32::(s2++[41]))) (n+m+1)
 |and {D:Int} {s s2:List UInt8} {n m:Nat}:decide (D<=0)=false->EX false (D-1) s n->EX false (D-1) s2 m->EX false D (40::(s++32::38::38::32::(s2++[41]))) (n+m+1)
 |or {D:Int} {s s2:List UInt8} {n m:Nat}:decide (D<=0)=false->EX false (D-1) s n->EX false (D-1) s2 m->EX false D (40::(s++32::124::124::32::(s2++[41]))) (n+m+1)
 |cmp {D:Int} {s s2:List UInt8} {n m:Nat} (k:Nat):k<6->decide (D<=0)=false->EX true (D-1) s n->EX true (D-1) s2 m->EX false D (s++32::(coS k++32::s2)) (n+m+1)
def XT(ty:Bool)(D:Int)(s:List UInt8)(n:Nat):Prop:=∃ts m d c,GX NmM m ty d c n ts/\Pc true s ts/\(∃x q,s=x::q/\x.toNat≠61)/\3<=m/\(ty=true\/D<=0->m=6)/\d<=D.toNat+1/\c<=2 ^ D.toNat
theorem A3l{ty:Bool}{D:Int}{s:List UInt8}{ts:List T3}(h:GX NmM 6 ty 0 1 1 ts)(hp:Pc true s ts)(hh:∃x q,s=x::q/\x.toNat≠61):XT ty D s 1 :=
 ⟨ts,6,0,1,h,hp,hh,by simp,λ_=>rfl,a8,A4Q⟩
theorem C4n{a:List UInt8}{ts:List T3}(h:Pc true a ts):Pc true (40::(a++[41])) ((5,[40],0)::(ts++[(5,[41],0)])):=by
 have h1:Pc false [40] [(5,[40],0)]:=A7r (by rfl) (by rfl) (by simp);have h2:Pc false [41] [(5,[41],0)]:=A7r (by rfl) (by rfl) (by simp);exact(h1.pre (h.lit (c:=41) (q:=[]) h2 (by rfl))).up true
theorem B7q{k:Nat}{ta ty:Bool}{D:Int}{a b o:List UInt8}{n m:Nat}(hk:k<13)(hta:ta=decide (k<11))(hty:ty=decide (k<5))(hD:decide (D<=0)=false)(ha:XT ta (D-1) a n)(hb:XT ta (D-1) b m)
  (ho:B0q false (32::o) [(5,C9.getD k [],0)]=true) (hl:B0 (12+(k:Int))<if ta=true then 6 else 3):∃ts d c,GX NmM (B0 (12+(k:Int))) ty d c (n+m+1) ts/\Pc true (a++32::(o++b)) ts/\(∃x q,a++32::(o++b)=x::q/\x.toNat≠61)/\d<=D.toNat/\c<=2 ^ D.toNat:=by
 obtain⟨ts,m1,d1,c1,h1,h2,⟨x,q,rfl,hx⟩,h3,h4,h5,h6⟩:=ha;obtain⟨ts2,m2,d2,c2,g1,g2, -,g3,g4,g5,g6⟩:=hb;have hD1:0<D:=j8
 have e:D.toNat=(D-1).toNat+1:=a8
 have:=h2.lit (c:=32) (q:=o++b) ((I5 ho).pre g2) (by rfl);have l1:B0 (12+(k:Int))<m1/\B0 (12+(k:Int))<m2:=by
  grind
 exact⟨_,_,_,.bin hk hta hty l1.1 l1.2 h1 g1,this,⟨x,_,rfl,hx⟩,a8,by grind⟩
theorem F6b{ty:Bool}{D:Int}{s:List UInt8}{n:Nat}(h:EX ty D s n):XT ty D s n:=by
 induction h with
 |tru=>exact A3l (.word0 (k:=0) (by simp)) (I5 (by rfl)) ⟨_,_,rfl,by simp⟩
 |fls=>exact A3l (.word0 (k:=1) (by simp)) (I5 (by rfl)) ⟨_,_,rfl,by simp⟩
 |act h =>
  obtain⟨n1,n2⟩:=h.pc (k:=9) (by rfl);exact A3l (.word1 (k:=5) (nk:=9) (by simp) n2) (Pc.pre (p:=[97,99,116,105,118,101,32]) (t:=[(2,I0.getD 5 [],0)]) (I5 (by rfl)) n1) ⟨_,_,rfl,by simp⟩
 |clo h =>
  obtain⟨n1,n2⟩:=h.pc (k:=1) (by rfl);exact A3l (.word1 (k:=4) (nk:=1) (by simp) n2) (Pc.pre (p:=[99,108,111,115,101,100,32]) (t:=[(2,I0.getD 4 [],0)]) (I5 (by rfl)) n1) ⟨_,_,rfl,by simp⟩
 |var h =>
  obtain⟨n1,n2⟩:=h.pc (k:=6) (by rfl);obtain⟨j, -,rfl⟩:=h;exact A3l (.var n2) n1 ⟨_,_,rfl,by simp⟩
 |ply=>exact A3l (.word0 (k:=2) (by simp)) (I5 (by rfl)) ⟨_,_,rfl,by simp⟩
 |bal=>exact A3l (.word0 (k:=3) (by simp)) (I5 (by rfl)) ⟨_,_,rfl,by simp⟩
 |lft h =>
  obtain⟨n1,n2⟩:=h.pc (k:=7) (by rfl);exact A3l (.word1 (k:=6) (nk:=7) (by simp) n2) (Pc.pre (p:=[108,101,102,116,32]) (t:=[(2,I0.getD 6 [],0)]) (I5 (by rfl)) n1) ⟨_,_,rfl,by simp⟩
 |num h =>
  have:∀k,k<12->B0q true (dcS k) [(3,[],(k:Int))]=true/\(match dcS k with |[]=>false|x::_=>decide (x.toNat≠61))=true:=n7
  obtain⟨k,hk,rfl⟩:=h;obtain⟨a1,a2⟩:=this k hk;refine A3l .num (I5 a1) ?_
  grind
 |big h =>
  simp only[F6t,A0U,A1R,or_false]at h;rcases h with rfl|rfl|rfl|rfl
  ·exact A3l (.num (v:=2147483647)) (I5 (by rfl)) ⟨_,_,rfl,by simp⟩
  ·exact A3l (.num (v:=1000000)) (I5 (by rfl)) ⟨_,_,rfl,by simp⟩
  ·exact A3l (.num (v:=65536)) (I5 (by rfl)) ⟨_,_,rfl,by simp⟩
  ·exact A3l (.num (v:=100000)) (I5 (by rfl)) ⟨_,_,rfl,by simp⟩
 |zero _ ih =>
  obtain⟨ts,m,d,c,h1,h2,h3,h4,h5,h6,h7⟩:=ih;have:=h5 (.inr (A2U _));exact⟨ts,m,d,c,h1,h2,h3,h4,λ_=>this,a8,A1B h7 A4Q⟩
 |neg hD _ ih =>
  obtain⟨ts,m,d,c,h1,h2,h3,h4,h5,h6,h7⟩:=ih;have hD1:=of_decide_eq_false hD;obtain rfl:=h5 (.inl rfl);have h0:Pc false [45] [(5,[45],0)]:=A7r (by rfl) (by rfl) (by simp);exact⟨_,6,_,c,.neg h1,h0.pre h2,⟨_,_,rfl,by simp⟩,by simp,λ_=>rfl,a8,A1B h7 A4Q⟩
 |not hD _ ih =>
  obtain⟨ts,m,d,c,h1,h2,⟨x,q,rfl,hx⟩,h4,h5,h6,h7⟩:=ih;have hD1:=of_decide_eq_false hD;obtain rfl:=h5 (.inr (A2U _));exact⟨_,6,_,c,.not h1,E8p h2 hx,⟨_,_,rfl,by simp⟩,by simp,λ_=>rfl,a8,A1B h7 A4Q⟩
 | @bin D s s2 n m c hk hD _ _ iha ihb =>
  have:∀c∈[42,47,37,43,45], ∃k,k<5/\B0q false [32,c,32] [(5,C9.getD k [],0)]=true/\B0 (12+(k:Int))<6:=by
   trivial
  obtain⟨k,hk,a1,a2⟩:=this c hk;obtain⟨ts,d,e,h1,h2,h3,h4,h5⟩:=B7q (k:=k) (ty:=true) (o:=[c,32]) (by omega) (by grind) (by grind) hD iha ihb a1 (by grind);exact⟨_,6,_,e,.par h1,by grind[C4n],⟨_,_,rfl,by simp⟩,by simp,λ_=>rfl,a8,h5⟩
 |and hD _ _ iha ihb =>
  obtain⟨ts,d,c,h1,h2,h3,h4,h5⟩:=B7q (k:=11) (ty:=false) (o:=[38,38,32]) (by simp) rfl rfl hD iha ihb (by rfl) (by decide);exact⟨_,6,_,c,.par h1,by grind[C4n],⟨_,_,rfl,by simp⟩,by simp,λ_=>rfl,a8,h5⟩
 |or hD _ _ iha ihb =>
  obtain⟨ts,d,c,h1,h2,h3,h4,h5⟩:=B7q (k:=12) (ty:=false) (o:=[124,124,32]) (by simp) rfl rfl hD iha ihb (by rfl) (by decide);exact⟨_,6,_,c,.par h1,by grind[C4n],⟨_,_,rfl,by simp⟩,by simp,λ_=>rfl,a8,h5⟩
 |cmp k hk hD _ _ iha ihb =>
  have:∀k,k<6->B0q false (32::(coS k++[32])) [(5,C9.getD (k+5) [],0)]=true/\B0 (12+((k+5:Nat):Int))=3:=n7
  obtain⟨a1,a2⟩:=this k hk;obtain⟨ts,d,c,h1,h2,h3,h4,h5⟩:=B7q (k:=k+5) (ty:=false) (o:=coS k++[32]) (by omega) (by grind) (by simp) hD iha ihb a1 (by grind);have hD1:=of_decide_eq_false hD;exact⟨_,_,_,c,h1,j8,j8,a8,λh=>h.elim (by simp) (λh=>absurd h hD1),a8,h5⟩
theorem EX.sx{ty:Bool}{D:Int}{s:List UInt8}{n:Nat}(h:EX ty D s n)(hD:D<=2):∃ts,SX NmM ty ts n/\Pc true s ts:=by
 obtain⟨ts,m,d,c,h1,h2, -, -, -,h3,h4⟩:=F6b h;have:2 ^ D.toNat<=2 ^ 2:=A3S (by simp) (by omega);exact⟨ts,⟨m,d,c,a8,a8,h1⟩,h2⟩
def onS:Nat->List UInt8 × List UInt8 × Nat × Nat × Int
 |0=>([102,105,114,101,32],[99,111,105,108],3,3,2)
 |1=>([104,111,108,100,32],[99,111,105,108],3,4,2)
 |2=>([114,101,108,101,97,115,101,32],[99,111,105,108],3,5,2)
 |3=>([115,116,111,112,32],[116,109],2,9,7)
 |4=>([98,101,103,105,110,32],[109,111,100,101],3,10,9)
 |5=>([101,110,100,32],[109,111,100,101],3,11,9)
 |6=>([112,111,115,116,32],[101,118],2,12,8)
 |7=>([112,108,97,121,32],[115,110,100],2,13,4)
 |8=>([114,117,110,32],[115,104,111,119],2,14,5)
 |_=>([104,97,108,116,32],[115,104,111,119],2,15,5)
def txP:Nat->List UInt8
 |0=>[116,101,120,116,32,34,103,111,34,44,32]
 |1=>[116,101,120,116,32,34,106,97,99,107,112,111,116,34,44,32]
 |2=>[116,101,120,116,32,34,97,92,34,98,34,44,32]
 |_=>[116,101,120,116,32,34,34,44,32]
def txV:Nat->List UInt8
 |0=>[103,111]
 |1=>[106,97,99,107,112,111,116]
 |2=>[97,34,98]
 |_=>[]
inductive ST (K:List UInt8->Nat->Prop):List UInt8->Nat->Prop where
 |ifA {b x:List UInt8} {n m:Nat}:EX false 1 b n->K x m->ST K (105::102::32::(b++32::x)) (n+m+2)
 |ifB {b x y:List UInt8} {n m m2:Nat}:EX false 1 b n->K x m->K y m2->ST K (105::102::32::(b++32::(x++32::101::108::115::101::32::y))) (n+m+m2+2)
 |ifC {b x e y:List UInt8} {n m n2 m2:Nat}:EX false 1 b n->K x m->EX false 0 e n2->K y m2->ST K (105::102::32::(b++32::(x++32::101::108::115::101::32::105::102::32::(e++32::y)))) (n+m+(n2+m2+2)+2)
 |rep {e x:List UInt8} {n m:Nat}:EX true 0 e n->K x m->ST K (114::101::112::101::97::116::32::(e++32::x)) (n+m+2)
 |sco {e:List UInt8} {n:Nat}:EX true 1 e n->ST K (115::99::111::114::101::32::(e++[59])) (n+2)
 |one {s:List UInt8} (k:Nat):k<10->NQ (onS k).2.1 (onS k).2.2.1 s->ST K ((onS k).1++(s++[59])) 2
 |lig {s e:List UInt8} {n:Nat}:NQ [108,97,109,112] 4 s->EX true 0 e n->ST K (108::105::103::104::116::32::(s++32::(e++[59]))) (n+2)
 |bli {s e f:List UInt8} {n m:Nat}:NQ [108,97,109,112] 4 s->EX true 0 e n->EX true 0 f m->ST K (98::108::105::110::107::32::(s++32::(e++44::32::(f++[59])))) (n+m+2)
 |sta {s e:List UInt8} {n:Nat}:NQ [116,109] 2 s->EX true 1 e n->ST K (115::116::97::114::116::32::(s++32::(e++[59]))) (n+2)
 |txt {e:List UInt8} {n:Nat} (k:Nat):k<4->EX true 0 e n->ST K (txP k++(e++[59])) (n+21)
 |con:ST K [99,111,110,115,117,109,101,59] 2
 |asg {s e:List UInt8} {n:Nat}:NQ [118] 3 s->EX true 2 e n->ST K (s++32::61::32::(e++[59])) (n+2)
theorem E4n{K:List UInt8->Nat->Prop}{B:List T3->Nat->Prop}(hK:∀x m,K x m->∃ts,B ts m/\Pc false x ts){s:List UInt8}{n:Nat}(h:ST K s n):∃ts,GS NmM B ts n/\Pc false s ts:=by
 cases h with
 |ifA hb hx =>
  obtain⟨tb,b1,b2⟩:=hb.sx (by simp);obtain⟨tx,x1,x2⟩:=hK _ _ hx;exact⟨_,.ifs b1 x1,Pc.pre (p:=[105,102,32]) (t:=[wdT 0]) (I5 (by rfl)) (b2.lit (c:=32) (A3e (by rfl) x2) (by rfl))⟩
 |ifB hb hx hy =>
  obtain⟨tb,b1,b2⟩:=hb.sx (by simp);obtain⟨tx,x1,x2⟩:=hK _ _ hx;obtain⟨ty,y1,y2⟩:=hK _ _ hy;exact⟨_,.ife b1 x1 y1,Pc.pre (p:=[105,102,32]) (t:=[wdT 0]) (I5 (by rfl)) (b2.lit (c:=32) (A3e (by rfl) (x2.pre (Pc.pre (p:=[32,101,108,115,101,32]) (t:=[(2,[101,108,115,101],0)]) (I5 (by rfl)) y2))) (by rfl))⟩
 |ifC hb hx hc hy =>
  obtain⟨tb,b1,b2⟩:=hb.sx (by simp);obtain⟨tx,x1,x2⟩:=hK _ _ hx;obtain⟨tc,c1,c2⟩:=hc.sx (by simp);obtain⟨ty,y1,y2⟩:=hK _ _ hy;exact⟨_,.ifi b1 x1 c1 y1,Pc.pre (p:=[105,102,32]) (t:=[wdT 0]) (I5 (by rfl)) (b2.lit (c:=32) (A3e (by rfl) (x2.pre (Pc.pre (p:=[32,101,108,115,101,32,105,102,32]) (t:=[(2,[101,108,115,101],0),wdT 0]) (I5 (by rfl)) (c2.lit (c:=32) (A3e (by rfl) y2) (by rfl))))) (by rfl))⟩
 |rep he hx =>
  obtain⟨te,e1,e2⟩:=he.sx (by simp);obtain⟨tx,x1,x2⟩:=hK _ _ hx;exact⟨_,.rep e1 x1,Pc.pre (p:=[114,101,112,101,97,116,32]) (t:=[wdT 1]) (I5 (by rfl)) (e2.lit (c:=32) (A3e (by rfl) x2) (by rfl))⟩
 |sco he =>
  obtain⟨te,e1,e2⟩:=he.sx (by simp);exact⟨_,.score e1,Pc.pre (p:=[115,99,111,114,101,32]) (t:=[wdT 2]) (I5 (by rfl)) (e2.lit C0x (by rfl))⟩
 |one k hk hn =>
  have:∀k,k<10->B0q false (onS k).1 [wdT (onS k).2.2.2.1]=true/\((onS k).2.2.2.1,(onS k).2.2.2.2)∈C8j/\((List.range (onS k).2.2.1).all λj=>B0q true ((onS k).2.1++dcS j) [(1,(onS k).2.1++dcS j,0)]&&nmB (onS k).2.2.2.2 ((onS k).2.1++dcS j))=true:=n7
  obtain⟨a1,a2,a3⟩:=this k hk;obtain⟨n1,n2⟩:=hn.pc a3;exact⟨_,.name a2 n2,(I5 a1).pre (n1.lit C0x (by rfl))⟩
 |lig hn he =>
  obtain⟨n1,n2⟩:=hn.pc (k:=3) (by rfl);obtain⟨te,e1,e2⟩:=he.sx (by simp);exact⟨_,.arg (j:=6) (k:=3) (by simp) n2 e1,Pc.pre (p:=[108,105,103,104,116,32]) (t:=[wdT 6]) (I5 (by rfl)) (n1.lit (c:=32) (A3e (by rfl) (e2.lit C0x (by rfl))) (by rfl))⟩
 |bli hn he hf =>
  obtain⟨n1,n2⟩:=hn.pc (k:=3) (by rfl);obtain⟨te,e1,e2⟩:=he.sx (by simp);obtain⟨tf,f1,f2⟩:=hf.sx (by simp);exact⟨_,.blink n2 e1 f1,Pc.pre (p:=[98,108,105,110,107,32]) (t:=[wdT 7]) (I5 (by rfl)) (n1.lit (c:=32) (A3e (by rfl) (e2.lit (c:=44) (Pc.pre (p:=[44,32]) (t:=[sgT [44]]) (I5 (by rfl)) (f2.lit C0x (by rfl))) (by rfl))) (by rfl))⟩
 |sta hn he =>
  obtain⟨n1,n2⟩:=hn.pc (k:=7) (by rfl);obtain⟨te,e1,e2⟩:=he.sx (by simp);exact⟨_,.arg (j:=8) (k:=7) (by simp) n2 e1,Pc.pre (p:=[115,116,97,114,116,32]) (t:=[wdT 8]) (I5 (by rfl)) (n1.lit (c:=32) (A3e (by rfl) (e2.lit C0x (by rfl))) (by rfl))⟩
 |txt k hk he =>
  obtain⟨te,e1,e2⟩:=he.sx (by simp);have:∀k,k<4->B0q false (txP k) [wdT 16,(4,txV k,0),sgT [44]]=true:=n7
  exact⟨_,.text e1,(I5 (this k hk)).pre (e2.lit C0x (by rfl))⟩
 |con=>exact⟨_,.consume,Pc.lit (p:=[99,111,110,115,117,109,101]) (q:=[]) (t:=[wdT 17]) (I5 (b:=true) (by rfl)) C0x (by rfl)⟩
 |asg hn he =>
  obtain⟨n1,n2⟩:=hn.pc (k:=6) (by rfl);obtain⟨te,e1,e2⟩:=he.sx (by simp);exact⟨_,.set n2 e1,n1.lit (c:=32) (Pc.pre (p:=[32,61,32]) (t:=[sgT [61]]) (I5 (by rfl)) (e2.lit C0x (by rfl))) (by rfl)⟩
inductive BO (S:List UInt8->Nat->Prop):Nat->List UInt8->Nat->Prop where
 |nil:BO S 0 [123] 0
 |snoc {k:Nat} {u a:List UInt8} {n m:Nat}:BO S k u n->S a m->BO S (k+1) (u++32::a) (n+m)
def BK(S:List UInt8->Nat->Prop)(x:List UInt8)(n:Nat):Prop:=∃k u,k<=3/\BO S k u n/\x=u++[32,125]
theorem E5r{S:List UInt8->Nat->Prop}{G:List T3->Nat->Prop}(hS:∀x m,S x m->∃ts,G ts m/\Pc false x ts){x:List UInt8}{n:Nat}(h:BK S x n):∃ts,GB G ts n/\Pc false x ts:=by
 obtain⟨k,u,hk,hu,rfl⟩:=h;have key:∀ {k:Nat} {u:List UInt8} {n:Nat},BO S k u n->∃us,GR G k us n/\Pc false u (sgT [123]::us):=by
  intro k u n h
  induction h with
  |nil=>exact⟨[],.nil,E4v⟩
  |snoc _ ha ih =>
   obtain⟨us,h1,h2⟩:=ih;obtain⟨ts,h3,h4⟩:=hS _ _ ha;exact⟨_,.snoc h1 h3,h2.pre (A3e (by rfl) h4)⟩
 obtain⟨us,h1,h2⟩:=key hu;exact⟨_,⟨k,us,a8,h1,rfl⟩,h2.pre (A3e (by rfl) E4u)⟩
def STd:Nat->List UInt8->Nat->Prop
 |0=>ST λ_ _=>False
 |d+1=>ST (BK (STd d))
theorem D4a:∀(d:Nat) (x:List UInt8) (n:Nat),STd d x n->∃ts,GSd NmM d ts n/\Pc false x ts
 |0,x,n,h=>E4n (K:=λ_ _=>False) (B:=λ_ _=>False) (λ_ _ h=>h.elim) h
 |d+1,x,n,h=>E4n (K:=BK (STd d)) (B:=GB (GSd NmM d)) (λy m hy=>E5r (D4a d) hy) h
def hdS:Nat->List UInt8
 |0=>[111,110,32,115,116,97,114,116,32]
 |1=>[111,110,32,115,116,111,112,32]
 |2=>[111,110,32,99,108,111,115,101,32,115,119,48,32]
 |3=>[111,110,32,111,112,101,110,32,115,119,48,32]
 |4=>[111,110,32,99,108,111,115,101,32,115,119,49,32]
 |5=>[111,110,32,99,108,111,115,101,32,115,119,50,32]
 |6=>[111,110,32,116,105,109,101,114,32,116,109,48,32]
 |7=>[111,110,32,116,105,109,101,114,32,116,109,49,32]
 |8=>[111,110,32,101,118,101,110,116,32,101,118,48,32]
 |9=>[111,110,32,101,118,101,110,116,32,101,118,49,32]
 |_=>[111,110,32,111,112,101,110,32,115,119,51,32]
def trI:Nat->Nat × List UInt8
 |0=>(0,[])
 |1=>(1,[])
 |2=>(2,[115,119,48])
 |3=>(3,[115,119,48])
 |4=>(2,[115,119,49])
 |5=>(2,[115,119,50])
 |6=>(4,[116,109,48])
 |7=>(4,[116,109,49])
 |8=>(5,[101,118,48])
 |9=>(5,[101,118,49])
 |_=>(3,[115,119,51])
def ruA:List UInt8:=[115,119,105,116,99,104,32,115,119,48,32,51,59,32,115,119,105,116,99,104,32,115,119,49,32,57,59,32,115,119,105,116,99,104,32,115,119,50,32,52,48,59,32,115,119,105,116,99,104,32,115,119,51,32,54,51,59,10,99,111,105,108,32,99,111,105,108,48,32,48,59,32,99,111,105,108,32,99,111,105,108,49,32,55,59,32,99,111,105,108,32,99,111,105,108,50,32,51,49,59,10,108,97,109,112,32,108,97,109,112,48,32,48,59,32,108,97,109,112,32,108,97,109,112,49,32,57,59,32,108,97,109,112,32,108,97,109,112,50,32,51,51,59,32,108,97,109,112,32,108,97,109,112,51,32,54,51,59,10,115,111,117,110,100,32,115,110,100,48,32,48,59,32,115,111,117,110,100,32,115,110,100,49,32,53,59,32,115,104,111,119,32,115,104,111,119,48,32,48,59,32,115,104,111,119,32,115,104,111,119,49,32,49,59,10]
def ruB:List UInt8:=[118,97,114,32,118,48,32]
def ruC:List UInt8:=[59,32,118,97,114,32,118,49,32,49,59,32,118,97,114,32,118,50,32,48,59,32,116,105,109,101,114,32,116,109,48,59,32,116,105,109,101,114,32,116,109,49,59,32,101,118,101,110,116,32,101,118,48,59,32,101,118,101,110,116,32,101,118,49,59,10]
def v0L:List (List UInt8):=[[48],[53],[45,55],[50,49,52,55,52,56,51,54,52,55]]
theorem C9q(k:Nat)(h:k<10):(dcS k).length<=1:=by
 have:∀k,k<10->(dcS k).length<=1:=n7
 grind
def HD(m:Nat)(s:List UInt8)(n:Nat):Prop:=∃x,BK (STd 2) x n/\s=hdS m++x
theorem HD.pc{m:Nat}{s:List UInt8}{n:Nat}(hm:m<11)(h:HD m s n):∃ts,GB (GSd NmM 2) ts n/\Pc false s (hT ((trI m).1,(trI m).2,ts,n)):=by
 obtain⟨x,hx,rfl⟩:=h;obtain⟨ts,h1,h2⟩:=E5r (D4a 2) hx;have hl:∀j,j<11->B0q false (hdS j) (hT ((trI j).1,(trI j).2,[],0))=true:=n7
 exact⟨ts,h1,by simpa[hT] using (I5 (hl m hm)).pre h2⟩
theorem F4s{m:Nat}(hm:m<11){ts:List T3}{n:Nat}(h:GB (GSd NmM 2) ts n)(L:List Tok)(E:Int):hWf L E NmM ((trI m).1,(trI m).2,ts,n):=by
 have:∀j,j<11->(trI j).1<6/\((trI j).1<2->(trI j).2=[]):=n7
 exact⟨(this m hm).1,(this m hm).2,F0m 2 h⟩
def F1y(hs:List H3):Prop:=∃k q,k<11/\q<=4/\hs.map (λh=>(h.1,h.2.1))=(List.range q).map λj=>trI ((k+j)%11)
def RQ(i:Nat)(s:List UInt8)(N:Nat):Prop:=∃(v:Int) (ms:List M3),v∈A7t/\ms.map (·.1)=A3g.take i/\(∀m∈ms,m.2.1<=99/\F1y m.2.2/\∀L E,mWf L E NmM m)/\Pc false s (((A5c v).map dT).flatten++(ms.map mT).flatten)/\(ms.map λm=>(m.2.2.map λh=>h.2.2.2+1).sum).sum=N
def RN(i k q:Nat)(s:List UInt8)(N:Nat):Prop:=∃(v:Int) (ms:List M3) (p:Int) (hs:List H3) (M:Nat),v∈A7t/\ms.map (·.1)=A3g.take i/\(∀m∈ms,m.2.1<=99/\F1y m.2.2/\∀L E,mWf L E NmM m)/\p<=99/\hs.map (λh=>(h.1,h.2.1))=(List.range q).map (λj=>trI ((k+j)%11)) /\
 (∀h∈hs, ∀L E,hWf L E NmM h)/\Pc false s (((A5c v).map dT).flatten++((ms.map mT).flatten++((2,[109,111,100,101],0)::(1,A3g.getD i [],0)::(3,[],p)::(5,[123],0)::(hs.map hT).flatten))) /\
 (ms.map λm=>(m.2.2.map λh=>h.2.2.2+1).sum).sum=M/\M+(hs.map λh=>h.2.2.2+1).sum=N
theorem RQ.head{k:Nat}(hk:k<4):RQ 0 (ruA++(ruB++(v0L.getD k []++ruC))) 0:=by
 have hl:∀k,k<4->k=2\/((B5u false 2000 (ruA++(ruB++(v0L.getD k []++ruC)))==some (((A5c (A7t.getD k 0)).map dT).flatten))=true/\A7t.getD k 0∈A7t):=l9
 have key:∀v∈A7t,Pc false (ruA++(ruB++(v0L.getD k []++ruC))) ((A5c v).map dT).flatten->RQ 0 (ruA++(ruB++(v0L.getD k []++ruC))) 0:=λv hv h =>
  ⟨v,[],hv,rfl,(λm hm=>by grind),j8,rfl⟩
 rcases hl k hk with rfl|⟨h1,h2⟩
 ·have e1:(B5u false 2000 (ruA++ruB)==some ((((A5c (-7)).map dT).flatten).take 62))=true:=by rfl
  have e2:(B5u false 2000 ([55]++ruC)==some ((((A5c (-7)).map dT).flatten).drop 63))=true:=by rfl
  have e3:((((A5c (-7)).map dT).flatten).take 62++((5,[45],0)::(((A5c (-7)).map dT).flatten).drop 63)==((A5c (-7)).map dT).flatten)=true:=by rfl
  have h45:Pc false [45] [(5,[45],0)]:=A7r (by rfl) (by rfl) (by simp);have:=(B0p _ _ _ (eq_of_beq e1)).pre (h45.pre (B0p _ _ _ (eq_of_beq e2)));have e4:=eq_of_beq e3;have e5:ruA++(ruB++(v0L.getD 2 []++ruC))=(ruA++ruB)++([45]++([55]++ruC)):=by
   rfl
  have e6:(((A5c (-7)).map dT).flatten).take 62++([(5,[45],0)]++(((A5c (-7)).map dT).flatten).drop 63)=((A5c (-7)).map dT).flatten:=e4;rw[e6]at this;exact key (-7) (by decide) (by grind)
 ·exact key _ h2 (B0p _ _ _ (eq_of_beq h1))
theorem RQ.mode{i k p:Nat}{s:List UInt8}{N:Nat}(h:RQ i s N)(hi:i<3)(hp:p<4):RN i k 0 (s++(109::111::100::101::32::109::111::100::101::(dcS i++(32::(dcS p++[32,123,10]))))) N:=by
 obtain⟨v,ms,h1,h2,h3,h4,h5⟩:=h;have hl:∀i,i<3->∀p,p<4->B0q false (109::111::100::101::32::109::111::100::101::(dcS i++(32::(dcS p++[32])))) [(2,[109,111,100,101],0),(1,A3g.getD i [],0),(3,[],(p:Int))]=true:=l9
 have:=h4.pre ((I5 (hl i hi p hp)).pre (E4v.pre (p':=[10]) (t':=[]) (I5 (b:=false) (by rfl))));exact⟨v,ms,(p:Int),[],_,h1,h2,h3,a8,rfl,(λh hh=>by grind),j8,h5,by simp⟩
theorem RN.add{i k q:Nat}{s x:List UInt8}{N n:Nat}(h:RN i k q s N)(hx:HD ((k+q)%11) x n):RN i k (q+1) (s++(x++[10])) (N+n+1):=by
 obtain⟨v,ms,p,hs,M,h1,h2,h3,h4,h5,h6,h7,h8,h9⟩:=h;have hm:(k+q)%11<11:=Nat.mod_lt _ (by decide);obtain⟨ts,g1,g2⟩:=hx.pc hm;have:=h7.pre (g2.pre (p':=[10]) (t':=[]) (I5 (b:=false) (by decide)));refine⟨v,ms,p,hs++[((trI ((k+q)%11)).1,(trI ((k+q)%11)).2,ts,n)],M,h1,h2,h3,h4,?_,λh hh=>?_,by simpa using this,h8,by simp;omega⟩
 ·rw[A0S,h5,List.range_succ,A0S];rfl
 grind[F4s]
theorem F4q(k:Nat)(hk:k<11)(q:Nat)(hq:q<=4){hs:List H3}(h:hs.map (λh=>(h.1,h.2.1))=(List.range q).map (λj=>trI ((k+j)%11))):F2c hs:=by
 constructor
 ·have e:(hs.map λh=>(1+(h.1:Int),h.2.1))=(List.range q).map λj=>(1+((trI ((k+j)%11)).1:Int),(trI ((k+j)%11)).2):=by
   have:=congrArg (List.map λx:Nat × List UInt8=>(1+(x.1:Int),x.2)) h;rw[A2E,A2E]at this;exact this
  rw[e];have:∀k,k<11->∀q,q<5->((List.range q).map λj=>(1+((trI ((k+j)%11)).1:Int),(trI ((k+j)%11)).2)).Nodup:=by decide +kernel
  grind
 ·intro x hx;have:=A4N (f:=λh:H3=>(h.1,h.2.1)) hx;rw[h]at this;obtain⟨j, -,e⟩:=A0X.1 this;have hl:∀j,j<11->kdH (1+((trI j).1:Int))=0\/nmB (kdH (1+((trI j).1:Int))) (trI j).2=true:=by decide
  have e1:=congrArg Prod.fst e;have e2:=congrArg Prod.snd e
  grind[D6b]
theorem RN.close{i k q:Nat}{s:List UInt8}{N:Nat}(h:RN i k q s N)(hi:i<3)(hk:k<11)(hq:q<=4):RQ (i+1) (s++[125,10]) N:=by
 obtain⟨v,ms,p,hs,M,h1,h2,h3,h4,h5,h6,h7,h8,h9⟩:=h;have hlen:hs.length=q:=by simpa using congrArg List.length h5
 have:=h7.pre (E4u.pre (p':=[10]) (t':=[]) (I5 (b:=false) (by rfl)));refine⟨v,ms++[(A3g.getD i [],p,hs)],h1,?_,λm hm=>?_,by grind[mT],by grind⟩
 ·rw[A0S,h2,A0P,List.map_nil];have:∀i,i<3->A3g.take i++[A3g.getD i []]=A3g.take (i+1):=by decide
  grind
 ·rcases A1A.1 hm with hm|hm
  ·grind
  ·obtain rfl:=A1N.1 hm;exact⟨h4,⟨k,q,hk,hq,h5⟩,λL E=>⟨j8,λh hh=>h6 h hh L E⟩⟩
theorem RQ.ok{s:List UInt8}{N:Nat}(h:RQ 3 s N)(hs:s.length<=20000)(hN:N<=4000):(O7 s).2.2=0/\ChkR (O7 s).1/\C2u (O7 s).1=(cmC (O7 s).1,0,0)/\(∃v∈A7t,(O7 s).1.decls.map st4=A7u v)/\(O7 s).1.modes.map Md.name=A3g /\
  ∃ms:List M3,(∀m∈ms,F1y m.2.2)/\(O7 s).1.modes.map (λx=>x.hds.map st5)=ms.map λm=>m.2.2.map λh=>(1+(h.1:Int),h.2.1):=by
 obtain⟨v,ms,h1,h2,h3,h4,h5⟩:=h;have h0:=h4.scan hs;obtain⟨g1,g2,g3,g4,g5,g6⟩:=E1u h1 h2 (λm hm=>(h3 m hm).1) (λm hm=>let ⟨k,q,h1,h2,h3⟩:=(h3 m hm).2.1;F4q k h1 q h2 h3) (λL E m hm=>(h3 m hm).2.2 L E) h0 (h4.toks h0);have hc:ChkR (O7 s).1:=⟨C4p s,g1⟩
 grind[D2g]
theorem F1k{pre pre':List Dc}(h:pre.map st4=pre'.map st4)(k:Int):cnR ⟨pre,[]⟩ k=cnR ⟨pre',[]⟩ k:=by
 have e:∀l:List Dc,cnD l k=(l.map st4).countP λq=>q.1==k:=λl=>by rw[List.countP_map];rfl
 grind[cnR]
theorem D6r{n:List UInt8}:∀ {D D' pre pre':List Dc},D.map st4=D'.map st4->pre.map st4=pre'.map st4->lkD pre D n=lkD pre' D' n
 |[],[],_,_,_,_=>rfl
 |[],_::_,_,_,h,_=>j8
 |_::_,[],_,_,h,_=>j8
 |d::D,d'::D',pre,pre',h,hp=>by
  rw[A0P,A0P]at h;injection h with h1 h2
  have e1:d.kind=d'.kind:=congrArg (·.1) h1;have e2:d.name=d'.name:=congrArg (·.2.1) h1;have e3:d.value=d'.value:=congrArg (·.2.2) h1;have ih:=D6r (n:=n) h2 (show(pre++[d]).map st4=(pre'++[d']).map st4 by rw[A0S,A0S,hp,A0P,h1];rfl)
  grind[lkD,F1k]
def trN:Nat->Int
 |2=>3
 |3=>3
 |4=>9
 |5=>40
 |7=>1
 |9=>1
 |10=>63
 |_=>0
theorem E6r{r:Ru}(hc:ChkR r){v:Int}(hv:v∈A7t)(hD:r.decls.map st4=A7u v){m:Nat}(hm:m<11):nmR r (trI m).2=trN m:=by
 have h2:m<2\/2<=m:=a8
 rcases h2 with h2|h2
 ·have:∀m,m<2->(trI m).2=[]/\trN m=0:=by decide
  show(H5 r (trI m).2).2=_;rw[(this m h2).1,(this m h2).2,hc.nil]
 ·have e:∀v∈A7t, ∀m,m<11->2<=m->(lkD [] ((A7u v).map λq=>(⟨q.1,q.2.1,q.2.2,0⟩:Dc)) (trI m).2).map (·.2)=some (trN m):=by decide +kernel
  have e2:=e v hv m hm h2;rw[<- D6r (D:=r.decls) (pre:=[]) (pre':=[]) (by rw[hD,A2E];exact(List.map_id _).symm) rfl]at e2
  grind[H5]
theorem C0u(q:List KB)(ks:List Ky):(ptK q ks).map (·.1)=ks.filter λk=>decide (U5 q k≠[]):=by
 induction ks<;>grind[ptK]
theorem E3u{q:List KB}{k:Ky}:U5 q k≠[]↔k∈q.map (·.1):=by
 unfold U5;simp
theorem E0p{nm:List UInt8->Int}{i:Nat}{l:List Hd}(h:∀x∈l,HOk nm x)(hn:(l.map λx=>(x.trig,nm x.name)).Nodup):((rfP nm i l).map (·.1)).Perm (l.map λx=>(hdK nm i x).1):=by
 have e:((l.map (hdK nm i)).map (·.1))=l.map λx=>(hdK nm i x).1:=by simp
 rw[<- e];refine(List.perm_ext_iff_of_nodup ?_ ?_).2 λk=>?_
 ·unfold rfP;rw[C0u];exact List.Pairwise.filter _ ((B4n i).imp λh e=>by grind[Ky.lt_irrefl])
 ·grind[hdK]
 ·unfold rfP;rw[C0u,List.mem_filter,A0L,E3u];refine⟨λh=>h.2,λhk=>⟨?_,hk⟩⟩;rw[e]at hk;obtain⟨x,hx,rfl⟩:=A0X.1 hk;obtain⟨a,b,c,d⟩:=h x hx;exact A8u.2 ⟨rfl,a,b,c,d⟩
theorem C0q{nm:List UInt8->Int}:∀ {l:List Md} {i:Nat},(∀m∈l,(∀x∈m.hds,HOk nm x)/\(m.hds.map λx=>(x.trig,nm x.name)).Nodup) ->
  (V7 nm i l).length=(l.map λm=>m.hds.length).sum/\∀(j:Nat) (m:Md) (x:Hd),l[j]? = some m->x∈m.hds->(hdK nm (i+j) x).1∈(V7 nm i l).map (·.1)
 |[],i,_=>⟨rfl,λj m x h=>by grind⟩
 |m::l,i,h=>by
  obtain⟨h1,h2⟩:=h m A0H;have hp:=E0p (i:=i) h1 h2;obtain⟨g1,g2⟩:=C0q (l:=l) (i:=i+1) λx hx=>h x (A0D _ hx);have hl:=hp.length_eq;rw[A0N,A0N]at hl;rw[V7]
  grind
theorem B6y{m t i:Int}:∀ {l:List Ent},(⟨m,t,i⟩:Ky)∈l.map (λe=>(⟨e.mode,e.trigger,e.index⟩:Ky))->∃p,A7f m t i l=some p
 |[],h=>j8
 |e::l,h=>by
  rw[A7f];split
  ·simp
  ·rename_i hn;rcases A0U.1 h with h|h
   ·grind
   ·exact B6y h
theorem RQ.carry{s:List UInt8}{N:Nat}(h:RQ 3 s N)(hs:s.length<=20000)(hN:N<=4000):(cmC (O7 s).1).entries.length=((O7 s).1.modes.map λm=>m.hds.length).sum /\
  (∀m∈(O7 s).1.modes,m.hds.length<=4)/\∀(j:Nat) (m:Md) (x:Hd),(O7 s).1.modes[j]? = some m->x∈m.hds->∃p,A7f j x.trig (H5 (O7 s).1 x.name).2 (cmC (O7 s).1).entries=some p:=by
 obtain⟨-,hc, -,⟨v,hv,hD⟩,hM,ms,hT,hm⟩:=h.ok hs hN;generalize (O7 s).1=r at *;have key:∀m∈r.modes,(∀x∈m.hds,HOk (nmR r) x)/\(m.hds.map λx=>(x.trig,nmR r x.name)).Nodup/\m.hds.length<=4:=by
  intro m hmm;obtain⟨m3,h3,e3⟩:=A0X.1 (show m.hds.map st5∈ms.map λm=>m.2.2.map λh=>(1+(h.1:Int),h.2.1) by grind);obtain⟨k,q,hk,hq,e4⟩:=hT m3 h3;have e5:m.hds.map st5=(List.range q).map λj=>(1+((trI ((k+j)%11)).1:Int),(trI ((k+j)%11)).2):=by
   have:=congrArg (List.map λx:Nat × List UInt8=>(1+(x.1:Int),x.2)) e4;rw[A2E,A2E]at this;rw[<- e3];trivial
  have e6:(m.hds.map λx=>(x.trig,nmR r x.name))=(List.range q).map λj=>(1+((trI ((k+j)%11)).1:Int),trN ((k+j)%11)):=by
   have:=congrArg (List.map λx:Int × List UInt8=>(x.1,nmR r x.2)) e5;rw[A2E,A2E]at this;refine Eq.trans this (A3Y λj _=>?_);show((1+((trI ((k+j)%11)).1:Int)),nmR r (trI ((k+j)%11)).2)=_
   grind[E6r]
  refine⟨λx hx=>?_,?_,?_⟩
  ·have:(x.trig,nmR r x.name)∈(List.range q).map λj=>(1+((trI ((k+j)%11)).1:Int),trN ((k+j)%11)):=by grind
   obtain⟨j, -,e⟩:=A0X.1 this;have hl:∀j,j<11->(1<=1+((trI j).1:Int)/\1+((trI j).1:Int)<=6)/\0<=trN j/\trN j<128:=n7
   obtain⟨⟨a1,a2⟩,a3,a4⟩:=hl _ (Nat.mod_lt (k+j) (show 0<11 by simp));injection e with u1 u2
   exact⟨a8,a8,a8,by omega⟩
  ·rw[e6];have:∀k,k<11->∀q,q<5->((List.range q).map λj=>(1+((trI ((k+j)%11)).1:Int),trN ((k+j)%11))).Nodup:=by decide +kernel
   grind
  ·have:=congrArg List.length e6
   grind
 obtain⟨g1,g2⟩:=C0q (nm:=nmR r) (l:=r.modes) (i:=0) λm hm=>⟨(key m hm).1,(key m hm).2.1⟩;have hk:=B5b (nmR r) (V7 (nmR r) 0 r.modes) 0 [];refine⟨?_,λm hm=>(key m hm).2.2,λj m x hj hx=>?_⟩
 ·have:=congrArg List.length hk;rw[A0N,A0N]at this;exact Eq.trans this g1
 ·have:=g2 j m x hj hx;rw[<- hk,A1F]at this;exact B6y this
abbrev Sn(n:Int):Prop := -18014398509481984<=n/\n<=18014398509481983
structure Bndn (c:Prg):Prop where
 ins:∀i∈c.instrs,Sn i.op/\Sn i.A
 ent:∀e∈c.entries,Sn e.mode/\Sn e.trigger/\Sn e.index/\Sn e.pos
 pri:∀n∈c.prios,Sn n
 var:∀n∈c.vars,Sn n
 tim:Sn c.timers
 evt:Sn c.events
 str:∀s∈c.strings,s.length<=32
theorem A2p{n lo hi:Int}(h:inM n lo hi=true)(h1 : -18014398509481984<=lo)(h2:hi<=18014398509481983):Sn n:=by
 simp_all[inM];omega
theorem E2c{c:Prg}(hL:P2 c=true){k a:Int}(hJ:k≠7)(h:I1 c k a=true):Sn a:=by
 obtain⟨d1,d2,d3,d4,d5,d6,d7,d8,d9⟩:=Lim.dims hL;by_cases e0:k=0
 ·subst e0;have h':decide (a=0)=true:=h;simp only[A0L]at h';exact⟨a8,by omega⟩
 by_cases e1:k=1
 ·subst e1;exact A2p (lo:=(-2147483647)) (hi:=2147483647) h (by omega) (by omega)
 by_cases e2:k=2
 ·subst e2;exact A2p (lo:=0) (hi:=(c.vars.length-1)) h (by omega) (by omega)
 by_cases e3:k=3
 ·subst e3;exact A2p (lo:=0) (hi:=63) h (by omega) (by omega)
 by_cases e9:k=9
 ·subst e9;exact A2p (lo:=0) (hi:=63) h (by omega) (by omega)
 by_cases e4:k=4
 ·subst e4;exact A2p (lo:=0) (hi:=(c.prios.length-1)) h (by omega) (by omega)
 by_cases e5:k=5
 ·subst e5;exact A2p (lo:=0) (hi:=(c.timers-1)) h (by omega) (by omega)
 by_cases e6:k=6
 ·subst e6;exact A2p (lo:=12) (hi:=24) h (by omega) (by omega)
 by_cases e8:k=8
 ·subst e8;exact A2p (lo:=0) (hi:=31) h (by omega) (by omega)
 by_cases e10:k=10
 ·subst e10;exact A2p (lo:=0) (hi:=(c.events-1)) h (by omega) (by omega)
 by_cases e11:k=11
 ·subst e11;exact A2p (lo:=0) (hi:=(c.strings.length-1)) h (by omega) (by omega)
 simp_all[I1]
theorem Bndn.of{c:Prg}(hL:P2 c=true)(hp:A0d c=true)(hj:K9 c=true):Bndn c:=by
 obtain⟨d1,d2,d3,d4,d5,d6,d7,d8,d9⟩:=Lim.dims hL;simp only[A0d,A0G,A0R]at hp;obtain⟨⟨⟨⟨p1,p2⟩,p3⟩,p4⟩,p5⟩:=hp;refine⟨λi hi=>?_,λe he=>?_,λn hn=>A2p (p2 n hn) (by omega) (by omega),λn hn=>A2p (p3 n hn) (by omega) (by omega),⟨a8,by omega⟩,⟨a8,by omega⟩,λs hs=>?_⟩
 ·have h:=p5 i hi;have h7:=B8q hj i hi;have hk:(D4 i.op).2.2 ≠ -1:=by
   intro e;rw[D2,e]at h;simp[I1]at h
  obtain⟨o1,o2⟩:=E4x hk;refine⟨⟨a8,by omega⟩,?_⟩;by_cases hJ:(D4 i.op).2.2=7
  ·have hop:i.op=12\/i.op=13\/i.op=14:=by
    have:=A5k i.op;rw[hJ]at this;simpa[isJ] using this
   have:=h7 hop;exact⟨a8,by omega⟩
  ·exact E2c hL hJ h
 ·have h:=p4 e he;have h7:=C5v hj e he;simp only[A4q,A0G]at h;obtain⟨h1,h2⟩:=h;refine⟨A2p h1 (by omega) (by omega),?_,?_,⟨a8,by omega⟩⟩
  ·repeat' split at h2
   all_goals first
    |cases h2;done
    |exact⟨a8,by omega⟩
  ·repeat' split at h2
   all_goals first
    |exact A2p h2 (by omega) (by omega)
    |(simp only[A0L]at h2;exact⟨a8,by omega⟩)
    |cases h2
 simp_all[U0]
theorem Bndn.valid{c:Prg}(h0:H6 c=0):Bndn c :=
 let ⟨a,b,d,_⟩:=A1p h0
 Bndn.of a b d
theorem B6b:∀(n k z acc:Nat) (r:List UInt8),z<128 ^ n->n≠0->B1p n k acc (B3z z++r)=some (acc+z*2 ^ (7*k),r)
 |0,_,_,_,_,_,h=>absurd rfl h
 |n+1,k,z,acc,r,hz,_=>by
  by_cases h:z<128
  ·rw[A8q h];have e:(UInt8.ofNat z).toNat=z:=by rw[UInt8.toNat_ofNat'];omega
   simp_all[B1p,Nat.mod_eq_of_lt]
  ·rw[B2t h];have e:(UInt8.ofNat (z%128+128)).toNat=z%128+128:=by rw[UInt8.toNat_ofNat'];omega
   have h1:¬z%128+128<128:=a8
   have h2:(z%128+128)%128=z%128:=a8
   have hn:n≠0:=by
    intro e0;subst e0;simp at hz;omega
   simp only[List.cons_append,B1p,e,h1,if_false,h2];rw[B6b n (k+1) (z / 128) _ r (by rw[Nat.pow_succ]at hz;omega) hn,F3q]
   grind[Nat.div_add_mod]
theorem D0g(n:Int):A8e (zig n)=n:=by
 grind[A8e,zig]
theorem A3c{n:Int}(h:Sn n)(r:List UInt8)(b:Bool):C8 (J0 n++r,b)=(n,(r,b)):=by
 have hz:zig n<128 ^ 8:=by
  have e:(128:Nat) ^ 8=72057594037927936:=n7
  rw[e];unfold zig;obtain⟨h1,h2⟩:=h;split<;>omega
 unfold C8;simp only[J0];rw[B6b 8 0 (zig n) 0 r hz (by omega)];simp[D0g]
theorem B3q{n:Nat}(h:n<=1000000){r:List UInt8}(hr:n<=r.length)(b:Bool):I9 (J0 n++r,b)=(n,(r,b)):=by
 unfold I9;rw[A3c (n:=(n:Int)) ⟨a8,by omega⟩]
 grind
theorem B2p{α:Type}{f:RS -> α × RS}{g : α->List UInt8}:∀(l:List α) (r:List UInt8) (b:Bool),(∀x∈l, ∀r,f (g x++r,b)=(x,(r,b)))->A6 f l.length (l.flatMap g++r,b)=(l,(r,b)):=by
 intro l
 have key:∀(l2 l1:List α) (s:RS) (r:List UInt8) (b:Bool),(∀x∈l2, ∀r,f (g x++r,b)=(x,(r,b)))->A6 f l1.length s=(l1,(l2.flatMap g++r,b))->A6 f (l1.length+l2.length) s=(l1++l2,(r,b)):=by
  intro l2
  induction l2 with
  |nil=>intro l1 s r b _ h;simpa using h
  |cons x l2 ih =>
   intro l1 s r b hf h;have h2:=ih (l1++[x]) s r b (λy hy=>hf y (A0D _ hy)) (by
    rw[A0A,A0I];simp only[A6];rw[h,A2B,A0K,hf x A0H])
   rw[A0A,A0I,A0K]at h2;rw[A0C,show l1.length+(l2.length+1)=l1.length+1+l2.length by omega];exact h2
 intro r b hf;have:=key l [] (l.flatMap g++r,b) r b hf rfl
 grind
theorem A9e{α:Type}{g : α->List UInt8}:∀(l:List α),(∀x∈l,g x≠[])->l.length<=(l.flatMap g).length
 |[],_=>by simp
 |x::l,h=>by
  have h1:=A9e l (λy hy=>h y (A0D _ hy))
  grind[List.length_eq_zero_iff]
theorem C7l{l:List Int}(h:∀n∈l,Sn n)(hl:l.length<=1000000)(r:List UInt8)(b:Bool):W1 (B3y l++r,b)=(l,(r,b)):=by
 have h1:=A9e (g:=J0) l (λx _=>A6f x)
 grind[W1,B3y,B3q,B2p,A3c]
theorem E7p{i:Ins}(h:Sn i.op/\Sn i.A)(r:List UInt8)(b:Bool):N8 (A3h i++r,b)=(i,(r,b)):=by
 unfold N8 A3h;rw[A0K,A3c h.1];simp only;rw[A3c h.2]
theorem E7n{s:List UInt8}(h:s.length<=32)(r:List UInt8)(b:Bool):M0 (A1u s++r,b)=(s,(r,b)):=by
 grind[M0,A1u,B3q]
theorem E7q{e:Ent}(h:Sn e.mode/\Sn e.trigger/\Sn e.index/\Sn e.pos)(r:List UInt8)(b:Bool):K6 (A3u e++r,b)=(e,(r,b)):=by
 obtain⟨h1,h2,h3,h4⟩:=h;unfold K6 A3u;simp only[A0K];rw[A3c h1];simp only;rw[A3c h2];simp only;rw[A3c h3];simp only;rw[A3c h4]
theorem E7o{c:Prg}(h0:H6 c=0):B3r (B5x c,false)=(c,([],false)):=by
 obtain⟨b1,b2,b3,b4,b5,b6,b7⟩:=Bndn.valid h0;obtain⟨hL, -⟩:=A1p h0;obtain⟨d1,d2,d3,d4,d5, -⟩:=Lim.dims hL;have f1:=A9e (g:=A3h) c.instrs (λx _ e=>A6f x.op (A3N.1 e).1);have f2:=A9e (g:=A1u) c.strings (λx _ e=>A6f _ (A3N.1 e).1);have f3:=A9e (g:=A3u) c.entries (λx _ e=>A6f x.mode (A3N.1 (A3N.1 (A3N.1 e).1).1).1);unfold B3r B5x;simp only[A0K];rw[B3q (by omega) (by rw[A0A];omega)];simp only;rw[B2p c.instrs _ false (λx hx r=>E7p (b1 x hx) r false)];simp only;rw[B3q (by omega) (by rw[A0A];omega)];simp only;rw[B2p c.strings _ false (λx hx r=>E7n (b7 x hx) r false)];simp only;rw[B3q (by omega) (by rw[A0A];omega)];simp only;rw[B2p c.entries _ false (λx hx r=>E7q (b2 x hx) r false)];simp only;rw[C7l b3 (by omega)];simp only;rw[C7l b4 (by omega)];simp only;rw[A3c b5];simp only;have e:=A3c b6 [] false
 simp_all
theorem E3e{c:Prg}(h0:H6 c=0):D8q (B5x c)=some c:=by
 have e:B1w c=B5x c:=by unfold B1w;rw[if_pos h0]
 simp_all[D8q,E7o]
theorem E2y{c:Prg}(h0:H6 c=0):(B5x c).length<=1000000:=by
 obtain⟨b1,b2,b3,b4,b5,b6,b7⟩:=Bnd.valid h0;obtain⟨hL, -⟩:=A1p h0;obtain⟨d1,d2,d3,d4,d5, -⟩:=Lim.dims hL;have f1:=O4 A3h 20 c.instrs (λx hx=>by
  have h1:=F5 (b1 x hx).1;have h2:=F5 (b1 x hx).2;rw[A3h,A0A];omega)
 have f2:=O4 A1u 42 c.strings (λx hx=>by
  have h1:=b7 x hx;have h2:=F5 (n:=(x.length:Int)) ⟨a8,by omega⟩;rw[A1u,A0A];omega)
 have f3:=O4 A3u 40 c.entries (λx hx=>by
  obtain⟨h1,h2,h3,h4⟩:=b2 x hx;have h1:=F5 h1;have h2:=F5 h2;have h3:=F5 h3;have h4:=F5 h4;simp only[A3u,A0A];omega)
 have f4:=B6k b3 (by omega);have f5:=B6k b4 (by omega);have f6:=F5 b5;have f7:=F5 b6;have f8:=F5 (n:=(c.instrs.length:Int)) ⟨a8,by omega⟩;have f9:=F5 (n:=(c.strings.length:Int)) ⟨a8,by omega⟩;have f10:=F5 (n:=(c.entries.length:Int)) ⟨a8,by omega⟩
 grind[B5x,List.length_append]
theorem C3t{c:Prg}(h0:H6 c=0):(∀s∈c.strings,s.length<=140737488355328)/\c.instrs.length<=4000/\c.strings.length<=200/\c.entries.length<=512/\c.prios.length<=16/\c.vars.length<=128:=by
 obtain⟨b1,b2,b3,b4,b5,b6,b7⟩:=Bnd.valid h0;obtain⟨hL, -⟩:=A1p h0;obtain⟨d1,d2,d3,d4,d5, -⟩:=Lim.dims hL;exact⟨λs hs=>by have:=b7 s hs;omega,d1,d2,d3,d4,d5⟩
end Go.Pb
namespace Go.Proofs.YtnkkfehegdplgaaGreatDoor
instance tabI:Go.Sym.Tab:=⟨[(5,λr=>r=(Lib.pow10Tab.map λz=>Value.int .u64 z).toArray),(0,λr=>r=(Lib.asciiSpaceTab.map λz=>Value.int .u8 z).toArray),(3,λr => ∃te pe,r = #[.iface te pe])]⟩
end Go.Proofs.YtnkkfehegdplgaaGreatDoor
set_option maxHeartbeats 4000000
namespace Go.Proofs.YtnkkfehegdplgaaGreatDoor
open Go.Eng (IC IOper DReg IFn P0)
open Go.Sym
theorem A3:Tryz.prog.follows .mixedOrders=true:=b8
abbrev x169:XT Tryz.prog 169:=mkF
instance t169:FT Tryz.prog 169 x169.d:=x169.ft
abbrev x190:XT Tryz.prog 190:=mkF
instance t190:FT Tryz.prog 190 x190.d:=x190.ft
abbrev x171:XT Tryz.prog 171:=mkF
instance t171:FT Tryz.prog 171 x171.d:=x171.ft
abbrev x170:XT Tryz.prog 170:=mkF
instance t170:FT Tryz.prog 170 x170.d:=x170.ft
abbrev x155:XT Tryz.prog 155:=mkF
instance t155:FT Tryz.prog 155 x155.d:=x155.ft
abbrev x172:XT Tryz.prog 172:=mkF
instance t172:FT Tryz.prog 172 x172.d:=x172.ft
abbrev x120:XT Tryz.prog 120:=mkF
instance t120:FT Tryz.prog 120 x120.d:=x120.ft
abbrev x106:XT Tryz.prog 106:=mkF
instance t106:FT Tryz.prog 106 x106.d:=x106.ft
abbrev x108:XT Tryz.prog 108:=mkF
instance t108:FT Tryz.prog 108 x108.d:=x108.ft
abbrev x184:XT Tryz.prog 184:=mkF
instance t184:FT Tryz.prog 184 x184.d:=x184.ft
abbrev x111:XT Tryz.prog 111:=mkF
instance t111:FT Tryz.prog 111 x111.d:=x111.ft
abbrev x150:XT Tryz.prog 150:=mkF
instance t150:FT Tryz.prog 150 x150.d:=x150.ft
abbrev x151:XT Tryz.prog 151:=mkF
instance t151:FT Tryz.prog 151 x151.d:=x151.ft
abbrev x61:XT Tryz.prog 61:=mkF
instance t61:FT Tryz.prog 61 x61.d:=x61.ft
abbrev x107:XT Tryz.prog 107:=mkF
instance t107:FT Tryz.prog 107 x107.d:=x107.ft
abbrev x109:XT Tryz.prog 109:=mkF
instance t109:FT Tryz.prog 109 x109.d:=x109.ft
abbrev x110:XT Tryz.prog 110:=mkF
instance t110:FT Tryz.prog 110 x110.d:=x110.ft
abbrev x62:XT Tryz.prog 62:=mkF
instance t62:FT Tryz.prog 62 x62.d:=x62.ft
abbrev x30:XT Tryz.prog 30:=mkF
instance t30:FT Tryz.prog 30 x30.d:=x30.ft
abbrev x34:XT Tryz.prog 34:=mkF
instance t34:FT Tryz.prog 34 x34.d:=x34.ft
abbrev x32:XT Tryz.prog 32:=mkF
instance t32:FT Tryz.prog 32 x32.d:=x32.ft
abbrev x112:XT Tryz.prog 112:=mkF
instance t112:FT Tryz.prog 112 x112.d:=x112.ft
abbrev x113:XT Tryz.prog 113:=mkF
instance t113:FT Tryz.prog 113 x113.d:=x113.ft
abbrev x67:XT Tryz.prog 67:=mkF
instance t67:FT Tryz.prog 67 x67.d:=x67.ft
abbrev x164:XT Tryz.prog 164:=mkF
instance t164:FT Tryz.prog 164 x164.d:=x164.ft
abbrev x68:XT Tryz.prog 68:=mkF
instance t68:FT Tryz.prog 68 x68.d:=x68.ft
abbrev x65:XT Tryz.prog 65:=mkF
instance t65:FT Tryz.prog 65 x65.d:=x65.ft
abbrev x116:XT Tryz.prog 116:=mkF
instance t116:FT Tryz.prog 116 x116.d:=x116.ft
abbrev x115:XT Tryz.prog 115:=mkF
instance t115:FT Tryz.prog 115 x115.d:=x115.ft
abbrev x114:XT Tryz.prog 114:=mkF
instance t114:FT Tryz.prog 114 x114.d:=x114.ft
abbrev x63:XT Tryz.prog 63:=mkF
instance t63:FT Tryz.prog 63 x63.d:=x63.ft
abbrev x64:XT Tryz.prog 64:=mkF
instance t64:FT Tryz.prog 64 x64.d:=x64.ft
abbrev x99:XT Tryz.prog 99:=mkF
instance t99:FT Tryz.prog 99 x99.d:=x99.ft
abbrev x165:XT Tryz.prog 165:=mkF
instance t165:FT Tryz.prog 165 x165.d:=x165.ft
abbrev x220:XT Tryz.prog 220:=mkF
instance t220:FT Tryz.prog 220 x220.d:=x220.ft
abbrev x218:XT Tryz.prog 218:=mkF
instance t218:FT Tryz.prog 218 x218.d:=x218.ft
abbrev x215:XT Tryz.prog 215:=mkF
instance t215:FT Tryz.prog 215 x215.d:=x215.ft
abbrev x227:XT Tryz.prog 227:=mkF
instance t227:FT Tryz.prog 227 x227.d:=x227.ft
abbrev x242:XT Tryz.prog 242:=mkF
instance t242:FT Tryz.prog 242 x242.d:=x242.ft
abbrev x199:XT Tryz.prog 199:=mkF
instance t199:FT Tryz.prog 199 x199.d:=x199.ft
abbrev x117:XT Tryz.prog 117:=mkF
instance t117:FT Tryz.prog 117 x117.d:=x117.ft
abbrev x166:XT Tryz.prog 166:=mkF
instance t166:FT Tryz.prog 166 x166.d:=x166.ft
abbrev x66:XT Tryz.prog 66:=mkF
instance t66:FT Tryz.prog 66 x66.d:=x66.ft
abbrev x69:XT Tryz.prog 69:=mkF
instance t69:FT Tryz.prog 69 x69.d:=x69.ft
abbrev x31:XT Tryz.prog 31:=mkF
instance t31:FT Tryz.prog 31 x31.d:=x31.ft
abbrev x13:XT Tryz.prog 13:=mkF
instance t13:FT Tryz.prog 13 x13.d:=x13.ft
abbrev x54:XT Tryz.prog 54:=mkF
instance t54:FT Tryz.prog 54 x54.d:=x54.ft
abbrev x19:XT Tryz.prog 19:=mkF
instance t19:FT Tryz.prog 19 x19.d:=x19.ft
abbrev x52:XT Tryz.prog 52:=mkF
instance t52:FT Tryz.prog 52 x52.d:=x52.ft
abbrev x53:XT Tryz.prog 53:=mkF
instance t53:FT Tryz.prog 53 x53.d:=x53.ft
abbrev x51:XT Tryz.prog 51:=mkF
instance t51:FT Tryz.prog 51 x51.d:=x51.ft
abbrev x18:XT Tryz.prog 18:=mkF
instance t18:FT Tryz.prog 18 x18.d:=x18.ft
abbrev x16:XT Tryz.prog 16:=mkF
instance t16:FT Tryz.prog 16 x16.d:=x16.ft
abbrev x17:XT Tryz.prog 17:=mkF
instance t17:FT Tryz.prog 17 x17.d:=x17.ft
abbrev x5:XT Tryz.prog 5:=mkF
instance t5:FT Tryz.prog 5 x5.d:=x5.ft
abbrev x46:XT Tryz.prog 46:=mkF (i:=⟨8,.seq (.reg [oX 2 0,oV 3 (.bool false)]) (.seq (.reg [oF 4 2 0,oD 5 4 4,oD 6 1 4,oP 7 (.eqa false [0,0,0,0] (.t 5) (.t 6)),oM 3 7]) .ret),[.tmp 3]⟩) (by unfold P0;kernel_rfl) (λh=>by conv=>lhs;cbv)
instance t46:FT Tryz.prog 46 x46.d:=x46.ft
abbrev x45:XT Tryz.prog 45:=mkF
instance t45:FT Tryz.prog 45 x45.d:=x45.ft
abbrev x3:XT Tryz.prog 3:=mkF
instance t3:FT Tryz.prog 3 x3.d:=x3.ft
open Go.Sym Go.Pb
theorem c_opOf(k:Int):PC Tryz.prog 54 [I64 k] (I64 (Pb.stOp k)):=by
 refine PC.go A3 ?_;repeat'((with_reducible first|apply wr|refine k_cu ?_ ?_|apply wb2<;>(intro hb;try simp only[hb]))<;>try simp only[go_sem,seval])
 all_goals(refine A4 (congrArg I64 ?_);simp_all[Pb.stOp]<;>omega)
def GC(f:Nat)(mk:DV->DV->List DV)(args:List DV)(x y:Cg)(r:DV):Prop:=∀(H0:Hp) (c t:Nat) (a b:Option Nat),GN H0 t a b x c ->
 AC Tryz.prog f (.ptr t 0::args) (GM H0 t a b mk x) c (λv H' c'=>v=r/\∃a' b',GN H0 t a' b' y c'/\H'=GM H0 t a' b' mk y)
abbrev mkP(e p v m:DV)(t n:Int):DV->DV->List DV:=λI S=>[I,S,e,p,v,I64 t,I64 n,m]
theorem c_emit(e p v m:DV)(t n op k:Int)(x:Cg)(hx:x.1.length<=100000000):GC 19 (mkP e p v m t n) [I64 op,I64 k] x (x.1++[⟨op,k⟩],x.2) (I64 x.1.length):=by
 intro H0 c t' a b h;refine AC.go A3 λhfr=>?_;have hM:=B9q (mk:=mkP e p v m t n) h;have h1:=h.tc;have hw:IntKind.i64.wrap (((x.1.length+1:Nat):Int)-1)=(x.1.length:Int):=l8
 have ne0:=W9 t' c (c+1) (by omega);(repeat'((with_reducible first|apply wr|refine k_cu ?_ ?_|apply wb2<;>(intro hb;try simp only[hb]))<;>try simp only[go_sem,seval,hM,ne0]));refine G6 (F9 (cs:=V1 x.1) (λe=>⟨A2v (h.an e),by rw[h.an e];rfl⟩) (λi hi=>?_) (A9a _) (by omega) (by omega) (by omega)) ?_
 ·have:=h.ha i hi;rw[hnO];exact D2u h hi
 have dm:∀X,delO X a t'=X t':=λX=>C5 (λi hi e=>(h.ha i hi).1 e.symm);simp only[go_sem,seval,dm,hM,ne0,A0];(repeat'((with_reducible first|apply wr|refine k_cu ?_ ?_|apply wb2<;>(intro hb;try simp only[hb]))<;>try simp only[go_sem,seval,dm,hM,ne0,A0,hw]));refine⟨_,_,GL.less' (F1b (y:=(x.1++[⟨op,k⟩],x.2)) (i:=c+1) h (by omega) rfl (by rw[D1l]) (by simp[todoV])),rfl,some (c+1),b,h.newA (by omega) (by omega) rfl,rfl⟩
theorem c_patch(e p v m:DV)(t n op k:Int)(l r:List Ins)(S:List (List UInt8))(hl:(l++⟨op,k⟩::r).length<=100000000):
  GC 52 (mkP e p v m t n) [I64 l.length] (l++⟨op,k⟩::r,S) (l++⟨op,((l++⟨op,k⟩::r).length:Int)⟩::r,S) (.tup []):=by
 intro H0 c t' a b h;obtain⟨i,rfl⟩:∃i,a=some i:=by
  cases a with
  |none=>have:=h.an rfl;simp at this
  |some i=>exact⟨i,rfl⟩
 refine AC.go A3 λhfr=>?_;have hM:=B9q (mk:=mkP e p v m t n) h;have hA:=D2u (mk:=mkP e p v m t n) h rfl;have h1:=h.tc;have h2:=h.ha i rfl;have hle:l.length<(l++⟨op,k⟩::r).length:=by simp
 have hcl:=A9a (l++⟨op,k⟩::r);dsimp only at hA;have hst:∀(z:Int) (d:Nat),stB (GM H0 t' (some i) b (mkP e p v m t n) (l++⟨op,k⟩::r,S)) d i 1 (l.length*2+1) (I64 z) (some ⟨2,true,V1 (l++⟨op,k⟩::r)⟩)=some (.tup [],(GM H0 t' (some i) b (mkP e p v m t n) (l++⟨op,k⟩::r,S)).upd i ⟨2,true,V1 (l++⟨op,z⟩::r)⟩,d):=λz d=>by
  exact(B2a (i:=1) rfl (by omega) rfl).trans (by rw[D6z])
 (repeat'((with_reducible first|apply wr|refine k_cu ?_ ?_|apply wb2<;>(intro hb;try simp only[hb]))<;>try simp only[go_sem,seval,hM,hA,hle,hst]));refine⟨_,_,GL.less' (B5o (t:=t') (a:=some i) (b:=b) (mk:=mkP e p v m t n) (x:=(l++⟨op,((l++⟨op,k⟩::r).length:Int)⟩::r,S)) ?_ (λj hj=>?_) (λj hj=>?_) (λj Q hj hQ=>?_)),rfl,some i,b,h.keep (by omega) (λe=>by cases e) (λe=>h.bn e),rfl⟩
 ·rw[h_ne (Ne.symm h2.1),hM];simp[gmB]
 ·cases hj;exact A0
 ·rw[h_ne (λe=>h.ne i j rfl hj e.symm),C6q hj]
 ·rw[h_ne (by rintro rfl;rw[h2.2.2]at hQ;cases hQ),B5p h hQ hj]
abbrev keB(k:Ky):Blk:=⟨0,true,[I64 k.mode,I64 k.trig,I64 k.ix,I64 0]⟩
theorem c_sameK(k q:Ky)(j n:Nat)(H:Hp)(c e:Nat)(he:H e=some (keB q))(hec:e<c):AC Tryz.prog 46 [.agg [I64 k.mode,I64 k.trig,I64 k.ix,I64 0,.slc j 0 n],.ptr e 0] H c (λv H' c'=>v=.bool (decide (k=q))/\H'=H):=by
 refine AC.go A3 λhfr=>?_;have ne0:=A1z e c (by omega);have hq:B4x false [0,0,0,0] (.agg [I64 k.mode,I64 k.trig,I64 k.ix,I64 0]) (.agg [I64 q.mode,I64 q.trig,I64 q.ix,I64 0])=some (.bool (decide (k=q))):=by
  rw[F6e]
  congr 2
  obtain⟨a1,a2,a3⟩:=k;obtain⟨b1,b2,b3⟩:=q;rw[A2G];simp
 refine wAy he ne0 @A0 hq ?_;exact⟨_,_,GL.less' (λj B hj=>by rw[h_ne (by rintro rfl;rw[hfr _ (A0E _)]at hj;cases hj)];exact hj),rfl,rfl⟩
theorem c_IxP(q:Ky)(l:List D6)(is:List Nat)(hl:l.length<=1000000)(hn:is.length=l.length)(H:Hp)(c e:Nat)(o:Option Nat)(ho:∀i,o=some i->H i=some ⟨5,true,ptC is l⟩)(hno:o=none->l=[])(he:H e=some (keB q))(hec:e<c):
  AC Tryz.prog 45 [todoV o l.length,.func 46 [] [.ptr e 0]] H c (λv H' c'=>v=I64 (ixP q l 0)/\H'=H):=by
 cases o with
 |none =>
  obtain rfl:=hno rfl;refine AC.go A3 λhfr=>?_;refine wAp ?_;refine A9 (λk:Nat=>[(0,.snil),(7,I64 0),(8,I64 0)]) (λ_=>H) (λk c=>True) (λk=>0) 0 (by simp[B5,tm,Tm.upd]) (Sub.refl _) trivial ?_;rintro k c' -;refine wAp ?_;exact⟨_,_,GL.refl _ _,rfl,rfl⟩
 |some i =>
  have hi:=ho i rfl;refine AC.go A3 λhfr=>?_;refine wAp ?_;refine A9 (λk:Nat=>[(0,.slc i 0 l.length),(1,.func 46 [] [.ptr e 0]),(7,I64 l.length),(8,I64 k)]) (λ_=>H) (λk cc=>c<=cc/\k<=l.length/\ixP q l 0=ixP q (l.drop k) k) (λk=>l.length-k) 0 (by simp[B5,tm,Tm.upd]) (Sub.refl _) ⟨A0E _,a8,rfl⟩ ?_;rintro k c' ⟨hc,hk,hv⟩;by_cases hlt:k<l.length
  ·have hd:=dtz hlt;have hg:=A0B hlt;have hgi:=A0B (show k<is.length by omega);have hw:IntKind.i64.wrap ((k:Int)+1)=((k+1:Nat):Int):=by rw[w6z];omega
   rw[D6w hg]at hv;have hcl:=C4l hn hgi hg;have hcn:=A2s hn;have hle:k*5+5<=(ptC is l).length:=a8
   generalize l[k]=p at hg hv hcl;generalize is[k]=j at hgi hcl;refine wA0 hi hd hcl hle hlt ?_;refine AC.call (c_sameK p.1 q j p.2.length H c' e he (by omega)) ?_;rintro _ _ c2 ⟨rfl,rfl⟩ hc2;by_cases hpq:p.1=q
   ·have hb:decide (p.1=q)=true:=by simpa using hpq
    rw[if_pos hpq]at hv;refine wAu hb ?_;exact⟨_,_,GL.refl _ _,by rw[hv],rfl⟩
   ·have hb:decide (p.1=q)=false:=by simpa using hpq
    rw[if_neg hpq]at hv;refine wAu (wJ hb hw) ?_;exact⟨k+1,rfl,Sub.refl _,inv ⟨a8,hlt,hv⟩,by omega⟩
  ·have hd:=dfz hlt;have hk:k=l.length:=by omega
   rw[hk,A4L,ixP]at hv;rw[hv];refine wAs (wJ hi hd) ?_;exact⟨_,_,GL.refl _ _,rfl,rfl⟩
abbrev x88:XT Tryz.prog 88:=mkF
instance t88:FT Tryz.prog 88 x88.d:=x88.ft
theorem B8k{H:Hp}{cc j:Nat}{b:Blk}(hfr:∀i,cc<=i->H i=none)(h:H j=some b):j≠cc:=by
 rintro rfl;rw[hfr _ (A0E _)]at h;cases h
theorem B0v{H:Hp}{cc:Nat}{b:Blk}{ds:List DV}(hfr:∀i,cc<=i->H i=none):GL (H.upd cc b) ds H ds:=GL.less' λj b hj=>by rw[h_ne (B8k hfr hj)];exact hj
theorem Z8{K H':Hp}{cc:Nat}{ds:List DV}(hK:∀i,cc<=i->K i=none)(h:∀j,j<cc->H' j=K j):GL H' ds K ds:=GL.less λj=>by
 by_cases hj:j<cc
 ·exact .inr (h j hj).symm
 ·exact .inl (hK j (by omega))
theorem F4{H:Hp}{cc t:Nat}{b:Blk}(hfr:∀i,cc<=i->H i=none)(htc:t<cc):∀i,cc<=i->H.upd t b i=none:=λi hi=>by rw[hnO];exact hfr i hi
theorem rv4{s:Sym.St}{x i u:Nat}{a b c d:DV}{o:Bool}(h:s.T x=.ptr i 0)(hb:s.H i=some ⟨u,o,[a,b,c,d]⟩):A7m s [.cell x 4 true]=some (.agg [a,b,c,d]):=by
 simp only[A7m,A7o,h,ldv,ldB,hb];rfl
theorem c_rdok(L:List Tok)(E:Int)(s:Rd)(H:Hp)(cc t:Nat)(ht:H t=some (rdR L E s))(htc:t<cc):AC Tryz.prog 32 [.ptr t 0] H cc (λv H' c'=>v=.bool (okR s)/\H'=H):=by
 refine AC.go A3 λhfr=>?_;refine wAs ht ?_;exact⟨_,_,GL.refl _ _,rfl,rfl⟩
theorem c_peek(L:List Tok)(E:Int)(s:Rd)(H:Hp)(cc t:Nat)(ht:H t=some (rdR L E s))(htc:t<cc):AC Tryz.prog 113 [.ptr t 0] H cc (λv H' c'=>v=(B1 L E s).v/\H'=H):=by
 refine AC.go A3 λhfr=>?_;have ne0:=A1z t cc (by omega);by_cases hlt:s.i<L.length
 ·have hd:decide ((s.i:Int)<L.length)=true:=by simpa using hlt
  have hg:=A0B hlt;have e:B1 L E s=L[s.i]:=by unfold B1;rw[A1L,hg];rfl
  rw[e];generalize L[s.i]=a at hg;refine wA1 ht hd hg ne0 @A0 @A1 ?_;rw[G4 (v:=a.v) (rv4 rfl A0)];exact⟨_,_,B0v hfr,rfl,rfl⟩
 ·have hd:decide ((s.i:Int)<L.length)=false:=by simpa using hlt
  have e:B1 L E s=⟨0,[],0,E⟩:=by unfold B1;rw[A1L,A3F (by omega)];rfl
  rw[e];refine wA0 ht hd ne0 @A0 @A1 ?_;rw[G4 (v:=Tok.v ⟨0,[],0,E⟩) (rv4 rfl A0)];exact⟨_,_,B0v hfr,rfl,rfl⟩
theorem c_fail(L:List Tok)(E:Int)(s:Rd)(H:Hp)(cc t:Nat)(ht:H t=some (rdR L E s))(htc:t<cc)(p e:Int):AC Tryz.prog 112 [.ptr t 0,I64 p,I64 e] H cc (λv H' c'=>v=.tup []/\H'=H.upd t (rdR L E (S8 s p e))):=by
 refine AC.go A3 λhfr=>?_;cases h:okR s with
 |true =>
  have e0:S8 s p e = { s with e:=e,pos:=p }:=by rw[S8,if_pos h]
  have h':(s.e==0)=true:=h;rw[e0];refine wA0 ht h' h @A0 @A1 ?_;exact⟨_,_,GL.refl _ _,rfl,rfl⟩
 |false =>
  have e0:S8 s p e=s:=by rw[S8,if_neg (by simp[h])]
  have h':(s.e==0)=false:=h;rw[e0];refine wA0 ht h' h @A0 @A1 ?_;refine⟨_,_,GL.refl _ _,rfl,?_⟩
  funext j
  by_cases ej:j=t
  ·subst ej;rw[A0,ht]
  ·rw[h_ne ej]
theorem upd_same{H:Hp}{t:Nat}{b:Blk}(h:H t=some b):H.upd t b=H:=by
 funext j
 by_cases ej:j=t
 ·subst ej;rw[A0,h]
 ·rw[h_ne ej]
theorem c_is(L:List Tok)(E:Int)(s:Rd)(H:Hp)(cc t:Nat)(ht:H t=some (rdR L E s))(htc:t<cc)(x:List UInt8):AC Tryz.prog 67 [.ptr t 0,.str x] H cc (λv H' c'=>v=.bool (isR L E s x)/\H'=H):=by
 refine AC.go A3 λhfr=>?_;refine wAp ?_;refine AC.call (c_peek L E s _ _ t ht (by omega)) ?_;rintro v H' c1 ⟨rfl,rfl⟩ hc;have ne0:=A1z t c1 (by omega);refine wAx ne0 @A0 @A1 ?_;refine AC.call (c_rdok L E s _ _ t (by rw[hnO];exact ht) (by omega)) ?_;rintro v H' c2 ⟨rfl,rfl⟩ hc2;simp only[go_sem,seval,ne0,A0,A1];repeat'((with_reducible first|apply wr|refine k_cu ?_ ?_|apply wb2<;>(intro hb;try simp only[hb]))<;>try simp only[go_sem,seval,ne0,A0,A1])
 all_goals exact⟨_,_,B0v (λi hi=>hfr i (by omega)),by simp_all[isR],rfl⟩
theorem c_isKind(L:List Tok)(E:Int)(s:Rd)(H:Hp)(cc t:Nat)(ht:H t=some (rdR L E s))(htc:t<cc)(k:Int):AC Tryz.prog 164 [.ptr t 0,I64 k] H cc (λv H' c'=>v=.bool (N9 L E s k)/\H'=H):=by
 refine AC.go A3 λhfr=>?_;refine wAp ?_;refine AC.call (c_rdok L E s _ _ t ht (by omega)) ?_;rintro v H' c1 ⟨rfl,rfl⟩ hc;by_cases h:okR s=true
 ·refine wAu h ?_;refine AC.call (c_peek L E s _ _ t ht (by omega)) ?_;rintro v H' c2 ⟨rfl,rfl⟩ hc2;refine wAu h ?_;exact⟨_,_,GL.refl _ _,by rw[N9,h];rfl,rfl⟩
 ·have h:okR s=false:=by simpa using h
  refine wAu h ?_;exact⟨_,_,GL.refl _ _,by rw[N9,h];rfl,rfl⟩
theorem c_syntax(L:List Tok)(E:Int)(s:Rd)(H:Hp)(cc t:Nat)(ht:H t=some (rdR L E s))(htc:t<cc):AC Tryz.prog 68 [.ptr t 0] H cc (λv H' c'=>v=.tup []/\H'=H.upd t (rdR L E (X6 L E s))):=by
 refine AC.go A3 λhfr=>?_;refine wAp ?_;refine AC.call (c_peek L E s _ _ t ht (by omega)) ?_;rintro v H' c1 ⟨rfl,rfl⟩ hc;refine wAq ?_;refine AC.call (c_fail L E s _ _ t ht (by omega) _ _) ?_;rintro v H' c2 ⟨rfl,rfl⟩ hc2;refine wAq ?_;exact⟨_,_,GL.refl _ _,rfl,rfl⟩
theorem c_limit(L:List Tok)(E:Int)(s:Rd)(H:Hp)(cc t:Nat)(ht:H t=some (rdR L E s))(htc:t<cc)(n m e:Int):AC Tryz.prog 65 [.ptr t 0,I64 n,I64 m,I64 e] H cc (λv H' c'=>v=.tup []/\H'=H.upd t (rdR L E (C6 L E s n m e))):=by
 refine AC.go A3 λhfr=>?_;by_cases h:m<n
 ·have hd:decide (n>m)=true:=by simpa using h
  have e0:C6 L E s n m e=S8 s (B1 L E s).pos e:=by rw[C6,if_pos h]
  rw[e0];refine wAs hd ?_;refine AC.call (c_peek L E s _ _ t ht (by omega)) ?_;rintro v H' c1 ⟨rfl,rfl⟩ hc;refine wAq ?_;refine AC.call (c_fail L E s _ _ t ht (by omega) _ _) ?_;rintro v H' c2 ⟨rfl,rfl⟩ hc2;refine wAq ?_;exact⟨_,_,GL.refl _ _,rfl,rfl⟩
 ·have hd:decide (n>m)=false:=by simpa using h
  have e0:C6 L E s n m e=s:=by rw[C6,if_neg h]
  rw[e0];refine wAs hd ?_;exact⟨_,_,GL.refl _ _,rfl,(upd_same ht).symm⟩
theorem c_expect(L:List Tok)(E:Int)(s:Rd)(H:Hp)(cc t:Nat)(ht:H t=some (rdR L E s))(htc:t<cc)(hi:s.i<=10000000000)(x:List UInt8):AC Tryz.prog 116 [.ptr t 0,.str x] H cc (λv H' c'=>v=.tup []/\H'=H.upd t (rdR L E (D9 L E s x))):=by
 refine AC.go A3 λhfr=>?_;refine wAp ?_;refine AC.call (c_is L E s _ _ t ht (by omega) x) ?_;rintro v H' c1 ⟨rfl,rfl⟩ hc;cases h:isR L E s x with
 |false =>
  have e0:D9 L E s x=X6 L E s:=by rw[D9,if_pos h]
  rw[e0];refine wAu h ?_;refine AC.call (c_syntax L E s _ _ t ht (by omega)) ?_;rintro v H' c2 ⟨rfl,rfl⟩ hc2;refine wAq ?_;exact⟨_,_,GL.refl _ _,rfl,rfl⟩
 |true =>
  have hw:IntKind.i64.wrap ((s.i:Int)+1)=((s.i+1:Nat):Int):=l8
  have e0:D9 L E s x=A5 s:=by rw[D9,if_neg (by simp[h])]
  rw[e0];refine wAu (wJ h (wJ ht (wJ hw (wJ @A0 @A1)))) ?_;exact⟨_,_,GL.refl _ _,rfl,rfl⟩
theorem c_take(L:List Tok)(E:Int)(s:Rd)(H:Hp)(cc t:Nat)(ht:H t=some (rdR L E s))(htc:t<cc)(hi:s.i<=10000000000)(k:Int):AC Tryz.prog 115 [.ptr t 0,I64 k] H cc (λv H' c'=>v=(A8 L E s k).1.v/\H'=H.upd t (rdR L E (A8 L E s k).2)):=by
 refine AC.go A3 λhfr=>?_;refine wAp ?_;refine AC.call (c_peek L E s _ _ t (by rw[hnO];exact ht) (by omega)) ?_;rintro v H' c1 ⟨rfl,rfl⟩ hc;have ne0:=W9 t cc c1 (by omega);refine wAu (wJ ne0 @A0) ?_;refine AC.call (c_isKind L E s _ _ t (by rw[hnO,hnO,hnO];exact ht) (by omega) k) ?_;rintro v H' c2 ⟨rfl,rfl⟩ hc2;cases h:N9 L E s k with
 |false =>
  have e0:A8 L E s k=(A1t,X6 L E s):=by rw[A8,if_pos h]
  rw[e0];refine wAz ne0 h @A0 @A1 ?_;refine AC.call (c_syntax L E s _ _ t (by rw[hnO,hnO];exact ht) (by omega)) ?_;rintro v H' c3 ⟨rfl,rfl⟩ hc3;refine wAx ne0 @A0 @A1 ?_;rw[G4 (v:=A1t.v) (rv4 rfl A0)];exact⟨_,_,Z8 (F4 hfr htc) (λj hj=>by simp[Hp.upd,show ¬j=cc by omega,show ¬j=c1 by omega]),rfl,rfl⟩
 |true =>
  have hw:IntKind.i64.wrap ((s.i:Int)+1)=((s.i+1:Nat):Int):=l8
  have e0:A8 L E s k=(B1 L E s,A5 s):=by rw[A8,if_neg (by simp[h])]
  rw[e0];refine wA2 ne0 ht hw h @A0 @A1 ?_;rw[G4 (v:=(B1 L E s).v) (rv4 rfl A0)];exact⟨_,_,Z8 (F4 hfr htc) (λj hj=>by simp[Hp.upd,show ¬j=cc by omega,show ¬j=c1 by omega];rfl),rfl,rfl⟩
theorem c_name(L:List Tok)(E:Int)(s:Rd)(H:Hp)(cc t:Nat)(ht:H t=some (rdR L E s))(htc:t<cc)(hi:s.i<=10000000000):AC Tryz.prog 114 [.ptr t 0] H cc (λv H' c'=>v=.str (A8 L E s 1).1.text/\H'=H.upd t (rdR L E (A8 L E s 1).2)):=by
 refine AC.go A3 λhfr=>?_;refine wAp ?_;refine AC.call (c_take L E s _ _ t ht (by omega) hi 1) ?_;rintro v H' c1 ⟨rfl,rfl⟩ hc;refine wAq ?_;exact⟨_,_,GL.refl _ _,rfl,rfl⟩
abbrev A7a(l:List (List UInt8)):DV:=.lst (l.map DV.str)
theorem c_among(L:List Tok)(E:Int)(s:Rd)(H:Hp)(cc t:Nat)(ht:H t=some (rdR L E s))(htc:t<cc)(l:List (List UInt8))(hl:l.length<=1000000):AC Tryz.prog 63 [.ptr t 0,A7a l] H cc (λv H' c'=>v=I64 (B8 L E s l)/\H'=H):=by
 refine AC.go A3 λhfr=>?_;refine wAp ?_;refine A9 (λk:Nat=>[(0,.ptr t 0),(1,A7a l),(5,I64 k)]) (λ_=>H) (λk c=>cc<=c/\k<=l.length/\B8 L E s l=A2i L E s k (l.drop k)) (λk=>l.length-k) 0 (by simp[B5,tm,Tm.upd]) (Sub.refl _) ⟨a8,by simp,rfl⟩ ?_;rintro k c ⟨hc,hk,hv⟩;by_cases hlt:k<l.length
 ·have hd:=dtz hlt;have hg:=A0B hlt;have hw:IntKind.i64.wrap ((k:Int)+1)=((k+1:Nat):Int):=by rw[w6z];omega
  rw[A1I hlt,A2i]at hv;generalize l[k]=a at hg hv;refine wAs (wJ hd hg) ?_;refine AC.call (c_is L E s _ _ t ht (by omega) a) ?_;rintro v H' c1 ⟨rfl,rfl⟩ hc1;cases h:isR L E s a with
  |true =>
   rw[if_pos h]at hv;rw[hv];refine wAu h ?_;exact⟨_,_,GL.refl _ _,rfl,rfl⟩
  |false =>
   rw[if_neg (by simp[h])]at hv;refine wAu (wJ h hw) ?_;exact⟨k+1,rfl,Sub.refl _,inv ⟨a8,hlt,hv⟩,by omega⟩
 ·have hd:=dfz hlt;have hk:k=l.length:=by omega
  rw[hk,A4L,A2i]at hv;rw[hv];refine wAs hd ?_;exact⟨_,_,GL.refl _ _,rfl,rfl⟩
theorem B5e(l:List (List UInt8)):cellsL (l.map DV.str)=l.map DV.str:=A2x (λ_=>rfl) l
theorem c_amongO(L:List Tok)(E:Int)(s:Rd)(K:Hp)(cc t b:Nat)(hK:K b=none)(ht:K t=some (rdR L E s))(htc:t<cc)(l:List (List UInt8))(hl:l.length<=1000000):
  AC Tryz.prog 63 [.ptr t 0,.slc b 0 l.length] (K.upd b ⟨1,true,l.map DV.str⟩) cc (λv H' c'=>v=I64 (B8 L E s l)/\H'=K) :=
 AC.ghost (GL.frzS (id:=b) A0 rfl (λj=>by
  by_cases e:j=b
  ·subst e;exact .inl hK
  ·exact .inr ⟨e,(h_ne e).symm⟩) (.cons _ _ _ _ (.same _) (.cons _ _ _ _ (U3 (u:=1) (by simp) (T7 _) ⟨[],by rw[A1D,B5e]⟩) .nil))) (c_among L E s K cc t ht htc l hl)
theorem F7n{ρ:Ren}{v:Value}{a b c e:DV}(h:VRel ρ (.agg [a,b,c,.snil,e]) v):VRel ρ (.agg [a,b,c,.lst [],e]) v:=by
 obtain⟨bb,rfl,k1,k2⟩:=h.agg_inv;refine .agg _ _ k1 λj x y hx hy=>?_
 match j with
 |0=>cases hx;exact k2 0 _ y rfl hy
 |1=>cases hx;exact k2 1 _ y rfl hy
 |2=>cases hx;exact k2 2 _ y rfl hy
 |3=>cases hx;exact(k2 3 _ y rfl hy).snil_lst
 |4=>cases hx;exact k2 4 _ y rfl hy
 |_+5=>cases hx
theorem B4q{K H':Hp}{cc:Nat}{a b c e:DV}(hK:∀i,cc<=i->K i=none)(h:∀j,j<cc->H' j=K j):GL H' [.agg [a,b,c,.snil,e]] K [.agg [a,b,c,.lst [],e]] :=
 (Z8 hK h).trans (GL.view fun ρ vs hA=>P8 (λv h=>F7n h) vs hA)
theorem rv5{s:Sym.St}{x i u:Nat}{a b c d e:DV}{o:Bool}(h:s.T x=.ptr i 0)(hb:s.H i=some ⟨u,o,[a,b,c,d,e]⟩):A7m s [.cell x 5 true]=some (.agg [a,b,c,d,e]):=by
 simp only[A7m,A7o,h,ldv,hb];rfl
theorem A7z(L:List Tok)(E:Int)(s:Rd):∀(l:List (List UInt8)) (k:Nat), -1<=A2i L E s k l/\A2i L E s k l<((k+l.length:Nat):Int)
 |[],k=>by simp[A2i];omega
 |x::l,k=>by
  have:=A7z L E s l (k+1);unfold A2i;split
  ·simp only[A0C];omega
  ·simp only[A0C];omega
theorem F4a{L:List Tok}{E:Int}{s:Rd}{n m e:Int}:(C6 L E s n m e).i=s.i:=by unfold C6 S8;split<;>(try split)<;>rfl
abbrev tkB(a:Tok):Blk:=⟨0,true,[I64 a.kind,.str a.text,I64 a.value,I64 a.pos]⟩
abbrev D8c:Blk:=⟨0,true,[I64 0,I64 0,.str [],.snil,I64 0]⟩
theorem c_primary(L:List Tok)(E:Int)(s:Rd)(H:Hp)(cc t:Nat)(ht:H t=some (rdR L E s))(htc:t<cc)(hi:s.i<=9999999999)(ho:0<=s.ops/\s.ops<=100):AC Tryz.prog 242 [.ptr t 0] H cc (λv H' c'=>v=(N3 L E s).1.v/\H'=H.upd t (rdR L E (N3 L E s).2)):=by
 refine AC.go A3 λhfr=>?_;refine wAp ?_;refine AC.call (c_peek L E s _ _ t (by rw[hnO];exact ht) (by omega)) ?_;rintro v H' c1 ⟨rfl,rfl⟩ hc;have ne0:=V8 t cc c1 (c1+1) (by omega);refine wAx ne0 @A0 @A1 ?_;have ham:=c_amongO L E s ((H.upd cc ⟨0,true,[I64 0,I64 0,.str [],.snil,I64 0]⟩).upd c1 ⟨0,true,[I64 (B1 L E s).kind,.str (B1 L E s).text,I64 (B1 L E s).value,I64 (B1 L E s).pos]⟩) (c1+1+1) t (c1+1) (by rw[hnO,hnO];exact hfr _ (by omega)) (by rw[hnO,hnO];exact ht) (by omega) I0 (by decide);refine AC.call ham ?_;rintro v H' c2 ⟨rfl,rfl⟩ hc2;have hpr:N3 L E s=N3 L E s:=rfl
 conv at hpr=>rhs;unfold N3
 have hkr : -1<=B8 L E s I0/\B8 L E s I0<7:=A7z L E s I0 0;generalize B8 L E s I0=k at hpr hkr;have hk0 : -1<=k/\k<7:=hkr;have hw:IntKind.i64.wrap (s.ops+1)=s.ops+1:=w6z;have tail:∀c3,c2<=c3->¬(k<0/\N9 L E s 3=false/\N9 L E s 1=false)->IW Tryz.prog 78 (pz Tryz.prog 242 (.i (.o (.o (.o .h))))) ⟨tm [(0,.ptr t 0),(2,.ptr cc 0),(3,.ptr c1 0),(4,I64 k),(22,.bool false)],(H.upd cc D8c).upd c1 (tkB (B1 L E s)),c3⟩ (rt [.cell 2 5 true] λv H' c' => ∃v2 H2,GL H' [v] H2 [v2]/\v2=(N3 L E s).1.v/\H2=H.upd t (rdR L E (N3 L E s).2)):=by
  intro c3 hc3 hcd;rw[if_neg hcd]at hpr;dsimp only at hpr;refine wA0 ht hw ne0 @A0 @A1 ?_;refine AC.call (c_limit L E { s with ops:=s.ops+1 } _ _ t A0 (by omega) _ _ _) ?_;rintro v H' c4 ⟨rfl,rfl⟩ hc4;have hi2:(C6 L E { s with ops:=s.ops+1 } (s.ops+1) 32 9).i=s.i:=F4a;generalize C6 L E { s with ops:=s.ops+1 } (s.ops+1) 32 9=s2 at *;refine wAu @A1 ?_;refine AC.call (c_rdok L E s2 _ _ t A0 (by omega)) ?_;rintro v H' c5 ⟨rfl,rfl⟩ hc5;have hG:∀(b5:Blk) (j:Nat),j<cc->(((H.upd cc b5).upd c1 (tkB (B1 L E s))).upd t (rdR L E s2)) j=(H.upd t (rdR L E s2)) j:=λb5 j hj=>by simp[Hp.upd,show ¬j=cc by omega,show ¬j=c1 by omega]
  cases h2:okR s2 with
  |false =>
   rw[if_pos h2]at hpr;rw[hpr];refine wAz h2 ne0 @A0 @A1 ?_;rw[G4 (v:=.agg [I64 0,I64 0,.str [],.snil,I64 0]) (rv5 rfl A0)];refine⟨_,_,B4q (cc:=cc) (F4 hfr htc) (λj hj=>?_),rfl,rfl⟩;simp[Hp.upd,show ¬j=cc by omega,show ¬j=c1 by omega]
  |true =>
   rw[if_neg (by simp[h2])]at hpr;have hw2:IntKind.i64.wrap ((s2.i:Int)+1)=((s2.i+1:Nat):Int):=l8
   simp only[go_sem,seval,h2];by_cases hk1:0<=k
   ·rw[if_pos hk1]at hpr;have hd1:decide (k≥0)=true:=by simpa using hk1
    have ne0:=A1y t cc c1 c5 (c5+7) (by omega);by_cases h4:4<=k
    ·rw[if_pos h4]at hpr;rw[hpr];rcases(show k=4\/k=5\/k=6 by omega) with rfl|rfl|rfl
     all_goals
      refine wA1 h2 hw2 hd1 ne0 @A0 @A1 ?_;refine AC.call (c_name L E (A5 s2) _ _ t (by repeat (first|exact A0|rw[hnO])) (by omega) (by show s2.i+1<=10000000000;omega)) ?_;rintro v H' c6 ⟨rfl,rfl⟩ hc6;refine wAx ne0 @A0 @A1 ?_;rw[G4 (rv5 rfl A0)];refine⟨_,_,B4q (cc:=cc) (F4 hfr htc) (λj hj=>?_),rfl,rfl⟩;simp[Hp.upd,show ¬j=cc by omega,show ¬j=c1 by omega,show ¬j=c5 by omega,show ¬j=c5+7 by omega];try(split<;>rfl)
    ·rw[if_neg h4]at hpr;rw[hpr];rcases(show k=0\/k=1\/k=2\/k=3 by omega) with rfl|rfl|rfl|rfl
     all_goals
      refine wA1 h2 hw2 hd1 ne0 @A0 @A1 ?_;rw[G4 (rv5 rfl A0)];refine⟨_,_,B4q (cc:=cc) (F4 hfr htc) (λj hj=>?_),rfl,rfl⟩;simp[Hp.upd,show ¬j=cc by omega,show ¬j=c1 by omega,show ¬j=c5 by omega,show ¬j=c5+7 by omega];rfl
   ·rw[if_neg hk1]at hpr;have hd1:decide (k≥0)=false:=by simpa using hk1
    by_cases h3:(B1 L E s).kind=3
    ·rw[if_pos h3]at hpr;rw[hpr];have hd3:((B1 L E s).kind==3)=true:=by simpa using h3
     refine wA3 h2 hw2 hd1 hd3 ne0 @A0 @A1 ?_;rw[G4 (v:=.agg [I64 1,I64 (B1 L E s).value,.str [],.snil,I64 (B1 L E s).pos]) (rv5 rfl A0)];refine⟨_,_,B4q (cc:=cc) (F4 hfr htc) (λj hj=>?_),rfl,rfl⟩;simp[Hp.upd,show ¬j=cc by omega,show ¬j=c1 by omega];rfl
    ·rw[if_neg h3]at hpr;rw[hpr];have hd3:((B1 L E s).kind==3)=false:=by simpa using h3
     refine wA3 h2 hw2 hd1 hd3 ne0 @A0 @A1 ?_;rw[G4 (v:=.agg [I64 2,I64 0,.str (B1 L E s).text,.snil,I64 (B1 L E s).pos]) (rv5 rfl A0)];refine⟨_,_,B4q (cc:=cc) (F4 hfr htc) (λj hj=>?_),rfl,rfl⟩;simp[Hp.upd,show ¬j=cc by omega,show ¬j=c1 by omega];rfl
 have hGt:∀b5:Blk,((H.upd cc b5).upd c1 (tkB (B1 L E s))) t=some (rdR L E s):=λb5=>by rw[hnO,hnO];exact ht
 by_cases hk1:k<0
 ·have hd:decide (k<0)=true:=by simpa using hk1
  refine wAu (wJ ne0 hd) ?_;refine AC.call (c_isKind L E s _ _ t (hGt _) (by omega) 3) ?_;rintro v H' c3 ⟨rfl,rfl⟩ hc3;cases h3:N9 L E s 3 with
  |true =>
   refine wAn h3 ?_;exact tail _ (by omega) (by simp[h3])
  |false =>
   refine wAu h3 ?_;refine AC.call (c_isKind L E s _ _ t (hGt _) (by omega) 1) ?_;rintro v H' c4 ⟨rfl,rfl⟩ hc4;cases h1:N9 L E s 1 with
   |true =>
    refine wAn h1 ?_;exact tail _ (by omega) (by simp[h1])
   |false =>
    rw[if_pos ⟨hk1,h3,h1⟩]at hpr;rw[hpr];refine wAu h1 ?_;refine AC.call (c_syntax L E s _ _ t (hGt _) (by omega)) ?_;rintro v H' c5 ⟨rfl,rfl⟩ hc5;refine wAu (wJ ne0 @A0) ?_;rw[G4 (rv5 rfl A0)];refine⟨_,_,B4q (cc:=cc) (F4 hfr htc) (λj hj=>?_),rfl,rfl⟩;simp[Hp.upd,show ¬j=cc by omega,show ¬j=c1 by omega]
 ·have hd:decide (k<0)=false:=by simpa using hk1
  simp only[go_sem,seval,ne0,hd];(repeat'((with_reducible first|refine O8 (p:=IW _ _ (pz Tryz.prog 242 (.i (.o (.o (.o .h))))) _ _) ?_|refine wr ?_|refine k_cu ?_ ?_|apply wb2<;>(intro hb;try simp only[hb]))<;>try simp only[go_sem,seval,hd]));exact tail _ (by omega) λh=>hk1 h.1
theorem c_IdxO(x:List UInt8)(l:List (List UInt8))(hl:l.length<=100000000)(H:Hp)(c:Nat)(o:Option Nat)(hn:o=none->l=[])(hb:∀i,o=some i->H i=some ⟨1,true,txC l⟩):
  AC Tryz.prog 88 [todoV o l.length,.str x] H c (λv H' c'=>v=I64 (B1v x 0 l)/\H'=H):=by
 cases o with
 |none =>
  obtain rfl:=hn rfl;refine AC.go A3 λhfr=>?_;refine wAp ?_;refine A9 (λk:Nat=>[(0,.snil),(1,.str x),(7,I64 0),(8,I64 0)]) (λ_=>H) (λk c=>True) (λk=>0) 0 (by simp[B5,tm,Tm.upd]) (Sub.refl _) trivial ?_;rintro k c' -;refine wAp ?_;exact⟨_,_,GL.refl _ _,rfl,rfl⟩
 |some i =>
  have hi:=hb i rfl;refine AC.go A3 λhfr=>?_;refine wAp ?_;refine A9 (λk:Nat=>[(0,.slc i 0 l.length),(1,.str x),(7,I64 l.length),(8,I64 k)]) (λ_=>H) (λk c=>k<=l.length/\B1v x 0 l=B1v x k (l.drop k)) (λk=>l.length-k) 0 (by simp[B5,tm,Tm.upd]) (Sub.refl _) ⟨a8,rfl⟩ ?_;rintro k c' ⟨hk,hv⟩;by_cases hlt:k<l.length
  ·have hd:=dtz hlt;have hg:=A0B hlt;have hw:IntKind.i64.wrap ((k:Int)+1)=((k+1:Nat):Int):=by rw[w6z];omega
   rw[A1I hlt,B1v]at hv;generalize l[k]=a at hg hv;have hc:(txC l)[k]? = some (.str a):=by rw[A1Z,hg];rfl
   cases h:(x==a) with
   |true =>
    rw[if_pos h]at hv;rw[hv];refine wA0 hi hd hc h hlt ?_;exact⟨_,_,GL.refl _ _,rfl,rfl⟩
   |false =>
    rw[if_neg (by simp[h])]at hv;refine wA1 hi hd hc h hw hlt ?_;exact⟨k+1,rfl,Sub.refl _,inv ⟨hlt,hv⟩,by omega⟩
  ·have hd:=dfz hlt;have hk:k=l.length:=by omega
   rw[hk,A4L,B1v]at hv;rw[hv];refine wAs (wJ hi hd) ?_;exact⟨_,_,GL.refl _ _,rfl,rfl⟩
theorem F0b(S:List (List UInt8))(x:List UInt8):(B1v x 0 S = -1/\txS S x=(S.length,S++[x]))\/(B1v x 0 S=((txS S x).1:Int)/\(txS S x).2=S):=by
 have key:∀(S:List (List UInt8)) (k:Nat),(B1v x k S = -1/\x ∉ S)\/(B1v x k S=((k+S.idxOf x:Nat):Int)/\x∈S):=by
  intro S
  induction S with
  |nil=>intro k;exact .inl ⟨rfl,by simp⟩
  |cons a S ih =>
   intro k;rw[B1v];by_cases h:(x==a)=true
   ·have e:x=a:=by simpa using h
    subst e;right;rw[if_pos h];simp
   ·have e:¬x=a:=by simpa using h
    have e2:¬a=x:=λq=>e q.symm;rw[if_neg h];rcases ih (k+1) with ⟨h1,h2⟩|⟨h1,h2⟩
    ·exact .inl ⟨h1,by simp[e,h2]⟩
    ·refine .inr ⟨?_,by simp[h2]⟩;rw[h1,List.idxOf_cons];have:(a==x)=false:=by simpa using e2
     rw[this];simp only[cond_false];omega
 unfold txS;rcases key S 0 with ⟨h1,h2⟩|⟨h1,h2⟩
 ·exact .inl ⟨h1,by rw[if_neg h2]⟩
 ·right;rw[if_pos h2,h1];simp
theorem D9x(S:List (List UInt8)):(txC S).length=S.length*1:=by rw[A0N,Nat.mul_one]
theorem c_gtext(e p v m:DV)(t n:Int)(s:List UInt8)(x:Cg)(hx:x.2.length<=100000000):GC 53 (mkP e p v m t n) [.str s] x (x.1,(txS x.2 s).2) (I64 (txS x.2 s).1):=by
 intro H0 c t' a b h;refine AC.go A3 λhfr=>?_;have hM:=B9q (mk:=mkP e p v m t n) h;have h1:=h.tc;(repeat'((with_reducible first|apply wr|refine k_cu ?_ ?_|apply wb2<;>(intro hb;try simp only[hb]))<;>try simp only[go_sem,seval,hM]));refine AC.call (c_IdxO s x.2 hx _ _ b h.bn (λi hi=>C6q hi)) ?_;rintro _ H' c1 ⟨rfl,rfl⟩ hc;rcases F0b x.2 s with ⟨q1,q2⟩|⟨q1,q2⟩
 ·rw[q1,q2];have ne0:=W9 t' c1 (c1+1) (by omega);simp only[go_sem,seval,hM,ne0];have hln:=A1q (o:=b) (n:=x.2.length) (λe=>A2v (h.bn e));(repeat'((with_reducible first|apply wr|refine k_cu ?_ ?_|apply wb2<;>(intro hb;try simp only[hb]))<;>try simp only[go_sem,seval,hM,ne0,hln]));refine G6 (F9 (cs:=txC x.2) (λe=>⟨A2v (h.bn e),by rw[h.bn e];rfl⟩) (λi hi=>?_) (D9x _) (by omega) (by omega) (by omega)) ?_
  ·have:=h.hb i hi;rw[hnO];exact C6q hi
  have dm:∀X,delO X b t'=X t':=λX=>C5 (λi hi e=>(h.hb i hi).1 e.symm);simp only[go_sem,seval,dm,hM,ne0,A0];(repeat'((with_reducible first|apply wr|refine k_cu ?_ ?_|apply wb2<;>(intro hb;try simp only[hb]))<;>try simp only[go_sem,seval,dm,hM,ne0,A0]));refine⟨_,_,GL.less' (E6m (y:=(x.1,x.2++[s])) (i:=c1+1) (h.le hc) (by omega) rfl (by simp) (by simp[todoV])),rfl,a,some (c1+1),(h.le hc).newB (by omega) (by omega) rfl,rfl⟩
 ·have hd:decide (B1v s 0 x.2<0)=false:=by rw[q1];simp
  refine wAu hd ?_;rw[q1,q2];exact⟨_,_,GL.refl _ _,rfl,a,b,h.le hc,rfl⟩
theorem B5c(nm:List UInt8->Int):∀a b:List Ex,C7 nm (a++b)=C7 nm a++C7 nm b
 |[],b=>rfl
 |x::a,b=>by rw[List.cons_append,C7,C7,B5c nm a b,A0K]
theorem B7i(nm:List UInt8->Int){l:List Ex}{k:Nat}{x:Ex}(h:l[k]? = some x):C7 nm (l.take (k+1))=C7 nm (l.take k)++cgE nm x:=by
 rw[A0V,h,B5c];simp[C7]
theorem A9m(nm:List UInt8->Int)(l:List Ex)(k:Nat):(C7 nm (l.take k)).length<=(C7 nm l).length:=by
 have h:=B5c nm (l.take k) (l.drop k);rw[A1P]at h;rw[h,A0A];omega
theorem c_gexpr(e p v:DV)(ks vs:List DV)(t n:Int)(nm:List UInt8->Int)(hm:∀s,Sym.lkV (I64 0) false vs (G5 (.str s) ks 0)=some (I64 (nm s))):∀(z:Nat) (ex:Ex),ex.sz<z->ex.sz<=100000000->∀x:Cg,x.1.length+(cgE nm ex).length<=100000000 ->
  GC 51 (mkP e p v (.mp .s ks vs) t n) [ex.v] x (x.1++cgE nm ex,x.2) (.tup []):=by
 intro z
 induction z with
 |zero=>intro ex h;omega
 |succ z ih =>
 intro ex hz hB x hx H0 c t' a b h;have hal:Ex.szs ex.args<ex.sz:=by cases ex with|mk k v n a p=>rw[Ex.sz];show Ex.szs a<_;omega
 have hargs:∀x∈ex.args,x.sz<=Ex.szs ex.args:=λx hx=>Ex.szs_mem hx;have hll:=Ex.szs_len ex.args;have hE:=F6s nm ex;rw[hE]at hx ⊢;rw[Ex.v_w];cases ex with|mk k vv nn ar pos =>
 dsimp only[Ex.w,Ex.kind,Ex.value,Ex.name,Ex.args,Ex.pos]at hal hargs hll hx ⊢;clear hE;rw[A0A,A0I]at hx;have h1:=h.tc;refine AC.go A3 λhfr=>?_;refine wAp ?_;obtain⟨B,hBe⟩:∃B:Blk,B=⟨0,true,[I64 k,I64 vv,.str nn,L9 ar,I64 pos]⟩:=⟨_,rfl⟩;rw[<- hBe,h.com (A0E _)];have hb0:=h.box (B:=B) (A0E c) (A1Q c);refine A9 (λq:Nat × Option Nat × Option Nat=>[(0,.ptr t' 0),(3,.ptr c 0),(7,L9 ar),(8,I64 ar.length),(9,I64 q.1)]) (λq=>GM (H0.upd c B) t' q.2.1 q.2.2 (mkP e p v (.mp .s ks vs) t n) (x.1++C7 nm (ar.take q.1),x.2))
  (λq cc=>c+1<=cc/\q.1<=ar.length/\GN (H0.upd c B) t' q.2.1 q.2.2 (x.1++C7 nm (ar.take q.1),x.2) cc) (λq=>ar.length-q.1) (0,a,b)
  (by simp[B5,tm,Tm.upd]) (by simp only[A1J,C7,A1D];exact Sub.refl _) ⟨A0E _,A0Q _,by simp only[A1J,C7,A1D];exact hb0⟩ ?_
 clear hb0;rintro⟨i,o,b1⟩ cc ⟨hc,hk,hN⟩;dsimp only at hk hN ⊢;have hnn:=hN.tc;have hfr':=λ(j:Nat) (hj:cc<=j)=>D9s (mk:=mkP e p v (.mp .s ks vs) t n) hN hj;by_cases hlt:i<ar.length
 ·have hd:=dtz hlt;have hg:=A0B hlt;have hw:=w64 (n:=(i:Int)+1);have hsn:=B7i nm hg;have hle:=A9m nm ar (i+1);have hmem:=hargs _ (A0O hlt);generalize ar[i]=y at hg hsn hmem;rw[hsn,A0A]at hle;have hcall:=ih y (by omega) (by omega) (x.1++C7 nm (ar.take i),x.2) (by rw[A0A];omega);rw[Ex.v_w]at hcall;refine wAr (wJ hd (wJ hg (wJ hw (wJ @Ex.v_w (wJ @A0 @A1))))) ?_;obtain⟨B2,hB2⟩:∃B:Blk,B=⟨0,true,[I64 y.kind,I64 y.value,.str y.name,L9 y.args,I64 y.pos]⟩:=⟨_,rfl⟩;rw[<- hB2,hN.com (A0E _)];refine AC.call (hcall _ _ _ _ _ (hN.box (A0E _) (A1Q _))) ?_;rintro _ _ c2 ⟨rfl,a2,b2,hN2,rfl⟩ hc2;have hz0:=hN.fr cc (A0E _);refine wAu hw ?_;dsimp only at hN2 ⊢;rw[A0K, <- hsn]at hN2 ⊢;exact⟨(i+1,a2,b2),i6,A1o hz0 (by omega) hN2,inv ⟨a8,hlt,hN2.unbox hz0 (by omega) hN.fr⟩,by simp only;omega⟩
 ·have hd:=dfz hlt;have hi:i=ar.length:=by omega
  subst hi;rw[A1T]at hN hfr' ⊢;have hM:=B9q (mk:=mkP e p v (.mp .s ks vs) t n) hN;have hcB:GM (H0.upd c B) t' o b1 (mkP e p v (.mp .s ks vs) t n) (x.1++C7 nm ar,x.2) c=some ⟨0,true,[I64 k,I64 vv,.str nn,L9 ar,I64 pos]⟩:=B5p hN (by rw[A0,hBe]) (by omega);have hz0:=h.fr c (A0E _);have hlk:=hm nn;have fin:∀(op A:Int),A9j nm k vv nn=⟨op,A⟩->∀cx,cc<=cx->AC Tryz.prog 19 [.ptr t' 0,I64 op,I64 A] (GM (H0.upd c B) t' o b1 (mkP e p v (.mp .s ks vs) t n) (x.1++C7 nm ar,x.2)) cx (λv' H' c' => ∃a' b',GN (H0.upd c B) t' a' b' (x.1++(C7 nm ar++[A9j nm k vv nn]),x.2) c'/\H'=GM (H0.upd c B) t' a' b' (mkP e p v (.mp .s ks vs) t n) (x.1++(C7 nm ar++[A9j nm k vv nn]),x.2)):=λop A he cx hcx=>by
   rw[he, <- A0K];refine AC.call (c_emit e p v _ t n op A (x.1++C7 nm ar,x.2) (by rw[A0A];omega) _ _ _ _ _ (hN.le hcx)) ?_;rintro _ _ c2 ⟨rfl,a2,b2,hN2,rfl⟩ hc2;exact⟨a2,b2,hN2,rfl⟩
  repeat'((with_reducible first|apply wr|refine k_cu ?_ ?_|apply wb2<;>(intro hb;try simp only[hb]))<;>try simp only[go_sem,seval,hd,hM,hcB,hlk])
  all_goals
   try refine⟨hfr' _ (by omega),?_⟩
   refine AC.call (fin _ _ ?_ _ ?_) ?_
   ·clear fin hm hN hM hcB hfr' hlk hx hz0 hnn ih hfr h hargs hal hBe;simp_all[A9j]
   ·omega
   rintro _ _ c2 ⟨a2,b2,hN2,rfl⟩ hc2;refine wAq ?_;exact⟨_,_,GL.less' (A1o hz0 (by omega) hN2),rfl,a2,b2,hN2.unbox hz0 (by omega) h.fr,rfl⟩
theorem c_gblock(e p v:DV)(ks vs:List DV)(t n:Int)(nm:List UInt8->Int)(hm:∀s,Sym.lkV (I64 0) false vs (G5 (.str s) ks 0)=some (I64 (nm s))):∀(z:Nat) (l:List Pb.St),St.szs l<z->St.szs l<=99000000->∀x,CgB (T6 nm l x) ->
  GC 18 (mkP e p v (.mp .s ks vs) t n) [G7 l] x (T6 nm l x) (.tup []):=by
 intro z
 induction z with
 |zero=>intro l h1;omega
 |succ z ih =>
 intro l hz hB x hx H0 c t' a b h;have hll:=St.szs_len l;refine AC.go A3 λhfr=>?_;refine wAp ?_;refine A9 (λq:Nat × Option Nat × Option Nat=>[(0,.ptr t' 0),(11,G7 l),(12,I64 l.length),(13,I64 q.1)]) (λq=>GM H0 t' q.2.1 q.2.2 (mkP e p v (.mp .s ks vs) t n) (T6 nm (l.take q.1) x))
  (λq cc=>c<=cc/\q.1<=l.length/\GN H0 t' q.2.1 q.2.2 (T6 nm (l.take q.1) x) cc) (λq=>l.length-q.1) (0,a,b)
  (by simp[B5,tm,Tm.upd]) (by simp only[A1J,A3x];exact Sub.refl _) ⟨A0E _,A0Q _,by simp only[A1J,A3x];exact h⟩ ?_
 clear h hfr a b;rintro⟨i,a,b⟩ cc ⟨hc,hk,hN0⟩;dsimp only at hk hN0 ⊢;by_cases hlt:i<l.length
 rotate_left
 ·have hd:=dfz hlt;have hi:i=l.length:=by omega
  subst hi;rw[A1T]at hN0 ⊢;refine wAr hd ?_;exact⟨_,_,GL.refl _ _,rfl,a,b,hN0,rfl⟩
 have hd:=dtz hlt;have hg:=A0B hlt;have hw:=w64 (n:=(i:Int)+1);have hsn:=D2m (nm:=nm) hg x;have hle:=(D2l (nm:=nm) l (i+1) x).bnd hx;have hssz:=St.szs_mem (A0O hlt);generalize l[i]=s at hg hsn hssz;rw[hsn]at hle;obtain⟨y,hy⟩:∃y,y=T6 nm (l.take i) x:=⟨_,rfl⟩;rw[<- hy]at hle hN0 hsn ⊢;have hxa:=(D2j (nm:=nm) s y).bnd hle;have hfr0:=λj (hj:cc<=j)=>D9s (mk:=(mkP e p v (.mp .s ks vs) t n)) hN0 hj;obtain⟨k,nn,tt,ar,u,w,pos⟩:=s;dsimp only[St.args]at hxa;rw[St.sz]at hssz;have hargs:∀x∈ar,x.sz<=Ex.szs ar:=λx hx=>Ex.szs_mem hx;have hla:=Ex.szs_len ar;have hu:=ih u (by omega) (by omega);have hel:=ih w (by omega) (by omega);clear ih;have htc:=hN0.tc;obtain⟨x1,hx1⟩:∃x1:Cg,x1=(y.1++C7 nm ar,y.2):=⟨_,rfl⟩;rw[<- hx1]at hxa;refine wAr (wJ hd (wJ hg (wJ @St.v_w (wJ @A0 @A1)))) ?_;dsimp only[St.kind,St.name,St.text,St.args,St.thn,St.els,St.pos];obtain⟨B,hBe⟩:∃B:Blk,B=⟨0,true,[I64 k,.str nn,.str tt,L9 ar,G7 u,G7 w,I64 pos]⟩:=⟨_,rfl⟩;rw[<- hBe,hN0.com (A0E _)];have hb0:=hN0.box (B:=B) (A0E cc) (A1Q cc);have hcB:∀ {x' o' b' c2},GN (H0.upd cc B) t' o' b' x' c2->GM (H0.upd cc B) t' o' b' (mkP e p v (.mp .s ks vs) t n) x' cc=some ⟨0,true,[I64 k,.str nn,.str tt,L9 ar,G7 u,G7 w,I64 pos]⟩:=λhN=>B5p hN (by rw[A0,hBe]) (by omega);have hcB0:=hcB hb0;refine wAs hcB0 ?_;have hz0:=hN0.fr cc (A0E _);clear hcB0;refine A9 (λq:Nat × Option Nat × Option Nat=>[(0,.ptr t' 0),(5,.ptr cc 0),(11,G7 l),(12,I64 l.length),(13,I64 i),(18,L9 ar),(19,I64 ar.length),(20,I64 q.1)]) (λq=>GM (H0.upd cc B) t' q.2.1 q.2.2 (mkP e p v (.mp .s ks vs) t n) (y.1++C7 nm (ar.take q.1),y.2))
  (λq c1=>cc+1<=c1/\q.1<=ar.length/\GN (H0.upd cc B) t' q.2.1 q.2.2 (y.1++C7 nm (ar.take q.1),y.2) c1) (λq=>ar.length-q.1) (0,a,b)
  (by simp[B5,tm,Tm.upd]) (by simp only[A1J,C7,A1D];exact Sub.refl _) ⟨A0E _,A0Q _,by simp only[A1J,C7,A1D];exact hb0⟩ ?_
 clear hb0;rintro⟨j,o,b1⟩ c1 ⟨hcc,hkj,hN⟩;dsimp only at hkj hN ⊢;by_cases hltj:j<ar.length
 ·have hdj:=dtz hltj;have hgj:=A0B hltj;have hwj:=w64 (n:=(j:Int)+1);have hsnj:=B7i nm hgj;have hlej:=A9m nm ar (j+1);have hmem:=hargs _ (A0O hltj);generalize ar[j]=q at hgj hsnj hmem;rw[hsnj,A0A]at hlej;have hlx:=hxa.1;rw[hx1,A0A]at hlx;have hcall:=c_gexpr e p v ks vs t n nm hm _ q (A1Q _) (by omega) (y.1++C7 nm (ar.take j),y.2) (by rw[A0A];omega);rw[Ex.v_w]at hcall;have hfrj:=λj (hj:c1<=j)=>D9s (mk:=(mkP e p v (.mp .s ks vs) t n)) hN hj;refine wAr (wJ hdj (wJ hgj (wJ hwj (wJ @Ex.v_w (wJ @A0 @A1))))) ?_;obtain⟨B2,hB2⟩:∃B:Blk,B=⟨0,true,[I64 q.kind,I64 q.value,.str q.name,L9 q.args,I64 q.pos]⟩:=⟨_,rfl⟩;rw[<- hB2,hN.com (A0E _)];refine AC.call (hcall _ _ _ _ _ (hN.box (A0E _) (A1Q _))) ?_;rintro _ _ c2 ⟨rfl,a2,b2,hN2,rfl⟩ hc2;have hz1:=hN.fr c1 (A0E _);refine wAu hwj ?_;dsimp only at hN2 ⊢;rw[A0K, <- hsnj]at hN2 ⊢;exact⟨(j+1,a2,b2),i6,A1o hz1 (by omega) hN2,inv ⟨a8,hltj,hN2.unbox hz1 (by omega) hN.fr⟩,by simp only;omega⟩
 have hdj:=dfz hltj;have hij:j=ar.length:=a8
 subst hij;rw[A1T, <- hx1]at hN ⊢;have hM:=B9q (mk:=(mkP e p v (.mp .s ks vs) t n)) hN;have hcB1:=hcB hN;have hxb:=hxa.1;clear hltj hkj hla hargs;by_cases q2:k=2
 ·have d2:(k==2)=true:=by simpa using q2
  subst q2;obtain⟨T,hT⟩:∃T,T=cgB nm (x1.1.length+1) x1.2 u:=⟨_,rfl⟩;have eT:T6 nm u (x1.1++[⟨13,0⟩],x1.2)=(x1.1++⟨13,0⟩::T.1,T.2):=by
   unfold T6;rw[A0A,A0I, <- hT];simp
  (repeat'((with_reducible first|apply wr|refine k_cu ?_ ?_|apply wb2<;>(intro hb;try simp only[hb]))<;>try simp only[go_sem,seval,hdj,hM,hcB1,d2]));refine AC.call (c_emit _ _ _ _ _ _ 13 0 x1 (by omega) _ _ _ _ _ hN) ?_;rintro _ _ c2 ⟨rfl,a2,b2,hN2,rfl⟩ hc2;have hcB2:=hcB hN2;refine wAu hcB2 ?_;by_cases hv0:w.length=0
  ·have q0:decide ((w.length:Int)>0)=false:=by rw[hv0];rfl
   have hfin:=C3a (nm:=nm) (n:=nn) (t:=tt) (q:=pos) (u:=u) hx1 hv0;rw[<- hT]at hfin;rw[hfin]at hle;have hbT:CgB (x1.1++⟨13,0⟩::T.1,T.2):=⟨by have:=hle.1;rw[A0A,A0C]at this ⊢;exact this,hle.2⟩;refine AC.call (hu _ (by rw[eT];exact hbT) _ _ _ _ _ hN2) ?_;rintro _ _ c3 ⟨rfl,a3,b3,hN3,rfl⟩ hc3;rw[eT]at hN3 ⊢;have hcB3:=hcB hN3;refine wAt (wJ hcB3 q0) ?_;refine AC.call (c_patch _ _ _ _ _ _ 13 0 x1.1 T.1 T.2 (A1B hbT.1 (by omega)) _ _ _ _ _ hN3) ?_;rintro _ _ c4 ⟨rfl,a4,b4,hN4,rfl⟩ hc4;refine wAu hw ?_;refine⟨(i+1,a4,b4),i6,?_,inv ⟨a8,hlt,?_⟩,by simp only;omega⟩
   ·dsimp only;rw[hsn,hfin];exact A1o hz0 (by omega) hN4
   ·dsimp only;rw[hsn,hfin];exact hN4.unbox hz0 (by omega) hN0.fr
  ·have q0:decide ((w.length:Int)>0)=true:=by simp;omega
   obtain⟨V,hV⟩:∃V,V=cgB nm (x1.1.length+1+T.1.length+1) T.2 w:=⟨_,rfl⟩;have hfin:=C2z (nm:=nm) (n:=nn) (t:=tt) (q:=pos) hx1 hv0 hT hV;rw[hfin]at hle;obtain⟨J,hJ⟩:∃J,J=x1.1.length+1+T.1.length:=⟨_,rfl⟩;rw[<- hJ]at hle hV hfin;have l3:(x1.1++(⟨13,0⟩:Ins)::T.1).length=J:=b9
   have l4:(x1.1++(⟨13,0⟩:Ins)::(T.1++[⟨12,0⟩])).length=J+1:=b9
   have l5:(x1.1++(⟨13,((J+1:Nat):Int)⟩:Ins)::T.1).length=J:=b9
   have hxl:=hle.1;rw[A0A,l5,A0C]at hxl;have hxs:=hle.2;have hTs:C6t T (T.1++V.1,V.2):=⟨by simp,by rw[hV];exact A3j _ w _ _⟩;have hbT:CgB (x1.1++⟨13,0⟩::T.1,T.2):=⟨by rw[l3];omega,A1B hTs.2 hxs⟩;refine AC.call (hu _ (by rw[eT];exact hbT) _ _ _ _ _ hN2) ?_;rintro _ _ c3 ⟨rfl,a3,b3,hN3,rfl⟩ hc3;rw[eT]at hN3 ⊢;have hcB3:=hcB hN3;refine wAt (wJ hcB3 q0) ?_;refine AC.call (c_emit _ _ _ _ _ _ 12 0 _ (by have:=hbT.1;omega) _ _ _ _ _ hN3) ?_;rintro _ _ c4 ⟨rfl,a4,b4,hN4,rfl⟩ hc4;have e4:(((x1.1++(⟨13,0⟩:Ins)::T.1,T.2):Cg).1++[⟨12,0⟩],((x1.1++(⟨13,0⟩:Ins)::T.1,T.2):Cg).2)=((x1.1++⟨13,0⟩::(T.1++[⟨12,0⟩]),T.2):Cg):=by simp
   rw[e4]at hN4 ⊢;refine wAu l3 ?_;refine AC.call (c_patch _ _ _ _ _ _ 13 0 x1.1 (T.1++[⟨12,0⟩]) T.2 (by rw[l4];omega) _ _ _ _ _ hN4) ?_;rintro _ _ c5 ⟨rfl,a5,b5,hN5,rfl⟩ hc5;rw[l4]at hN5 ⊢;have hcB5:=hcB hN5;have e5:∀z:Int,T6 nm w (x1.1++⟨13,((J+1:Nat):Int)⟩::(T.1++[⟨12,z⟩]),T.2)=((x1.1++⟨13,((J+1:Nat):Int)⟩::T.1)++⟨12,z⟩::V.1,V.2):=λz=>by
    have l6:(x1.1++(⟨13,((J+1:Nat):Int)⟩:Ins)::(T.1++[⟨12,z⟩])).length=J+1:=b9
    unfold T6;dsimp only;rw[l6, <- hV];simp
   have hbW:CgB ((x1.1++⟨13,((J+1:Nat):Int)⟩::T.1)++⟨12,0⟩::V.1,V.2):=⟨by rw[A0A,l5,A0C];omega,hxs⟩;refine wAu hcB5 ?_;refine AC.call (hel _ (by rw[e5];exact hbW) _ _ _ _ _ hN5) ?_;rintro _ _ c6 ⟨rfl,a6,b6,hN6,rfl⟩ hc6;rw[e5]at hN6 ⊢;have hpt:=c_patch e p v (.mp .s ks vs) t n 12 0 (x1.1++⟨13,((J+1:Nat):Int)⟩::T.1) V.1 V.2 (A1B hbW.1 (by omega));rw[l5]at hpt;have l7:((x1.1++(⟨13,((J+1:Nat):Int)⟩:Ins)::T.1)++(⟨12,0⟩:Ins)::V.1).length=J+1+V.1.length:=by rw[A0A,l5,A0C];omega
   rw[l7]at hpt;refine wAq ?_;refine AC.call (hpt _ _ _ _ _ hN6) ?_;rintro _ _ c7 ⟨rfl,a7,b7,hN7,rfl⟩ hc7;refine wAu hw ?_;refine⟨(i+1,a7,b7),i6,?_,inv ⟨a8,hlt,?_⟩,by simp only;omega⟩
   ·dsimp only;rw[hsn,hfin];exact A1o hz0 (by omega) hN7
   ·dsimp only;rw[hsn,hfin];exact hN7.unbox hz0 (by omega) hN0.fr
 have d2:(k==2)=false:=by simpa using q2
 by_cases q3:k=3
 ·have d3:(k==3)=true:=by simpa using q3
  subst q3;obtain⟨T,hT⟩:∃T,T=cgB nm (x1.1.length+1) x1.2 u:=⟨_,rfl⟩;have eT:T6 nm u (x1.1++[⟨14,0⟩],x1.2)=(x1.1++⟨14,0⟩::T.1,T.2):=by
   unfold T6;rw[A0A,A0I, <- hT];simp
  have hfin:=C2x (nm:=nm) (n:=nn) (t:=tt) (v:=w) (q:=pos) hx1 hT;rw[hfin]at hle;obtain⟨J,hJ⟩:∃J,J=x1.1.length+1+T.1.length:=⟨_,rfl⟩;rw[<- hJ]at hle hfin;have l3:(x1.1++(⟨14,0⟩:Ins)::T.1).length=J:=b9
  have l4:(x1.1++(⟨14,0⟩:Ins)::(T.1++[⟨12,(x1.1.length:Int)⟩])).length=J+1:=b9
  have hxl:=hle.1;rw[A0A,A0C,A0A,A0I]at hxl;have hbT:CgB (x1.1++⟨14,0⟩::T.1,T.2):=⟨by rw[l3];omega,hle.2⟩;(repeat'((with_reducible first|apply wr|refine k_cu ?_ ?_|apply wb2<;>(intro hb;try simp only[hb]))<;>try simp only[go_sem,seval,hdj,hM,hcB1,d2,d3]));refine AC.call (c_emit _ _ _ _ _ _ 14 0 x1 (by omega) _ _ _ _ _ hN) ?_;rintro _ _ c2 ⟨rfl,a2,b2,hN2,rfl⟩ hc2;have hcB2:=hcB hN2;refine wAu hcB2 ?_;refine AC.call (hu _ (by rw[eT];exact hbT) _ _ _ _ _ hN2) ?_;rintro _ _ c3 ⟨rfl,a3,b3,hN3,rfl⟩ hc3;rw[eT]at hN3 ⊢;refine wAq ?_;refine AC.call (c_emit _ _ _ _ _ _ 12 x1.1.length _ (by have:=hbT.1;omega) _ _ _ _ _ hN3) ?_;rintro _ _ c4 ⟨rfl,a4,b4,hN4,rfl⟩ hc4;have e4:(((x1.1++(⟨14,0⟩:Ins)::T.1,T.2):Cg).1++[⟨12,(x1.1.length:Int)⟩],((x1.1++(⟨14,0⟩:Ins)::T.1,T.2):Cg).2)=((x1.1++⟨14,0⟩::(T.1++[⟨12,(x1.1.length:Int)⟩]),T.2):Cg):=by simp
  rw[e4]at hN4 ⊢;have hpt:=c_patch e p v (.mp .s ks vs) t n 14 0 x1.1 (T.1++[⟨12,(x1.1.length:Int)⟩]) T.2 (by rw[l4];omega);rw[l4]at hpt;refine wAq ?_;refine AC.call (hpt _ _ _ _ _ hN4) ?_;rintro _ _ c5 ⟨rfl,a5,b5,hN5,rfl⟩ hc5;refine wAu hw ?_;refine⟨(i+1,a5,b5),i6,?_,inv ⟨a8,hlt,?_⟩,by simp only;omega⟩
  ·dsimp only;rw[hsn,hfin];exact A1o hz0 (by omega) hN5
  ·dsimp only;rw[hsn,hfin];exact hN5.unbox hz0 (by omega) hN0.fr
 have d3:(k==3)=false:=by simpa using q3
 by_cases q18:k=18
 ·have d18:(k==18)=true:=by simpa using q18
  subst q18;have hfin:=C2w (nm:=nm) (n:=nn) (t:=tt) (u:=u) (v:=w) (q:=pos) hx1;have hxs:x1.2.length<=99999999:=hxa.2;(repeat'((with_reducible first|apply wr|refine k_cu ?_ ?_|apply wb2<;>(intro hb;try simp only[hb]))<;>try simp only[go_sem,seval,hdj,hM,hcB1,d2,d3,d18]));refine AC.call (c_gtext _ _ _ _ _ _ tt x1 (by omega) _ _ _ _ _ hN) ?_;rintro _ _ c2 ⟨rfl,a2,b2,hN2,rfl⟩ hc2;refine wAq ?_;refine AC.call (c_emit _ _ _ _ _ _ 29 _ _ (by dsimp only;omega) _ _ _ _ _ hN2) ?_;rintro _ _ c3 ⟨rfl,a3,b3,hN3,rfl⟩ hc3;refine wAu hw ?_;refine⟨(i+1,a3,b3),i6,?_,inv ⟨a8,hlt,?_⟩,by simp only;omega⟩
  ·dsimp only;rw[hsn,hfin];exact A1o hz0 (by omega) hN3
  ·dsimp only;rw[hsn,hfin];exact hN3.unbox hz0 (by omega) hN0.fr
 have d18:(k==18)=false:=by simpa using q18
 have hfin:=C2y (nm:=nm) (n:=nn) (t:=tt) (u:=u) (v:=w) (q:=pos) hx1 q2 q3 q18;have hop:=c_opOf k;have hlk:=hm nn;have hfr1:=λj (hj:c1<=j)=>D9s (mk:=(mkP e p v (.mp .s ks vs) t n)) hN hj;(repeat'((with_reducible first|apply wr|refine cpc hop ?_|refine k_cu ?_ ?_|apply wb2<;>(intro hb;try simp only[hb]))<;>try simp only[go_sem,seval,hdj,hM,hcB1,d2,d3,d18,hlk]));refine⟨by(try and_intros)<;>exact hfr1 _ (by omega),?_⟩;refine AC.call (c_emit _ _ _ _ _ _ _ _ x1 (by omega) _ _ _ _ _ (hN.le (show c1<=c1+12 by omega))) ?_;rintro _ _ c3 ⟨rfl,a3,b3,hN3,rfl⟩ hc3;refine wAu hw ?_;refine⟨(i+1,a3,b3),i6,?_,inv ⟨a8,hlt,?_⟩,by simp only;omega⟩
 ·dsimp only;rw[hsn,hfin];exact A1o hz0 (by omega) hN3
 ·dsimp only;rw[hsn,hfin];exact hN3.unbox hz0 (by omega) hN0.fr
theorem c_level(k:Int):PC Tryz.prog 218 [I64 k] (I64 (B0 k)):=by
 refine PC.go A3 ?_;repeat'((with_reducible first|apply wr|refine k_cu ?_ ?_|apply wb2<;>(intro hb;try simp only[hb]))<;>try simp only[go_sem,seval])
 all_goals
  refine A4 (congrArg I64 ?_);simp only[A1S,beq_eq_false_iff_ne,A0L,A1O,A0G,A1H,Bool.and_eq_false_iff,Bool.or_eq_false_iff]at *;unfold B0;repeat' split
  all_goals omega
theorem c_signs31:PC Tryz.prog 220 [] (A7a C9):=by
 refine PC.ofT A3 rfl (A0F rfl) rfl (J1 _) ?_;refine wAp ?_;exact U1 (xs:=C9.map DV.str) (u:=1) A0 rfl rfl (T7 _) ⟨[],rfl⟩
theorem c_decls31:PC Tryz.prog 64 [] (A7a F0):=by
 refine PC.ofT A3 rfl (A0F rfl) rfl (J1 _) ?_;refine wAp ?_;exact U1 (xs:=F0.map DV.str) (u:=1) A0 rfl rfl (T7 _) ⟨[],rfl⟩
theorem c_trigs31:PC Tryz.prog 99 [] (A7a F8):=by
 refine PC.ofT A3 rfl (A0F rfl) rfl (J1 _) ?_;refine wAp ?_;exact U1 (xs:=F8.map DV.str) (u:=1) A0 rfl rfl (T7 _) ⟨[],rfl⟩
theorem c_stmts31:PC Tryz.prog 165 [] (A7a B7):=by
 refine PC.ofT A3 rfl (A0F rfl) rfl (J1 _) ?_;refine wAp ?_;exact U1 (xs:=B7.map DV.str) (u:=1) A0 rfl rfl (T7 _) ⟨[],rfl⟩
theorem E5k{K H':Hp}{cc b:Nat}{a b' c e:DV}(l:List Ex)(hK:∀i,cc<=i->K i=none)(hb0:cc<=b)(hb:H' b=some ⟨5,true,cellsL (l.map Ex.v)⟩)(h:∀j,j<cc->H' j=K j):
  GL H' [.agg [a,b',c,.slc b 0 l.length,e]] K [.agg [a,b',c,L9 l,e]] :=
 GL.frzS (id:=b) hb rfl (λj=>by
  by_cases hj:j<cc
  ·exact .inr ⟨a8,(h j hj).symm⟩
  ·exact .inl (hK j (by omega))) (.cons _ _ _ _ (.agg _ _ (.cons _ _ _ _ (.same _) (.cons _ _ _ _ (.same _) (.cons _ _ _ _ (.same _) (.cons _ _ _ _ (U3 (u:=5) (by simp) (A9g l) ⟨[],by simp⟩) (.cons _ _ _ _ (.same _) .nil)))))) .nil)
theorem A9h(e:Ex):cellsL ([e].map Ex.v)=[I64 e.kind,I64 e.value,.str e.name,L9 e.args,I64 e.pos]:=by
 rw[A0P,Ex.v_w];rfl
theorem D7z(e x:Ex):cellsL ([e,x].map Ex.v)=[I64 e.kind,I64 e.value,.str e.name,L9 e.args,I64 e.pos,I64 x.kind,I64 x.value,.str x.name,L9 x.args,I64 x.pos]:=by
 rw[A0P,A0P,Ex.v_w,Ex.v_w];rfl
abbrev RdC(L:List Tok)(E:Int)(f:Nat)(vs:List DV)(s:Rd)(r:DV × Rd):Prop :=
 ∀(H:Hp) (cc t:Nat),H t=some (rdR L E s)->t<cc->AC Tryz.prog f (.ptr t 0::vs) H cc (λv H' c'=>v=r.1/\H'=H.upd t (rdR L E r.2))
theorem c_unary(L:List Tok)(E:Int)(hL:L.length<=1000000000)(f:Nat)
  (ib:∀n s r,1<=n->n<=6->Q1 L E f n s=some r->RI L s->RdC L E 215 [I64 n] s (r.1.v,r.2))
  (iu:∀s r,A2k L E f s=some r->RI L s->RdC L E 227 [] s (r.1.v,r.2))
  (s:Rd) (r:Ex × Rd) (h:A2k L E (f+1) s=some r) (hR:RI L s):RdC L E 227 [] s (r.1.v,r.2):=by
 intro H cc t ht htc;have hri:=hR.i;have hro:=hR.o0;have hro1:=hR.o1;have hp0:=hR.p0;have hp1:=hR.p1;refine AC.go A3 λhfr=>?_;refine wAp ?_;refine AC.call (c_peek L E s _ _ t (by rw[hnO];exact ht) (by omega)) ?_;rintro v H' c1 ⟨rfl,rfl⟩ hc;have ne0:=V8 t cc c1 (c1+1) (by omega);refine wAx ne0 @A0 @A1 ?_;have ham:=c_amongO L E s ((H.upd cc D8c).upd c1 (tkB (B1 L E s))) (c1+1+1) t (c1+1) (by rw[hnO,hnO];exact hfr _ (by omega)) (by rw[hnO,hnO];exact ht) (by omega) Q4 (by decide);refine AC.call ham ?_;rintro v H' c2 ⟨rfl,rfl⟩ hc2;unfold A2k at h;dsimp only at h;have hkr : -1<=B8 L E s Q4/\B8 L E s Q4<3:=A7z L E s Q4 0;have hnn:0<=B8 L E s Q4->s.i<L.length:=λh=>(K2 h).2.1;generalize B8 L E s Q4=k at h hkr hnn;have hGt:((H.upd cc D8c).upd c1 (tkB (B1 L E s))) t=some (rdR L E s):=by rw[hnO,hnO];exact ht
 by_cases hk:k<0
 ·rw[if_pos hk]at h;cases h;have hd:decide (k<0)=true:=by simpa using hk
  refine wAu (wJ ne0 hd) ?_;refine AC.call (c_primary L E s _ _ t hGt (by omega) (by omega) (by omega)) ?_;rintro v H' c3 ⟨rfl,rfl⟩ hc3;simp only[go_sem,seval,ne0,A0,A1,Ex.v_w];refine wAw ne0 @A0 @A1 ?_;rw[G4 (rv5 rfl A0)];refine⟨_,_,Z8 (cc:=cc) (F4 hfr htc) (λj hj=>?_),rfl,rfl⟩;simp[Hp.upd,show ¬j=cc by omega,show ¬j=c1 by omega]
 ·rw[if_neg hk]at h;have hd:decide (k<0)=false:=by simpa using hk
  have hw:IntKind.i64.wrap (s.par+1)=s.par+1:=w6z;have hw2:IntKind.i64.wrap ((s.i:Int)+1)=((s.i+1:Nat):Int):=l8
  have hw3:IntKind.i64.wrap (10+k)=10+k:=w6z;refine wAz ne0 hd ht hw ?_;refine AC.call (c_limit L E s _ _ t hGt (by omega) _ _ _) ?_;rintro v H' c3 ⟨rfl,rfl⟩ hc3;refine wAu ne0 ?_;refine AC.call (c_rdok L E _ _ _ t A0 (by omega)) ?_;rintro v H' c4 ⟨rfl,rfl⟩ hc4;cases h2:okR (C6 L E s (s.par+1) 16 50) with
  |false =>
   rw[if_pos h2]at h;cases h;refine wAz h2 ne0 @A0 @A1 ?_;rw[G4 (rv5 rfl A0)];refine⟨_,_,B4q (cc:=cc) (F4 hfr htc) (λj hj=>?_),rfl,rfl⟩;simp[Hp.upd,show ¬j=cc by omega,show ¬j=c1 by omega]
  |true =>
   rw[if_neg (by simp[h2])]at h;obtain⟨h3,h4,h5⟩:=J6 (by decide) h2;rw[h5]at h h2 ⊢;simp only[go_sem,seval,h2];have ne0:=V8 t cc c1 c4 (by omega);have k2:RI L { s with i:=s.i+1,par:=s.par+1 }:=⟨hnn (by omega),hro,hro1,hR.o2,by show 0<=s.par+1;omega,h4⟩;by_cases hk2:k=2
   ·subst hk2;rw[if_pos rfl]at h;cases hb:Q1 L E f 1 { s with i:=s.i+1,par:=s.par+1 } with
    |none=>rw[hb]at h;cases h
    |some q =>
     obtain⟨e,s3⟩:=q;rw[hb]at h;dsimp only at h;obtain⟨a1,a2⟩:=(RI.all f).1 _ _ _ hb k2;obtain⟨b1,b2⟩:=a1.exp (E:=E) (x:=[41]);have hi3:=a1.i;dsimp only at a2 b2 hi3;refine wA1 h2 hw hw2 ne0 @A0 @A1 ?_;refine AC.call (ib 1 _ (e,s3) (by decide) (by decide) hb k2 _ _ t (by rw[hnO,A0]) (by omega)) ?_;rintro v H' c5 ⟨rfl,rfl⟩ hc5;dsimp only;simp only[go_sem,seval,ne0,A0,A1,Ex.v_w];refine wAw ne0 @A0 @A1 ?_;refine AC.call (c_expect L E s3 _ _ t (by repeat (first|exact A0|rw[hnO])) (by omega) (by omega) _) ?_;rintro v H' c6 ⟨rfl,rfl⟩ hc6;obtain⟨s4,hs4⟩:∃s4,s4=D9 L E s3 [41]:=⟨_,rfl⟩;rw[<- hs4]at h b1 b2 ⊢;have hw5:IntKind.i64.wrap (s4.par-1)=s4.par-1:=w6z;cases h;simp only[go_sem,seval,ne0,A0,A1,Ex.v_w];refine wAy hw5 ne0 @A0 @A1 ?_;rw[G4 (rv5 rfl A0)];refine⟨_,_,Z8 (cc:=cc) (F4 hfr htc) (λj hj=>?_),rfl,rfl⟩;simp[Hp.upd,show ¬j=cc by omega,show ¬j=c1 by omega,show ¬j=c4 by omega];try(split<;>rfl)
   ·rw[if_neg hk2]at h;have hd2:(k==2)=false:=by simpa using hk2
    cases hb:A2k L E f { s with i:=s.i+1,par:=s.par+1 } with
    |none=>rw[hb]at h;cases h
    |some q =>
     obtain⟨e,s3⟩:=q;rw[hb]at h;dsimp only at h;obtain⟨a1,a2⟩:=(RI.all f).2.2 _ _ hb k2;dsimp only at a2;refine wA4 h2 hw hw2 hw3 hd2 ne0 @A0 @A1 ?_;refine AC.call (iu _ (e,s3) hb k2 _ _ t (by rw[hnO,A0]) (by omega)) ?_;rintro v H' c5 ⟨rfl,rfl⟩ hc5;have hw5:IntKind.i64.wrap (s3.par-1)=s3.par-1:=w6z;cases h;have ne0:=A1y t cc c1 c4 (c4+1+4) (by omega);simp only[go_sem,seval,ne0,A0,A1,Ex.v_w];refine wAw ne0 @A0 @A1 ?_
     and_intros
     all_goals try(first|rw[hw3]|((repeat rw[hnO]);exact hfr _ (by omega)))
     refine wAy hw5 ne0 @A0 @A1 ?_;rw[G4 (rv5 rfl A0)];refine⟨_,_,E5k (cc:=cc) (b:=c4+1+4) [e] (F4 hfr htc) (by omega) ?_ (λj hj=>?_),rfl,rfl⟩
     ·rw[A9h];dsimp only
      repeat (first|exact A0|rw[hnO])
     simp[Hp.upd,show ¬j=cc by omega,show ¬j=c1 by omega,show ¬j=c4 by omega,show ¬j=c4+1+4 by omega];try(split<;>rfl)
abbrev exB(e:Ex):Blk:=⟨0,true,[I64 e.kind,I64 e.value,.str e.name,L9 e.args,I64 e.pos]⟩
theorem c_binary(L:List Tok)(E:Int)(hL:L.length<=1000000000)(f:Nat)
  (ib:∀g,g<=f->∀n s r,1<=n->n<=6->Q1 L E g n s=some r->RI L s->RdC L E 215 [I64 n] s (r.1.v,r.2))
  (iu:∀s r,A2k L E f s=some r->RI L s->RdC L E 227 [] s (r.1.v,r.2))
  (n:Int) (s:Rd) (r:Ex × Rd) (hn1:1<=n) (hn6:n<=6) (h:Q1 L E (f+1) n s=some r) (hR:RI L s):RdC L E 215 [I64 n] s (r.1.v,r.2):=by
 intro H cc t ht htc;refine AC.go A3 λhfr=>?_;unfold Q1 at h;have ne0:=A1z t cc (by omega);by_cases h5:5<n
 ·rw[if_pos h5]at h;have hd:decide (n>5)=true:=by simpa using h5
  refine wAs hd ?_;refine AC.call (iu _ _ h hR _ _ t (by rw[hnO];exact ht) (by omega)) ?_;rintro v H' c1 ⟨rfl,rfl⟩ hc1;dsimp only;simp only[go_sem,seval,ne0,A0,A1,Ex.v_w];refine wAw ne0 @A0 @A1 ?_;rw[G4 (rv5 rfl A0)];refine⟨_,_,Z8 (cc:=cc) (F4 hfr htc) (λj hj=>?_),rfl,rfl⟩;simp[Hp.upd,show ¬j=cc by omega]
 rw[if_neg h5]at h;have hd:decide (n>5)=false:=by simpa using h5
 have hw:IntKind.i64.wrap (n+1)=n+1:=w6z;cases hb:Q1 L E f (n+1) s with
 |none=>rw[hb]at h;cases h
 |some q =>
  obtain⟨e,s1⟩:=q;rw[hb]at h;dsimp only at h;obtain⟨a1,a2⟩:=(RI.all f).1 _ _ _ hb hR;dsimp only at a1;refine wAs (wJ hd hw) ?_;refine AC.call (ib f (A0E _) (n+1) _ _ (by omega) (by omega) hb hR _ _ t (by rw[hnO];exact ht) (by omega)) ?_;rintro v H' c1 ⟨rfl,rfl⟩ hc1;dsimp only;have ne0:=W9 t cc c1 (by omega);simp only[go_sem,seval,ne0,A0,A1,Ex.v_w];refine wAw ne0 @A0 @A1 ?_;refine E2j (λ_:Nat × Ex × Rd=>[(0,.ptr t 0),(1,I64 n),(4,.ptr cc 0),(5,.ptr c1 0)]) (λq=>((H.upd cc D8c).upd t (rdR L E q.2.2)).upd c1 (exB q.2.1))
   (λq c=>c1+1<=c/\q.1<=f/\A0t L E q.1 n q.2.1 q.2.2=some r/\RI L q.2.2) (λq=>q.1) (f,e,s1) (λb=>by simp[B5,tm,Tm.upd]) (by simp[B5,tm,Tm.upd]) (Sub.refl _) ⟨A0E _,A0E _,h,a1⟩ ?_
  clear h hb a1 a2 s1 e;rintro⟨g,e,s1⟩ c ⟨hc,hg,hv,k1⟩;dsimp only at hc hg hv k1 ⊢;have hri:=k1.i;cases g with
  |zero=>simp[A0t]at hv
  |succ g =>
  unfold A0t at hv;dsimp only at hv;have hTt:∀b:Blk,(((H.upd cc D8c).upd t (rdR L E s1)).upd c1 b) t=some (rdR L E s1):=λb=>by rw[hnO,A0]
  refine wA5 c_signs31 ?_;refine AC.call (c_among L E s1 _ _ t (hTt _) (by omega) C9 (by decide)) ?_;rintro v H' c2 ⟨rfl,rfl⟩ hc2;have hkr : -1<=B8 L E s1 C9/\B8 L E s1 C9<13:=A7z L E s1 C9 0;have hnn:0<=B8 L E s1 C9->s1.i<L.length:=λh=>(K2 h).2.1;generalize B8 L E s1 C9=k at hv hkr hnn;have hwk:IntKind.i64.wrap (12+k)=12+k:=w6z;by_cases hk:k<0
  ·rw[if_pos (.inl hk)]at hv;cases hv;have hdk:decide (k<0)=true:=by simpa using hk
   refine wAz ne0 hdk @A0 @A1 ?_;rw[G4 (rv5 rfl A0)];refine⟨_,_,Z8 (cc:=cc) (F4 hfr htc) (λj hj=>?_),rfl,rfl⟩;simp[Hp.upd,show ¬j=cc by omega,show ¬j=c1 by omega]
  have hdk:decide (k<0)=false:=by simpa using hk
  by_cases hl:B0 (12+k)=n
  ·rw[iN]at hv;have hdl:(B0 (12+k) != n)=false:=by simp[hl]
   simp only[go_sem,seval,ne0,hdk];(repeat'((with_reducible first|apply wr|refine cpc (c_level _) ?_|refine k_cu ?_ ?_|apply wb2<;>(intro hb;try simp only[hb]))<;>try simp only[go_sem,seval,ne0,hdk,hwk,hdl,A0,A1]));cases hb:Q1 L E g (n+1) (A5 s1) with
   |none=>rw[hb]at hv;cases hv
   |some q =>
    obtain⟨x,s2⟩:=q;rw[hb]at hv;dsimp only at hv;have k2:=k1.nxt (hnn (by omega));obtain⟨b1,b2⟩:=(RI.all g).1 _ _ _ hb k2;dsimp only at b1;have hw2:IntKind.i64.wrap ((s1.i:Int)+1)=((s1.i+1:Nat):Int):=l8
    refine AC.call (c_peek L E s1 _ _ t (hTt _) (by omega)) ?_;rintro v H' c3 ⟨rfl,rfl⟩ hc3;have ne0:=A1y t cc c1 c3 (c3+7) (by omega);refine wA2 hw2 hwk hw ne0 @A0 @A1 ?_;refine AC.call (ib g (by omega) (n+1) (A5 s1) (x,s2) (by omega) (by omega) hb k2 _ _ t (by repeat (first|exact A0|rw[hnO])) (by omega)) ?_;rintro v H' c4 ⟨rfl,rfl⟩ hc4;dsimp only;simp only[go_sem,seval,ne0,A0,A1,Ex.v_w];refine wAw ne0 @A0 @A1 ?_
    and_intros
    all_goals try(first|rw[hwk]|((repeat rw[hnO]);exact hfr _ (by omega)))
    by_cases h3:n=3
    ·rw[if_pos h3]at hv;cases hv;have hd3:(n==3)=true:=by simpa using h3
     refine wAy hd3 ne0 @A0 @A1 ?_;rw[G4 (rv5 rfl A0)];refine⟨_,_,E5k (cc:=cc) (b:=c3+7) [e,x] (F4 hfr htc) (by omega) ?_ (λj hj=>?_),rfl,rfl⟩
     ·rw[D7z];dsimp only
      repeat (first|exact A0|rw[hnO])
     simp[Hp.upd,show ¬j=cc by omega,show ¬j=c1 by omega,show ¬j=c3+7 by omega];try(split<;>rfl)
    ·rw[if_neg h3]at hv;have hd3:(n==3)=false:=by simpa using h3
     refine wAy hd3 ne0 @A0 @A1 ?_;refine⟨(g,.mk (12+k) 0 [] [e,x] (B1 L E s1).pos,s2),?_,inv ⟨a8,g9,hv,b1⟩,by simp only;omega⟩;refine GL.frzT (id:=c3+7) (b:=⟨5,true,cellsL ([e,x].map Ex.v)⟩) ?_ rfl (λj=>?_) (FzL.refl _)
     ·rw[D7z]
      repeat (first|exact A0|rw[hnO])
     by_cases j1:j=c1
     ·subst j1;refine .inr ⟨a8,.inr ⟨_,_,A0,A0,rfl,rfl,.cons _ _ _ _ (.same _) (.cons _ _ _ _ (.same _) (.cons _ _ _ _ (.same _) (.cons _ _ _ _ (U3 (u:=5) (xs:=[e,x].map Ex.v) (by simp) (A9g _) ⟨[],by simp⟩) (.cons _ _ _ _ (.same _) .nil)))),by simp[DV.one]⟩⟩
     ·by_cases j2:j=c3+7
      ·subst j2;left
       repeat rw[hnO]
       exact hfr _ (by omega)
      ·refine .inr ⟨j2,.inl ?_⟩;simp[Hp.upd,j1,j2];try(split<;>rfl)
  ·rw[if_pos (.inr hl)]at hv;cases hv;have hdl:(B0 (12+k) != n)=true:=by simpa using hl
   simp only[go_sem,seval,ne0,hdk];(repeat'((with_reducible first|apply wr|refine cpc (c_level _) ?_|refine k_cu ?_ ?_|apply wb2<;>(intro hb;try simp only[hb]))<;>try simp only[go_sem,seval,ne0,hdk,hwk,hdl,A0,A1]));rw[G4 (rv5 rfl A0)];refine⟨_,_,Z8 (cc:=cc) (F4 hfr htc) (λj hj=>?_),rfl,rfl⟩;simp[Hp.upd,show ¬j=cc by omega,show ¬j=c1 by omega]
theorem c_bu(L:List Tok)(E:Int)(hL:L.length<=1000000000):∀f:Nat,(∀n s r,1<=n->n<=6->Q1 L E f n s=some r->RI L s->RdC L E 215 [I64 n] s (r.1.v,r.2))/\(∀s r,A2k L E f s=some r->RI L s->RdC L E 227 [] s (r.1.v,r.2)):=by
 intro f
 induction f using Nat.strongRecOn with
 |_ f ih =>
  cases f with
  |zero=>exact⟨λn s r _ _ h=>by simp[Q1]at h,λs r h=>by simp[A2k]at h⟩
  |succ f =>
   exact⟨λn s r h1 h2 h hR=>c_binary L E hL f (λg hg=>(ih g (by omega)).1) (ih f (by omega)).2 n s r h1 h2 h hR,
    λs r h hR=>c_unary L E hL f (ih f (by omega)).1 (ih f (by omega)).2 s r h hR⟩
theorem c_expression(L:List Tok)(E:Int)(hL:L.length<=1000000000)(f:Nat)(s:Rd)(r:Ex × Rd)(h:Z0 L E f s=some r)(hi:s.i<=L.length):RdC L E 199 [] s (r.1.v,r.2):=by
 intro H cc t ht htc;refine AC.go A3 λhfr=>?_;have ne0:=A1z t cc (by omega);refine wAy ht ne0 @A0 @A1 ?_;refine AC.call ((c_bu L E hL f).1 1 { s with ops:=0,par:=0 } r (by decide) (by decide) h ⟨hi,A2U 0,(by decide:(0:Int)<=33),λ_=>(by decide:(0:Int)<=32),A2U 0,(by decide:(0:Int)<=16)⟩ _ _ t (by exact A0) (by omega)) ?_;rintro v H' c1 ⟨rfl,rfl⟩ hc1;dsimp only;simp only[go_sem,seval,ne0,A0,A1,Ex.v_w];refine wAw ne0 @A0 @A1 ?_;rw[G4 (rv5 rfl A0)];refine⟨_,_,Z8 (cc:=cc) (F4 hfr htc) (λj hj=>?_),rfl,rfl⟩;simp[Hp.upd,show ¬j=cc by omega];try(split<;>rfl)
abbrev x200:XT Tryz.prog 200:=mkF
instance t200:FT Tryz.prog 200 x200.d:=x200.ft
theorem D7s{K H':Hp}{cc b:Nat}(l:List Pb.St)(hK:∀i,cc<=i->K i=none)(hb0:cc<=b)(hb:H' b=some ⟨7,true,cellsL (l.map Pb.St.v)⟩)(h:∀j,j<cc->H' j=K j):
  GL H' [.slc b 0 l.length] K [G7 l] :=
 GL.frzS (id:=b) hb rfl (λj=>by
  by_cases hj:j<cc
  ·exact .inr ⟨a8,(h j hj).symm⟩
  ·exact .inl (hK j (by omega))) (.cons _ _ _ _ (U3 (u:=7) (by simp) (B2m l) ⟨[],by simp⟩) .nil)
theorem D4c(e:Pb.St):cellsL ([e].map Pb.St.v)=[I64 e.kind,.str e.name,.str e.text,L9 e.args,G7 e.thn,G7 e.els,I64 e.pos]:=by
 rw[A0P,Pb.St.v_w];rfl
theorem c_other(L:List Tok)(E:Int)(hL:L.length<=1000000000)(f:Nat)
  (is:∀d s r,0<=d->d<=100->A1l L E f d s=some r->s.i<=L.length->RdC L E 166 [I64 d] s (r.1.v,r.2))
  (ib:∀d s r,0<=d->d<=100->W8 L E f d s=some r->s.i<=L.length->RdC L E 117 [I64 d] s (G7 r.1,r.2))
  (d:Int) (s:Rd) (r:List Pb.St × Rd) (hd0:0<=d) (hd:d<=99) (h:A1h L E (f+1) d s=some r) (hi:s.i<=L.length):RdC L E 200 [I64 d] s (G7 r.1,r.2):=by
 intro H cc t ht htc;refine AC.go A3 λhfr=>?_;unfold A1h at h;have hw:IntKind.i64.wrap (d+1)=d+1:=w6z;refine wAp ?_;refine AC.call (c_is L E s _ _ t ht (by omega) _) ?_;rintro v H' c1 ⟨rfl,rfl⟩ hc1;cases hq:isR L E s [105,102] with
 |true =>
  rw[if_pos hq]at h;cases hs:A1l L E f (d+1) s with
  |none=>rw[hs]at h;cases h
  |some q =>
   obtain⟨x,s1⟩:=q;rw[hs]at h;cases h;refine wAu (wJ hq hw) ?_;refine AC.call (is (d+1) s (x,s1) (by omega) (by omega) hs hi _ _ t ht (by omega)) ?_;rintro v H' c2 ⟨rfl,rfl⟩ hc2;dsimp only;simp only[go_sem,seval,Pb.St.v_w];refine wAp ?_;exact⟨_,_,D7s (cc:=cc) [x] (F4 hfr htc) (by omega) (by rw[D4c];exact A0) (λj hj=>by rw[hnO]),rfl,rfl⟩
 |false =>
  rw[if_neg (by simp[hq])]at h;refine wAu (wJ hq hw) ?_;refine AC.call (ib (d+1) s r (by omega) (by omega) h hi _ _ t ht (by omega)) ?_;rintro v H' c2 ⟨rfl,rfl⟩ hc2;refine wAq ?_;exact⟨_,_,GL.refl _ _,rfl,rfl⟩
theorem C2c{K H':Hp}{cc:Nat}{o:Option Nat}(l:List Pb.St)(hK:∀i,cc<=i->K i=none)(ho:∀i,o=some i->cc<=i)(hno:o=none->l=[])(hb:∀i,o=some i->H' i=some ⟨7,true,cellsL (l.map Pb.St.v)⟩)(h:∀j,j<cc->H' j=K j):
  GL H' [todoV o l.length] K [G7 l]:=by
 cases o with
 |none =>
  obtain rfl:=hno rfl;exact(Z8 hK h).trans (GL.view fun ρ vs hA=>P8 (λv h=>h.snil_lst) vs hA)
 |some b=>exact D7s l hK (ho b rfl) (hb b rfl) h
theorem c_block(L:List Tok)(E:Int)(hL:L.length<=1000000000)(f:Nat)
  (is:∀g,g<=f->∀d s r,0<=d->d<=100->A1l L E g d s=some r->s.i<=L.length->RdC L E 166 [I64 d] s (r.1.v,r.2))
  (d:Int) (s:Rd) (r:List Pb.St × Rd) (hd0:0<=d) (hd:d<=100) (h:W8 L E (f+1) d s=some r) (hi:s.i<=L.length):RdC L E 117 [I64 d] s (G7 r.1,r.2):=by
 intro H cc t ht htc;refine AC.go A3 λhfr=>?_;unfold W8 at h;refine wAp ?_;refine AC.call (c_expect L E s _ _ t ht (by omega) (by omega) _) ?_;rintro v H' c1 ⟨rfl,rfl⟩ hc1;refine wAq ?_;refine A9 (λq:Nat × Option Nat × List Pb.St × Rd=>[(0,.ptr t 0),(1,I64 d),(5,todoV q.2.1 q.2.2.1.length)]) (λq=>optH (H.upd t (rdR L E q.2.2.2)) q.2.1 ⟨7,true,cellsL (q.2.2.1.map Pb.St.v)⟩)
  (λq c=>cc<=c/\q.1<=f/\q.2.2.2.i<=L.length/\(q.2.1=none->q.2.2.1=[])/\(∀i,q.2.1=some i->cc<=i/\i<c)/\q.2.2.1.length<=65/\(okR q.2.2.2=true->q.2.2.1.length<=64)/\A0z L E q.1 d q.2.2.1 q.2.2.2=some r) (λq=>q.1) (f,none,[],D9 L E s [123])
  (by simp[B5,tm,Tm.upd,todoV]) (Sub.refl _) ⟨hc1,A0E _,O5 hi,λ_=>rfl,(λi hi=>by cases hi),by simp,λ_=>by simp,h⟩ ?_
 clear h hi;rintro⟨g,o,l,u⟩ c ⟨hc,hg,hi,hno,ho,hl1,hl2,hv⟩;dsimp only at hc hg hi hno ho hl1 hl2 hv ⊢;have hHt:optH (H.upd t (rdR L E u)) o ⟨7,true,cellsL (l.map Pb.St.v)⟩ t=some (rdR L E u):=n8
 have hfin:∀(z:Rd) (j:Nat),j<cc->((optH (H.upd t (rdR L E u)) o ⟨7,true,cellsL (l.map Pb.St.v)⟩).upd t (rdR L E z)) j=(H.upd t (rdR L E z)) j:=λz j hj=>by
  by_cases ej:j=t
  ·subst ej;rw[A0,A0]
  ·rw[h_ne ej,h_ne ej,B9 (λi hi=>by have:=ho i hi;omega),h_ne ej]
 have hbo:∀(z:Rd) (i:Nat),o=some i->((optH (H.upd t (rdR L E u)) o ⟨7,true,cellsL (l.map Pb.St.v)⟩).upd t (rdR L E z)) i=some ⟨7,true,cellsL (l.map Pb.St.v)⟩:=λz i hi=>by
  have:=ho i hi;rw[hnO];subst hi;exact A0
 cases g with
 |zero=>simp[A0z]at hv
 |succ g =>
 unfold A0z at hv;refine wAp ?_;refine AC.call (c_rdok L E u _ _ t hHt (by omega)) ?_;rintro v H' c2 ⟨rfl,rfl⟩ hc2;cases hok:okR u with
 |false =>
  rw[if_neg (by simp[hok])]at hv;cases hv;refine wAu hok ?_;refine AC.call (c_expect L E u _ _ t hHt (by omega) (by omega) _) ?_;rintro v H' c3 ⟨rfl,rfl⟩ hc3;refine wAq ?_;exact⟨_,_,C2c (cc:=cc) l (F4 hfr htc) (λi hi=>(ho i hi).1) hno (hbo _) (hfin _),rfl,rfl⟩
 |true =>
  refine wAu hok ?_;refine AC.call (c_is L E u _ _ t hHt (by omega) _) ?_;rintro v H' c3 ⟨rfl,rfl⟩ hc3;cases hq:isR L E u [125] with
  |true =>
   rw[if_neg (by simp[hq])]at hv;cases hv;refine wAu hq ?_;refine AC.call (c_expect L E u _ _ t hHt (by omega) (by omega) _) ?_;rintro v H' c4 ⟨rfl,rfl⟩ hc4;refine wAq ?_;exact⟨_,_,C2c (cc:=cc) l (F4 hfr htc) (λi hi=>(ho i hi).1) hno (hbo _) (hfin _),rfl,rfl⟩
  |false =>
   rw[if_pos ⟨hok,hq⟩]at hv;refine wA9 c_stmts31 hq ?_;refine AC.call (c_among L E u _ _ t hHt (by omega) B7 (by decide)) ?_;rintro v H' c4 ⟨rfl,rfl⟩ hc4;generalize B8 L E u B7=k at hv;have hlen:B1t (todoV o l.length)=some (I64 l.length):=by
    cases o with
    |none=>rw[hno rfl];rfl
    |some b=>rfl
   have hwl:IntKind.i64.wrap ((l.length:Int)+1)=(l.length:Int)+1:=w6z;by_cases hsy:k<0/\N9 L E u 1=false
   ·rw[if_pos hsy]at hv;cases hv;have hdk:decide (k<0)=true:=by simpa using hsy.1
    have h1:=hsy.2;refine wAu hdk ?_;refine AC.call (c_isKind L E u _ _ t hHt (by omega) 1) ?_;rintro v H' c5 ⟨rfl,rfl⟩ hc5;refine wAu h1 ?_;refine AC.call (c_syntax L E u _ _ t hHt (by omega)) ?_;rintro v H' c6 ⟨rfl,rfl⟩ hc6;refine wAq ?_;exact⟨_,_,(Z8 (cc:=cc) (F4 hfr htc) (hfin _)).trans (GL.view fun ρ vs hA=>P8 (λv h=>h.snil_lst) vs hA),rfl,rfl⟩
   rw[if_neg hsy]at hv;cases hs:A1l L E g d (C6 L E u ((l.length:Int)+1) 64 9) with
   |none=>rw[hs]at hv;cases hv
   |some q =>
   obtain⟨x,s1⟩:=q;rw[hs]at hv;dsimp only at hv;have hix:=(II.all g).2.2.1 _ _ _ hs (by rw[J4];exact hi);have hnok:=E7a hs;have hll:=hl2 hok;have hlk:okR s1=true->l.length+1<=64:=λh=>by
    cases hz:okR (C6 L E u ((l.length:Int)+1) 64 9) with
    |false=>rw[hnok hz]at h;cases h
    |true=>have:=(J6 (by decide) hz).2.1;omega
   rcases(show ¬k<0\/(k<0/\N9 L E u 1=true) by
    by_cases hk:k<0
    ·exact .inr ⟨hk,by cases h1:N9 L E u 1 with|true=>rfl|false=>exact absurd ⟨hk,h1⟩ hsy⟩
    ·exact .inl hk) with hk|⟨hk,h1⟩
   case' inl =>
    have hdk:decide (k<0)=false:=by simpa using hk
    refine wAk hdk ?_;obtain⟨c5,hc5,e5⟩:∃c5,c4<=c5/\c5=c4:=⟨c4,A0E _,rfl⟩;rw[<- e5];clear e5 hdk hk
   case' inr =>
    have hdk:decide (k<0)=true:=by simpa using hk
    refine wAu hdk ?_;refine AC.call (c_isKind L E u _ _ t hHt (by omega) 1) ?_;rintro v H' c5 ⟨rfl,rfl⟩ hc5;refine wAk h1 ?_;clear hdk hk h1
   all_goals
    unfold B9p;refine wAs (wJ hlen hwl) ?_;refine AC.call (c_limit L E u _ _ t hHt (by omega) _ _ _) ?_;rintro v H' c6 ⟨rfl,rfl⟩ hc6;refine wAq ?_;refine AC.call (is g (by omega) d _ (x,s1) hd0 hd hs (by rw[J4];exact hi) _ _ t A0 (by omega)) ?_;rintro v H' c7 ⟨rfl,rfl⟩ hc7;dsimp only;have ne0:=W9 t c7 (c7+1) (by omega);simp only[go_sem,seval,ne0,A1,Pb.St.v_w];refine wAs ne0 ?_;refine G6 (F9 (cs:=cellsL (l.map Pb.St.v)) (λe=>by rw[hno e];exact⟨rfl,rfl⟩) (λi hi=>?_) (by rw[C3 (u:=7) (B2m _)];simp) (by omega) (by omega) (by omega)) ?_
    ·have:=ho i hi;rw[hnO];exact hbo _ i hi
    refine wAu ne0 ?_;refine⟨(g,some (c7+1),l++[x],s1),v7,?_,inv ⟨a8,g9,hix,(λh=>by cases h),(λi hi=>by cases hi;omega),u7,(λh=>by have:=hlk h;simp only[A0A,A0I];omega),hv⟩,by simp only;omega⟩;intro jj b hj;simp only[optH]at hj;by_cases e1:jj=c7+1
    ·subst e1;rw[A0]at hj ⊢;rw[<- hj,A0S,C4,D4c]
    ·rw[h_ne e1]at hj ⊢;by_cases e2:jj=t
     ·subst e2;rw[A0]at hj;rw[C5 (λi hi=>by have:=ho i hi;omega),hnO,A0];exact hj
     ·rw[h_ne e2]at hj;have hjc:jj<cc:=Classical.byContradiction λh=>by rw[hfr jj (by omega)]at hj;cases hj
      rw[C5 (λi hi=>by have:=ho i hi;omega),hnO,h_ne e2,B9 (λi hi=>by have:=ho i hi;omega),h_ne e2];exact hj
end Go.Proofs.YtnkkfehegdplgaaGreatDoor
end
