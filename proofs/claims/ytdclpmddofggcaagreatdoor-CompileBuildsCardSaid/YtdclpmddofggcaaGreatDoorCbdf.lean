/-
  HELPERS of the claim: part 6 of its texts.
-/
import Derived.Test.YtdclpmddofggcaaGreatDoorCbde
import Derived.Shelf.SlSortCmp.WholeK
import Derived.Lib.ItoaNum
import Derived.Lib.Space
import Derived.Test.YtdclpmddofggcaaGreatDoorProg
noncomputable section
set_option linter.unusedVariables false
set_option linter.unusedSectionVars false
set_option linter.unusedSimpArgs false
namespace Go.Sym
variable [Go.Sym.Tab]
open Go.Eng (J9)
open Go.RowKit Go.Proofs Go.Sort
variable {P:Program} {ρ:Ren} {H:Hp} {w:World}
theorem A6x.size{b:Blk}{t:Tgt}(h:A6x ρ b t w):t.block<w.heap.size:=by
 rcases h with ⟨-,c,e,fr,h1, -⟩|⟨-, -, -,es,cl,kd,ks,vs,h3, -⟩
 ·exact(A0X.1 h1).1
 grind
theorem Rep.grown(hR:Rep ρ H w){w':World}(hp:∀k,k<w.heap.size->w'.heap[k]? = w.heap[k]?):Rep ρ H w' where
 blk:=λid b hb=>by
  obtain⟨t,h1,h2⟩:=hR.blk id b hb;exact⟨t,h1,h2.world (hp _ h2.size)⟩
 sep:=hR.sep
 frz:=λb r hb=>by
  obtain⟨e,fr,h⟩:=hR.frz b r hb
  grind
 dis:=hR.dis
 frm:=λb es hb=>by
  obtain⟨⟨cl,h,hs⟩,h2⟩:=hR.frm b es hb
  grind
theorem C6x(w:World)(os:Array Obj){k:Nat}(hk:k<w.heap.size):(grow w os).heap[k]? = w.heap[k]? := by
 show(w.heap++os)[k]? = _
 grind
inductive F2 {α β:Type} (R : α -> β->Prop):List α->List β->Prop where
 |nil:F2 R [] []
 |cons {a b l m}:R a b->F2 R l m->F2 R (a::l) (b::m)
theorem F2.len{α β:Type}{R : α -> β->Prop}{l:List α}{m:List β}(h:F2 R l m):l.length=m.length:=by
 induction h with
 |nil=>rfl
 |cons _ _ ih=>grind
theorem F2.get{α β:Type}{R : α -> β->Prop}{l:List α}{m:List β}(h:F2 R l m):∀ {k:Nat} {a : α},l[k]? = some a->∃b,m[k]? = some b/\R a b:=by
 induction h with
 |nil=>simp
 |cons h1 _ ih =>
  grind
theorem F2.perm{α β:Type}{R : α -> β->Prop}{m m':List β}(hp:m.Perm m'):∀ {l:List α},F2 R l m->∃l',l.Perm l'/\F2 R l' m':=by
 induction hp with
 |nil=>intro l h;cases h;exact⟨[],.nil,.nil⟩
 |cons x _ ih =>
  intro l h;cases h with
  |cons h1 h2 =>
   obtain⟨l',a,b⟩:=ih h2;exact⟨_::l',a.cons _,.cons h1 b⟩
 |swap x y l0 =>
  intro l h;cases h with
  |cons h1 h2 =>
   cases h2 with
   |cons h3 h4=>exact⟨_,.swap _ _ _,.cons h3 (.cons h1 h4)⟩
 |trans _ _ ih1 ih2 =>
  intro l h;obtain⟨l1,a,b⟩:=ih1 h;obtain⟨l2,c,d⟩:=ih2 b;exact⟨l2,a.trans c,d⟩
end Go.Sym
namespace Go.Pb
open Go.Sym
variable [Go.Sym.Tab]
def A8c(s:List UInt8):Prg × Int × Int:=if(N6 s).2.2≠0 then(A8g,(N6 s).2.1,(N6 s).2.2) else B2z (N6 s).1
theorem C7y{r:Ru}(h:M8 r=true):r.decls.length<=128/\r.modes.length<=16:=by
 simp_all[M8]
end Go.Pb
namespace Go.Sym
variable [Go.Sym.Tab]
open Go.Eng (Opd FOp AOp EOp IOp IOper DReg IC RV IFn L4 A8v isNew)
mutual
def L8:DV->DV->Bool
 |.bot,.bot=>true
 |.bool a,.bool b=>a==b
 |.int k n,.int l m=>k==l&&n==m
 |.str a,.str b=>a==b
 |.pnil,.pnil=>true
 |.ptr a b,.ptr c d=>a==c&&b==d
 |.snil,.snil=>true
 |.slc a b c,.slc x y z=>a==x&&b==y&&c==z
 |.lst a,.lst b=>A2t a b
 |.fptr a,.fptr b=>A2t a b
 |.agg a,.agg b=>A2t a b
 |.tup a,.tup b=>A2t a b
 |.mid a,.mid b=>a==b
 |.mnil,.mnil=>true
 |.func f a c,.func g b d=>f==g&&A2t a b&&A2t c d
 |_,_=>false
def A2t:List DV->List DV->Bool
 |[],[]=>true
 |a::l,b::m=>L8 a b&&A2t l m
 |_,_=>false
end
mutual
theorem B0m:∀(a b:DV),L8 a b=true->a=b
 |.bot,b,h=>zab
 |.bool _,b,h=>u6
 |.int _ _,b,h=>u6
 |.str _,b,h=>u6
 |.pnil,b,h=>zab
 |.ptr _ _,b,h=>u6
 |.snil,b,h=>zab
 |.slc _ _ _,b,h=>u6
 |.lst a,b,h=>by cases b with
  |lst b=>simp only[L8]at h;rw[X4 a b h]
  |_=>simp[L8]at h
 |.fptr a,b,h=>by cases b with
  |fptr b=>simp only[L8]at h;rw[X4 a b h]
  |_=>simp[L8]at h
 |.fnil,b,h=>u7
 |.func f a c,b,h=>by cases b with
  |func g b d=>simp only[L8,A0F,A1T]at h;rw[h.1.1,X4 a b h.1.2,X4 c d h.2]
  |_=>simp[L8]at h
 |.inil,b,h=>u7
 |.iface _ _,b,h=>u7
 |.agg a,b,h=>by cases b with
  |agg b=>simp only[L8]at h;rw[X4 a b h]
  |_=>simp[L8]at h
 |.tup a,b,h=>by cases b with
  |tup b=>simp only[L8]at h;rw[X4 a b h]
  |_=>simp[L8]at h
 |.mpc _ _ _,b,h=>u7
 |.mid _,b,h=>u6
 |.mp _ _ _,b,h=>u7
 |.mnil,b,h=>zab
 |.ub,b,h=>u7
theorem X4:∀(a b:List DV),A2t a b=true->a=b
 |[],[],_=>rfl
 |[],_::_,h=>by simp[A2t]at h
 |_::_,[],h=>by simp[A2t]at h
 |a::l,b::m,h=>by
  simp only[A2t,A0F]at h;rw[B0m a b h.1,X4 l m h.2]
end
def B7h:Option Blk->Option Blk->Bool
 |none,none=>true
 |some a,some b=>a.unit==b.unit&&a.own==b.own&&A2t a.cells b.cells
 |_,_=>false
theorem C9d:∀(a b:Option Blk),B7h a b=true->a=b
 |none,none,_=>rfl
 |none,some _,h=>by simp[B7h]at h
 |some _,none,h=>by simp[B7h]at h
 |some ⟨a,b,c⟩,some ⟨x,y,z⟩,h=>by
  simp only[B7h,A0F,A1T]at h;rw[h.1.1,h.1.2,X4 c z h.2]
def fcN(n:Nat)(k:Nat->Bool):Bool:=match n with
 |0=>k 0
 |n+1=>k (n+1)
theorem A7u(n:Nat)(k:Nat->Bool):fcN n k=k n:=by cases n<;>rfl
def fcI(z:Int)(k:Int->Bool):Bool:=match z with
 |.ofNat n=>fcN n λn=>k (.ofNat n)
 |.negSucc n=>fcN n λn=>k (.negSucc n)
theorem E2c(z:Int)(k:Int->Bool):fcI z k=k z:=by cases z<;>simp only[fcI,A7u]<;>rfl
def fcV(v:DV)(k:DV->Bool):Bool:=match v with
 |.bool b=>match b with
  |true=>k (.bool true)
  |false=>k (.bool false)
 |.int t z=>fcI z λz=>k (.int t z)
 |.ptr i o=>fcN i λi=>fcN o λo=>k (.ptr i o)
 |.slc i o n=>fcN i λi=>fcN o λo=>fcN n λn=>k (.slc i o n)
 |v=>k v
theorem C1u(v:DV)(k:DV->Bool):fcV v k=k v:=by
 cases v with
 |bool b=>cases b<;>rfl
 |int t z=>simp only[fcV,E2c]
 |ptr i o=>simp only[fcV,A7u]
 |slc i o n=>simp only[fcV,A7u]
 |_=>rfl
abbrev Tl:=List (Nat × DV)
def Y6(a:List DV):Tl->Tm
 |[],j=>A3d a j
 |(e,w)::r,j=>match Nat.beq e j with
  |true=>w
  |false=>Y6 a r j
def C0t(d:Nat)(v:DV):Tl->Tl
 |[]=>[(d,v)]
 |(e,w)::r=>match Nat.beq e d with
  |true=>(d,v)::r
  |false=>(e,w)::C0t d v r
def D4q(d:Nat)(v:DV):Tl->(Tl->Bool)->Bool
 |[],k=>k [(d,v)]
 |(e,w)::r,k=>match Nat.beq e d with
  |true=>k ((d,v)::r)
  |false=>D4q d v r λr'=>k ((e,w)::r')
theorem C3k(d:Nat)(v:DV):∀(l:Tl) (k:Tl->Bool),D4q d v l k=k (C0t d v l)
 |[],k=>rfl
 |(e,w)::r,k=>by
  unfold D4q C0t;cases Nat.beq e d with
  |true=>rfl
  |false=>exact C3k d v r _
theorem get_put(a:List DV)(d:Nat)(v:DV):∀l:Tl,Y6 a (C0t d v l)=(Y6 a l).upd d v
 |[]=>by
  funext j
  show(match Nat.beq d j with|true=>v|false=>A3d a j)=if j=d then v else A3d a j
  cases h:Nat.beq d j with
  |true=>rw[if_pos (A3N h).symm]
  |false=>rw[if_neg λe=>Nat.ne_of_beq_eq_false h e.symm]
 |(e,w)::r=>by
  funext j
  have ih:=congrFun (get_put a d v r) j;show Y6 a (match Nat.beq e d with|true=>(d,v)::r|false=>(e,w)::C0t d v r) j=if j=d then v else Y6 a ((e,w)::r) j
  cases h:Nat.beq e d with
  |true =>
   obtain rfl:=A3N h;show(match Nat.beq e j with|true=>v|false=>Y6 a r j)=if j=e then v else(match Nat.beq e j with|true=>w|false=>Y6 a r j)
   cases h2:Nat.beq e j with
   |true=>rw[if_pos (A3N h2).symm]
   |false=>rw[if_neg λx=>Nat.ne_of_beq_eq_false h2 x.symm]
  |false =>
   show(match Nat.beq e j with|true=>w|false=>Y6 a (C0t d v r) j)=if j=d then v else(match Nat.beq e j with|true=>w|false=>Y6 a r j)
   cases h2:Nat.beq e j with
   |true=>rw[if_neg λx=>Nat.ne_of_beq_eq_false h ((A3N h2).trans x)]
   |false=>exact ih
def C8a(d:Option Nat)(v:DV)(l:Tl)(k:Tl->Bool):Bool:=match d with
 |some d=>D4q d v l k
 |none=>k l
abbrev A8u:=Nat->List DV->Hp->Nat->(DV->Hp->Nat->Bool)->Bool
def C1a(call:A8u)(T:Tm)(H:Hp)(c:Nat)(k:DV->Hp->Nat->Bool):IOp->Bool
 |.pur f=>match fev H (ev T) f with
  |some v=>fcV v λv=>k v H c
  |none=>false
 |.new f=>match aev (ev T) f with
  |some (m,b)=>fcN (c+1) λc'=>k (mkv c m) (H.upd c b) c'
  |none=>false
 |.eff f=>match eev H c (ev T) f with
  |some (v,H',c')=>fcV v λv=>fcN c' λc'=>k v H' c'
  |none=>false
 |.call f args=>call f (args.map (ev T)) H c k
 |.callv x args=>match ev T x with
  |.func f a c'=>call f (a++args.map (ev T)++c') H c k
  |_=>false
abbrev Kn:=Tl->Hp->Nat->Bool
def evR(call:A8u)(a:List DV)(k:Kn):List IOper->Tl->Hp->Nat->Bool
 |[],l,H,c=>k l H c
 |o::os,l,H,c=>match S9 (Y6 a l) o.guard with
  |some true=>C1a call (Y6 a l) H c (λv H' c'=>C8a o.dst v l λl'=>evR call a k os l' H' c') o.op
  |some false=>C8a o.dst (.tup []) l λl'=>evR call a k os l' H c
  |none=>false
def E2n(call:A8u)(T:Tm)(H:Hp)(c:Nat)(o:IOper)(k:DV->Hp->Nat->Bool):Bool :=
 match S9 T o.guard with
 |some true=>C1a call T H c k o.op
 |some false=>k (.tup []) H c
 |none=>false
def agE(io:List IOper)(c0:Nat)(s:St)(j:Nat):Bool:=match io[j]? with
 |some o=>match A2v s (c0+j) o with
  |some (v,ob)=>(match o.dst with
   |some d=>L8 (s.T d) v
   |none=>true)&&B7h (s.H (c0+j)) ob
  |none=>false
 |none=>false
def evD(call:A8u)(a:List DV)(k:Kn)(io:List IOper)(c0:Nat):List (Nat × Option (List Nat))->Tl->Hp->Nat->Bool
 |[],l,H,c=>k l H c
 |(i,none)::r,l,H,c=>match io[i]? with
  |some o=>match A2v ⟨Y6 a l,H,c⟩ (c0+i) o with
   |some (v,ob)=>fcV v λv=>C8a o.dst v l λl'=>evD call a k io c0 r l' (A2f H (c0+i) ob) c
   |none=>false
  |none=>false
 |(i,some pend)::r,l,H,c=>match io[i]? with
  |some o=>E2n call (Y6 a l) (I3 H ((pend.filter (isNew io)).map (c0 + ·))) c o λv H' c'=>C8a o.dst v l λl' =>
    (pend.all λj=>agE io c0 ⟨Y6 a l',L2 ((pend.filter (isNew io)).map (c0 + ·)) H H',c'⟩ j) &&
    evD call a k io c0 r l' (L2 ((pend.filter (isNew io)).map (c0 + ·)) H H') c'
  |none=>false
abbrev Ke:=Exit->Tl->Hp->Nat->Bool
def lpE(body:Tl->Hp->Nat->Ke->Bool)(k:Ke):Nat->Tl->Hp->Nat->Bool
 |0,_,_,_=>false
 |n+1,l,H,c=>body l H c λe l' H' c'=>match e with
  |.normal=>lpE body k n l' H' c'
  |e=>k e l' H' c'
def evI(call:A8u)(F:Nat)(a:List DV):IC->Tl->Hp->Nat->Ke->Bool
 |.skip,l,H,c,k=>k .normal l H c
 |.reg ops,l,H,c,k=>evR call a (k .normal) ops l H c
 |.drw n d,l,H,c,k=>fcN (c+n) λc'=>evD call a (k .normal) d.ops c d.plan l H c'
 |.seq x y,l,H,c,k=>evI call F a x l H c λe l' H' c'=>match e with
  |.normal=>evI call F a y l' H' c' k
  |e=>k e l' H' c'
 |.cond o x y,l,H,c,k=>match ev (Y6 a l) o with
  |.bool b=>match b with
   |true=>evI call F a x l H c k
   |false=>evI call F a y l H c k
  |_=>false
 |.blk id x,l,H,c,k=>evI call F a x l H c λe l' H' c'=>match e with
  |.exit i=>if i=id then k .normal l' H' c' else k (.exit i) l' H' c'
  |e=>k e l' H' c'
 |.loop x,l,H,c,k=>lpE (evI call F a x) k F l H c
 |.exit id,l,H,c,k=>k (.exit id) l H c
 |.ret,l,H,c,k=>k .ret l H c
 |.bad,_,_,_,_=>false
 |.rg _,_,_,_,_=>false
def clE(P:Program)(F:Nat)(O:Nat->List DV->Option DV):Nat->A8u
 |0,_,_,_,_,_=>false
 |n+1,f,args,H,c,k=>match O f args with
  |some r=>k r H c
  |none=>match(P.funcs[f]?).bind (A8v P) with
   |some i=>Nat.ble args.length i.n&&evI (clE P F O n) F args i.body [] H c λe l H' c'=>match e with
    |.normal=>(match A1t ⟨Y6 args l,H',c'⟩ i.res with
     |some v=>k v H' c'
     |none=>false)
    |.ret=>(match A1t ⟨Y6 args l,H',c'⟩ i.res with
     |some v=>k v H' c'
     |none=>false)
    |_=>false
   |none=>false
section
variable {P:Program} {call:A8u} {F N:Nat} {a:List DV}
def A8k(P:Program)(call:A8u):Prop:=∀f args H c k,call f args H c k=true->AC P f args H c λv H' c'=>k v H' c'=true
theorem A9b{d:Option Nat}{v:DV}{l:Tl}{k:Tl->Bool}(h:C8a d v l k=true):∃l',k l'=true/\Y6 a l'=I8 (Y6 a l) d v:=by
 cases d with
 |none=>exact⟨l,h,rfl⟩
 |some d=>exact⟨C0t d v l,(C3k d v l k).symm.trans h,get_put a d v l⟩
theorem C3u(hc:A8k P call){T:Tm}{H:Hp}{c:Nat}{k:DV->Hp->Nat->Bool}{K:DV->Hp->Nat->Prop}(hk:∀v H c,k v H c=true->K v H c):∀ {i:IOp},C1a call T H c k i=true->Q7 P ⟨T,H,c⟩ K i
 |.pur f,h=>by
  simp only[C1a]at h;simp only[Q7];split at h
  ·rename_i v hv;rw[C1u]at h;simp only[hv];exact hk _ _ _ h
  ·cases h
 |.new f,h=>by
  simp only[C1a]at h;simp only[Q7];split at h
  ·rename_i m b hv;rw[A7u]at h;simp only[hv];exact hk _ _ _ h
  ·cases h
 |.eff f,h=>by
  simp only[C1a]at h;simp only[Q7];split at h
  ·rename_i v H' c' hv;rw[C1u,A7u]at h;simp only[hv];exact hk _ _ _ h
  ·cases h
 |.call f args,h=>(hc _ _ _ _ _ h).mono hk
 |.callv x args,h=>by
  simp only[C1a]at h;simp only[Q7];split at h
  ·rename_i f a c hv;simp only[hv];exact(hc _ _ _ _ _ h).mono hk
  ·cases h
theorem C1w(hc:A8k P call){k:Kn}{Q:St->Prop}(hk:∀l H c,k l H c=true->Q ⟨Y6 a l,H,c⟩):∀(os:List IOper) (l:Tl) (H:Hp) (c:Nat),evR call a k os l H c=true->rwp P Q os ⟨Y6 a l,H,c⟩
 |[],l,H,c,h=>hk l H c h
 |o::os,l,H,c,h=>by
  simp only[evR]at h;unfold rwp;split at h
  ·rename_i hw;simp only[hw];exact C3u hc (λv H c h=>by
    obtain⟨l',h1,h2⟩:=A9b (a:=a) h;rw[<- h2];exact C1w hc hk os _ _ _ h1) h
  ·rename_i hw;simp only[hw];obtain⟨l',h1,h2⟩:=A9b (a:=a) h;rw[<- h2];exact C1w hc hk os _ _ _ h1
  ·cases h
theorem D6l(hc:A8k P call){T:Tm}{H:Hp}{c:Nat}{o:IOper}{k:DV->Hp->Nat->Bool}{K:DV->Hp->Nat->Prop}(hk:∀v H c,k v H c=true->K v H c)(h:E2n call T H c o k=true):B9i P ⟨T,H,c⟩ o K:=by
 unfold E2n at h;unfold B9i;split at h
 ·rename_i hw;simp only[hw];exact C3u hc hk h
 ·rename_i hw;simp only[hw];exact hk _ _ _ h
 ·cases h
theorem E3e{io:List IOper}{c0:Nat}{s:St}{j:Nat}(h:agE io c0 s j=true):A3x io c0 s j:=by
 unfold agE at h;unfold A3x;split at h
 ·rename_i o ho;split at h
  ·rename_i v ob hv;simp only[ho,hv];rw[A0F]at h;refine⟨λd hd=>?_,C9d _ _ h.2⟩;have h1:=h.1;rw[hd]at h1;exact B0m _ _ h1
  ·cases h
 ·cases h
theorem D3s{io:List IOper}{c0:Nat}{s:St}:∀ {l:List Nat},l.all (λj=>agE io c0 s j)=true->Z1 io c0 s l
 |[],_=>trivial
 |j::l,h=>by
  rw[A2N,A0F]at h;exact⟨E3e h.1,D3s h.2⟩
theorem C1x(hc:A8k P call){k:Kn}{Q:St->Prop}(hk:∀l H c,k l H c=true->Q ⟨Y6 a l,H,c⟩){io:List IOper}{c0:Nat}:∀(p:List (Nat × Option (List Nat))) (l:Tl) (H:Hp) (c:Nat),evD call a k io c0 p l H c=true->dwp P Q io c0 p ⟨Y6 a l,H,c⟩
 |[],l,H,c,h=>hk l H c h
 |(i,none)::r,l,H,c,h=>by
  simp only[evD]at h;unfold dwp;split at h
  ·rename_i o ho;split at h
   ·rename_i v ob hv;rw[C1u]at h;simp only[ho,hv];obtain⟨l',h1,h2⟩:=A9b (a:=a) h;rw[<- h2];exact C1x hc hk r _ _ _ h1
   ·cases h
  ·cases h
 |(i,some pend)::r,l,H,c,h=>by
  simp only[evD]at h;unfold dwp;split at h
  ·rename_i o ho;simp only[ho];refine D6l hc (λv H c h=>?_) h;obtain⟨l',h1,h2⟩:=A9b (a:=a) h;rw[A0F]at h1;rw[<- h2];exact⟨D3s h1.1,C1x hc hk r _ _ _ h1.2⟩
  ·cases h
theorem IW.seq{x y:IC}{s:St}{Q:Exit->St->Prop}(h:IW P N x s (A8l (λs'=>IW P N y s' Q) Q)):IW P N (.seq x y) s Q:=by
 intro hm c hc;cases c<;>simp only[Go.Eng.trC]at hc<;>(try(cases hc;done))
 case seq a b =>
  split at hc
  ·rename_i x' y' hx hy;cases hc;refine .seq ((h hm a hx).mono λe s' q=>?_);cases e with
   |normal=>exact q hm b hy
   |_=>exact q
  ·cases hc
 all_goals(repeat'(split at hc))<;>(try(cases hc;done))
 all_goals simp at hc
theorem IW.blk{id:Nat}{x:IC}{s:St}{Q:Exit->St->Prop}(h:IW P N x s (C2i id Q)):IW P N (.blk id x) s Q:=by
 intro hm c hc;cases c<;>simp only[Go.Eng.trC]at hc<;>(try(cases hc;done))
 case block i b =>
  simp only[A0T]at hc;obtain⟨x',hx,he⟩:=hc;cases he;exact .block (h hm b hx)
 all_goals(repeat'(split at hc))<;>(try(cases hc;done))
 all_goals simp at hc
theorem E2j(hc:A8k P call):∀(ic:IC) (l:Tl) (H:Hp) (c:Nat) (k:Ke) (Q:Exit->St->Prop),(∀e l H c,k e l H c=true->Q e ⟨Y6 a l,H,c⟩)->evI call F a ic l H c k=true->IW P N ic ⟨Y6 a l,H,c⟩ Q:=by
 intro ic
 induction ic with
 |skip=>intro l H c k Q hk h;exact IW.of (hk _ _ _ _ h)
 |reg ops=>intro l H c k Q hk h;exact IW.of (C1w hc (hk .normal) ops l H c h)
 |drw n d =>
  intro l H c k Q hk h;simp only[evI,A7u]at h;exact IW.of (C1x hc (hk .normal) _ _ _ _ h)
 |seq x y ihx ihy =>
  intro l H c k Q hk h;simp only[evI]at h;refine IW.seq (ihx l H c _ (A8l _ Q) (λe l' H' c' h=>?_) h);cases e with
  |normal=>exact ihy l' H' c' k Q hk h
  |_=>exact hk _ _ _ _ h
 |cond o x y ihx ihy =>
  intro l H c k Q hk h;simp only[evI]at h;split at h
  ·rename_i b hb;refine IW.of ?_;unfold wpI;simp only[hb];cases b with
   |true=>exact⟨λ_=>ihx l H c k Q hk h,λe=>(by cases e)⟩
   |false=>exact⟨λe=>(by cases e),λ_=>ihy l H c k Q hk h⟩
  ·cases h
 |blk id x ih =>
  intro l H c k Q hk h;simp only[evI]at h;refine IW.blk (ih l H c _ (C2i id Q) (λe l' H' c' h=>?_) h);cases e with
  |exit i =>
   simp only[C2i]at h ⊢;by_cases e:i=id
   ·rw[if_pos e]at h ⊢;exact hk _ _ _ _ h
   ·rw[if_neg e]at h ⊢;exact hk _ _ _ _ h
  |_=>exact hk _ _ _ _ h
 |loop x ih =>
  intro l H c k Q hk h;refine IW.loop (λn s => ∃l,s.T=Y6 a l/\lpE (evI call F a x) k n l s.H s.c=true) F ⟨l,rfl,h⟩ λn s ⟨l,e,h⟩=>?_;obtain⟨T,H,c⟩:=s;simp only at e h;subst e;cases n with
  |zero=>cases h
  |succ n =>
   refine ih l H c _ (A8l _ Q) (λe l' H' c' h=>?_) h;cases e with
   |normal=>exact⟨n,A1M _,l',rfl,h⟩
   |_=>exact hk _ _ _ _ h
 |exit id=>intro l H c k Q hk h;exact IW.of (hk _ _ _ _ h)
 |ret=>intro l H c k Q hk h;exact IW.of (hk _ _ _ _ h)
 |bad=>intro l H c k Q hk h;cases h
 |rg r=>intro l H c k Q hk h;cases h
def E3h(P:Program)(O:Nat->List DV->Option DV):Prop:=∀f args r,O f args=some r->PC P f args r
theorem D3b(hm:P.follows .mixedOrders=true){O:Nat->List DV->Option DV}(hO:E3h P O):∀n,A8k P (clE P F O n)
 |0,_,_,_,_,_,h=>by cases h
 |n+1,f,args,H,c,k,h=>by
  simp only[clE]at h;split at h
  ·rename_i r hr;exact((hO f args r hr).at H c).mono λv H' c' ⟨h1,h2,h3⟩=>by rw[h1,h2,h3];exact h
  ·split at h
   ·rename_i i hi;rw[A0F]at h;refine AC.of hm (i:=i) hi (A0C h.1) (E2j (a:=args) (D3b hm hO n) _ [] H c _ _ (λe l H' c' h=>?_) h.2);cases e<;>simp only[C0q]at h ⊢ <;> (try(cases h;done));all_goals(split at h<;>simp_all)
   ·cases h
theorem PC.run(hm:P.follows .mixedOrders=true)(O:Nat->List DV->Option DV)(hO:E3h P O)(F n f:Nat)(args:List DV)(r:DV)(na:DV.nlL args=true)(nr:r.nl=true)(h:clE P F O n f args nil 0 (λv _ _=>L8 v r)=true):PC P f args r :=
 ⟨na,nr,(D3b hm hO n _ _ _ _ _ h).mono λv H' c' e=>B0m _ _ e⟩
end
end Go.Sym
namespace Go.Proofs.YtdclpmddofggcaaGreatDoor
instance tabI:Go.Sym.Tab:=⟨[(5,λr=>r=(Lib.pow10Tab.map λz=>Value.int .u64 z).toArray),(0,λr=>r=(Lib.asciiSpaceTab.map λz=>Value.int .u8 z).toArray),(3,λr => ∃te pe,r = #[.iface te pe])]⟩
end Go.Proofs.YtdclpmddofggcaaGreatDoor
set_option maxHeartbeats 4000000
set_option maxRecDepth 100000
namespace Go.Proofs.YtdclpmddofggcaaGreatDoor
open Go.Eng (IC IOper DReg IFn L4)
open Go.Sym
theorem A2:Tryz.prog.follows .mixedOrders=true:=i6
abbrev x89:XT Tryz.prog 89:=mkF
instance t89:FT Tryz.prog 89 x89.d:=x89.ft
abbrev x91:XT Tryz.prog 91:=mkF
instance t91:FT Tryz.prog 91 x91.d:=x91.ft
abbrev x90:XT Tryz.prog 90:=mkF
instance t90:FT Tryz.prog 90 x90.d:=x90.ft
abbrev x87:XT Tryz.prog 87:=mkF
instance t87:FT Tryz.prog 87 x87.d:=x87.ft
abbrev x88:XT Tryz.prog 88:=mkF
instance t88:FT Tryz.prog 88 x88.d:=x88.ft
abbrev x40:XT Tryz.prog 40:=mkF
instance t40:FT Tryz.prog 40 x40.d:=x40.ft
abbrev x93:XT Tryz.prog 93:=mkF
instance t93:FT Tryz.prog 93 x93.d:=x93.ft
abbrev x94:XT Tryz.prog 94:=mkF
instance t94:FT Tryz.prog 94 x94.d:=x94.ft
abbrev x92:XT Tryz.prog 92:=mkF
instance t92:FT Tryz.prog 92 x92.d:=x92.ft
abbrev x41:XT Tryz.prog 41:=mkF
instance t41:FT Tryz.prog 41 x41.d:=x41.ft
abbrev x39:XT Tryz.prog 39:=mkF
instance t39:FT Tryz.prog 39 x39.d:=x39.ft
abbrev x183:XT Tryz.prog 183:=mkF
instance t183:FT Tryz.prog 183 x183.d:=x183.ft
abbrev x148:XT Tryz.prog 148:=mkF
instance t148:FT Tryz.prog 148 x148.d:=x148.ft
abbrev x22:XT Tryz.prog 22:=mkF
instance t22:FT Tryz.prog 22 x22.d:=x22.ft
abbrev x117:XT Tryz.prog 117:=mkF
instance t117:FT Tryz.prog 117 x117.d:=x117.ft
abbrev x119:XT Tryz.prog 119:=mkF
instance t119:FT Tryz.prog 119 x119.d:=x119.ft
abbrev x192:XT Tryz.prog 192:=mkF
instance t192:FT Tryz.prog 192 x192.d:=x192.ft
abbrev x122:XT Tryz.prog 122:=mkF
instance t122:FT Tryz.prog 122 x122.d:=x122.ft
abbrev x163:XT Tryz.prog 163:=mkF
instance t163:FT Tryz.prog 163 x163.d:=x163.ft
abbrev x195:XT Tryz.prog 195:=mkF
instance t195:FT Tryz.prog 195 x195.d:=x195.ft
abbrev x67:XT Tryz.prog 67:=mkF
instance t67:FT Tryz.prog 67 x67.d:=x67.ft
abbrev x118:XT Tryz.prog 118:=mkF
instance t118:FT Tryz.prog 118 x118.d:=x118.ft
abbrev x120:XT Tryz.prog 120:=mkF
instance t120:FT Tryz.prog 120 x120.d:=x120.ft
abbrev x121:XT Tryz.prog 121:=mkF
instance t121:FT Tryz.prog 121 x121.d:=x121.ft
abbrev x68:XT Tryz.prog 68:=mkF
instance t68:FT Tryz.prog 68 x68.d:=x68.ft
abbrev x30:XT Tryz.prog 30:=mkF
instance t30:FT Tryz.prog 30 x30.d:=x30.ft
abbrev x12:XT Tryz.prog 12:=mkF
instance t12:FT Tryz.prog 12 x12.d:=x12.ft
abbrev x32:XT Tryz.prog 32:=mkF
instance t32:FT Tryz.prog 32 x32.d:=x32.ft
abbrev x123:XT Tryz.prog 123:=mkF
instance t123:FT Tryz.prog 123 x123.d:=x123.ft
abbrev x124:XT Tryz.prog 124:=mkF
instance t124:FT Tryz.prog 124 x124.d:=x124.ft
abbrev x73:XT Tryz.prog 73:=mkF
instance t73:FT Tryz.prog 73 x73.d:=x73.ft
abbrev x164:XT Tryz.prog 164:=mkF
instance t164:FT Tryz.prog 164 x164.d:=x164.ft
abbrev x74:XT Tryz.prog 74:=mkF
instance t74:FT Tryz.prog 74 x74.d:=x74.ft
abbrev x71:XT Tryz.prog 71:=mkF
instance t71:FT Tryz.prog 71 x71.d:=x71.ft
abbrev x127:XT Tryz.prog 127:=mkF
instance t127:FT Tryz.prog 127 x127.d:=x127.ft
abbrev x126:XT Tryz.prog 126:=mkF
instance t126:FT Tryz.prog 126 x126.d:=x126.ft
abbrev x125:XT Tryz.prog 125:=mkF
instance t125:FT Tryz.prog 125 x125.d:=x125.ft
abbrev x69:XT Tryz.prog 69:=mkF
instance t69:FT Tryz.prog 69 x69.d:=x69.ft
abbrev x70:XT Tryz.prog 70:=mkF
instance t70:FT Tryz.prog 70 x70.d:=x70.ft
abbrev x128:XT Tryz.prog 128:=mkF
instance t128:FT Tryz.prog 128 x128.d:=x128.ft
abbrev x165:XT Tryz.prog 165:=mkF
instance t165:FT Tryz.prog 165 x165.d:=x165.ft
abbrev x230:XT Tryz.prog 230:=mkF
instance t230:FT Tryz.prog 230 x230.d:=x230.ft
abbrev x231:XT Tryz.prog 231:=mkF
instance t231:FT Tryz.prog 231 x231.d:=x231.ft
abbrev x217:XT Tryz.prog 217:=mkF
instance t217:FT Tryz.prog 217 x217.d:=x217.ft
abbrev x229:XT Tryz.prog 229:=mkF
instance t229:FT Tryz.prog 229 x229.d:=x229.ft
abbrev x239:XT Tryz.prog 239:=mkF
instance t239:FT Tryz.prog 239 x239.d:=x239.ft
abbrev x193:XT Tryz.prog 193:=mkF
instance t193:FT Tryz.prog 193 x193.d:=x193.ft
abbrev x129:XT Tryz.prog 129:=mkF
instance t129:FT Tryz.prog 129 x129.d:=x129.ft
abbrev x166:XT Tryz.prog 166:=mkF
instance t166:FT Tryz.prog 166 x166.d:=x166.ft
abbrev x72:XT Tryz.prog 72:=mkF
instance t72:FT Tryz.prog 72 x72.d:=x72.ft
abbrev x75:XT Tryz.prog 75:=mkF
instance t75:FT Tryz.prog 75 x75.d:=x75.ft
abbrev x31:XT Tryz.prog 31:=mkF
instance t31:FT Tryz.prog 31 x31.d:=x31.ft
abbrev x16:XT Tryz.prog 16:=mkF
instance t16:FT Tryz.prog 16 x16.d:=x16.ft
abbrev x66:XT Tryz.prog 66:=mkF
instance t66:FT Tryz.prog 66 x66.d:=x66.ft
abbrev x29:XT Tryz.prog 29:=mkF
instance t29:FT Tryz.prog 29 x29.d:=x29.ft
abbrev x64:XT Tryz.prog 64:=mkF
instance t64:FT Tryz.prog 64 x64.d:=x64.ft
abbrev x65:XT Tryz.prog 65:=mkF
instance t65:FT Tryz.prog 65 x65.d:=x65.ft
abbrev x63:XT Tryz.prog 63:=mkF
instance t63:FT Tryz.prog 63 x63.d:=x63.ft
abbrev x28:XT Tryz.prog 28:=mkF
instance t28:FT Tryz.prog 28 x28.d:=x28.ft
abbrev x26:XT Tryz.prog 26:=mkF
instance t26:FT Tryz.prog 26 x26.d:=x26.ft
abbrev x27:XT Tryz.prog 27:=mkF
instance t27:FT Tryz.prog 27 x27.d:=x27.ft
abbrev x15:XT Tryz.prog 15:=mkF
instance t15:FT Tryz.prog 15 x15.d:=x15.ft
abbrev x7:XT Tryz.prog 7:=mkF
instance t7:FT Tryz.prog 7 x7.d:=x7.ft
abbrev x140:XT Tryz.prog 140:=mkF
instance t140:FT Tryz.prog 140 x140.d:=x140.ft
abbrev x37:XT Tryz.prog 37:=mkF
instance t37:FT Tryz.prog 37 x37.d:=x37.ft
abbrev x82:XT Tryz.prog 82:=mkF
instance t82:FT Tryz.prog 82 x82.d:=x82.ft
abbrev x139:XT Tryz.prog 139:=mkF
instance t139:FT Tryz.prog 139 x139.d:=x139.ft
abbrev x138:XT Tryz.prog 138:=mkF
instance t138:FT Tryz.prog 138 x138.d:=x138.ft
abbrev x83:XT Tryz.prog 83:=mkF
instance t83:FT Tryz.prog 83 x83.d:=x83.ft
abbrev x36:XT Tryz.prog 36:=mkF
instance t36:FT Tryz.prog 36 x36.d:=x36.ft
abbrev x35:XT Tryz.prog 35:=mkF
instance t35:FT Tryz.prog 35 x35.d:=x35.ft
abbrev x17:XT Tryz.prog 17:=mkF
instance t17:FT Tryz.prog 17 x17.d:=x17.ft
abbrev x8:XT Tryz.prog 8:=mkF
instance t8:FT Tryz.prog 8 x8.d:=x8.ft
abbrev x58:XT Tryz.prog 58:=mkF (i:=⟨8,.seq (.reg [oX 2 0,oV 3 (.bool false)]) (.seq (.reg [oF 4 2 0,oD 5 4 4,oD 6 1 4,oP 7 (.eqa false [0,0,0,0] (.t 5) (.t 6)),oM 3 7]) .ret),[.tmp 3]⟩) (by unfold L4;kernel_rfl) (λh=>by conv=>lhs;cbv)
instance t58:FT Tryz.prog 58 x58.d:=x58.ft
abbrev x57:XT Tryz.prog 57:=mkF
instance t57:FT Tryz.prog 57 x57.d:=x57.ft
abbrev x3:XT Tryz.prog 3:=mkF
instance t3:FT Tryz.prog 3 x3.d:=x3.ft
open Go.Sym Go.Pb
theorem c_opOf(k:Int):PC Tryz.prog 66 [I64 k] (I64 (Pb.stOp k)):=by
 refine PC.go A2 ?_;repeat'((with_reducible first|apply wr|refine B0 ?_ ?_|apply wb2<;>(intro hb;try simp only[hb]))<;>try simp only[go_sem,seval])
 all_goals(refine A3 (congrArg I64 ?_);simp_all[Pb.stOp]<;>omega)
theorem c_op34(k:Int):PC Tryz.prog 140 [I64 k] (I64 (Pb.stOp k)):=by
 refine PC.go A2 ?_;repeat'((with_reducible first|apply wr|refine B0 ?_ ?_|apply wb2<;>(intro hb;try simp only[hb]))<;>try simp only[go_sem,seval])
 all_goals(refine A3 (congrArg I64 ?_);simp_all[Pb.stOp]<;>omega)
def GC(f:Nat)(mk:DV->DV->List DV)(args:List DV)(x y:Cg)(r:DV):Prop:=∀(H0:Hp) (c t:Nat) (a b:Option Nat),GN H0 t a b x c ->
 AC Tryz.prog f (.ptr t 0::args) (GM H0 t a b mk x) c (λv H' c'=>v=r/\∃a' b',GN H0 t a' b' y c'/\H'=GM H0 t a' b' mk y)
abbrev mkP(e p v m:DV)(t n:Int):DV->DV->List DV:=λI S=>[I,S,e,p,v,I64 t,I64 n,m]
abbrev mkR(d m:DV):DV->DV->List DV:=λI S=>[d,m,I,S]
theorem c_emit(e p v m:DV)(t n op k:Int)(x:Cg)(hx:x.1.length<=100000000):GC 29 (mkP e p v m t n) [I64 op,I64 k] x (x.1++[⟨op,k⟩],x.2) (I64 x.1.length):=by
 intro H0 c t' a b h;refine AC.go A2 λhfr=>?_;have hM:=A0c (mk:=mkP e p v m t n) h;have h1:=h.tc;have hw:IntKind.i64.wrap (((x.1.length+1:Nat):Int)-1)=(x.1.length:Int):=i7
 have ne0:=M7 t' c (c+1) (by omega);(repeat'((with_reducible first|apply wr|refine B0 ?_ ?_|apply wb2<;>(intro hb;try simp only[hb]))<;>try simp only[go_sem,seval,hM,ne0]));refine G7 (D4 (cs:=A0t x.1) (λe=>⟨S3 (h.an e),by rw[h.an e];rfl⟩) (λi hi=>?_) (A3k _) (by omega) (by omega) (by omega)) ?_
 ·have:=h.ha i hi;rw[hnO];exact A5q h hi
 have dm:∀X,delO X a t'=X t':=λX=>A9 (λi hi e=>(h.ha i hi).1 e.symm);simp only[go_sem,seval,dm,hM,ne0,A0];(repeat'((with_reducible first|apply wr|refine B0 ?_ ?_|apply wb2<;>(intro hb;try simp only[hb]))<;>try simp only[go_sem,seval,dm,hM,ne0,A0,hw]));refine⟨_,_,GL.less' (D2s (y:=(x.1++[⟨op,k⟩],x.2)) (i:=c+1) h (by omega) rfl (by rw[B3x]) (by simp[todoV])),rfl,some (c+1),b,h.newA (by omega) (by omega) rfl,rfl⟩
theorem c_emit34(d m:DV)(op k:Int)(x:Cg)(hx:x.1.length<=100000000):GC 37 (mkR d m) [I64 op,I64 k] x (x.1++[⟨op,k⟩],x.2) (I64 x.1.length):=by
 intro H0 c t' a b h;refine AC.go A2 λhfr=>?_;have hM:=A0c (mk:=mkR d m) h;have h1:=h.tc;have hw:IntKind.i64.wrap (((x.1.length+1:Nat):Int)-1)=(x.1.length:Int):=i7
 have ne0:=M7 t' c (c+1) (by omega);(repeat'((with_reducible first|apply wr|refine B0 ?_ ?_|apply wb2<;>(intro hb;try simp only[hb]))<;>try simp only[go_sem,seval,hM,ne0]));refine G7 (D4 (cs:=A0t x.1) (λe=>⟨S3 (h.an e),by rw[h.an e];rfl⟩) (λi hi=>?_) (A3k _) (by omega) (by omega) (by omega)) ?_
 ·have:=h.ha i hi;rw[hnO];exact A5q h hi
 have dm:∀X,delO X a t'=X t':=λX=>A9 (λi hi e=>(h.ha i hi).1 e.symm);simp only[go_sem,seval,dm,hM,ne0,A0];(repeat'((with_reducible first|apply wr|refine B0 ?_ ?_|apply wb2<;>(intro hb;try simp only[hb]))<;>try simp only[go_sem,seval,dm,hM,ne0,A0,hw]));refine⟨_,_,GL.less' (D2s (y:=(x.1++[⟨op,k⟩],x.2)) (i:=c+1) h (by omega) rfl (by rw[B3x]) (by simp[todoV])),rfl,some (c+1),b,h.newA (by omega) (by omega) rfl,rfl⟩
theorem c_patch(e p v m:DV)(t n op k:Int)(l r:List Ins)(S:List (List UInt8))(hl:(l++⟨op,k⟩::r).length<=100000000):
  GC 64 (mkP e p v m t n) [I64 l.length] (l++⟨op,k⟩::r,S) (l++⟨op,((l++⟨op,k⟩::r).length:Int)⟩::r,S) (.tup []):=by
 intro H0 c t' a b h;obtain⟨i,rfl⟩:∃i,a=some i:=by
  cases a with
  |none=>have:=h.an rfl;simp at this
  |some i=>exact⟨i,rfl⟩
 refine AC.go A2 λhfr=>?_;have hM:=A0c (mk:=mkP e p v m t n) h;have hA:=A5q (mk:=mkP e p v m t n) h rfl;have h1:=h.tc;have h2:=h.ha i rfl;have hle:l.length<(l++⟨op,k⟩::r).length:=by simp
 have hcl:=A3k (l++⟨op,k⟩::r);dsimp only at hA;have hst:∀(z:Int) (d:Nat),stB (GM H0 t' (some i) b (mkP e p v m t n) (l++⟨op,k⟩::r,S)) d i 1 (l.length*2+1) (I64 z) (some ⟨2,true,A0t (l++⟨op,k⟩::r)⟩)=some (.tup [],(GM H0 t' (some i) b (mkP e p v m t n) (l++⟨op,k⟩::r,S)).upd i ⟨2,true,A0t (l++⟨op,z⟩::r)⟩,d):=λz d=>by
  exact(A3c (i:=1) rfl (by omega) rfl).trans (by rw[B8k])
 (repeat'((with_reducible first|apply wr|refine B0 ?_ ?_|apply wb2<;>(intro hb;try simp only[hb]))<;>try simp only[go_sem,seval,hM,hA,hle,hst]));refine⟨_,_,GL.less' (A5p (t:=t') (a:=some i) (b:=b) (mk:=mkP e p v m t n) (x:=(l++⟨op,((l++⟨op,k⟩::r).length:Int)⟩::r,S)) ?_ (λj hj=>?_) (λj hj=>?_) (λj Q hj hQ=>?_)),rfl,some i,b,h.keep (by omega) (λe=>by cases e) (λe=>h.bn e),rfl⟩
 ·rw[h_ne (Ne.symm h2.1),hM];simp[gmB]
 ·cases hj;exact A0
 ·rw[h_ne (λe=>h.ne i j rfl hj e.symm),A8j hj]
 ·rw[h_ne (by rintro rfl;rw[h2.2.2]at hQ;cases hQ),V5 h hQ hj]
abbrev keB(k:Ky):Blk:=⟨0,true,[I64 k.mode,I64 k.trig,I64 k.ix,I64 0]⟩
theorem c_sameK(k q:Ky)(j n:Nat)(H:Hp)(c e:Nat)(he:H e=some (keB q))(hec:e<c):AC Tryz.prog 58 [.agg [I64 k.mode,I64 k.trig,I64 k.ix,I64 0,.slc j 0 n],.ptr e 0] H c (λv H' c'=>v=.bool (decide (k=q))/\H'=H):=by
 refine AC.go A2 λhfr=>?_;have ne0:=Q8 e c (by omega);have hq:B1t false [0,0,0,0] (.agg [I64 k.mode,I64 k.trig,I64 k.ix,I64 0]) (.agg [I64 q.mode,I64 q.trig,I64 q.ix,I64 0])=some (.bool (decide (k=q))):=by
  rw[E6x]
  congr 2
  obtain⟨a1,a2,a3⟩:=k;obtain⟨b1,b2,b3⟩:=q;rw[A2E];simp
 refine wAz he ne0 @A0 hq ?_;exact⟨_,_,GL.less' (λj B hj=>by rw[h_ne (by rintro rfl;rw[hfr _ (A0D _)]at hj;cases hj)];exact hj),rfl,rfl⟩
theorem c_IxP(q:Ky)(l:List F4)(is:List Nat)(hl:l.length<=1000000)(hn:is.length=l.length)(H:Hp)(c e:Nat)(o:Option Nat)(ho:∀i,o=some i->H i=some ⟨5,true,ptC is l⟩)(hno:o=none->l=[])(he:H e=some (keB q))(hec:e<c):
  AC Tryz.prog 57 [todoV o l.length,.func 58 [] [.ptr e 0]] H c (λv H' c'=>v=I64 (ixP q l 0)/\H'=H):=by
 cases o with
 |none =>
  obtain rfl:=hno rfl;refine AC.go A2 λhfr=>?_;refine wAp ?_;refine B6 (λk:Nat=>[(0,.snil),(7,I64 0),(8,I64 0)]) (λ_=>H) (λk c=>True) (λk=>0) 0 (by simp[B5,tm,Tm.upd]) (Sub.refl _) trivial ?_;rintro k c' -;refine wAp ?_;exact⟨_,_,GL.refl _ _,rfl,rfl⟩
 |some i =>
  have hi:=ho i rfl;refine AC.go A2 λhfr=>?_;refine wAp ?_;refine B6 (λk:Nat=>[(0,.slc i 0 l.length),(1,.func 58 [] [.ptr e 0]),(7,I64 l.length),(8,I64 k)]) (λ_=>H) (λk cc=>c<=cc/\k<=l.length/\ixP q l 0=ixP q (l.drop k) k) (λk=>l.length-k) 0 (by simp[B5,tm,Tm.upd]) (Sub.refl _) ⟨A0D _,b8,rfl⟩ ?_;rintro k c' ⟨hc,hk,hv⟩;by_cases hlt:k<l.length
  ·have hd:=dtz hlt;have hg:=A0B hlt;have hgi:=A0B (show k<is.length by omega);have hw:IntKind.i64.wrap ((k:Int)+1)=((k+1:Nat):Int):=by rw[w6z];omega
   rw[D1e hg]at hv;have hcl:=C0u hn hgi hg;have hcn:=A0x hn;have hle:k*5+5<=(ptC is l).length:=b8
   generalize l[k]=p at hg hv hcl;generalize is[k]=j at hgi hcl;refine wA2 hi hd hcl hle hlt ?_;refine AC.call (c_sameK p.1 q j p.2.length H c' e he (by omega)) ?_;rintro _ _ c2 ⟨rfl,rfl⟩ hc2;by_cases hpq:p.1=q
   ·have hb:decide (p.1=q)=true:=by simpa using hpq
    rw[if_pos hpq]at hv;refine wAu hb ?_;exact⟨_,_,GL.refl _ _,by rw[hv],rfl⟩
   ·have hb:decide (p.1=q)=false:=by simpa using hpq
    rw[if_neg hpq]at hv;refine wAu (wJ hb hw) ?_;exact⟨k+1,rfl,Sub.refl _,inv ⟨b8,hlt,hv⟩,by omega⟩
  ·have hd:=dfz hlt;have hk:k=l.length:=by omega
   rw[hk,A3G,ixP]at hv;rw[hv];refine wAs (wJ hi hd) ?_;exact⟨_,_,GL.refl _ _,rfl,rfl⟩
abbrev x95:XT Tryz.prog 95:=mkF
instance t95:FT Tryz.prog 95 x95.d:=x95.ft
abbrev x44:XT Tryz.prog 44:=mkF
instance t44:FT Tryz.prog 44 x44.d:=x44.ft
abbrev x24:XT Tryz.prog 24:=mkF
instance t24:FT Tryz.prog 24 x24.d:=x24.ft
abbrev x42:XT Tryz.prog 42:=mkF
instance t42:FT Tryz.prog 42 x42.d:=x42.ft
abbrev x99:XT Tryz.prog 99:=mkF
instance t99:FT Tryz.prog 99 x99.d:=x99.ft
abbrev x97:XT Tryz.prog 97:=mkF
instance t97:FT Tryz.prog 97 x97.d:=x97.ft
abbrev x96:XT Tryz.prog 96:=mkF
instance t96:FT Tryz.prog 96 x96.d:=x96.ft
abbrev x98:XT Tryz.prog 98:=mkF
instance t98:FT Tryz.prog 98 x98.d:=x98.ft
abbrev x47:XT Tryz.prog 47:=mkF
instance t47:FT Tryz.prog 47 x47.d:=x47.ft
abbrev x43:XT Tryz.prog 43:=mkF
instance t43:FT Tryz.prog 43 x43.d:=x43.ft
abbrev x145:XT Tryz.prog 145:=mkF
instance t145:FT Tryz.prog 145 x145.d:=x145.ft
abbrev x207:XT Tryz.prog 207:=mkF
instance t207:FT Tryz.prog 207 x207.d:=x207.ft
abbrev x235:XT Tryz.prog 235:=mkF
instance t235:FT Tryz.prog 235 x235.d:=x235.ft
abbrev x248:XT Tryz.prog 248:=mkF
instance t248:FT Tryz.prog 248 x248.d:=x248.ft
abbrev x208:XT Tryz.prog 208:=mkF
instance t208:FT Tryz.prog 208 x208.d:=x208.ft
abbrev x226:XT Tryz.prog 226:=mkF
instance t226:FT Tryz.prog 226 x226.d:=x226.ft
abbrev x234:XT Tryz.prog 234:=mkF
instance t234:FT Tryz.prog 234 x234.d:=x234.ft
abbrev x243:XT Tryz.prog 243:=mkF
instance t243:FT Tryz.prog 243 x243.d:=x243.ft
abbrev x242:XT Tryz.prog 242:=mkF
instance t242:FT Tryz.prog 242 x242.d:=x242.ft
abbrev x181:XT Tryz.prog 181:=mkF
instance t181:FT Tryz.prog 181 x181.d:=x181.ft
abbrev x146:XT Tryz.prog 146:=mkF
instance t146:FT Tryz.prog 146 x146.d:=x146.ft
abbrev x182:XT Tryz.prog 182:=mkF
instance t182:FT Tryz.prog 182 x182.d:=x182.ft
abbrev x209:XT Tryz.prog 209:=mkF
instance t209:FT Tryz.prog 209 x209.d:=x209.ft
abbrev x45:XT Tryz.prog 45:=mkF
instance t45:FT Tryz.prog 45 x45.d:=x45.ft
abbrev x100:XT Tryz.prog 100:=mkF
instance t100:FT Tryz.prog 100 x100.d:=x100.ft
abbrev x46:XT Tryz.prog 46:=mkF
instance t46:FT Tryz.prog 46 x46.d:=x46.ft
abbrev x23:XT Tryz.prog 23:=mkF
instance t23:FT Tryz.prog 23 x23.d:=x23.ft
abbrev x14:XT Tryz.prog 14:=mkF
instance t14:FT Tryz.prog 14 x14.d:=x14.ft
theorem B5o{H:Hp}{cc j:Nat}{b:Blk}(hfr:∀i,cc<=i->H i=none)(h:H j=some b):j≠cc:=by
 rintro rfl;rw[hfr _ (A0D _)]at h;cases h
theorem W3{H:Hp}{cc:Nat}{b:Blk}{ds:List DV}(hfr:∀i,cc<=i->H i=none):GL (H.upd cc b) ds H ds:=GL.less' λj b hj=>by rw[h_ne (B5o hfr hj)];exact hj
theorem K1{K H':Hp}{cc:Nat}{ds:List DV}(hK:∀i,cc<=i->K i=none)(h:∀j,j<cc->H' j=K j):GL H' ds K ds:=GL.less λj=>by
 by_cases hj:j<cc
 ·exact .inr (h j hj).symm
 ·exact .inl (hK j (by omega))
theorem B7{H:Hp}{cc t:Nat}{b:Blk}(hfr:∀i,cc<=i->H i=none)(htc:t<cc):∀i,cc<=i->H.upd t b i=none:=λi hi=>by rw[hnO];exact hfr i hi
theorem rv4{s:Sym.St}{x i u:Nat}{a b c d:DV}{o:Bool}(h:s.T x=.ptr i 0)(hb:s.H i=some ⟨u,o,[a,b,c,d]⟩):A1t s [.cell x 4 true]=some (.agg [a,b,c,d]):=by
 simp only[A1t,A5g,h,ldv,ldB,hb];rfl
theorem c_rdok(L:List Tok)(E:Int)(s:Rd)(H:Hp)(cc t:Nat)(ht:H t=some (rdR L E s))(htc:t<cc):AC Tryz.prog 32 [.ptr t 0] H cc (λv H' c'=>v=.bool (okR s)/\H'=H):=by
 refine AC.go A2 λhfr=>?_;refine wAs ht ?_;exact⟨_,_,GL.refl _ _,rfl,rfl⟩
theorem c_peek(L:List Tok)(E:Int)(s:Rd)(H:Hp)(cc t:Nat)(ht:H t=some (rdR L E s))(htc:t<cc):AC Tryz.prog 124 [.ptr t 0] H cc (λv H' c'=>v=(A4 L E s).v/\H'=H):=by
 refine AC.go A2 λhfr=>?_;have ne0:=Q8 t cc (by omega);by_cases hlt:s.i<L.length
 ·have hd:decide ((s.i:Int)<L.length)=true:=by simpa using hlt
  have hg:=A0B hlt;have e:A4 L E s=L[s.i]:=by unfold A4;rw[A1E,hg];rfl
  rw[e];generalize L[s.i]=a at hg;refine wA5 ht hd hg ne0 @A0 @A1 ?_;rw[C9 (v:=a.v) (rv4 rfl A0)];exact⟨_,_,W3 hfr,rfl,rfl⟩
 ·have hd:decide ((s.i:Int)<L.length)=false:=by simpa using hlt
  have e:A4 L E s=⟨0,[],0,E⟩:=by unfold A4;rw[A1E,A2Z (by omega)];rfl
  rw[e];refine wA2 ht hd ne0 @A0 @A1 ?_;rw[C9 (v:=Tok.v ⟨0,[],0,E⟩) (rv4 rfl A0)];exact⟨_,_,W3 hfr,rfl,rfl⟩
theorem c_fail(L:List Tok)(E:Int)(s:Rd)(H:Hp)(cc t:Nat)(ht:H t=some (rdR L E s))(htc:t<cc)(p e:Int):AC Tryz.prog 123 [.ptr t 0,I64 p,I64 e] H cc (λv H' c'=>v=.tup []/\H'=H.upd t (rdR L E (L9 s p e))):=by
 refine AC.go A2 λhfr=>?_;cases h:okR s with
 |true =>
  have e0:L9 s p e = { s with e:=e,pos:=p }:=by rw[L9,if_pos h]
  have h':(s.e==0)=true:=h;rw[e0];refine wA2 ht h' h @A0 @A1 ?_;exact⟨_,_,GL.refl _ _,rfl,rfl⟩
 |false =>
  have e0:L9 s p e=s:=by rw[L9,if_neg (by simp[h])]
  have h':(s.e==0)=false:=h;rw[e0];refine wA2 ht h' h @A0 @A1 ?_;refine⟨_,_,GL.refl _ _,rfl,?_⟩
  funext j
  by_cases ej:j=t
  ·subst ej;rw[A0,ht]
  ·rw[h_ne ej]
theorem upd_same{H:Hp}{t:Nat}{b:Blk}(h:H t=some b):H.upd t b=H:=by
 funext j
 by_cases ej:j=t
 ·subst ej;rw[A0,h]
 ·rw[h_ne ej]
theorem c_is(L:List Tok)(E:Int)(s:Rd)(H:Hp)(cc t:Nat)(ht:H t=some (rdR L E s))(htc:t<cc)(x:List UInt8):AC Tryz.prog 73 [.ptr t 0,.str x] H cc (λv H' c'=>v=.bool (isR L E s x)/\H'=H):=by
 refine AC.go A2 λhfr=>?_;refine wAp ?_;refine AC.call (c_peek L E s _ _ t ht (by omega)) ?_;rintro v H' c1 ⟨rfl,rfl⟩ hc;have ne0:=Q8 t c1 (by omega);refine wAy ne0 @A0 @A1 ?_;refine AC.call (c_rdok L E s _ _ t (by rw[hnO];exact ht) (by omega)) ?_;rintro v H' c2 ⟨rfl,rfl⟩ hc2;simp only[go_sem,seval,ne0,A0,A1];repeat'((with_reducible first|apply wr|refine B0 ?_ ?_|apply wb2<;>(intro hb;try simp only[hb]))<;>try simp only[go_sem,seval,ne0,A0,A1])
 all_goals exact⟨_,_,W3 (λi hi=>hfr i (by omega)),by simp_all[isR],rfl⟩
theorem c_isKind(L:List Tok)(E:Int)(s:Rd)(H:Hp)(cc t:Nat)(ht:H t=some (rdR L E s))(htc:t<cc)(k:Int):AC Tryz.prog 164 [.ptr t 0,I64 k] H cc (λv H' c'=>v=.bool (I9 L E s k)/\H'=H):=by
 refine AC.go A2 λhfr=>?_;refine wAp ?_;refine AC.call (c_rdok L E s _ _ t ht (by omega)) ?_;rintro v H' c1 ⟨rfl,rfl⟩ hc;by_cases h:okR s=true
 ·refine wAu h ?_;refine AC.call (c_peek L E s _ _ t ht (by omega)) ?_;rintro v H' c2 ⟨rfl,rfl⟩ hc2;refine wAu h ?_;exact⟨_,_,GL.refl _ _,by rw[I9,h];rfl,rfl⟩
 ·have h:okR s=false:=by simpa using h
  refine wAu h ?_;exact⟨_,_,GL.refl _ _,by rw[I9,h];rfl,rfl⟩
theorem c_syntax(L:List Tok)(E:Int)(s:Rd)(H:Hp)(cc t:Nat)(ht:H t=some (rdR L E s))(htc:t<cc):AC Tryz.prog 74 [.ptr t 0] H cc (λv H' c'=>v=.tup []/\H'=H.upd t (rdR L E (R6 L E s))):=by
 refine AC.go A2 λhfr=>?_;refine wAp ?_;refine AC.call (c_peek L E s _ _ t ht (by omega)) ?_;rintro v H' c1 ⟨rfl,rfl⟩ hc;refine wAq ?_;refine AC.call (c_fail L E s _ _ t ht (by omega) _ _) ?_;rintro v H' c2 ⟨rfl,rfl⟩ hc2;refine wAq ?_;exact⟨_,_,GL.refl _ _,rfl,rfl⟩
theorem c_limit(L:List Tok)(E:Int)(s:Rd)(H:Hp)(cc t:Nat)(ht:H t=some (rdR L E s))(htc:t<cc)(n m e:Int):AC Tryz.prog 71 [.ptr t 0,I64 n,I64 m,I64 e] H cc (λv H' c'=>v=.tup []/\H'=H.upd t (rdR L E (D3 L E s n m e))):=by
 refine AC.go A2 λhfr=>?_;by_cases h:m<n
 ·have hd:decide (n>m)=true:=by simpa using h
  have e0:D3 L E s n m e=L9 s (A4 L E s).pos e:=by rw[D3,if_pos h]
  rw[e0];refine wAs hd ?_;refine AC.call (c_peek L E s _ _ t ht (by omega)) ?_;rintro v H' c1 ⟨rfl,rfl⟩ hc;refine wAq ?_;refine AC.call (c_fail L E s _ _ t ht (by omega) _ _) ?_;rintro v H' c2 ⟨rfl,rfl⟩ hc2;refine wAq ?_;exact⟨_,_,GL.refl _ _,rfl,rfl⟩
 ·have hd:decide (n>m)=false:=by simpa using h
  have e0:D3 L E s n m e=s:=by rw[D3,if_neg h]
  rw[e0];refine wAs hd ?_;exact⟨_,_,GL.refl _ _,rfl,(upd_same ht).symm⟩
theorem c_expect(L:List Tok)(E:Int)(s:Rd)(H:Hp)(cc t:Nat)(ht:H t=some (rdR L E s))(htc:t<cc)(hi:s.i<=10000000000)(x:List UInt8):AC Tryz.prog 127 [.ptr t 0,.str x] H cc (λv H' c'=>v=.tup []/\H'=H.upd t (rdR L E (D9 L E s x))):=by
 refine AC.go A2 λhfr=>?_;refine wAp ?_;refine AC.call (c_is L E s _ _ t ht (by omega) x) ?_;rintro v H' c1 ⟨rfl,rfl⟩ hc;cases h:isR L E s x with
 |false =>
  have e0:D9 L E s x=R6 L E s:=by rw[D9,if_pos h]
  rw[e0];refine wAu h ?_;refine AC.call (c_syntax L E s _ _ t ht (by omega)) ?_;rintro v H' c2 ⟨rfl,rfl⟩ hc2;refine wAq ?_;exact⟨_,_,GL.refl _ _,rfl,rfl⟩
 |true =>
  have hw:IntKind.i64.wrap ((s.i:Int)+1)=((s.i+1:Nat):Int):=i7
  have e0:D9 L E s x=A6 s:=by rw[D9,if_neg (by simp[h])]
  rw[e0];refine wA3 h ht hw @A0 @A1 ?_;exact⟨_,_,GL.refl _ _,rfl,rfl⟩
theorem c_take(L:List Tok)(E:Int)(s:Rd)(H:Hp)(cc t:Nat)(ht:H t=some (rdR L E s))(htc:t<cc)(hi:s.i<=10000000000)(k:Int):AC Tryz.prog 126 [.ptr t 0,I64 k] H cc (λv H' c'=>v=(A7 L E s k).1.v/\H'=H.upd t (rdR L E (A7 L E s k).2)):=by
 refine AC.go A2 λhfr=>?_;refine wAp ?_;refine AC.call (c_peek L E s _ _ t (by rw[hnO];exact ht) (by omega)) ?_;rintro v H' c1 ⟨rfl,rfl⟩ hc;have ne0:=M7 t cc c1 (by omega);refine wAu (wJ ne0 @A0) ?_;refine AC.call (c_isKind L E s _ _ t (by rw[hnO,hnO,hnO];exact ht) (by omega) k) ?_;rintro v H' c2 ⟨rfl,rfl⟩ hc2;cases h:I9 L E s k with
 |false =>
  have e0:A7 L E s k=(V1,R6 L E s):=by rw[A7,if_pos h]
  rw[e0];refine wA0 ne0 h @A0 @A1 ?_;refine AC.call (c_syntax L E s _ _ t (by rw[hnO,hnO];exact ht) (by omega)) ?_;rintro v H' c3 ⟨rfl,rfl⟩ hc3;refine wAy ne0 @A0 @A1 ?_;rw[C9 (v:=V1.v) (rv4 rfl A0)];exact⟨_,_,K1 (B7 hfr htc) (λj hj=>by simp[Hp.upd,show ¬j=cc by omega,show ¬j=c1 by omega]),rfl,rfl⟩
 |true =>
  have hw:IntKind.i64.wrap ((s.i:Int)+1)=((s.i+1:Nat):Int):=i7
  have e0:A7 L E s k=(A4 L E s,A6 s):=by rw[A7,if_neg (by simp[h])]
  rw[e0];refine wA6 ne0 ht hw h @A0 @A1 ?_;rw[C9 (v:=(A4 L E s).v) (rv4 rfl A0)];exact⟨_,_,K1 (B7 hfr htc) (λj hj=>by simp[Hp.upd,show ¬j=cc by omega,show ¬j=c1 by omega];rfl),rfl,rfl⟩
theorem c_name(L:List Tok)(E:Int)(s:Rd)(H:Hp)(cc t:Nat)(ht:H t=some (rdR L E s))(htc:t<cc)(hi:s.i<=10000000000):AC Tryz.prog 125 [.ptr t 0] H cc (λv H' c'=>v=.str (A7 L E s 1).1.text/\H'=H.upd t (rdR L E (A7 L E s 1).2)):=by
 refine AC.go A2 λhfr=>?_;refine wAp ?_;refine AC.call (c_take L E s _ _ t ht (by omega) hi 1) ?_;rintro v H' c1 ⟨rfl,rfl⟩ hc;refine wAq ?_;exact⟨_,_,GL.refl _ _,rfl,rfl⟩
abbrev Z2(l:List (List UInt8)):DV:=.lst (l.map DV.str)
theorem c_among(L:List Tok)(E:Int)(s:Rd)(H:Hp)(cc t:Nat)(ht:H t=some (rdR L E s))(htc:t<cc)(l:List (List UInt8))(hl:l.length<=1000000):AC Tryz.prog 69 [.ptr t 0,Z2 l] H cc (λv H' c'=>v=I64 (B8 L E s l)/\H'=H):=by
 refine AC.go A2 λhfr=>?_;refine wAp ?_;refine B6 (λk:Nat=>[(0,.ptr t 0),(1,Z2 l),(5,I64 k)]) (λ_=>H) (λk c=>cc<=c/\k<=l.length/\B8 L E s l=A0q L E s k (l.drop k)) (λk=>l.length-k) 0 (by simp[B5,tm,Tm.upd]) (Sub.refl _) ⟨b8,by simp,rfl⟩ ?_;rintro k c ⟨hc,hk,hv⟩;by_cases hlt:k<l.length
 ·have hd:=dtz hlt;have hg:=A0B hlt;have hw:IntKind.i64.wrap ((k:Int)+1)=((k+1:Nat):Int):=by rw[w6z];omega
  rw[A0Z hlt,A0q]at hv;generalize l[k]=a at hg hv;refine wAs (wJ hd hg) ?_;refine AC.call (c_is L E s _ _ t ht (by omega) a) ?_;rintro v H' c1 ⟨rfl,rfl⟩ hc1;cases h:isR L E s a with
  |true =>
   rw[if_pos h]at hv;rw[hv];refine wAu h ?_;exact⟨_,_,GL.refl _ _,rfl,rfl⟩
  |false =>
   rw[if_neg (by simp[h])]at hv;refine wAu (wJ h hw) ?_;exact⟨k+1,rfl,Sub.refl _,inv ⟨b8,hlt,hv⟩,by omega⟩
 ·have hd:=dfz hlt;have hk:k=l.length:=by omega
  rw[hk,A3G,A0q]at hv;rw[hv];refine wAs hd ?_;exact⟨_,_,GL.refl _ _,rfl,rfl⟩
theorem A2p(l:List (List UInt8)):cellsL (l.map DV.str)=l.map DV.str:=A1d (λ_=>rfl) l
theorem c_amongO(L:List Tok)(E:Int)(s:Rd)(K:Hp)(cc t b:Nat)(hK:K b=none)(ht:K t=some (rdR L E s))(htc:t<cc)(l:List (List UInt8))(hl:l.length<=1000000):
  AC Tryz.prog 69 [.ptr t 0,.slc b 0 l.length] (K.upd b ⟨1,true,l.map DV.str⟩) cc (λv H' c'=>v=I64 (B8 L E s l)/\H'=K) :=
 AC.ghost (GL.frzS (id:=b) A0 rfl (λj=>by
  by_cases e:j=b
  ·subst e;exact .inl hK
  ·exact .inr ⟨e,(h_ne e).symm⟩) (.cons _ _ _ _ (.same _) (.cons _ _ _ _ (Q2 (u:=1) (by simp) (N4 _) ⟨[],by rw[A0Y,A2p]⟩) .nil))) (c_among L E s K cc t ht htc l hl)
theorem E8c{ρ:Ren}{v:Value}{a b c e:DV}(h:VRel ρ (.agg [a,b,c,.snil,e]) v):VRel ρ (.agg [a,b,c,.lst [],e]) v:=by
 obtain⟨bb,rfl,k1,k2⟩:=h.agg_inv;refine .agg _ _ k1 λj x y hx hy=>?_
 match j with
 |0=>cases hx;exact k2 0 _ y rfl hy
 |1=>cases hx;exact k2 1 _ y rfl hy
 |2=>cases hx;exact k2 2 _ y rfl hy
 |3=>cases hx;exact(k2 3 _ y rfl hy).snil_lst
 |4=>cases hx;exact k2 4 _ y rfl hy
 |_+5=>cases hx
theorem A2u{K H':Hp}{cc:Nat}{a b c e:DV}(hK:∀i,cc<=i->K i=none)(h:∀j,j<cc->H' j=K j):GL H' [.agg [a,b,c,.snil,e]] K [.agg [a,b,c,.lst [],e]] :=
 (K1 hK h).trans (GL.view fun ρ vs hA=>M6 (λv h=>E8c h) vs hA)
theorem rv5{s:Sym.St}{x i u:Nat}{a b c d e:DV}{o:Bool}(h:s.T x=.ptr i 0)(hb:s.H i=some ⟨u,o,[a,b,c,d,e]⟩):A1t s [.cell x 5 true]=some (.agg [a,b,c,d,e]):=by
 simp only[A1t,A5g,h,ldv,hb];rfl
theorem A2r(L:List Tok)(E:Int)(s:Rd):∀(l:List (List UInt8)) (k:Nat), -1<=A0q L E s k l/\A0q L E s k l<((k+l.length:Nat):Int)
 |[],k=>by simp[A0q];omega
 |x::l,k=>by
  have:=A2r L E s l (k+1);unfold A0q;split
  ·simp only[A0G];omega
  ·simp only[A0G];omega
theorem E4z{L:List Tok}{E:Int}{s:Rd}{n m e:Int}:(D3 L E s n m e).i=s.i:=by unfold D3 L9;split<;>(try split)<;>rfl
abbrev tkB(a:Tok):Blk:=⟨0,true,[I64 a.kind,.str a.text,I64 a.value,I64 a.pos]⟩
abbrev A5k:Blk:=⟨0,true,[I64 0,I64 0,.str [],.snil,I64 0]⟩
theorem c_primary(L:List Tok)(E:Int)(s:Rd)(H:Hp)(cc t:Nat)(ht:H t=some (rdR L E s))(htc:t<cc)(hi:s.i<=9999999999)(ho:0<=s.ops/\s.ops<=100):AC Tryz.prog 239 [.ptr t 0] H cc (λv H' c'=>v=(I7 L E s).1.v/\H'=H.upd t (rdR L E (I7 L E s).2)):=by
 refine AC.go A2 λhfr=>?_;refine wAp ?_;refine AC.call (c_peek L E s _ _ t (by rw[hnO];exact ht) (by omega)) ?_;rintro v H' c1 ⟨rfl,rfl⟩ hc;have ne0:=V3 t cc c1 (c1+1) (by omega);refine wAy ne0 @A0 @A1 ?_;have ham:=c_amongO L E s ((H.upd cc ⟨0,true,[I64 0,I64 0,.str [],.snil,I64 0]⟩).upd c1 ⟨0,true,[I64 (A4 L E s).kind,.str (A4 L E s).text,I64 (A4 L E s).value,I64 (A4 L E s).pos]⟩) (c1+1+1) t (c1+1) (by rw[hnO,hnO];exact hfr _ (by omega)) (by rw[hnO,hnO];exact ht) (by omega) K7 (by decide);refine AC.call ham ?_;rintro v H' c2 ⟨rfl,rfl⟩ hc2;have hpr:I7 L E s=I7 L E s:=rfl
 conv at hpr=>rhs;unfold I7
 have hkr : -1<=B8 L E s K7/\B8 L E s K7<7:=A2r L E s K7 0;generalize B8 L E s K7=k at hpr hkr;have hk0 : -1<=k/\k<7:=hkr;have hw:IntKind.i64.wrap (s.ops+1)=s.ops+1:=w6z;have tail:∀c3,c2<=c3->¬(k<0/\I9 L E s 3=false/\I9 L E s 1=false)->IW Tryz.prog 78 (pz Tryz.prog 239 (.i (.o (.o (.o .h))))) ⟨tm [(0,.ptr t 0),(2,.ptr cc 0),(3,.ptr c1 0),(4,I64 k),(22,.bool false)],(H.upd cc A5k).upd c1 (tkB (A4 L E s)),c3⟩ (rt [.cell 2 5 true] λv H' c' => ∃v2 H2,GL H' [v] H2 [v2]/\v2=(I7 L E s).1.v/\H2=H.upd t (rdR L E (I7 L E s).2)):=by
  intro c3 hc3 hcd;rw[if_neg hcd]at hpr;dsimp only at hpr;refine wA2 ht hw ne0 @A0 @A1 ?_;refine AC.call (c_limit L E { s with ops:=s.ops+1 } _ _ t A0 (by omega) _ _ _) ?_;rintro v H' c4 ⟨rfl,rfl⟩ hc4;have hi2:(D3 L E { s with ops:=s.ops+1 } (s.ops+1) 32 9).i=s.i:=E4z;generalize D3 L E { s with ops:=s.ops+1 } (s.ops+1) 32 9=s2 at *;refine wAu @A1 ?_;refine AC.call (c_rdok L E s2 _ _ t A0 (by omega)) ?_;rintro v H' c5 ⟨rfl,rfl⟩ hc5;have hG:∀(b5:Blk) (j:Nat),j<cc->(((H.upd cc b5).upd c1 (tkB (A4 L E s))).upd t (rdR L E s2)) j=(H.upd t (rdR L E s2)) j:=λb5 j hj=>by simp[Hp.upd,show ¬j=cc by omega,show ¬j=c1 by omega]
  cases h2:okR s2 with
  |false =>
   rw[if_pos h2]at hpr;rw[hpr];refine wA0 h2 ne0 @A0 @A1 ?_;rw[C9 (v:=.agg [I64 0,I64 0,.str [],.snil,I64 0]) (rv5 rfl A0)];refine⟨_,_,A2u (cc:=cc) (B7 hfr htc) (λj hj=>?_),rfl,rfl⟩;simp[Hp.upd,show ¬j=cc by omega,show ¬j=c1 by omega]
  |true =>
   rw[if_neg (by simp[h2])]at hpr;have hw2:IntKind.i64.wrap ((s2.i:Int)+1)=((s2.i+1:Nat):Int):=i7
   simp only[go_sem,seval,h2];by_cases hk1:0<=k
   ·rw[if_pos hk1]at hpr;have hd1:decide (k≥0)=true:=by simpa using hk1
    have ne0:=S7 t cc c1 c5 (c5+7) (by omega);by_cases h4:4<=k
    ·rw[if_pos h4]at hpr;rw[hpr];rcases(show k=4\/k=5\/k=6 by omega) with rfl|rfl|rfl
     all_goals
      refine wA5 h2 hw2 hd1 ne0 @A0 @A1 ?_;refine AC.call (c_name L E (A6 s2) _ _ t (by repeat (first|exact A0|rw[hnO])) (by omega) (by show s2.i+1<=10000000000;omega)) ?_;rintro v H' c6 ⟨rfl,rfl⟩ hc6;refine wAy ne0 @A0 @A1 ?_;rw[C9 (rv5 rfl A0)];refine⟨_,_,A2u (cc:=cc) (B7 hfr htc) (λj hj=>?_),rfl,rfl⟩;simp[Hp.upd,show ¬j=cc by omega,show ¬j=c1 by omega,show ¬j=c5 by omega,show ¬j=c5+7 by omega];try(split<;>rfl)
    ·rw[if_neg h4]at hpr;rw[hpr];rcases(show k=0\/k=1\/k=2\/k=3 by omega) with rfl|rfl|rfl|rfl
     all_goals
      refine wA5 h2 hw2 hd1 ne0 @A0 @A1 ?_;rw[C9 (rv5 rfl A0)];refine⟨_,_,A2u (cc:=cc) (B7 hfr htc) (λj hj=>?_),rfl,rfl⟩;simp[Hp.upd,show ¬j=cc by omega,show ¬j=c1 by omega,show ¬j=c5 by omega,show ¬j=c5+7 by omega];rfl
   ·rw[if_neg hk1]at hpr;have hd1:decide (k≥0)=false:=by simpa using hk1
    by_cases h3:(A4 L E s).kind=3
    ·rw[if_pos h3]at hpr;rw[hpr];have hd3:((A4 L E s).kind==3)=true:=by simpa using h3
     refine wA7 h2 hw2 hd1 hd3 ne0 @A0 @A1 ?_;rw[C9 (v:=.agg [I64 1,I64 (A4 L E s).value,.str [],.snil,I64 (A4 L E s).pos]) (rv5 rfl A0)];refine⟨_,_,A2u (cc:=cc) (B7 hfr htc) (λj hj=>?_),rfl,rfl⟩;simp[Hp.upd,show ¬j=cc by omega,show ¬j=c1 by omega];rfl
    ·rw[if_neg h3]at hpr;rw[hpr];have hd3:((A4 L E s).kind==3)=false:=by simpa using h3
     refine wA7 h2 hw2 hd1 hd3 ne0 @A0 @A1 ?_;rw[C9 (v:=.agg [I64 2,I64 0,.str (A4 L E s).text,.snil,I64 (A4 L E s).pos]) (rv5 rfl A0)];refine⟨_,_,A2u (cc:=cc) (B7 hfr htc) (λj hj=>?_),rfl,rfl⟩;simp[Hp.upd,show ¬j=cc by omega,show ¬j=c1 by omega];rfl
 have hGt:∀b5:Blk,((H.upd cc b5).upd c1 (tkB (A4 L E s))) t=some (rdR L E s):=λb5=>zal
 by_cases hk1:k<0
 ·have hd:decide (k<0)=true:=by simpa using hk1
  refine wAu (wJ ne0 hd) ?_;refine AC.call (c_isKind L E s _ _ t (hGt _) (by omega) 3) ?_;rintro v H' c3 ⟨rfl,rfl⟩ hc3;cases h3:I9 L E s 3 with
  |true =>
   refine wAk h3 ?_;exact tail _ (by omega) (by simp[h3])
  |false =>
   refine wAu h3 ?_;refine AC.call (c_isKind L E s _ _ t (hGt _) (by omega) 1) ?_;rintro v H' c4 ⟨rfl,rfl⟩ hc4;cases h1:I9 L E s 1 with
   |true =>
    refine wAk h1 ?_;exact tail _ (by omega) (by simp[h1])
   |false =>
    rw[if_pos ⟨hk1,h3,h1⟩]at hpr;rw[hpr];refine wAu h1 ?_;refine AC.call (c_syntax L E s _ _ t (hGt _) (by omega)) ?_;rintro v H' c5 ⟨rfl,rfl⟩ hc5;refine wAu (wJ ne0 @A0) ?_;rw[C9 (rv5 rfl A0)];refine⟨_,_,A2u (cc:=cc) (B7 hfr htc) (λj hj=>?_),rfl,rfl⟩;simp[Hp.upd,show ¬j=cc by omega,show ¬j=c1 by omega]
 ·have hd:decide (k<0)=false:=by simpa using hk1
  simp only[go_sem,seval,ne0,hd];(repeat'((with_reducible first|refine J8 (p:=IW _ _ (pz Tryz.prog 239 (.i (.o (.o (.o .h))))) _ _) ?_|refine wr ?_|refine B0 ?_ ?_|apply wb2<;>(intro hb;try simp only[hb]))<;>try simp only[go_sem,seval,hd]));exact tail _ (by omega) λh=>hk1 h.1
abbrev paB(L:List Tok)(E:Int)(s:Rd):Blk:=⟨0,true,[D6 L,I64 s.i,I64 E,I64 s.e,I64 s.pos,I64 s.ops,I64 s.par]⟩
theorem c_here(L:List Tok)(E:Int)(s:Rd)(H:Hp)(cc t:Nat)(ht:H t=some (paB L E s))(htc:t<cc):AC Tryz.prog 95 [.ptr t 0] H cc (λv H' c'=>v=(A4 L E s).v/\H'=H):=by
 refine AC.bodyT A2 rfl (A0C rfl) λhfr=>?_;have ne0:=Q8 t cc (by omega);by_cases hlt:s.i<L.length
 ·have hd:decide ((s.i:Int)<L.length)=true:=by simpa using hlt
  have hg:=A0B hlt;have e:A4 L E s=L[s.i]:=by unfold A4;rw[A1E,hg];rfl
  rw[e];generalize L[s.i]=a at hg;refine wA5 ht hd hg ne0 @A0 @A1 ?_;rw[C9 (v:=a.v) (rv4 rfl A0)];exact⟨_,_,W3 hfr,rfl,rfl⟩
 ·have hd:decide ((s.i:Int)<L.length)=false:=by simpa using hlt
  have e:A4 L E s=⟨0,[],0,E⟩:=by unfold A4;rw[A1E,A2Z (by omega)];rfl
  rw[e];refine wA2 ht hd ne0 @A0 @A1 ?_;rw[C9 (v:=Tok.v ⟨0,[],0,E⟩) (rv4 rfl A0)];exact⟨_,_,W3 hfr,rfl,rfl⟩
theorem c_pok(L:List Tok)(E:Int)(s:Rd)(H:Hp)(cc t:Nat)(ht:H t=some (paB L E s))(htc:t<cc):AC Tryz.prog 24 [.ptr t 0] H cc (λv H' c'=>v=.bool (okR s)/\H'=H):=by
 refine AC.bodyT A2 rfl (A0C rfl) λhfr=>?_;refine wAs ht ?_;exact⟨_,_,GL.refl _ _,rfl,rfl⟩
theorem c_pfail(L:List Tok)(E:Int)(s:Rd)(H:Hp)(cc t:Nat)(ht:H t=some (paB L E s))(htc:t<cc)(e:Int):AC Tryz.prog 44 [.ptr t 0,I64 e] H cc (λv H' c'=>v=.tup []/\H'=H.upd t (paB L E (pfl L E s e))):=by
 refine AC.bodyT A2 rfl (A0C rfl) λhfr=>?_;cases h:okR s with
 |true =>
  have e0:pfl L E s e = { s with e:=e,pos:=(A4 L E s).pos }:=by rw[pfl,L9,if_pos h]
  have h':(s.e==0)=true:=h;rw[e0];refine wA2 ht h' h @A0 @A1 ?_;refine AC.call (c_here L E s _ _ t ht (by omega)) ?_;rintro v H' c1 ⟨rfl,rfl⟩ hc;refine wAy ht @A0 @A1 ?_;exact⟨_,_,GL.refl _ _,rfl,rfl⟩
 |false =>
  have e0:pfl L E s e=s:=A0z h;have h':(s.e==0)=false:=h;rw[e0];refine wA2 ht h' h @A0 @A1 ?_;exact⟨_,_,GL.refl _ _,rfl,(upd_same ht).symm⟩
theorem c_Idx(x:List UInt8)(l:List (List UInt8))(hl:l.length<=1000000):PC Tryz.prog 98 [Z2 l,.str x] (I64 (L7 x 0 l)):=by
 refine PC.go A2 ?_;refine wAp ?_;refine B6 (λk:Nat=>[(0,Z2 l),(1,.str x),(7,I64 l.length),(8,I64 k)]) (λ_=>Sym.nil) (λk c=>k<=l.length/\L7 x 0 l=L7 x k (l.drop k)) (λk=>l.length-k) 0 (by simp[B5,tm,Tm.upd]) (Sub.refl _) ⟨b8,rfl⟩ ?_;rintro k c ⟨hk,hv⟩;by_cases hlt:k<l.length
 ·have hd:=dtz hlt;have hg:=A0B hlt;have hw:IntKind.i64.wrap ((k:Int)+1)=((k+1:Nat):Int):=by rw[w6z];omega
  rw[A0Z hlt,L7]at hv;generalize l[k]=a at hg hv;cases h:(x==a) with
  |true =>
   rw[if_pos h]at hv;rw[hv];refine wAx hd hg h ?_;exact A3 rfl
  |false =>
   rw[if_neg (by simp[h])]at hv;refine wAz hd hg h hw ?_;exact⟨k+1,rfl,Sub.refl _,inv ⟨hlt,hv⟩,by omega⟩
 ·have hd:=dfz hlt;have hk:k=l.length:=by omega
  rw[hk,A3G,L7]at hv;rw[hv];refine wAs hd ?_;exact A3 rfl
theorem c_Cont(x:List UInt8)(l:List (List UInt8))(hl:l.length<=1000000):PC Tryz.prog 96 [Z2 l,.str x] (.bool (l.contains x)):=by
 have e:decide (L7 x 0 l≥0)=l.contains x:=by
  rcases B1k x l 0 with ⟨h1,h2⟩|⟨h1,h2,h3⟩
  ·rw[h1,h2];rfl
  ·rw[h3];exact decide_eq_true (by simpa using h1)
 refine PC.go A2 ?_;refine wBc (c_Idx x l hl) e ?_;exact A3 rfl
theorem c_pis(L:List Tok)(E:Int)(s:Rd)(H:Hp)(cc t:Nat)(ht:H t=some (paB L E s))(htc:t<cc)(k:Int)(l:List (List UInt8))(hl:l.length<=1000000):AC Tryz.prog 42 [.ptr t 0,I64 k,Z2 l] H cc (λv H' c'=>v=.bool (isP L E s k l)/\H'=H):=by
 refine AC.bodyT A2 rfl (A0C rfl) λhfr=>?_;refine wAp ?_;refine AC.call (c_here L E s _ _ t ht (by omega)) ?_;rintro v H' c1 ⟨rfl,rfl⟩ hc;have ne0:=Q8 t c1 (by omega);refine wAy ne0 @A0 @A1 ?_;refine AC.call (c_pok L E s _ _ t (by rw[hnO];exact ht) (by omega)) ?_;rintro v H' c2 ⟨rfl,rfl⟩ hc2;simp only[go_sem,seval,ne0,A0,A1];repeat'((with_reducible first|apply wr|refine cpc (c_Cont _ l hl) ?_|refine B0 ?_ ?_|apply wb2<;>(intro hb;try simp only[hb]))<;>try simp only[go_sem,seval,ne0,A0,A1])
 all_goals exact⟨_,_,W3 (λi hi=>hfr i (by omega)),by simp_all[isP],rfl⟩
theorem c_pisO(L:List Tok)(E:Int)(s:Rd)(K:Hp)(cc t b:Nat)(hK:K b=none)(ht:K t=some (paB L E s))(htc:t<cc)(k:Int)(l:List (List UInt8))(hl:l.length<=1000000):
  AC Tryz.prog 42 [.ptr t 0,I64 k,.slc b 0 l.length] (K.upd b ⟨1,true,l.map DV.str⟩) cc (λv H' c'=>v=.bool (isP L E s k l)/\H'=K) :=
 AC.ghost (GL.frzS (id:=b) A0 rfl (λj=>by
  by_cases e:j=b
  ·subst e;exact .inl hK
  ·exact .inr ⟨e,(h_ne e).symm⟩) (.cons _ _ _ _ (.same _) (.cons _ _ _ _ (.same _) (.cons _ _ _ _ (Q2 (u:=1) (by simp) (N4 _) ⟨[],by rw[A0Y,A2p]⟩) .nil)))) (c_pis L E s K cc t ht htc k l hl)
theorem c_want(L:List Tok)(E:Int)(s:Rd)(H:Hp)(cc t:Nat)(ht:H t=some (paB L E s))(htc:t<cc)(hi:s.i<=10000000000)(k:Int)(w:List UInt8):AC Tryz.prog 99 [.ptr t 0,I64 k,.str w] H cc (λv H' c'=>v=.tup []/\H'=H.upd t (paB L E (H8 L E s k w))):=by
 refine AC.bodyT A2 rfl (A0C rfl) λhfr=>?_;have hio:=c_pisO L E s H (cc+1) t cc (hfr _ (A0D _)) ht (by omega) k [w] (by simp);refine wAp ?_;refine AC.call hio ?_;rintro v H' c1 ⟨rfl,rfl⟩ hc;cases h:isP L E s k [w] with
 |false =>
  have e0:H8 L E s k w=pfl L E s 4:=by rw[H8,if_pos h]
  rw[e0];refine wAu h ?_;refine AC.call (c_pfail L E s _ _ t ht (by omega) 4) ?_;rintro v H' c2 ⟨rfl,rfl⟩ hc2;refine wAq ?_;exact⟨_,_,GL.refl _ _,rfl,rfl⟩
 |true =>
  have hw:IntKind.i64.wrap ((s.i:Int)+1)=((s.i+1:Nat):Int):=i7
  have e0:H8 L E s k w=A6 s:=by rw[H8,if_neg (by simp[h])]
  rw[e0];refine wA3 h ht hw @A0 @A1 ?_;exact⟨_,_,GL.refl _ _,rfl,rfl⟩
theorem c_ptake(L:List Tok)(E:Int)(s:Rd)(H:Hp)(cc t:Nat)(ht:H t=some (paB L E s))(htc:t<cc)(hi:s.i<=10000000000)(k:Int):AC Tryz.prog 97 [.ptr t 0,I64 k] H cc (λv H' c'=>v=(A7 L E s k).1.v/\H'=H.upd t (paB L E (A7 L E s k).2)):=by
 refine AC.bodyT A2 rfl (A0C rfl) λhfr=>?_;refine wAp ?_;refine AC.call (c_here L E s _ _ t (by rw[hnO];exact ht) (by omega)) ?_;rintro v H' c1 ⟨rfl,rfl⟩ hc;have ne0:=M7 t cc c1 (by omega);have hGt:((H.upd cc ⟨0,true,[I64 0,.str [],I64 0,I64 0]⟩).upd c1 (tkB (A4 L E s))) t=some (paB L E s):=zal
 refine wAy ne0 @A0 @A1 ?_;refine AC.call (c_pok L E s _ _ t hGt (by omega)) ?_;rintro v H' c2 ⟨rfl,rfl⟩ hc2;have hks:I9 L E s k=(okR s&&(A4 L E s).kind==k):=rfl;cases h1:okR s with
 |false =>
  have e0:A7 L E s k=(V1,pfl L E s 4):=by rw[A7,hks,h1];rfl
  rw[e0];refine wA0 ne0 h1 @A0 @A1 ?_;refine AC.call (c_pfail L E s _ _ t hGt (by omega) 4) ?_;rintro v H' c3 ⟨rfl,rfl⟩ hc3;refine wAy ne0 @A0 @A1 ?_;rw[C9 (v:=V1.v) (rv4 rfl A0)];exact⟨_,_,K1 (B7 hfr htc) (λj hj=>by simp[Hp.upd,show ¬j=cc by omega,show ¬j=c1 by omega]),rfl,rfl⟩
 |true =>
  cases h2:((A4 L E s).kind==k) with
  |false =>
   have h3:((A4 L E s).kind != k)=true:=by rw[bne,h2];rfl
   have e0:A7 L E s k=(V1,pfl L E s 4):=by rw[A7,hks,h1,h2];rfl
   rw[e0];refine wA3 ne0 h1 h3 @A0 @A1 ?_;refine AC.call (c_pfail L E s _ _ t hGt (by omega) 4) ?_;rintro v H' c3 ⟨rfl,rfl⟩ hc3;refine wAy ne0 @A0 @A1 ?_;rw[C9 (v:=V1.v) (rv4 rfl A0)];exact⟨_,_,K1 (B7 hfr htc) (λj hj=>by simp[Hp.upd,show ¬j=cc by omega,show ¬j=c1 by omega]),rfl,rfl⟩
  |true =>
   have h3:((A4 L E s).kind != k)=false:=by rw[bne,h2];rfl
   have hw:IntKind.i64.wrap ((s.i:Int)+1)=((s.i+1:Nat):Int):=i7
   have e0:A7 L E s k=(A4 L E s,A6 s):=by rw[A7,hks,h1,h2];rfl
   rw[e0];refine wAu (wJ ne0 (wJ h1 (wJ h3 (wJ hGt (wJ ht (wJ hw (wJ @A0 @A1))))))) ?_;rw[C9 (v:=(A4 L E s).v) (rv4 rfl A0)];exact⟨_,_,K1 (B7 hfr htc) (λj hj=>by simp[Hp.upd,show ¬j=cc by omega,show ¬j=c1 by omega];rfl),rfl,rfl⟩
theorem c_pend(L:List Tok)(E:Int)(s:Rd)(H:Hp)(cc t:Nat)(ht:H t=some (paB L E s))(htc:t<cc):AC Tryz.prog 47 [.ptr t 0] H cc (λv H' c'=>v=.tup []/\H'=H.upd t (paB L E (if s.i<L.length then pfl L E s 4 else s))):=by
 refine AC.bodyT A2 rfl (A0C rfl) λhfr=>?_;by_cases h:s.i<L.length
 ·have hd:decide ((s.i:Int)<L.length)=true:=by simpa using h
  rw[if_pos h];refine wAs (wJ ht hd) ?_;refine AC.call (c_pfail L E s _ _ t ht (by omega) 4) ?_;rintro v H' c1 ⟨rfl,rfl⟩ hc;refine wAq ?_;exact⟨_,_,GL.refl _ _,rfl,rfl⟩
 ·have hd:decide ((s.i:Int)<L.length)=false:=by simpa using h
  rw[if_neg h];refine wAs (wJ ht hd) ?_;exact⟨_,_,GL.refl _ _,rfl,(upd_same ht).symm⟩
theorem c_IdxO(x:List UInt8)(l:List (List UInt8))(hl:l.length<=100000000)(H:Hp)(c:Nat)(o:Option Nat)(hn:o=none->l=[])(hb:∀i,o=some i->H i=some ⟨1,true,txC l⟩):
  AC Tryz.prog 98 [todoV o l.length,.str x] H c (λv H' c'=>v=I64 (L7 x 0 l)/\H'=H):=by
 cases o with
 |none =>
  obtain rfl:=hn rfl;refine AC.go A2 λhfr=>?_;refine wAp ?_;refine B6 (λk:Nat=>[(0,.snil),(1,.str x),(7,I64 0),(8,I64 0)]) (λ_=>H) (λk c=>True) (λk=>0) 0 (by simp[B5,tm,Tm.upd]) (Sub.refl _) trivial ?_;rintro k c' -;refine wAp ?_;exact⟨_,_,GL.refl _ _,rfl,rfl⟩
 |some i =>
  have hi:=hb i rfl;refine AC.go A2 λhfr=>?_;refine wAp ?_;refine B6 (λk:Nat=>[(0,.slc i 0 l.length),(1,.str x),(7,I64 l.length),(8,I64 k)]) (λ_=>H) (λk c=>k<=l.length/\L7 x 0 l=L7 x k (l.drop k)) (λk=>l.length-k) 0 (by simp[B5,tm,Tm.upd]) (Sub.refl _) ⟨b8,rfl⟩ ?_;rintro k c' ⟨hk,hv⟩;by_cases hlt:k<l.length
  ·have hd:=dtz hlt;have hg:=A0B hlt;have hw:IntKind.i64.wrap ((k:Int)+1)=((k+1:Nat):Int):=by rw[w6z];omega
   rw[A0Z hlt,L7]at hv;generalize l[k]=a at hg hv;have hc:(txC l)[k]? = some (.str a):=v8
   cases h:(x==a) with
   |true =>
    rw[if_pos h]at hv;rw[hv];refine wA2 hi hd hc h hlt ?_;exact⟨_,_,GL.refl _ _,rfl,rfl⟩
   |false =>
    rw[if_neg (by simp[h])]at hv;refine wA5 hi hd hc h hw hlt ?_;exact⟨k+1,rfl,Sub.refl _,inv ⟨hlt,hv⟩,by omega⟩
  ·have hd:=dfz hlt;have hk:k=l.length:=by omega
   rw[hk,A3G,L7]at hv;rw[hv];refine wAs (wJ hi hd) ?_;exact⟨_,_,GL.refl _ _,rfl,rfl⟩
theorem D1g(S:List (List UInt8))(x:List UInt8):(L7 x 0 S = -1/\txS S x=(S.length,S++[x]))\/(L7 x 0 S=((txS S x).1:Int)/\(txS S x).2=S):=by
 have key:∀(S:List (List UInt8)) (k:Nat),(L7 x k S = -1/\x ∉ S)\/(L7 x k S=((k+S.idxOf x:Nat):Int)/\x∈S):=by
  intro S
  induction S with
  |nil=>intro k;exact .inl ⟨rfl,by simp⟩
  |cons a S ih =>
   intro k;rw[L7];by_cases h:(x==a)=true
   ·have e:x=a:=by simpa using h
    subst e;right;rw[if_pos h];simp
   ·have e:¬x=a:=by simpa using h
    have e2:¬a=x:=λq=>e q.symm;rw[if_neg h];rcases ih (k+1) with ⟨h1,h2⟩|⟨h1,h2⟩
    ·exact .inl ⟨h1,by simp[e,h2]⟩
    ·refine .inr ⟨?_,by simp[h2]⟩;rw[h1,List.idxOf_cons];have:(a==x)=false:=by simpa using e2
     rw[this];simp only[cond_false];omega
 unfold txS;rcases key S 0 with ⟨h1,h2⟩|⟨h1,h2⟩
 ·exact .inl ⟨h1,by rw[if_neg h2]⟩
 ·right;rw[if_pos h2,h1];simp
theorem C2q(S:List (List UInt8)):(txC S).length=S.length*1:=by rw[A0I,A4F]
theorem c_gtext(e p v m:DV)(t n:Int)(s:List UInt8)(x:Cg)(hx:x.2.length<=100000000):GC 65 (mkP e p v m t n) [.str s] x (x.1,(txS x.2 s).2) (I64 (txS x.2 s).1):=by
 intro H0 c t' a b h;refine AC.go A2 λhfr=>?_;have hM:=A0c (mk:=mkP e p v m t n) h;have h1:=h.tc;(repeat'((with_reducible first|apply wr|refine B0 ?_ ?_|apply wb2<;>(intro hb;try simp only[hb]))<;>try simp only[go_sem,seval,hM]));refine AC.call (c_IdxO s x.2 hx _ _ b h.bn (λi hi=>A8j hi)) ?_;rintro _ H' c1 ⟨rfl,rfl⟩ hc;rcases D1g x.2 s with ⟨q1,q2⟩|⟨q1,q2⟩
 ·rw[q1,q2];have ne0:=M7 t' c1 (c1+1) (by omega);simp only[go_sem,seval,hM,ne0];have hln:=P5 (o:=b) (n:=x.2.length) (λe=>S3 (h.bn e));(repeat'((with_reducible first|apply wr|refine B0 ?_ ?_|apply wb2<;>(intro hb;try simp only[hb]))<;>try simp only[go_sem,seval,hM,ne0,hln]));refine G7 (D4 (cs:=txC x.2) (λe=>⟨S3 (h.bn e),by rw[h.bn e];rfl⟩) (λi hi=>?_) (C2q _) (by omega) (by omega) (by omega)) ?_
  ·have:=h.hb i hi;rw[hnO];exact A8j hi
  have dm:∀X,delO X b t'=X t':=λX=>A9 (λi hi e=>(h.hb i hi).1 e.symm);simp only[go_sem,seval,dm,hM,ne0,A0];(repeat'((with_reducible first|apply wr|refine B0 ?_ ?_|apply wb2<;>(intro hb;try simp only[hb]))<;>try simp only[go_sem,seval,dm,hM,ne0,A0]));refine⟨_,_,GL.less' (C8e (y:=(x.1,x.2++[s])) (i:=c1+1) (h.le hc) (by omega) rfl (by simp) (by simp[todoV])),rfl,a,some (c1+1),(h.le hc).newB (by omega) (by omega) rfl,rfl⟩
 ·have hd:decide (L7 s 0 x.2<0)=false:=by rw[q1];simp
  refine wAu hd ?_;rw[q1,q2];exact⟨_,_,GL.refl _ _,rfl,a,b,h.le hc,rfl⟩
theorem c_text34(d m:DV)(s:List UInt8)(x:Cg)(hx:x.2.length<=100000000):GC 139 (mkR d m) [.str s] x (x.1,(txS x.2 s).2) (I64 (txS x.2 s).1):=by
 intro H0 c t' a b h;refine AC.go A2 λhfr=>?_;have hM:=A0c (mk:=mkR d m) h;have h1:=h.tc;have hB:∀i,b=some i->GM H0 t' a b (mkR d m) x i=some ⟨1,true,txC x.2⟩:=λi hi=>A8j hi;have hln:=P5 (o:=b) (n:=x.2.length) (λe=>S3 (h.bn e));have hq:=D1g x.2 s;refine wAp ?_;refine B6 (λk:Nat=>[(0,.ptr t' 0),(1,.str s),(5,I64 k)]) (λ_=>GM H0 t' a b (mkR d m) x) (λk cc=>c<=cc/\k<=x.2.length/\L7 s 0 x.2=L7 s k (x.2.drop k)) (λk=>x.2.length-k) 0 (by simp[B5,tm,Tm.upd]) (Sub.refl _) ⟨A0D _,b8,rfl⟩ ?_;rintro k c' ⟨hc,hk,hv⟩;by_cases hlt:k<x.2.length
 ·have hd:=dtz hlt;have hg:=A0B hlt;have hw:IntKind.i64.wrap ((k:Int)+1)=((k+1:Nat):Int):=by rw[w6z];omega
  rw[A0Z hlt,L7]at hv;obtain⟨i,rfl⟩:∃i,b=some i:=by
   cases b with
   |none=>have:=h.bn rfl;rw[this]at hlt;cases hlt
   |some i=>exact⟨i,rfl⟩
  have hi:=hB i rfl;generalize x.2[k]=y at hg hv;have hcl:(txC x.2)[k]? = some (.str y):=v8
  cases hb:(s==y) with
  |true =>
   have hb':(y==s)=true:=by rw[BEq.comm];exact hb
   rw[if_pos hb]at hv;rw[hv]at hq;(repeat'((with_reducible first|apply wr|refine B0 ?_ ?_|apply wb2<;>(intro hb;try simp only[hb]))<;>try simp only[go_sem,seval,hM,hi,hd,hcl,hb',hlt,hln]));rcases hq with ⟨q1,q2⟩|⟨q1,q2⟩
   ·omega
   ·rw[q2];exact⟨_,_,GL.refl _ _,by rw[q1],a,some i,h.le hc,rfl⟩
  |false =>
   have hb':(y==s)=false:=by rw[BEq.comm];exact hb
   rw[if_neg (by simp[hb])]at hv;(repeat'((with_reducible first|apply wr|refine B0 ?_ ?_|apply wb2<;>(intro hb;try simp only[hb]))<;>try simp only[go_sem,seval,hM,hi,hd,hcl,hb',hw,hlt,hln]));exact⟨k+1,rfl,Sub.refl _,inv ⟨hc,hlt,hv⟩,by omega⟩
 ·have hd:=dfz hlt;have hk:k=x.2.length:=by omega
  rw[hk,A3G,L7]at hv;rw[hv]at hq;rcases hq with ⟨q1,q2⟩|⟨q1,q2⟩
  rotate_left
  ·omega
  rw[q2];have hfr':=λj (hj:c'<=j)=>hfr j (by omega);have ne0:=M7 t' c' (c'+1) (by omega);(repeat'((with_reducible first|apply wr|refine B0 ?_ ?_|apply wb2<;>(intro hb;try simp only[hb]))<;>try simp only[go_sem,seval,hM,hd,hln,ne0]));refine G7 (D4 (cs:=txC x.2) (λe=>⟨S3 (h.bn e),by rw[h.bn e];rfl⟩) (λi hi=>?_) (C2q _) (by omega) (by omega) (by omega)) ?_
  ·have:=h.hb i hi;rw[hnO];exact A8j hi
  have dm:∀X,delO X b t'=X t':=λX=>A9 (λi hi e=>(h.hb i hi).1 e.symm);have hw:IntKind.i64.wrap (((x.2.length+1:Nat):Int)-1)=(x.2.length:Int):=i7
  simp only[go_sem,seval,dm,hM,ne0,A0];(repeat'((with_reducible first|apply wr|refine B0 ?_ ?_|apply wb2<;>(intro hb;try simp only[hb]))<;>try simp only[go_sem,seval,dm,hM,ne0,A0,hw]));refine⟨_,_,GL.less' (C8e (y:=(x.1,x.2++[s])) (i:=c'+1) (h.le hc) (by omega) rfl (by simp) (by simp[todoV])),rfl,a,some (c'+1),(h.le hc).newB (by omega) (by omega) rfl,rfl⟩
theorem B2b(nm:List UInt8->Int):∀a b:List Ex,G6 nm (a++b)=G6 nm a++G6 nm b
 |[],b=>rfl
 |x::a,b=>by rw[List.cons_append,G6,G6,B2b nm a b,A0O]
theorem A4n(nm:List UInt8->Int){l:List Ex}{k:Nat}{x:Ex}(h:l[k]? = some x):G6 nm (l.take (k+1))=G6 nm (l.take k)++cgE nm x:=by
 rw[A0R,h,B2b];simp[G6]
theorem Z9(nm:List UInt8->Int)(l:List Ex)(k:Nat):(G6 nm (l.take k)).length<=(G6 nm l).length:=by
 have h:=B2b nm (l.take k) (l.drop k);rw[A1V]at h;rw[h,A0A];omega
theorem c_gexpr(e p v:DV)(ks vs:List DV)(t n:Int)(nm:List UInt8->Int)(hm:∀s,Sym.lkV (I64 0) false vs (F8 (.str s) ks 0)=some (I64 (nm s))):∀(z:Nat) (ex:Ex),ex.sz<z->ex.sz<=100000000->∀x:Cg,x.1.length+(cgE nm ex).length<=100000000 ->
  GC 63 (mkP e p v (.mp .s ks vs) t n) [ex.v] x (x.1++cgE nm ex,x.2) (.tup []):=by
 intro z
 induction z with
 |zero=>intro ex h;omega
 |succ z ih =>
 intro ex hz hB x hx H0 c t' a b h;have hal:Ex.szs ex.args<ex.sz:=by cases ex with|mk k v n a p=>rw[Ex.sz];show Ex.szs a<_;omega
 have hargs:∀x∈ex.args,x.sz<=Ex.szs ex.args:=λx hx=>Ex.szs_mem hx;have hll:=Ex.szs_len ex.args;have hE:=D8a nm ex;rw[hE]at hx ⊢;rw[Ex.v_w];cases ex with|mk k vv nn ar pos =>
 dsimp only[Ex.w,Ex.kind,Ex.value,Ex.name,Ex.args,Ex.pos]at hal hargs hll hx ⊢;clear hE;rw[A0A,A0E]at hx;have h1:=h.tc;refine AC.go A2 λhfr=>?_;refine wAp ?_;obtain⟨B,hBe⟩:∃B:Blk,B=⟨0,true,[I64 k,I64 vv,.str nn,J4 ar,I64 pos]⟩:=⟨_,rfl⟩;rw[<- hBe,h.com (A0D _)];have hb0:=h.box (B:=B) (A0D c) (A1M c);refine B6 (λq:Nat × Option Nat × Option Nat=>[(0,.ptr t' 0),(3,.ptr c 0),(7,J4 ar),(8,I64 ar.length),(9,I64 q.1)]) (λq=>GM (H0.upd c B) t' q.2.1 q.2.2 (mkP e p v (.mp .s ks vs) t n) (x.1++G6 nm (ar.take q.1),x.2))
  (λq cc=>c+1<=cc/\q.1<=ar.length/\GN (H0.upd c B) t' q.2.1 q.2.2 (x.1++G6 nm (ar.take q.1),x.2) cc) (λq=>ar.length-q.1) (0,a,b)
  (by simp[B5,tm,Tm.upd]) (by simp only[A1F,G6,A0Y];exact Sub.refl _) ⟨A0D _,A0N _,by simp only[A1F,G6,A0Y];exact hb0⟩ ?_
 clear hb0;rintro⟨i,o,b1⟩ cc ⟨hc,hk,hN⟩;dsimp only at hk hN ⊢;have hnn:=hN.tc;have hfr':=λ(j:Nat) (hj:cc<=j)=>A8i (mk:=mkP e p v (.mp .s ks vs) t n) hN hj;by_cases hlt:i<ar.length
 ·have hd:=dtz hlt;have hg:=A0B hlt;have hw:=w64 (n:=(i:Int)+1);have hsn:=A4n nm hg;have hle:=Z9 nm ar (i+1);have hmem:=hargs _ (A0K hlt);generalize ar[i]=y at hg hsn hmem;rw[hsn,A0A]at hle;have hcall:=ih y (by omega) (by omega) (x.1++G6 nm (ar.take i),x.2) (by rw[A0A];omega);rw[Ex.v_w]at hcall;refine wA4 hd hg hw @Ex.v_w @A0 @A1 ?_;obtain⟨B2,hB2⟩:∃B:Blk,B=⟨0,true,[I64 y.kind,I64 y.value,.str y.name,J4 y.args,I64 y.pos]⟩:=⟨_,rfl⟩;rw[<- hB2,hN.com (A0D _)];refine AC.call (hcall _ _ _ _ _ (hN.box (A0D _) (A1M _))) ?_;rintro _ _ c2 ⟨rfl,a2,b2,hN2,rfl⟩ hc2;have hz0:=hN.fr cc (A0D _);refine wAu hw ?_;dsimp only at hN2 ⊢;rw[A0O, <- hsn]at hN2 ⊢;exact⟨(i+1,a2,b2),b9,L6 hz0 (by omega) hN2,inv ⟨b8,hlt,hN2.unbox hz0 (by omega) hN.fr⟩,by simp only;omega⟩
 ·have hd:=dfz hlt;have hi:i=ar.length:=by omega
  subst hi;rw[A1K]at hN hfr' ⊢;have hM:=A0c (mk:=mkP e p v (.mp .s ks vs) t n) hN;have hcB:GM (H0.upd c B) t' o b1 (mkP e p v (.mp .s ks vs) t n) (x.1++G6 nm ar,x.2) c=some ⟨0,true,[I64 k,I64 vv,.str nn,J4 ar,I64 pos]⟩:=V5 hN (by rw[A0,hBe]) (by omega);have hz0:=h.fr c (A0D _);have hlk:=hm nn;have fin:∀(op A:Int),B2x nm k vv nn=⟨op,A⟩->∀cx,cc<=cx->AC Tryz.prog 29 [.ptr t' 0,I64 op,I64 A] (GM (H0.upd c B) t' o b1 (mkP e p v (.mp .s ks vs) t n) (x.1++G6 nm ar,x.2)) cx (λv' H' c' => ∃a' b',GN (H0.upd c B) t' a' b' (x.1++(G6 nm ar++[B2x nm k vv nn]),x.2) c'/\H'=GM (H0.upd c B) t' a' b' (mkP e p v (.mp .s ks vs) t n) (x.1++(G6 nm ar++[B2x nm k vv nn]),x.2)):=λop A he cx hcx=>by
   rw[he, <- A0O];refine AC.call (c_emit e p v _ t n op A (x.1++G6 nm ar,x.2) (by rw[A0A];omega) _ _ _ _ _ (hN.le hcx)) ?_;rintro _ _ c2 ⟨rfl,a2,b2,hN2,rfl⟩ hc2;exact⟨a2,b2,hN2,rfl⟩
  repeat'((with_reducible first|apply wr|refine B0 ?_ ?_|apply wb2<;>(intro hb;try simp only[hb]))<;>try simp only[go_sem,seval,hd,hM,hcB,hlk])
  all_goals
   try refine⟨hfr' _ (by omega),?_⟩
   refine AC.call (fin _ _ ?_ _ ?_) ?_
   ·clear fin hm hN hM hcB hfr' hlk hx hz0 hnn ih hfr h hargs hal hBe;simp_all[B2x]
   ·omega
   rintro _ _ c2 ⟨a2,b2,hN2,rfl⟩ hc2;refine wAq ?_;exact⟨_,_,GL.less' (L6 hz0 (by omega) hN2),rfl,a2,b2,hN2.unbox hz0 (by omega) h.fr,rfl⟩
theorem c_gblock(e p v:DV)(ks vs:List DV)(t n:Int)(nm:List UInt8->Int)(hm:∀s,Sym.lkV (I64 0) false vs (F8 (.str s) ks 0)=some (I64 (nm s))):∀(z:Nat) (l:List Pb.St),St.szs l<z->St.szs l<=99000000->∀x,CgB (I0 nm l x) ->
  GC 28 (mkP e p v (.mp .s ks vs) t n) [F5 l] x (I0 nm l x) (.tup []):=by
 intro z
 induction z with
 |zero=>intro l h1;omega
 |succ z ih =>
 intro l hz hB x hx H0 c t' a b h;have hll:=St.szs_len l;refine AC.go A2 λhfr=>?_;refine wAp ?_;refine B6 (λq:Nat × Option Nat × Option Nat=>[(0,.ptr t' 0),(11,F5 l),(12,I64 l.length),(13,I64 q.1)]) (λq=>GM H0 t' q.2.1 q.2.2 (mkP e p v (.mp .s ks vs) t n) (I0 nm (l.take q.1) x))
  (λq cc=>c<=cc/\q.1<=l.length/\GN H0 t' q.2.1 q.2.2 (I0 nm (l.take q.1) x) cc) (λq=>l.length-q.1) (0,a,b)
  (by simp[B5,tm,Tm.upd]) (by simp only[A1F,P1];exact Sub.refl _) ⟨A0D _,A0N _,by simp only[A1F,P1];exact h⟩ ?_
 clear h hfr a b;rintro⟨i,a,b⟩ cc ⟨hc,hk,hN0⟩;dsimp only at hk hN0 ⊢;by_cases hlt:i<l.length
 rotate_left
 ·have hd:=dfz hlt;have hi:i=l.length:=by omega
  subst hi;rw[A1K]at hN0 ⊢;refine wAr hd ?_;exact⟨_,_,GL.refl _ _,rfl,a,b,hN0,rfl⟩
 have hd:=dtz hlt;have hg:=A0B hlt;have hw:=w64 (n:=(i:Int)+1);have hsn:=B4j (nm:=nm) hg x;have hle:=(B4i (nm:=nm) l (i+1) x).bnd hx;have hssz:=St.szs_mem (A0K hlt);generalize l[i]=s at hg hsn hssz;rw[hsn]at hle;obtain⟨y,hy⟩:∃y,y=I0 nm (l.take i) x:=⟨_,rfl⟩;rw[<- hy]at hle hN0 hsn ⊢;have hxa:=(B4h (nm:=nm) s y).bnd hle;have hfr0:=λj (hj:cc<=j)=>A8i (mk:=(mkP e p v (.mp .s ks vs) t n)) hN0 hj;obtain⟨k,nn,tt,ar,u,w,pos⟩:=s;dsimp only[St.args]at hxa;rw[St.sz]at hssz;have hargs:∀x∈ar,x.sz<=Ex.szs ar:=λx hx=>Ex.szs_mem hx;have hla:=Ex.szs_len ar;have hu:=ih u (by omega) (by omega);have hel:=ih w (by omega) (by omega);clear ih;have htc:=hN0.tc;obtain⟨x1,hx1⟩:∃x1:Cg,x1=(y.1++G6 nm ar,y.2):=⟨_,rfl⟩;rw[<- hx1]at hxa;refine wA1 hd hg @St.v_w @A0 @A1 ?_;dsimp only[St.kind,St.name,St.text,St.args,St.thn,St.els,St.pos];obtain⟨B,hBe⟩:∃B:Blk,B=⟨0,true,[I64 k,.str nn,.str tt,J4 ar,F5 u,F5 w,I64 pos]⟩:=⟨_,rfl⟩;rw[<- hBe,hN0.com (A0D _)];have hb0:=hN0.box (B:=B) (A0D cc) (A1M cc);have hcB:∀ {x' o' b' c2},GN (H0.upd cc B) t' o' b' x' c2->GM (H0.upd cc B) t' o' b' (mkP e p v (.mp .s ks vs) t n) x' cc=some ⟨0,true,[I64 k,.str nn,.str tt,J4 ar,F5 u,F5 w,I64 pos]⟩:=λhN=>V5 hN (by rw[A0,hBe]) (by omega);have hcB0:=hcB hb0;refine wAs hcB0 ?_;have hz0:=hN0.fr cc (A0D _);clear hcB0;refine B6 (λq:Nat × Option Nat × Option Nat=>[(0,.ptr t' 0),(5,.ptr cc 0),(11,F5 l),(12,I64 l.length),(13,I64 i),(18,J4 ar),(19,I64 ar.length),(20,I64 q.1)]) (λq=>GM (H0.upd cc B) t' q.2.1 q.2.2 (mkP e p v (.mp .s ks vs) t n) (y.1++G6 nm (ar.take q.1),y.2))
  (λq c1=>cc+1<=c1/\q.1<=ar.length/\GN (H0.upd cc B) t' q.2.1 q.2.2 (y.1++G6 nm (ar.take q.1),y.2) c1) (λq=>ar.length-q.1) (0,a,b)
  (by simp[B5,tm,Tm.upd]) (by simp only[A1F,G6,A0Y];exact Sub.refl _) ⟨A0D _,A0N _,by simp only[A1F,G6,A0Y];exact hb0⟩ ?_
 clear hb0;rintro⟨j,o,b1⟩ c1 ⟨hcc,hkj,hN⟩;dsimp only at hkj hN ⊢;by_cases hltj:j<ar.length
 ·have hdj:=dtz hltj;have hgj:=A0B hltj;have hwj:=w64 (n:=(j:Int)+1);have hsnj:=A4n nm hgj;have hlej:=Z9 nm ar (j+1);have hmem:=hargs _ (A0K hltj);generalize ar[j]=q at hgj hsnj hmem;rw[hsnj,A0A]at hlej;have hlx:=hxa.1;rw[hx1,A0A]at hlx;have hcall:=c_gexpr e p v ks vs t n nm hm _ q (A1M _) (by omega) (y.1++G6 nm (ar.take j),y.2) (by rw[A0A];omega);rw[Ex.v_w]at hcall;have hfrj:=λj (hj:c1<=j)=>A8i (mk:=(mkP e p v (.mp .s ks vs) t n)) hN hj;refine wA4 hdj hgj hwj @Ex.v_w @A0 @A1 ?_;obtain⟨B2,hB2⟩:∃B:Blk,B=⟨0,true,[I64 q.kind,I64 q.value,.str q.name,J4 q.args,I64 q.pos]⟩:=⟨_,rfl⟩;rw[<- hB2,hN.com (A0D _)];refine AC.call (hcall _ _ _ _ _ (hN.box (A0D _) (A1M _))) ?_;rintro _ _ c2 ⟨rfl,a2,b2,hN2,rfl⟩ hc2;have hz1:=hN.fr c1 (A0D _);refine wAu hwj ?_;dsimp only at hN2 ⊢;rw[A0O, <- hsnj]at hN2 ⊢;exact⟨(j+1,a2,b2),b9,L6 hz1 (by omega) hN2,inv ⟨b8,hltj,hN2.unbox hz1 (by omega) hN.fr⟩,by simp only;omega⟩
 have hdj:=dfz hltj;have hij:j=ar.length:=b8
 subst hij;rw[A1K, <- hx1]at hN ⊢;have hM:=A0c (mk:=(mkP e p v (.mp .s ks vs) t n)) hN;have hcB1:=hcB hN;have hxb:=hxa.1;clear hltj hkj hla hargs;by_cases q2:k=2
 ·have d2:(k==2)=true:=by simpa using q2
  subst q2;obtain⟨T,hT⟩:∃T,T=cgB nm (x1.1.length+1) x1.2 u:=⟨_,rfl⟩;have eT:I0 nm u (x1.1++[⟨13,0⟩],x1.2)=(x1.1++⟨13,0⟩::T.1,T.2):=by
   unfold I0;rw[A0A,A0E, <- hT];simp
  (repeat'((with_reducible first|apply wr|refine B0 ?_ ?_|apply wb2<;>(intro hb;try simp only[hb]))<;>try simp only[go_sem,seval,hdj,hM,hcB1,d2]));refine AC.call (c_emit _ _ _ _ _ _ 13 0 x1 (by omega) _ _ _ _ _ hN) ?_;rintro _ _ c2 ⟨rfl,a2,b2,hN2,rfl⟩ hc2;have hcB2:=hcB hN2;refine wAu hcB2 ?_;by_cases hv0:w.length=0
  ·have q0:decide ((w.length:Int)>0)=false:=by rw[hv0];rfl
   have hfin:=B2a (nm:=nm) (n:=nn) (t:=tt) (q:=pos) (u:=u) hx1 hv0;rw[<- hT]at hfin;rw[hfin]at hle;have hbT:CgB (x1.1++⟨13,0⟩::T.1,T.2):=⟨by have:=hle.1;rw[A0A,A0G]at this ⊢;exact this,hle.2⟩;refine AC.call (hu _ (by rw[eT];exact hbT) _ _ _ _ _ hN2) ?_;rintro _ _ c3 ⟨rfl,a3,b3,hN3,rfl⟩ hc3;rw[eT]at hN3 ⊢;have hcB3:=hcB hN3;refine wAt (wJ hcB3 q0) ?_;refine AC.call (c_patch _ _ _ _ _ _ 13 0 x1.1 T.1 T.2 (A1B hbT.1 (by omega)) _ _ _ _ _ hN3) ?_;rintro _ _ c4 ⟨rfl,a4,b4,hN4,rfl⟩ hc4;refine wAu hw ?_;refine⟨(i+1,a4,b4),b9,?_,inv ⟨b8,hlt,?_⟩,by simp only;omega⟩
   ·dsimp only;rw[hsn,hfin];exact L6 hz0 (by omega) hN4
   ·dsimp only;rw[hsn,hfin];exact hN4.unbox hz0 (by omega) hN0.fr
  ·have q0:decide ((w.length:Int)>0)=true:=by simp;omega
   obtain⟨V,hV⟩:∃V,V=cgB nm (x1.1.length+1+T.1.length+1) T.2 w:=⟨_,rfl⟩;have hfin:=B1z (nm:=nm) (n:=nn) (t:=tt) (q:=pos) hx1 hv0 hT hV;rw[hfin]at hle;obtain⟨J,hJ⟩:∃J,J=x1.1.length+1+T.1.length:=⟨_,rfl⟩;rw[<- hJ]at hle hV hfin;have l3:(x1.1++(⟨13,0⟩:Ins)::T.1).length=J:=a8
   have l4:(x1.1++(⟨13,0⟩:Ins)::(T.1++[⟨12,0⟩])).length=J+1:=a8
   have l5:(x1.1++(⟨13,((J+1:Nat):Int)⟩:Ins)::T.1).length=J:=a8
   have hxl:=hle.1;rw[A0A,l5,A0G]at hxl;have hxs:=hle.2;have hTs:B9w T (T.1++V.1,V.2):=⟨by simp,by rw[hV];exact A2o _ w _ _⟩;have hbT:CgB (x1.1++⟨13,0⟩::T.1,T.2):=⟨by rw[l3];omega,A1B hTs.2 hxs⟩;refine AC.call (hu _ (by rw[eT];exact hbT) _ _ _ _ _ hN2) ?_;rintro _ _ c3 ⟨rfl,a3,b3,hN3,rfl⟩ hc3;rw[eT]at hN3 ⊢;have hcB3:=hcB hN3;refine wAt (wJ hcB3 q0) ?_;refine AC.call (c_emit _ _ _ _ _ _ 12 0 _ (by have:=hbT.1;omega) _ _ _ _ _ hN3) ?_;rintro _ _ c4 ⟨rfl,a4,b4,hN4,rfl⟩ hc4;have e4:(((x1.1++(⟨13,0⟩:Ins)::T.1,T.2):Cg).1++[⟨12,0⟩],((x1.1++(⟨13,0⟩:Ins)::T.1,T.2):Cg).2)=((x1.1++⟨13,0⟩::(T.1++[⟨12,0⟩]),T.2):Cg):=by simp
   rw[e4]at hN4 ⊢;refine wAu l3 ?_;refine AC.call (c_patch _ _ _ _ _ _ 13 0 x1.1 (T.1++[⟨12,0⟩]) T.2 (by rw[l4];omega) _ _ _ _ _ hN4) ?_;rintro _ _ c5 ⟨rfl,a5,b5,hN5,rfl⟩ hc5;rw[l4]at hN5 ⊢;have hcB5:=hcB hN5;have e5:∀z:Int,I0 nm w (x1.1++⟨13,((J+1:Nat):Int)⟩::(T.1++[⟨12,z⟩]),T.2)=((x1.1++⟨13,((J+1:Nat):Int)⟩::T.1)++⟨12,z⟩::V.1,V.2):=λz=>by
    have l6:(x1.1++(⟨13,((J+1:Nat):Int)⟩:Ins)::(T.1++[⟨12,z⟩])).length=J+1:=a8
    unfold I0;dsimp only;rw[l6, <- hV];simp
   have hbW:CgB ((x1.1++⟨13,((J+1:Nat):Int)⟩::T.1)++⟨12,0⟩::V.1,V.2):=⟨zam,hxs⟩;refine wAu hcB5 ?_;refine AC.call (hel _ (by rw[e5];exact hbW) _ _ _ _ _ hN5) ?_;rintro _ _ c6 ⟨rfl,a6,b6,hN6,rfl⟩ hc6;rw[e5]at hN6 ⊢;have hpt:=c_patch e p v (.mp .s ks vs) t n 12 0 (x1.1++⟨13,((J+1:Nat):Int)⟩::T.1) V.1 V.2 (A1B hbW.1 (by omega));rw[l5]at hpt;have l7:((x1.1++(⟨13,((J+1:Nat):Int)⟩:Ins)::T.1)++(⟨12,0⟩:Ins)::V.1).length=J+1+V.1.length:=zam
   rw[l7]at hpt;refine wAq ?_;refine AC.call (hpt _ _ _ _ _ hN6) ?_;rintro _ _ c7 ⟨rfl,a7,b7,hN7,rfl⟩ hc7;refine wAu hw ?_;refine⟨(i+1,a7,b7),b9,?_,inv ⟨b8,hlt,?_⟩,by simp only;omega⟩
   ·dsimp only;rw[hsn,hfin];exact L6 hz0 (by omega) hN7
   ·dsimp only;rw[hsn,hfin];exact hN7.unbox hz0 (by omega) hN0.fr
 have d2:(k==2)=false:=by simpa using q2
 by_cases q3:k=3
 ·have d3:(k==3)=true:=by simpa using q3
  subst q3;obtain⟨T,hT⟩:∃T,T=cgB nm (x1.1.length+1) x1.2 u:=⟨_,rfl⟩;have eT:I0 nm u (x1.1++[⟨14,0⟩],x1.2)=(x1.1++⟨14,0⟩::T.1,T.2):=by
   unfold I0;rw[A0A,A0E, <- hT];simp
  have hfin:=B1x (nm:=nm) (n:=nn) (t:=tt) (v:=w) (q:=pos) hx1 hT;rw[hfin]at hle;obtain⟨J,hJ⟩:∃J,J=x1.1.length+1+T.1.length:=⟨_,rfl⟩;rw[<- hJ]at hle hfin;have l3:(x1.1++(⟨14,0⟩:Ins)::T.1).length=J:=a8
  have l4:(x1.1++(⟨14,0⟩:Ins)::(T.1++[⟨12,(x1.1.length:Int)⟩])).length=J+1:=a8
  have hxl:=hle.1;rw[A0A,A0G,A0A,A0E]at hxl;have hbT:CgB (x1.1++⟨14,0⟩::T.1,T.2):=⟨by rw[l3];omega,hle.2⟩;(repeat'((with_reducible first|apply wr|refine B0 ?_ ?_|apply wb2<;>(intro hb;try simp only[hb]))<;>try simp only[go_sem,seval,hdj,hM,hcB1,d2,d3]));refine AC.call (c_emit _ _ _ _ _ _ 14 0 x1 (by omega) _ _ _ _ _ hN) ?_;rintro _ _ c2 ⟨rfl,a2,b2,hN2,rfl⟩ hc2;have hcB2:=hcB hN2;refine wAu hcB2 ?_;refine AC.call (hu _ (by rw[eT];exact hbT) _ _ _ _ _ hN2) ?_;rintro _ _ c3 ⟨rfl,a3,b3,hN3,rfl⟩ hc3;rw[eT]at hN3 ⊢;refine wAq ?_;refine AC.call (c_emit _ _ _ _ _ _ 12 x1.1.length _ (by have:=hbT.1;omega) _ _ _ _ _ hN3) ?_;rintro _ _ c4 ⟨rfl,a4,b4,hN4,rfl⟩ hc4;have e4:(((x1.1++(⟨14,0⟩:Ins)::T.1,T.2):Cg).1++[⟨12,(x1.1.length:Int)⟩],((x1.1++(⟨14,0⟩:Ins)::T.1,T.2):Cg).2)=((x1.1++⟨14,0⟩::(T.1++[⟨12,(x1.1.length:Int)⟩]),T.2):Cg):=by simp
  rw[e4]at hN4 ⊢;have hpt:=c_patch e p v (.mp .s ks vs) t n 14 0 x1.1 (T.1++[⟨12,(x1.1.length:Int)⟩]) T.2 (by rw[l4];omega);rw[l4]at hpt;refine wAq ?_;refine AC.call (hpt _ _ _ _ _ hN4) ?_;rintro _ _ c5 ⟨rfl,a5,b5,hN5,rfl⟩ hc5;refine wAu hw ?_;refine⟨(i+1,a5,b5),b9,?_,inv ⟨b8,hlt,?_⟩,by simp only;omega⟩
  ·dsimp only;rw[hsn,hfin];exact L6 hz0 (by omega) hN5
  ·dsimp only;rw[hsn,hfin];exact hN5.unbox hz0 (by omega) hN0.fr
 have d3:(k==3)=false:=by simpa using q3
 by_cases q18:k=18
 ·have d18:(k==18)=true:=by simpa using q18
  subst q18;have hfin:=B1w (nm:=nm) (n:=nn) (t:=tt) (u:=u) (v:=w) (q:=pos) hx1;have hxs:x1.2.length<=99999999:=hxa.2;(repeat'((with_reducible first|apply wr|refine B0 ?_ ?_|apply wb2<;>(intro hb;try simp only[hb]))<;>try simp only[go_sem,seval,hdj,hM,hcB1,d2,d3,d18]));refine AC.call (c_gtext _ _ _ _ _ _ tt x1 (by omega) _ _ _ _ _ hN) ?_;rintro _ _ c2 ⟨rfl,a2,b2,hN2,rfl⟩ hc2;refine wAq ?_;refine AC.call (c_emit _ _ _ _ _ _ 29 _ _ (by dsimp only;omega) _ _ _ _ _ hN2) ?_;rintro _ _ c3 ⟨rfl,a3,b3,hN3,rfl⟩ hc3;refine wAu hw ?_;refine⟨(i+1,a3,b3),b9,?_,inv ⟨b8,hlt,?_⟩,by simp only;omega⟩
  ·dsimp only;rw[hsn,hfin];exact L6 hz0 (by omega) hN3
  ·dsimp only;rw[hsn,hfin];exact hN3.unbox hz0 (by omega) hN0.fr
 have d18:(k==18)=false:=by simpa using q18
 have hfin:=B1y (nm:=nm) (n:=nn) (t:=tt) (u:=u) (v:=w) (q:=pos) hx1 q2 q3 q18;have hop:=c_opOf k;have hlk:=hm nn;have hfr1:=λj (hj:c1<=j)=>A8i (mk:=(mkP e p v (.mp .s ks vs) t n)) hN hj;(repeat'((with_reducible first|apply wr|refine cpc hop ?_|refine B0 ?_ ?_|apply wb2<;>(intro hb;try simp only[hb]))<;>try simp only[go_sem,seval,hdj,hM,hcB1,d2,d3,d18,hlk]));refine⟨by(try and_intros)<;>exact hfr1 _ (by omega),?_⟩;refine AC.call (c_emit _ _ _ _ _ _ _ _ x1 (by omega) _ _ _ _ _ (hN.le (show c1<=c1+12 by omega))) ?_;rintro _ _ c3 ⟨rfl,a3,b3,hN3,rfl⟩ hc3;refine wAu hw ?_;refine⟨(i+1,a3,b3),b9,?_,inv ⟨b8,hlt,?_⟩,by simp only;omega⟩
 ·dsimp only;rw[hsn,hfin];exact L6 hz0 (by omega) hN3
 ·dsimp only;rw[hsn,hfin];exact hN3.unbox hz0 (by omega) hN0.fr
theorem c_level(k:Int):PC Tryz.prog 231 [I64 k] (I64 (B9 k)):=by
 refine PC.go A2 ?_;repeat'((with_reducible first|apply wr|refine B0 ?_ ?_|apply wb2<;>(intro hb;try simp only[hb]))<;>try simp only[go_sem,seval])
 all_goals
  refine A3 (congrArg I64 ?_);simp only[A1T,beq_eq_false_iff_ne,A0Q,A1O,A0F,A1J,Bool.and_eq_false_iff,A4G]at *;unfold B9;repeat' split
  all_goals omega
theorem c_signs31:PC Tryz.prog 230 [] (Z2 D2):=by
 refine PC.ofT A2 rfl (A0C rfl) rfl (M4 _) ?_;refine wAp ?_;exact O6 (xs:=D2.map DV.str) (u:=1) A0 rfl rfl (N4 _) ⟨[],rfl⟩
theorem c_decls31:PC Tryz.prog 70 [] (Z2 D7):=by
 refine PC.ofT A2 rfl (A0C rfl) rfl (M4 _) ?_;refine wAp ?_;exact O6 (xs:=D7.map DV.str) (u:=1) A0 rfl rfl (N4 _) ⟨[],rfl⟩
theorem c_trigs31:PC Tryz.prog 128 [] (Z2 F1):=by
 refine PC.ofT A2 rfl (A0C rfl) rfl (M4 _) ?_;refine wAp ?_;exact O6 (xs:=F1.map DV.str) (u:=1) A0 rfl rfl (N4 _) ⟨[],rfl⟩
theorem c_stmts31:PC Tryz.prog 165 [] (Z2 C5):=by
 refine PC.ofT A2 rfl (A0C rfl) rfl (M4 _) ?_;refine wAp ?_;exact O6 (xs:=C5.map DV.str) (u:=1) A0 rfl rfl (N4 _) ⟨[],rfl⟩
theorem B8s{K H':Hp}{cc b:Nat}{a b' c e:DV}(l:List Ex)(hK:∀i,cc<=i->K i=none)(hb0:cc<=b)(hb:H' b=some ⟨5,true,cellsL (l.map Ex.v)⟩)(h:∀j,j<cc->H' j=K j):
  GL H' [.agg [a,b',c,.slc b 0 l.length,e]] K [.agg [a,b',c,J4 l,e]] :=
 GL.frzS (id:=b) hb rfl (λj=>by
  by_cases hj:j<cc
  ·exact .inr ⟨b8,(h j hj).symm⟩
  ·exact .inl (hK j (by omega))) (.cons _ _ _ _ (.agg _ _ (.cons _ _ _ _ (.same _) (.cons _ _ _ _ (.same _) (.cons _ _ _ _ (.same _) (.cons _ _ _ _ (Q2 (u:=5) (by simp) (A4i l) ⟨[],by simp⟩) (.cons _ _ _ _ (.same _) .nil)))))) .nil)
theorem V7(e:Ex):cellsL ([e].map Ex.v)=[I64 e.kind,I64 e.value,.str e.name,J4 e.args,I64 e.pos]:=by
 rw[A0U,Ex.v_w];rfl
theorem B4b(e x:Ex):cellsL ([e,x].map Ex.v)=[I64 e.kind,I64 e.value,.str e.name,J4 e.args,I64 e.pos,I64 x.kind,I64 x.value,.str x.name,J4 x.args,I64 x.pos]:=by
 rw[A0U,A0U,Ex.v_w,Ex.v_w];rfl
abbrev RdC(L:List Tok)(E:Int)(f:Nat)(vs:List DV)(s:Rd)(r:DV × Rd):Prop :=
 ∀(H:Hp) (cc t:Nat),H t=some (rdR L E s)->t<cc->AC Tryz.prog f (.ptr t 0::vs) H cc (λv H' c'=>v=r.1/\H'=H.upd t (rdR L E r.2))
theorem c_unary(L:List Tok)(E:Int)(hL:L.length<=1000000000)(f:Nat)
  (ib:∀n s r,1<=n->n<=6->J6 L E f n s=some r->RI L s->RdC L E 217 [I64 n] s (r.1.v,r.2))
  (iu:∀s r,R5 L E f s=some r->RI L s->RdC L E 229 [] s (r.1.v,r.2))
  (s:Rd) (r:Ex × Rd) (h:R5 L E (f+1) s=some r) (hR:RI L s):RdC L E 229 [] s (r.1.v,r.2):=by
 intro H cc t ht htc;have hri:=hR.i;have hro:=hR.o0;have hro1:=hR.o1;have hp0:=hR.p0;have hp1:=hR.p1;refine AC.go A2 λhfr=>?_;refine wAp ?_;refine AC.call (c_peek L E s _ _ t (by rw[hnO];exact ht) (by omega)) ?_;rintro v H' c1 ⟨rfl,rfl⟩ hc;have ne0:=V3 t cc c1 (c1+1) (by omega);refine wAy ne0 @A0 @A1 ?_;have ham:=c_amongO L E s ((H.upd cc A5k).upd c1 (tkB (A4 L E s))) (c1+1+1) t (c1+1) (by rw[hnO,hnO];exact hfr _ (by omega)) (by rw[hnO,hnO];exact ht) (by omega) O9 (by decide);refine AC.call ham ?_;rintro v H' c2 ⟨rfl,rfl⟩ hc2;unfold R5 at h;dsimp only at h;have hkr : -1<=B8 L E s O9/\B8 L E s O9<3:=A2r L E s O9 0;have hnn:0<=B8 L E s O9->s.i<L.length:=λh=>(I6 h).2.1;generalize B8 L E s O9=k at h hkr hnn;have hGt:((H.upd cc A5k).upd c1 (tkB (A4 L E s))) t=some (rdR L E s):=zal
 by_cases hk:k<0
 ·rw[if_pos hk]at h;cases h;have hd:decide (k<0)=true:=by simpa using hk
  refine wAu (wJ ne0 hd) ?_;refine AC.call (c_primary L E s _ _ t hGt (by omega) (by omega) (by omega)) ?_;rintro v H' c3 ⟨rfl,rfl⟩ hc3;simp only[go_sem,seval,ne0,A0,A1,Ex.v_w];refine wAx ne0 @A0 @A1 ?_;rw[C9 (rv5 rfl A0)];refine⟨_,_,K1 (cc:=cc) (B7 hfr htc) (λj hj=>?_),rfl,rfl⟩;simp[Hp.upd,show ¬j=cc by omega,show ¬j=c1 by omega]
 ·rw[if_neg hk]at h;have hd:decide (k<0)=false:=by simpa using hk
  have hw:IntKind.i64.wrap (s.par+1)=s.par+1:=w6z;have hw2:IntKind.i64.wrap ((s.i:Int)+1)=((s.i+1:Nat):Int):=i7
  have hw3:IntKind.i64.wrap (10+k)=10+k:=w6z;refine wA0 ne0 hd ht hw ?_;refine AC.call (c_limit L E s _ _ t hGt (by omega) _ _ _) ?_;rintro v H' c3 ⟨rfl,rfl⟩ hc3;refine wAu ne0 ?_;refine AC.call (c_rdok L E _ _ _ t A0 (by omega)) ?_;rintro v H' c4 ⟨rfl,rfl⟩ hc4;cases h2:okR (D3 L E s (s.par+1) 16 50) with
  |false =>
   rw[if_pos h2]at h;cases h;refine wA0 h2 ne0 @A0 @A1 ?_;rw[C9 (rv5 rfl A0)];refine⟨_,_,A2u (cc:=cc) (B7 hfr htc) (λj hj=>?_),rfl,rfl⟩;simp[Hp.upd,show ¬j=cc by omega,show ¬j=c1 by omega]
  |true =>
   rw[if_neg (by simp[h2])]at h;obtain⟨h3,h4,h5⟩:=J2 (by decide) h2;rw[h5]at h h2 ⊢;simp only[go_sem,seval,h2];have ne0:=V3 t cc c1 c4 (by omega);have k2:RI L { s with i:=s.i+1,par:=s.par+1 }:=⟨hnn (by omega),hro,hro1,hR.o2,by show 0<=s.par+1;omega,h4⟩;by_cases hk2:k=2
   ·subst hk2;rw[if_pos rfl]at h;cases hb:J6 L E f 1 { s with i:=s.i+1,par:=s.par+1 } with
    |none=>rw[hb]at h;cases h
    |some q =>
     obtain⟨e,s3⟩:=q;rw[hb]at h;dsimp only at h;obtain⟨a1,a2⟩:=(RI.all f).1 _ _ _ hb k2;obtain⟨b1,b2⟩:=a1.exp (E:=E) (x:=[41]);have hi3:=a1.i;dsimp only at a2 b2 hi3;refine wA5 h2 hw hw2 ne0 @A0 @A1 ?_;refine AC.call (ib 1 _ (e,s3) (by decide) (by decide) hb k2 _ _ t (by rw[hnO,A0]) (by omega)) ?_;rintro v H' c5 ⟨rfl,rfl⟩ hc5;dsimp only;simp only[go_sem,seval,ne0,A0,A1,Ex.v_w];refine wAx ne0 @A0 @A1 ?_;refine AC.call (c_expect L E s3 _ _ t (by repeat (first|exact A0|rw[hnO])) (by omega) (by omega) _) ?_;rintro v H' c6 ⟨rfl,rfl⟩ hc6;obtain⟨s4,hs4⟩:∃s4,s4=D9 L E s3 [41]:=⟨_,rfl⟩;rw[<- hs4]at h b1 b2 ⊢;have hw5:IntKind.i64.wrap (s4.par-1)=s4.par-1:=w6z;cases h;simp only[go_sem,seval,ne0,A0,A1,Ex.v_w];refine wAz hw5 ne0 @A0 @A1 ?_;rw[C9 (rv5 rfl A0)];refine⟨_,_,K1 (cc:=cc) (B7 hfr htc) (λj hj=>?_),rfl,rfl⟩;simp[Hp.upd,show ¬j=cc by omega,show ¬j=c1 by omega,show ¬j=c4 by omega];try(split<;>rfl)
   ·rw[if_neg hk2]at h;have hd2:(k==2)=false:=by simpa using hk2
    cases hb:R5 L E f { s with i:=s.i+1,par:=s.par+1 } with
    |none=>rw[hb]at h;cases h
    |some q =>
     obtain⟨e,s3⟩:=q;rw[hb]at h;dsimp only at h;obtain⟨a1,a2⟩:=(RI.all f).2.2 _ _ hb k2;dsimp only at a2;refine wA8 h2 hw hw2 hw3 hd2 ne0 @A0 @A1 ?_;refine AC.call (iu _ (e,s3) hb k2 _ _ t (by rw[hnO,A0]) (by omega)) ?_;rintro v H' c5 ⟨rfl,rfl⟩ hc5;have hw5:IntKind.i64.wrap (s3.par-1)=s3.par-1:=w6z;cases h;have ne0:=S7 t cc c1 c4 (c4+1+4) (by omega);simp only[go_sem,seval,ne0,A0,A1,Ex.v_w];refine wAx ne0 @A0 @A1 ?_
     and_intros
     all_goals try(first|rw[hw3]|((repeat rw[hnO]);exact hfr _ (by omega)))
     refine wAz hw5 ne0 @A0 @A1 ?_;rw[C9 (rv5 rfl A0)];refine⟨_,_,B8s (cc:=cc) (b:=c4+1+4) [e] (B7 hfr htc) (by omega) ?_ (λj hj=>?_),rfl,rfl⟩
     ·rw[V7];dsimp only
      repeat (first|exact A0|rw[hnO])
     simp[Hp.upd,show ¬j=cc by omega,show ¬j=c1 by omega,show ¬j=c4 by omega,show ¬j=c4+1+4 by omega];try(split<;>rfl)
abbrev exB(e:Ex):Blk:=⟨0,true,[I64 e.kind,I64 e.value,.str e.name,J4 e.args,I64 e.pos]⟩
theorem c_binary(L:List Tok)(E:Int)(hL:L.length<=1000000000)(f:Nat)
  (ib:∀g,g<=f->∀n s r,1<=n->n<=6->J6 L E g n s=some r->RI L s->RdC L E 217 [I64 n] s (r.1.v,r.2))
  (iu:∀s r,R5 L E f s=some r->RI L s->RdC L E 229 [] s (r.1.v,r.2))
  (n:Int) (s:Rd) (r:Ex × Rd) (hn1:1<=n) (hn6:n<=6) (h:J6 L E (f+1) n s=some r) (hR:RI L s):RdC L E 217 [I64 n] s (r.1.v,r.2):=by
 intro H cc t ht htc;refine AC.go A2 λhfr=>?_;unfold J6 at h;have ne0:=Q8 t cc (by omega);by_cases h5:5<n
 ·rw[if_pos h5]at h;have hd:decide (n>5)=true:=by simpa using h5
  refine wAs hd ?_;refine AC.call (iu _ _ h hR _ _ t (by rw[hnO];exact ht) (by omega)) ?_;rintro v H' c1 ⟨rfl,rfl⟩ hc1;dsimp only;simp only[go_sem,seval,ne0,A0,A1,Ex.v_w];refine wAx ne0 @A0 @A1 ?_;rw[C9 (rv5 rfl A0)];refine⟨_,_,K1 (cc:=cc) (B7 hfr htc) (λj hj=>?_),rfl,rfl⟩;simp[Hp.upd,show ¬j=cc by omega]
 rw[if_neg h5]at h;have hd:decide (n>5)=false:=by simpa using h5
 have hw:IntKind.i64.wrap (n+1)=n+1:=w6z;cases hb:J6 L E f (n+1) s with
 |none=>rw[hb]at h;cases h
 |some q =>
  obtain⟨e,s1⟩:=q;rw[hb]at h;dsimp only at h;obtain⟨a1,a2⟩:=(RI.all f).1 _ _ _ hb hR;dsimp only at a1;refine wAs (wJ hd hw) ?_;refine AC.call (ib f (A0D _) (n+1) _ _ (by omega) (by omega) hb hR _ _ t (by rw[hnO];exact ht) (by omega)) ?_;rintro v H' c1 ⟨rfl,rfl⟩ hc1;dsimp only;have ne0:=M7 t cc c1 (by omega);simp only[go_sem,seval,ne0,A0,A1,Ex.v_w];refine wAx ne0 @A0 @A1 ?_;refine C4s (λ_:Nat × Ex × Rd=>[(0,.ptr t 0),(1,I64 n),(4,.ptr cc 0),(5,.ptr c1 0)]) (λq=>((H.upd cc A5k).upd t (rdR L E q.2.2)).upd c1 (exB q.2.1))
   (λq c=>c1+1<=c/\q.1<=f/\R2 L E q.1 n q.2.1 q.2.2=some r/\RI L q.2.2) (λq=>q.1) (f,e,s1) (λb=>by simp[B5,tm,Tm.upd]) (by simp[B5,tm,Tm.upd]) (Sub.refl _) ⟨A0D _,A0D _,h,a1⟩ ?_
  clear h hb a1 a2 s1 e;rintro⟨g,e,s1⟩ c ⟨hc,hg,hv,k1⟩;dsimp only at hc hg hv k1 ⊢;have hri:=k1.i;cases g with
  |zero=>simp[R2]at hv
  |succ g =>
  unfold R2 at hv;dsimp only at hv;have hTt:∀b:Blk,(((H.upd cc A5k).upd t (rdR L E s1)).upd c1 b) t=some (rdR L E s1):=λb=>by rw[hnO,A0]
  refine wA9 c_signs31 ?_;refine AC.call (c_among L E s1 _ _ t (hTt _) (by omega) D2 (by decide)) ?_;rintro v H' c2 ⟨rfl,rfl⟩ hc2;have hkr : -1<=B8 L E s1 D2/\B8 L E s1 D2<13:=A2r L E s1 D2 0;have hnn:0<=B8 L E s1 D2->s1.i<L.length:=λh=>(I6 h).2.1;generalize B8 L E s1 D2=k at hv hkr hnn;have hwk:IntKind.i64.wrap (12+k)=12+k:=w6z;by_cases hk:k<0
  ·rw[if_pos (.inl hk)]at hv;cases hv;have hdk:decide (k<0)=true:=by simpa using hk
   refine wA0 ne0 hdk @A0 @A1 ?_;rw[C9 (rv5 rfl A0)];refine⟨_,_,K1 (cc:=cc) (B7 hfr htc) (λj hj=>?_),rfl,rfl⟩;simp[Hp.upd,show ¬j=cc by omega,show ¬j=c1 by omega]
  have hdk:decide (k<0)=false:=by simpa using hk
  by_cases hl:B9 (12+k)=n
  ·rw[iN]at hv;have hdl:(B9 (12+k) != n)=false:=by simp[hl]
   simp only[go_sem,seval,ne0,hdk];(repeat'((with_reducible first|apply wr|refine cpc (c_level _) ?_|refine B0 ?_ ?_|apply wb2<;>(intro hb;try simp only[hb]))<;>try simp only[go_sem,seval,ne0,hdk,hwk,hdl,A0,A1]));cases hb:J6 L E g (n+1) (A6 s1) with
   |none=>rw[hb]at hv;cases hv
   |some q =>
    obtain⟨x,s2⟩:=q;rw[hb]at hv;dsimp only at hv;have k2:=k1.nxt (hnn (by omega));obtain⟨b1,b2⟩:=(RI.all g).1 _ _ _ hb k2;dsimp only at b1;have hw2:IntKind.i64.wrap ((s1.i:Int)+1)=((s1.i+1:Nat):Int):=i7
    refine AC.call (c_peek L E s1 _ _ t (hTt _) (by omega)) ?_;rintro v H' c3 ⟨rfl,rfl⟩ hc3;have ne0:=S7 t cc c1 c3 (c3+7) (by omega);refine wA6 hw2 hwk hw ne0 @A0 @A1 ?_;refine AC.call (ib g (by omega) (n+1) (A6 s1) (x,s2) (by omega) (by omega) hb k2 _ _ t (by repeat (first|exact A0|rw[hnO])) (by omega)) ?_;rintro v H' c4 ⟨rfl,rfl⟩ hc4;dsimp only;simp only[go_sem,seval,ne0,A0,A1,Ex.v_w];refine wAx ne0 @A0 @A1 ?_
    and_intros
    all_goals try(first|rw[hwk]|((repeat rw[hnO]);exact hfr _ (by omega)))
    by_cases h3:n=3
    ·rw[if_pos h3]at hv;cases hv;have hd3:(n==3)=true:=by simpa using h3
     refine wAz hd3 ne0 @A0 @A1 ?_;rw[C9 (rv5 rfl A0)];refine⟨_,_,B8s (cc:=cc) (b:=c3+7) [e,x] (B7 hfr htc) (by omega) ?_ (λj hj=>?_),rfl,rfl⟩
     ·rw[B4b];dsimp only
      repeat (first|exact A0|rw[hnO])
     simp[Hp.upd,show ¬j=cc by omega,show ¬j=c1 by omega,show ¬j=c3+7 by omega];try(split<;>rfl)
    ·rw[if_neg h3]at hv;have hd3:(n==3)=false:=by simpa using h3
     refine wAz hd3 ne0 @A0 @A1 ?_;refine⟨(g,.mk (12+k) 0 [] [e,x] (A4 L E s1).pos,s2),?_,inv ⟨b8,g9,hv,b1⟩,by simp only;omega⟩;refine GL.frzT (id:=c3+7) (b:=⟨5,true,cellsL ([e,x].map Ex.v)⟩) ?_ rfl (λj=>?_) (FzL.refl _)
     ·rw[B4b]
      repeat (first|exact A0|rw[hnO])
     by_cases j1:j=c1
     ·subst j1;refine .inr ⟨b8,.inr ⟨_,_,A0,A0,rfl,rfl,.cons _ _ _ _ (.same _) (.cons _ _ _ _ (.same _) (.cons _ _ _ _ (.same _) (.cons _ _ _ _ (Q2 (u:=5) (xs:=[e,x].map Ex.v) (by simp) (A4i _) ⟨[],by simp⟩) (.cons _ _ _ _ (.same _) .nil)))),by simp[DV.one]⟩⟩
     ·by_cases j2:j=c3+7
      ·subst j2;left
       repeat rw[hnO]
       exact hfr _ (by omega)
      ·refine .inr ⟨j2,.inl ?_⟩;simp[Hp.upd,j1,j2];try(split<;>rfl)
  ·rw[if_pos (.inr hl)]at hv;cases hv;have hdl:(B9 (12+k) != n)=true:=by simpa using hl
   simp only[go_sem,seval,ne0,hdk];(repeat'((with_reducible first|apply wr|refine cpc (c_level _) ?_|refine B0 ?_ ?_|apply wb2<;>(intro hb;try simp only[hb]))<;>try simp only[go_sem,seval,ne0,hdk,hwk,hdl,A0,A1]));rw[C9 (rv5 rfl A0)];refine⟨_,_,K1 (cc:=cc) (B7 hfr htc) (λj hj=>?_),rfl,rfl⟩;simp[Hp.upd,show ¬j=cc by omega,show ¬j=c1 by omega]
theorem c_bu(L:List Tok)(E:Int)(hL:L.length<=1000000000):∀f:Nat,(∀n s r,1<=n->n<=6->J6 L E f n s=some r->RI L s->RdC L E 217 [I64 n] s (r.1.v,r.2))/\(∀s r,R5 L E f s=some r->RI L s->RdC L E 229 [] s (r.1.v,r.2)):=by
 intro f
 induction f using Nat.strongRecOn with
 |_ f ih =>
  cases f with
  |zero=>exact⟨λn s r _ _ h=>by simp[J6]at h,λs r h=>by simp[R5]at h⟩
  |succ f =>
   exact⟨λn s r h1 h2 h hR=>c_binary L E hL f (λg hg=>(ih g (by omega)).1) (ih f (by omega)).2 n s r h1 h2 h hR,
    λs r h hR=>c_unary L E hL f (ih f (by omega)).1 (ih f (by omega)).2 s r h hR⟩
theorem c_expression(L:List Tok)(E:Int)(hL:L.length<=1000000000)(f:Nat)(s:Rd)(r:Ex × Rd)(h:L3 L E f s=some r)(hi:s.i<=L.length):RdC L E 193 [] s (r.1.v,r.2):=by
 intro H cc t ht htc;refine AC.go A2 λhfr=>?_;have ne0:=Q8 t cc (by omega);refine wAz ht ne0 @A0 @A1 ?_;refine AC.call ((c_bu L E hL f).1 1 { s with ops:=0,par:=0 } r (by decide) (by decide) h ⟨hi,A2W 0,(by decide:(0:Int)<=33),λ_=>(by decide:(0:Int)<=32),A2W 0,(by decide:(0:Int)<=16)⟩ _ _ t (by exact A0) (by omega)) ?_;rintro v H' c1 ⟨rfl,rfl⟩ hc1;dsimp only;simp only[go_sem,seval,ne0,A0,A1,Ex.v_w];refine wAx ne0 @A0 @A1 ?_;rw[C9 (rv5 rfl A0)];refine⟨_,_,K1 (cc:=cc) (B7 hfr htc) (λj hj=>?_),rfl,rfl⟩;simp[Hp.upd,show ¬j=cc by omega];try(split<;>rfl)
abbrev x194:XT Tryz.prog 194:=mkF
instance t194:FT Tryz.prog 194 x194.d:=x194.ft
theorem C1s{K H':Hp}{cc b:Nat}(l:List Pb.St)(hK:∀i,cc<=i->K i=none)(hb0:cc<=b)(hb:H' b=some ⟨7,true,cellsL (l.map Pb.St.v)⟩)(h:∀j,j<cc->H' j=K j):
  GL H' [.slc b 0 l.length] K [F5 l] :=
 GL.frzS (id:=b) hb rfl (λj=>by
  by_cases hj:j<cc
  ·exact .inr ⟨b8,(h j hj).symm⟩
  ·exact .inl (hK j (by omega))) (.cons _ _ _ _ (Q2 (u:=7) (by simp) (A5v l) ⟨[],by simp⟩) .nil)
theorem B6y(e:Pb.St):cellsL ([e].map Pb.St.v)=[I64 e.kind,.str e.name,.str e.text,J4 e.args,F5 e.thn,F5 e.els,I64 e.pos]:=by
 rw[A0U,Pb.St.v_w];rfl
theorem c_other(L:List Tok)(E:Int)(hL:L.length<=1000000000)(f:Nat)
  (is:∀d s r,0<=d->d<=100->O8 L E f d s=some r->s.i<=L.length->RdC L E 166 [I64 d] s (r.1.v,r.2))
  (ib:∀d s r,0<=d->d<=100->K5 L E f d s=some r->s.i<=L.length->RdC L E 129 [I64 d] s (F5 r.1,r.2))
  (d:Int) (s:Rd) (r:List Pb.St × Rd) (hd0:0<=d) (hd:d<=99) (h:T8 L E (f+1) d s=some r) (hi:s.i<=L.length):RdC L E 194 [I64 d] s (F5 r.1,r.2):=by
 intro H cc t ht htc;refine AC.go A2 λhfr=>?_;unfold T8 at h;have hw:IntKind.i64.wrap (d+1)=d+1:=w6z;refine wAp ?_;refine AC.call (c_is L E s _ _ t ht (by omega) _) ?_;rintro v H' c1 ⟨rfl,rfl⟩ hc1;cases hq:isR L E s [105,102] with
 |true =>
  rw[if_pos hq]at h;cases hs:O8 L E f (d+1) s with
  |none=>rw[hs]at h;cases h
  |some q =>
   obtain⟨x,s1⟩:=q;rw[hs]at h;cases h;refine wAu (wJ hq hw) ?_;refine AC.call (is (d+1) s (x,s1) (by omega) (by omega) hs hi _ _ t ht (by omega)) ?_;rintro v H' c2 ⟨rfl,rfl⟩ hc2;dsimp only;simp only[go_sem,seval,Pb.St.v_w];refine wAp ?_;exact⟨_,_,C1s (cc:=cc) [x] (B7 hfr htc) (by omega) (by rw[B6y];exact A0) (λj hj=>by rw[hnO]),rfl,rfl⟩
 |false =>
  rw[if_neg (by simp[hq])]at h;refine wAu (wJ hq hw) ?_;refine AC.call (ib (d+1) s r (by omega) (by omega) h hi _ _ t ht (by omega)) ?_;rintro v H' c2 ⟨rfl,rfl⟩ hc2;refine wAq ?_;exact⟨_,_,GL.refl _ _,rfl,rfl⟩
theorem B1n{K H':Hp}{cc:Nat}{o:Option Nat}(l:List Pb.St)(hK:∀i,cc<=i->K i=none)(ho:∀i,o=some i->cc<=i)(hno:o=none->l=[])(hb:∀i,o=some i->H' i=some ⟨7,true,cellsL (l.map Pb.St.v)⟩)(h:∀j,j<cc->H' j=K j):
  GL H' [todoV o l.length] K [F5 l]:=by
 cases o with
 |none =>
  obtain rfl:=hno rfl;exact(K1 hK h).trans (GL.view fun ρ vs hA=>M6 (λv h=>h.snil_lst) vs hA)
 |some b=>exact C1s l hK (ho b rfl) (hb b rfl) h
theorem c_block(L:List Tok)(E:Int)(hL:L.length<=1000000000)(f:Nat)
  (is:∀g,g<=f->∀d s r,0<=d->d<=100->O8 L E g d s=some r->s.i<=L.length->RdC L E 166 [I64 d] s (r.1.v,r.2))
  (d:Int) (s:Rd) (r:List Pb.St × Rd) (hd0:0<=d) (hd:d<=100) (h:K5 L E (f+1) d s=some r) (hi:s.i<=L.length):RdC L E 129 [I64 d] s (F5 r.1,r.2):=by
 intro H cc t ht htc;refine AC.go A2 λhfr=>?_;unfold K5 at h;refine wAp ?_;refine AC.call (c_expect L E s _ _ t ht (by omega) (by omega) _) ?_;rintro v H' c1 ⟨rfl,rfl⟩ hc1;refine wAq ?_;refine B6 (λq:Nat × Option Nat × List Pb.St × Rd=>[(0,.ptr t 0),(1,I64 d),(5,todoV q.2.1 q.2.2.1.length)]) (λq=>optH (H.upd t (rdR L E q.2.2.2)) q.2.1 ⟨7,true,cellsL (q.2.2.1.map Pb.St.v)⟩)
  (λq c=>cc<=c/\q.1<=f/\q.2.2.2.i<=L.length/\(q.2.1=none->q.2.2.1=[])/\(∀i,q.2.1=some i->cc<=i/\i<c)/\q.2.2.1.length<=65/\(okR q.2.2.2=true->q.2.2.1.length<=64)/\R4 L E q.1 d q.2.2.1 q.2.2.2=some r) (λq=>q.1) (f,none,[],D9 L E s [123])
  (by simp[B5,tm,Tm.upd,todoV]) (Sub.refl _) ⟨hc1,A0D _,M5 hi,λ_=>rfl,(λi hi=>by cases hi),by simp,λ_=>by simp,h⟩ ?_
 clear h hi;rintro⟨g,o,l,u⟩ c ⟨hc,hg,hi,hno,ho,hl1,hl2,hv⟩;dsimp only at hc hg hi hno ho hl1 hl2 hv ⊢;have hHt:optH (H.upd t (rdR L E u)) o ⟨7,true,cellsL (l.map Pb.St.v)⟩ t=some (rdR L E u):=j7
 have hfin:∀(z:Rd) (j:Nat),j<cc->((optH (H.upd t (rdR L E u)) o ⟨7,true,cellsL (l.map Pb.St.v)⟩).upd t (rdR L E z)) j=(H.upd t (rdR L E z)) j:=λz j hj=>by
  by_cases ej:j=t
  ·subst ej;rw[A0,A0]
  ·rw[h_ne ej,h_ne ej,A8 (λi hi=>by have:=ho i hi;omega),h_ne ej]
 have hbo:∀(z:Rd) (i:Nat),o=some i->((optH (H.upd t (rdR L E u)) o ⟨7,true,cellsL (l.map Pb.St.v)⟩).upd t (rdR L E z)) i=some ⟨7,true,cellsL (l.map Pb.St.v)⟩:=λz i hi=>by
  have:=ho i hi;rw[hnO];subst hi;exact A0
 cases g with
 |zero=>simp[R4]at hv
 |succ g =>
 unfold R4 at hv;refine wAp ?_;refine AC.call (c_rdok L E u _ _ t hHt (by omega)) ?_;rintro v H' c2 ⟨rfl,rfl⟩ hc2;cases hok:okR u with
 |false =>
  rw[if_neg (by simp[hok])]at hv;cases hv;refine wAu hok ?_;refine AC.call (c_expect L E u _ _ t hHt (by omega) (by omega) _) ?_;rintro v H' c3 ⟨rfl,rfl⟩ hc3;refine wAq ?_;exact⟨_,_,B1n (cc:=cc) l (B7 hfr htc) (λi hi=>(ho i hi).1) hno (hbo _) (hfin _),rfl,rfl⟩
 |true =>
  refine wAu hok ?_;refine AC.call (c_is L E u _ _ t hHt (by omega) _) ?_;rintro v H' c3 ⟨rfl,rfl⟩ hc3;cases hq:isR L E u [125] with
  |true =>
   rw[if_neg (by simp[hq])]at hv;cases hv;refine wAu hq ?_;refine AC.call (c_expect L E u _ _ t hHt (by omega) (by omega) _) ?_;rintro v H' c4 ⟨rfl,rfl⟩ hc4;refine wAq ?_;exact⟨_,_,B1n (cc:=cc) l (B7 hfr htc) (λi hi=>(ho i hi).1) hno (hbo _) (hfin _),rfl,rfl⟩
  |false =>
   rw[if_pos ⟨hok,hq⟩]at hv;refine wBd c_stmts31 hq ?_;refine AC.call (c_among L E u _ _ t hHt (by omega) C5 (by decide)) ?_;rintro v H' c4 ⟨rfl,rfl⟩ hc4;generalize B8 L E u C5=k at hv;have hlen:A3i (todoV o l.length)=some (I64 l.length):=by
    cases o with
    |none=>rw[hno rfl];rfl
    |some b=>rfl
   have hwl:IntKind.i64.wrap ((l.length:Int)+1)=(l.length:Int)+1:=w6z;by_cases hsy:k<0/\I9 L E u 1=false
   ·rw[if_pos hsy]at hv;cases hv;have hdk:decide (k<0)=true:=by simpa using hsy.1
    have h1:=hsy.2;refine wAu hdk ?_;refine AC.call (c_isKind L E u _ _ t hHt (by omega) 1) ?_;rintro v H' c5 ⟨rfl,rfl⟩ hc5;refine wAu h1 ?_;refine AC.call (c_syntax L E u _ _ t hHt (by omega)) ?_;rintro v H' c6 ⟨rfl,rfl⟩ hc6;refine wAq ?_;exact⟨_,_,(K1 (cc:=cc) (B7 hfr htc) (hfin _)).trans (GL.view fun ρ vs hA=>M6 (λv h=>h.snil_lst) vs hA),rfl,rfl⟩
   rw[if_neg hsy]at hv;cases hs:O8 L E g d (D3 L E u ((l.length:Int)+1) 64 9) with
   |none=>rw[hs]at hv;cases hv
   |some q =>
   obtain⟨x,s1⟩:=q;rw[hs]at hv;dsimp only at hv;have hix:=(II.all g).2.2.1 _ _ _ hs (by rw[I5];exact hi);have hnok:=D9g hs;have hll:=hl2 hok;have hlk:okR s1=true->l.length+1<=64:=λh=>by
    cases hz:okR (D3 L E u ((l.length:Int)+1) 64 9) with
    |false=>rw[hnok hz]at h;cases h
    |true=>have:=(J2 (by decide) hz).2.1;omega
   rcases(show ¬k<0\/(k<0/\I9 L E u 1=true) by
    by_cases hk:k<0
    ·exact .inr ⟨hk,by cases h1:I9 L E u 1 with|true=>rfl|false=>exact absurd ⟨hk,h1⟩ hsy⟩
    ·exact .inl hk) with hk|⟨hk,h1⟩
   case' inl =>
    have hdk:decide (k<0)=false:=by simpa using hk
    refine wAi hdk ?_;obtain⟨c5,hc5,e5⟩:∃c5,c4<=c5/\c5=c4:=⟨c4,A0D _,rfl⟩;rw[<- e5];clear e5 hdk hk
   case' inr =>
    have hdk:decide (k<0)=true:=by simpa using hk
    refine wAu hdk ?_;refine AC.call (c_isKind L E u _ _ t hHt (by omega) 1) ?_;rintro v H' c5 ⟨rfl,rfl⟩ hc5;refine wAi h1 ?_;clear hdk hk h1
   all_goals
    unfold B3a;refine wAs (wJ hlen hwl) ?_;refine AC.call (c_limit L E u _ _ t hHt (by omega) _ _ _) ?_;rintro v H' c6 ⟨rfl,rfl⟩ hc6;refine wAq ?_;refine AC.call (is g (by omega) d _ (x,s1) hd0 hd hs (by rw[I5];exact hi) _ _ t A0 (by omega)) ?_;rintro v H' c7 ⟨rfl,rfl⟩ hc7;dsimp only;have ne0:=M7 t c7 (c7+1) (by omega);simp only[go_sem,seval,ne0,A1,Pb.St.v_w];refine wAs ne0 ?_;refine G7 (D4 (cs:=cellsL (l.map Pb.St.v)) (λe=>by rw[hno e];exact⟨rfl,rfl⟩) (λi hi=>?_) (by rw[C7 (u:=7) (A5v _)];simp) (by omega) (by omega) (by omega)) ?_
    ·have:=ho i hi;rw[hnO];exact hbo _ i hi
    refine wAu ne0 ?_;refine⟨(g,some (c7+1),l++[x],s1),o7,?_,inv ⟨b8,g9,hix,(λh=>by cases h),(λi hi=>by cases hi;omega),o8,(λh=>by have:=hlk h;simp only[A0A,A0E];omega),hv⟩,by simp only;omega⟩;intro jj b hj;simp only[optH]at hj;by_cases e1:jj=c7+1
    ·subst e1;rw[A0]at hj ⊢;rw[<- hj,A0P,C8,B6y]
    ·rw[h_ne e1]at hj ⊢;by_cases e2:jj=t
     ·subst e2;rw[A0]at hj;rw[A9 (λi hi=>by have:=ho i hi;omega),hnO,A0];exact hj
     ·rw[h_ne e2]at hj;have hjc:jj<cc:=Classical.byContradiction λh=>by rw[hfr jj (by omega)]at hj;cases hj
      rw[A9 (λi hi=>by have:=ho i hi;omega),hnO,h_ne e2,A8 (λi hi=>by have:=ho i hi;omega),h_ne e2];exact hj
end Go.Proofs.YtdclpmddofggcaaGreatDoor
set_option maxHeartbeats 8000000
namespace Go.Proofs.YtdclpmddofggcaaGreatDoor
open Go.Eng (IC IOper DReg IFn L4)
open Go.Sym Go.Pb
def NlR(a b:DV):Prop:=b=a\/(a=.snil/\b=.lst [])
theorem NlR.v{ρ:Ren}{v:Value}{a b:DV}(h:NlR a b)(k:VRel ρ a v):VRel ρ b v:=by
 rcases h with rfl|⟨rfl,rfl⟩
 ·exact k
 ·exact k.snil_lst
theorem E3q{ρ:Ren}{v:Value}{a b c d e f g d' e' f':DV}(hd:NlR d d')(he:NlR e e')(hf:NlR f f')(h:VRel ρ (.agg [a,b,c,d,e,f,g]) v):VRel ρ (.agg [a,b,c,d',e',f',g]) v:=by
 obtain⟨bb,rfl,k1,k2⟩:=h.agg_inv;refine .agg _ _ k1 λj x y hx hy=>?_
 match j with
 |0=>cases hx;exact k2 0 _ y rfl hy
 |1=>cases hx;exact k2 1 _ y rfl hy
 |2=>cases hx;exact k2 2 _ y rfl hy
 |3=>cases hx;exact hd.v (k2 3 _ y rfl hy)
 |4=>cases hx;exact he.v (k2 4 _ y rfl hy)
 |5=>cases hx;exact hf.v (k2 5 _ y rfl hy)
 |6=>cases hx;exact k2 6 _ y rfl hy
 |_+7=>cases hx
theorem B8r{K H':Hp}{cc:Nat}{a b c d e f g d' e' f':DV}(hd:NlR d d')(he:NlR e e')(hf:NlR f f')(hK:∀i,cc<=i->K i=none)(h:∀j,j<cc->H' j=K j):GL H' [.agg [a,b,c,d,e,f,g]] K [.agg [a,b,c,d',e',f',g]] :=
 (K1 hK h).trans (GL.view fun ρ vs hA=>M6 (λv h=>E3q hd he hf h) vs hA)
theorem S0{K H':Hp}{cc i:Nat}{a b c e f g e' f':DV}(l:List Ex)(he:NlR e e')(hf:NlR f f')(hK:∀i,cc<=i->K i=none)(hi0:cc<=i)(hb:H' i=some ⟨5,true,cellsL (l.map Ex.v)⟩)(h:∀j,j<cc->H' j=K j):GL H' [.agg [a,b,c,.slc i 0 l.length,e,f,g]] K [.agg [a,b,c,J4 l,e',f',g]] :=
 (GL.frzS (id:=i) hb rfl (λj=>by
  by_cases hj:j<cc
  ·exact .inr ⟨b8,(h j hj).symm⟩
  ·exact .inl (hK j (by omega))) (.cons _ _ _ _ (.agg _ _ (.cons _ _ _ _ (.same _) (.cons _ _ _ _ (.same _) (.cons _ _ _ _ (.same _) (.cons _ _ _ _ (Q2 (u:=5) (by simp) (A4i l) ⟨[],by simp⟩) (.cons _ _ _ _ (.same _) (.cons _ _ _ _ (.same _) (.cons _ _ _ _ (.same _) .nil)))))))) .nil)).trans (GL.view fun ρ vs hA=>M6 (λv h=>E3q (.inl rfl) he hf h) vs hA)
theorem rv7{s:Sym.St}{x i u:Nat}{a b c d e f g:DV}{o:Bool}(h:s.T x=.ptr i 0)(hb:s.H i=some ⟨u,o,[a,b,c,d,e,f,g]⟩):A1t s [.cell x 7 true]=some (.agg [a,b,c,d,e,f,g]):=by
 simp only[A1t,A5g,h,ldv,hb];rfl
theorem c_statement(L:List Tok)(E:Int)(hL:L.length<=1000000000)(f:Nat)
  (ib:∀d s r,0<=d->d<=100->K5 L E f d s=some r->s.i<=L.length->RdC L E 129 [I64 d] s (F5 r.1,r.2))
  (io:∀d s r,0<=d->d<=99->T8 L E f d s=some r->s.i<=L.length->RdC L E 194 [I64 d] s (F5 r.1,r.2))
  (d:Int) (s0:Rd) (r:Pb.St × Rd) (hd0:0<=d) (hd:d<=100) (h:O8 L E (f+1) d s0=some r) (hi:s0.i<=L.length):RdC L E 166 [I64 d] s0 (r.1.v,r.2):=by
 intro H cc t ht htc;refine AC.go A2 λhfr=>?_;unfold O8 at h;dsimp only at h;refine wAp ?_;refine AC.call (c_limit L E s0 _ _ t (by rw[hnO];exact ht) (by omega) _ _ _) ?_;rintro v H' c1 ⟨rfl,rfl⟩ hc1;have his:(D3 L E s0 d 8 50).i<=L.length:=by rw[I5];exact hi
 generalize hsq:D3 L E s0 d 8 50=s at *;have ne0:=Q8 t cc (by omega);refine wAq ?_;refine AC.call (c_rdok L E s _ _ t A0 (by omega)) ?_;rintro v H' c2 ⟨rfl,rfl⟩ hc2;cases hok:okR s with
 |false =>
  rw[if_pos hok]at h;cases h;refine wA0 hok ne0 @A0 @A1 ?_;rw[C9 (rv7 rfl A0)];refine⟨_,_,B8r (cc:=cc) (.inr ⟨rfl,rfl⟩) (.inr ⟨rfl,rfl⟩) (.inr ⟨rfl,rfl⟩) (B7 hfr htc) (λj hj=>?_),rfl,rfl⟩;simp[Hp.upd,show ¬j=cc by omega]
 |true =>
  rw[if_neg (by simp[hok])]at h;have hd8:d<=8:=by rw[<- hsq]at hok;exact(J2 (by decide) hok).2.1
  refine wAu hok ?_;refine AC.call (c_peek L E s _ _ t A0 (by omega)) ?_;rintro v H' c3 ⟨rfl,rfl⟩ hc3;have ne0:=M7 t cc c3 (by omega);refine wBd c_stmts31 (wJ ne0 (wJ @A0 @A1)) ?_;refine AC.call (c_among L E s _ _ t (by rw[hnO];exact A0) (by omega) C5 (by decide)) ?_;rintro v H' c4 ⟨rfl,rfl⟩ hc4;have hkr : -1<=B8 L E s C5/\B8 L E s C5<18:=A2r L E s C5 0;have hnn:0<=B8 L E s C5->s.i<L.length:=λh=>(I6 h).2.1;generalize B8 L E s C5=k at h hkr hnn;generalize (A4 L E s).pos=p at h ⊢;have hti:=M0 (E:=E) (x:=1) (by decide) his;by_cases hk:k<0
  ·rw[if_pos hk]at h;have hdk:decide (k<0)=true:=by simpa using hk
   cases hz5:L3 L E f (D9 L E (A7 L E s 1).2 [61]) with
   |none=>rw[hz5]at h;cases h
   |some qhz5 =>
    obtain⟨e,s1⟩:=qhz5;rw[hz5]at h;dsimp only at h;cases h;refine wA0 hdk ne0 @A0 @A1 ?_;refine AC.call (c_name L E s _ _ t (by repeat (first|exact A0|rw[hnO]|rw[D5 (by omega)])) (by omega) (by have:=his;omega)) ?_;rintro v H' c6 ⟨rfl,rfl⟩ hc6;try dsimp only
    refine wAy ne0 @A0 @A1 ?_;refine AC.call (c_expect L E (A7 L E s 1).2 _ _ t (by repeat (first|exact A0|rw[hnO]|rw[D5 (by omega)])) (by omega) (by have:=hti;omega) _) ?_;rintro v H' c7 ⟨rfl,rfl⟩ hc7;try dsimp only
    refine wAy ne0 @A0 @A1 ?_;refine AC.call (c_expression L E hL f (D9 L E (A7 L E s 1).2 [61]) (e,s1) hz5 (M5 hti) _ _ t (by repeat (first|exact A0|rw[hnO]|rw[D5 (by omega)])) (by omega)) ?_;rintro v H' c8 ⟨rfl,rfl⟩ hc8;have ne0:=V3 t cc c3 c8 (by omega);try dsimp only
    simp only[go_sem,seval,Ex.v_w,ne0,A0,A1];refine wAx ne0 @A0 @A1 ?_;have h1i:=U4 hz5 (M5 hti);dsimp only at h1i;refine AC.call (c_expect L E s1 _ _ t (by repeat (first|exact A0|rw[hnO]|rw[D5 (by omega)])) (by omega) (by have:=h1i;omega) _) ?_;rintro v H' c9 ⟨rfl,rfl⟩ hc9;try dsimp only
    refine wAy ne0 @A0 @A1 ?_;rw[C9 (rv7 rfl A0)];refine⟨_,_,S0 (cc:=cc) (i:=c8) [e] (.inr ⟨rfl,rfl⟩) (.inr ⟨rfl,rfl⟩) (B7 hfr htc) (by omega) ?_ (λj hj=>?_),(by first|rfl|(rw[Pb.St.v_w];done)|(rw[Pb.St.v_w];rfl)),rfl⟩
    ·rw[V7];dsimp only
     repeat (first|exact A0|rw[hnO]|rw[D5 (by omega)])
    simp[Hp.upd,Hp.del,show ¬j=cc by omega,show ¬j=c3 by omega,show ¬j=c8 by omega];try(split<;>rfl)
  rw[if_neg hk]at h;have hdk:decide (k<0)=false:=by simpa using hk
  have hw2:IntKind.i64.wrap ((s.i:Int)+1)=((s.i+1:Nat):Int):=i7
  have hwk:IntKind.i64.wrap (2+k)=2+k:=w6z;have hwd:IntKind.i64.wrap (d+1)=d+1:=w6z;have hn:(A6 s).i<=L.length:=hnn (by omega);simp only[go_sem,seval,hdk,ne0,A0,A1];have u2:IntKind.i64.wrap 2=2:=w6z;have u3:IntKind.i64.wrap 3=3:=w6z;have u4:IntKind.i64.wrap 4=4:=w6z;have u8:IntKind.i64.wrap 8=8:=w6z;have u9:IntKind.i64.wrap 9=9:=w6z;have u10:IntKind.i64.wrap 10=10:=w6z;have u18:IntKind.i64.wrap 18=18:=w6z;have u19:IntKind.i64.wrap 19=19:=w6z;by_cases hb:k=0\/k=1
  ·rw[if_pos hb]at h;cases hz10:L3 L E f (A6 s) with
   |none=>rw[hz10]at h;cases h
   |some qhz10 =>
    obtain⟨e,s2⟩:=qhz10;rw[hz10]at h;dsimp only at h;cases hz11:K5 L E f (d+1) s2 with
    |none=>rw[hz11]at h;cases h
    |some qhz11 =>
     obtain⟨tt,s3⟩:=qhz11;rw[hz11]at h;dsimp only at h;have h2i:=U4 hz10 hn;dsimp only at h2i;have h3i:=(II.all f).1 _ _ _ hz11 h2i;dsimp only at h3i;have hw3:IntKind.i64.wrap ((s3.i:Int)+1)=((s3.i+1:Nat):Int):=i7
     rcases hb with rfl|rfl
     ·refine wAw hdk hw2 hwk u2 u3 u4 u8 u9 u10 u18 u19 ne0 @A0 @A1 ?_;refine AC.call (c_expression L E hL f (A6 s) (e,s2) hz10 (hn) _ _ t (by repeat (first|exact A0|rw[hnO]|rw[D5 (by omega)])) (by omega)) ?_;rintro v H' c12 ⟨rfl,rfl⟩ hc12;have ne0:=V3 t cc c3 c12 (by omega);try dsimp only
      simp only[go_sem,seval,Ex.v_w,ne0,A0,A1];refine wAx ne0 @A0 @A1 ?_;try simp only[hwd]
      refine AC.call (ib (d+1) s2 (tt,s3) (by omega) (by omega) hz11 h2i _ _ t (by repeat (first|exact A0|rw[hnO]|rw[D5 (by omega)])) (by omega)) ?_;rintro v H' c13 ⟨rfl,rfl⟩ hc13;try dsimp only
      refine wAy ne0 @A0 @A1 ?_;refine AC.call (c_is L E s3 _ _ t (by repeat (first|exact A0|rw[hnO]|rw[D5 (by omega)])) (by omega) _) ?_;rintro v H' c14 ⟨rfl,rfl⟩ hc14;cases hq:isR L E s3 [101,108,115,101] with
      |true =>
       rw[if_pos ⟨rfl,hq⟩]at h;cases hz15:T8 L E f d (A6 s3) with
       |none=>rw[hz15]at h;cases h
       |some qhz15 =>
        obtain⟨oo,s4⟩:=qhz15;rw[hz15]at h;dsimp only at h;cases h;refine wA3 hq hw3 ne0 @A0 @A1 ?_;refine AC.call (io d (A6 s3) (oo,s4) hd0 (by omega) hz15 (A0m hq).2 _ _ t (by repeat (first|exact A0|rw[hnO]|rw[D5 (by omega)])) (by omega)) ?_;rintro v H' c16 ⟨rfl,rfl⟩ hc16;try dsimp only
        refine wAy ne0 @A0 @A1 ?_;rw[C9 (rv7 rfl A0)];refine⟨_,_,S0 (cc:=cc) (i:=c12) [e] (.inl rfl) (.inl rfl) (B7 hfr htc) (by omega) ?_ (λj hj=>?_),(by first|rfl|(rw[Pb.St.v_w];done)|(rw[Pb.St.v_w];rfl)),rfl⟩
        ·rw[V7];dsimp only
         repeat (first|exact A0|rw[hnO]|rw[D5 (by omega)])
        simp[Hp.upd,Hp.del,show ¬j=cc by omega,show ¬j=c3 by omega,show ¬j=c12 by omega];try(split<;>rfl)
      |false =>
       rw[if_neg (by simp[hq])]at h;cases h;refine wA0 hq ne0 @A0 @A1 ?_;rw[C9 (rv7 rfl A0)];refine⟨_,_,S0 (cc:=cc) (i:=c12) [e] (.inl rfl) (.inr ⟨rfl,rfl⟩) (B7 hfr htc) (by omega) ?_ (λj hj=>?_),(by first|rfl|(rw[Pb.St.v_w];done)|(rw[Pb.St.v_w];rfl)),rfl⟩
       ·rw[V7];dsimp only
        repeat (first|exact A0|rw[hnO]|rw[D5 (by omega)])
       simp[Hp.upd,Hp.del,show ¬j=cc by omega,show ¬j=c3 by omega,show ¬j=c12 by omega];try(split<;>rfl)
     ·refine wAw hdk hw2 hwk u2 u3 u4 u8 u9 u10 u18 u19 ne0 @A0 @A1 ?_;refine AC.call (c_expression L E hL f (A6 s) (e,s2) hz10 (hn) _ _ t (by repeat (first|exact A0|rw[hnO]|rw[D5 (by omega)])) (by omega)) ?_;rintro v H' c17 ⟨rfl,rfl⟩ hc17;have ne0:=V3 t cc c3 c17 (by omega);try dsimp only
      simp only[go_sem,seval,Ex.v_w,ne0,A0,A1];refine wAx ne0 @A0 @A1 ?_;try simp only[hwd]
      refine AC.call (ib (d+1) s2 (tt,s3) (by omega) (by omega) hz11 h2i _ _ t (by repeat (first|exact A0|rw[hnO]|rw[D5 (by omega)])) (by omega)) ?_;rintro v H' c18 ⟨rfl,rfl⟩ hc18;try dsimp only
      refine wAy ne0 @A0 @A1 ?_;rw[if_neg (by simp)]at h;cases h;rw[C9 (rv7 rfl A0)];refine⟨_,_,S0 (cc:=cc) (i:=c17) [e] (.inl rfl) (.inr ⟨rfl,rfl⟩) (B7 hfr htc) (by omega) ?_ (λj hj=>?_),(by first|rfl|(rw[Pb.St.v_w];done)|(rw[Pb.St.v_w];rfl)),rfl⟩
      ·rw[V7];dsimp only
       repeat (first|exact A0|rw[hnO]|rw[D5 (by omega)])
      simp[Hp.upd,Hp.del,show ¬j=cc by omega,show ¬j=c3 by omega,show ¬j=c17 by omega];try(split<;>rfl)
  rw[if_neg hb]at h;unfold P6 at h;dsimp only at h;by_cases k2:k=2
  ·subst k2;rw[if_pos (by decide)]at h;cases hz19:L3 L E f (A6 s) with
   |none=>rw[hz19]at h;cases h
   |some qhz19 =>
    obtain⟨e,s1⟩:=qhz19;rw[hz19]at h;dsimp only at h;cases h;have h1i:=U4 hz19 hn;dsimp only at h1i;refine wAw hdk hw2 hwk u2 u3 u4 u8 u9 u10 u18 u19 ne0 @A0 @A1 ?_;refine AC.call (c_expression L E hL f (A6 s) (e,s1) hz19 (hn) _ _ t (by repeat (first|exact A0|rw[hnO]|rw[D5 (by omega)])) (by omega)) ?_;rintro v H' c20 ⟨rfl,rfl⟩ hc20;have ne0:=V3 t cc c3 c20 (by omega);try dsimp only
    simp only[go_sem,seval,Ex.v_w,ne0,A0,A1];refine wAx ne0 @A0 @A1 ?_;refine AC.call (c_expect L E s1 _ _ t (by repeat (first|exact A0|rw[hnO]|rw[D5 (by omega)])) (by omega) (by have:=h1i;omega) _) ?_;rintro v H' c21 ⟨rfl,rfl⟩ hc21;try dsimp only
    refine wAy ne0 @A0 @A1 ?_;rw[C9 (rv7 rfl A0)];refine⟨_,_,S0 (cc:=cc) (i:=c20) [e] (.inr ⟨rfl,rfl⟩) (.inr ⟨rfl,rfl⟩) (B7 hfr htc) (by omega) ?_ (λj hj=>?_),(by first|rfl|(rw[Pb.St.v_w];done)|(rw[Pb.St.v_w];rfl)),rfl⟩
    ·rw[V7];dsimp only
     repeat (first|exact A0|rw[hnO]|rw[D5 (by omega)])
    simp[Hp.upd,Hp.del,show ¬j=cc by omega,show ¬j=c3 by omega,show ¬j=c20 by omega];try(split<;>rfl)
  rw[iN]at h;by_cases k16:k=16
  ·subst k16;rw[if_pos (by decide)]at h;have h4i:=M0 (E:=E) (x:=4) (by decide) hn;cases hz22:L3 L E f (D9 L E (A7 L E (A6 s) 4).2 [44]) with
   |none=>rw[hz22]at h;cases h
   |some qhz22 =>
    obtain⟨e,s1⟩:=qhz22;rw[hz22]at h;dsimp only at h;cases h;have h1i:=U4 hz22 (M5 h4i);dsimp only at h1i;refine wAw hdk hw2 hwk u2 u3 u4 u8 u9 u10 u18 u19 ne0 @A0 @A1 ?_;refine AC.call (c_take L E (A6 s) _ _ t (by repeat (first|exact A0|rw[hnO]|rw[D5 (by omega)])) (by omega) (by omega) 4) ?_;rintro v H' c23 ⟨rfl,rfl⟩ hc23;try dsimp only
    refine wAy ne0 @A0 @A1 ?_;refine AC.call (c_expect L E (A7 L E (A6 s) 4).2 _ _ t (by repeat (first|exact A0|rw[hnO]|rw[D5 (by omega)])) (by omega) (by have:=h4i;omega) _) ?_;rintro v H' c24 ⟨rfl,rfl⟩ hc24;try dsimp only
    refine wAy ne0 @A0 @A1 ?_;refine AC.call (c_expression L E hL f (D9 L E (A7 L E (A6 s) 4).2 [44]) (e,s1) hz22 (M5 h4i) _ _ t (by repeat (first|exact A0|rw[hnO]|rw[D5 (by omega)])) (by omega)) ?_;rintro v H' c25 ⟨rfl,rfl⟩ hc25;have ne0:=V3 t cc c3 c25 (by omega);try dsimp only
    simp only[go_sem,seval,Ex.v_w,ne0,A0,A1];refine wAx ne0 @A0 @A1 ?_;refine AC.call (c_expect L E s1 _ _ t (by repeat (first|exact A0|rw[hnO]|rw[D5 (by omega)])) (by omega) (by have:=h1i;omega) _) ?_;rintro v H' c26 ⟨rfl,rfl⟩ hc26;try dsimp only
    refine wAy ne0 @A0 @A1 ?_;rw[C9 (rv7 rfl A0)];refine⟨_,_,S0 (cc:=cc) (i:=c25) [e] (.inr ⟨rfl,rfl⟩) (.inr ⟨rfl,rfl⟩) (B7 hfr htc) (by omega) ?_ (λj hj=>?_),(by first|rfl|(rw[Pb.St.v_w];done)|(rw[Pb.St.v_w];rfl)),rfl⟩
    ·rw[V7];dsimp only
     repeat (first|exact A0|rw[hnO]|rw[D5 (by omega)])
    simp[Hp.upd,Hp.del,show ¬j=cc by omega,show ¬j=c3 by omega,show ¬j=c25 by omega];try(split<;>rfl)
  rw[iN]at h;by_cases k17:k=17
  ·subst k17;rw[if_pos (by decide)]at h;cases h;refine wAw hdk hw2 hwk u2 u3 u4 u8 u9 u10 u18 u19 ne0 @A0 @A1 ?_;refine AC.call (c_expect L E (A6 s) _ _ t (by repeat (first|exact A0|rw[hnO]|rw[D5 (by omega)])) (by omega) (by have:=hn;omega) _) ?_;rintro v H' c27 ⟨rfl,rfl⟩ hc27;try dsimp only
   refine wAy ne0 @A0 @A1 ?_;rw[C9 (rv7 rfl A0)];refine⟨_,_,B8r (cc:=cc) (.inr ⟨rfl,rfl⟩) (.inr ⟨rfl,rfl⟩) (.inr ⟨rfl,rfl⟩) (B7 hfr htc) (λj hj=>?_),(by first|rfl|(rw[Pb.St.v_w];done)|(rw[Pb.St.v_w];rfl)),rfl⟩;simp[Hp.upd,Hp.del,show ¬j=cc by omega,show ¬j=c3 by omega];try(split<;>rfl)
  rw[iN]at h;have hti2:=M0 (E:=E) (x:=1) (by decide) hn;by_cases k7:k=7
  ·subst k7;rw[iP]at h;cases hz28:L3 L E f (A7 L E (A6 s) 1).2 with
   |none=>rw[hz28]at h;cases h
   |some qhz28 =>
    obtain⟨e,s1⟩:=qhz28;rw[hz28]at h;dsimp only at h;rw[if_pos (by decide)]at h;have h1i:=U4 hz28 hti2;dsimp only at h1i;cases hz29:L3 L E f (D9 L E s1 [44]) with
    |none=>rw[hz29]at h;cases h
    |some qhz29 =>
     obtain⟨e2,s2⟩:=qhz29;rw[hz29]at h;dsimp only at h;cases h;have h2i:=U4 hz29 (M5 h1i);dsimp only at h2i;refine wAw hdk hw2 hwk u2 u3 u4 u8 u9 u10 u18 u19 ne0 @A0 @A1 ?_;refine AC.call (c_name L E (A6 s) _ _ t (by repeat (first|exact A0|rw[hnO]|rw[D5 (by omega)])) (by omega) (by have:=hn;omega)) ?_;rintro v H' c30 ⟨rfl,rfl⟩ hc30;try dsimp only
     refine wAy ne0 @A0 @A1 ?_;refine AC.call (c_expression L E hL f (A7 L E (A6 s) 1).2 (e,s1) hz28 (hti2) _ _ t (by repeat (first|exact A0|rw[hnO]|rw[D5 (by omega)])) (by omega)) ?_;rintro v H' c31 ⟨rfl,rfl⟩ hc31;have ne0:=V3 t cc c3 c31 (by omega);try dsimp only
     simp only[go_sem,seval,Ex.v_w,ne0,A0,A1];refine wAx ne0 @A0 @A1 ?_;refine AC.call (c_expect L E s1 _ _ t (by repeat (first|exact A0|rw[hnO]|rw[D5 (by omega)])) (by omega) (by have:=h1i;omega) _) ?_;rintro v H' c32 ⟨rfl,rfl⟩ hc32;try dsimp only
     refine wAy ne0 @A0 @A1 ?_;have hgx:=M5 (E:=E) (x:=[44]) h1i;refine AC.call (c_expression L E hL f (D9 L E s1 [44]) (e2,s2) hz29 (M5 h1i) _ _ t (by repeat (first|exact A0|rw[hnO]|rw[D5 (by omega)])) (by omega)) ?_;rintro v H' c33 ⟨rfl,rfl⟩ hc33;have ne0:=S7 t cc c3 c31 (c32+4) (by omega);try dsimp only
     simp only[go_sem,seval,Ex.v_w,ne0,A0,A1];refine wAx ne0 @A0 @A1 ?_;refine⟨?_,?_⟩
     ·and_intros
      all_goals((repeat rw[hnO]);exact hfr _ (by omega))
     have ne0:=A7n t cc c3 c31 (c32+4) c33 (by omega);try simp only[go_sem,seval,delO,D5,W9,ne0,A0,A1]
     (repeat'((with_reducible first|apply wr|refine B0 ?_ ?_|apply wb2<;>(intro hb;try simp only[hb]))<;>try simp only[go_sem,seval,delO,D5,W9,ne0,A0,A1]));refine S8 (A1n (by rfl) (by omega) (by omega)) ?_;try simp only[go_sem,seval,D5,W9,ne0,A0,A1]
     refine wA2 @D5 @W9 ne0 @A0 @A1 ?_;refine AC.call (c_expect L E s2 _ _ t (by repeat (first|exact A0|rw[hnO]|rw[D5 (by omega)])) (by omega) (by have:=h2i;omega) _) ?_;rintro v H' c34 ⟨rfl,rfl⟩ hc34;try dsimp only
     refine wAy ne0 @A0 @A1 ?_;rw[C9 (rv7 rfl A0)];refine⟨_,_,S0 (cc:=cc) (i:=c33) [e,e2] (.inr ⟨rfl,rfl⟩) (.inr ⟨rfl,rfl⟩) (B7 hfr htc) (by omega) ?_ (λj hj=>?_),(by first|rfl|(rw[Pb.St.v_w];done)|(rw[Pb.St.v_w];rfl)),rfl⟩
     ·rw[B4b];dsimp only
      repeat (first|exact A0|rw[hnO]|rw[D5 (by omega)])
     simp[Hp.upd,Hp.del,show ¬j=cc by omega,show ¬j=c3 by omega,show ¬j=c31 by omega,show ¬j=c32+4 by omega,show ¬j=c33 by omega];try(split<;>rfl)
  by_cases k68:k=6\/k=8
  ·rw[iP]at h;cases hz35:L3 L E f (A7 L E (A6 s) 1).2 with
   |none=>rw[hz35]at h;cases h
   |some qhz35 =>
    obtain⟨e,s1⟩:=qhz35;rw[hz35]at h;dsimp only at h;rw[iN]at h;cases h;have h1i:=U4 hz35 hti2;dsimp only at h1i;rcases k68 with rfl|rfl
    all_goals
     refine wAw hdk hw2 hwk u2 u3 u4 u8 u9 u10 u18 u19 ne0 @A0 @A1 ?_;refine AC.call (c_name L E (A6 s) _ _ t (by repeat (first|exact A0|rw[hnO]|rw[D5 (by omega)])) (by omega) (by have:=hn;omega)) ?_;rintro v H' c36 ⟨rfl,rfl⟩ hc36;try dsimp only
     refine wAy ne0 @A0 @A1 ?_;refine AC.call (c_expression L E hL f (A7 L E (A6 s) 1).2 (e,s1) hz35 (hti2) _ _ t (by repeat (first|exact A0|rw[hnO]|rw[D5 (by omega)])) (by omega)) ?_;rintro v H' c37 ⟨rfl,rfl⟩ hc37;have ne0:=V3 t cc c3 c37 (by omega);try dsimp only
     simp only[go_sem,seval,Ex.v_w,ne0,A0,A1];refine wAx ne0 @A0 @A1 ?_;refine AC.call (c_expect L E s1 _ _ t (by repeat (first|exact A0|rw[hnO]|rw[D5 (by omega)])) (by omega) (by have:=h1i;omega) _) ?_;rintro v H' c38 ⟨rfl,rfl⟩ hc38;try dsimp only
     refine wAy ne0 @A0 @A1 ?_;rw[C9 (rv7 rfl A0)];refine⟨_,_,S0 (cc:=cc) (i:=c37) [e] (.inr ⟨rfl,rfl⟩) (.inr ⟨rfl,rfl⟩) (B7 hfr htc) (by omega) ?_ (λj hj=>?_),(by first|rfl|(rw[Pb.St.v_w];done)|(rw[Pb.St.v_w];rfl)),rfl⟩
     ·rw[V7];dsimp only
      repeat (first|exact A0|rw[hnO]|rw[D5 (by omega)])
     simp[Hp.upd,Hp.del,show ¬j=cc by omega,show ¬j=c3 by omega,show ¬j=c37 by omega];try(split<;>rfl)
  rw[iN]at h;cases h;have e2:(2+k==2)=false:=a8
  have e3:(2+k==3)=false:=a8
  have e4:(2+k==4)=false:=a8
  have e18:(2+k==18)=false:=a8
  have e19:(2+k==19)=false:=a8
  have e8:(2+k==8)=false:=a8
  have e9:(2+k==9)=false:=a8
  have e10:(2+k==10)=false:=a8
  refine wAs (wJ hdk (wJ hw2 (wJ hwk (wJ u2 (wJ u3 (wJ u4 (wJ u8 (wJ u9 (wJ u10 (wJ u18 (wJ u19 (wJ e2 (wJ e3 (wJ e4 (wJ e18 (wJ e19 (wJ e8 (wJ e9 (wJ e10 (wJ ne0 (wJ @A0 @A1))))))))))))))))))))) ?_;refine AC.call (c_name L E (A6 s) _ _ t (by repeat (first|exact A0|rw[hnO]|rw[D5 (by omega)])) (by omega) (by have:=hn;omega)) ?_;rintro v H' c39 ⟨rfl,rfl⟩ hc39;try dsimp only
  refine wA6 e8 e9 e10 ne0 @A0 @A1 ?_;refine AC.call (c_expect L E (A7 L E (A6 s) 1).2 _ _ t (by repeat (first|exact A0|rw[hnO]|rw[D5 (by omega)])) (by omega) (by have:=hti2;omega) _) ?_;rintro v H' c40 ⟨rfl,rfl⟩ hc40;try dsimp only
  refine wAy ne0 @A0 @A1 ?_;rw[C9 (rv7 rfl A0)];refine⟨_,_,B8r (cc:=cc) (.inr ⟨rfl,rfl⟩) (.inr ⟨rfl,rfl⟩) (.inr ⟨rfl,rfl⟩) (B7 hfr htc) (λj hj=>?_),(by first|rfl|(rw[Pb.St.v_w];done)|(rw[Pb.St.v_w];rfl)),rfl⟩;simp[Hp.upd,Hp.del,show ¬j=cc by omega,show ¬j=c3 by omega];try(split<;>rfl)
end Go.Proofs.YtdclpmddofggcaaGreatDoor
set_option maxHeartbeats 4000000
namespace Go.Proofs.YtdclpmddofggcaaGreatDoor
open Go.Eng (IC IOper DReg IFn L4)
open Go.Sym Go.Pb
theorem c_stm(L:List Tok)(E:Int)(hL:L.length<=1000000000):∀f:Nat,
  (∀d s r,0<=d->d<=100->O8 L E f d s=some r->s.i<=L.length->RdC L E 166 [I64 d] s (r.1.v,r.2)) /\
  (∀d s r,0<=d->d<=100->K5 L E f d s=some r->s.i<=L.length->RdC L E 129 [I64 d] s (F5 r.1,r.2)) /\
  (∀d s r,0<=d->d<=99->T8 L E f d s=some r->s.i<=L.length->RdC L E 194 [I64 d] s (F5 r.1,r.2)):=by
 intro f
 induction f using Nat.strongRecOn with
 |_ f ih =>
  cases f with
  |zero=>exact⟨λd s r _ _ h=>by simp[O8]at h,λd s r _ _ h=>by simp[K5]at h,λd s r _ _ h=>by simp[T8]at h⟩
  |succ f =>
   have i0:=ih f (by omega);exact⟨λd s r h1 h2 h hi=>c_statement L E hL f i0.2.1 i0.2.2 d s r h1 h2 h hi,
    λd s r h1 h2 h hi=>c_block L E hL f (λg hg=>(ih g (by omega)).1) d s r h1 h2 h hi,
    λd s r h1 h2 h hi=>c_other L E hL f i0.1 i0.2.1 d s r h1 h2 h hi⟩
theorem c_declaration(L:List Tok)(E:Int)(s:Rd)(H:Hp)(cc t:Nat)(ht:H t=some (rdR L E s))(htc:t<cc)(hL:L.length<=1000000000)(hv:∀x∈L,0<=x.value/\x.value<=9223372036854775807)(k:Int)(hk0:0<=k)(hk:k<8)(hi:s.i<L.length):AC Tryz.prog 72 [.ptr t 0,I64 k] H cc (λv H' c'=>v=(R0 L E k s).1.v/\H'=H.upd t (rdR L E (R0 L E k s).2)):=by
 refine AC.go A2 λhfr=>?_;have hwk:IntKind.i64.wrap (1+k)=1+k:=w6z;have hw:IntKind.i64.wrap ((s.i:Int)+1)=((s.i+1:Nat):Int):=i7
 have hn:(A6 s).i<=L.length:=hi;have hti:=M0 (E:=E) (x:=1) (by decide) hn;refine wAp ?_;refine AC.call (c_peek L E s _ _ t (by rw[hnO];exact ht) (by omega)) ?_;rintro v H' c1 ⟨rfl,rfl⟩ hc1;have ne0:=M7 t cc c1 (by omega);refine wA6 ht hw hwk ne0 @A0 @A1 ?_;refine AC.call (c_name L E (A6 s) _ _ t (by repeat (first|exact A0|rw[hnO])) (by omega) (by omega)) ?_;rintro v H' c2 ⟨rfl,rfl⟩ hc2;have hval:∀z,0<=(A7 L E z 3).1.value/\(A7 L E z 3).1.value<=9223372036854775807:=λz=>by
  unfold A7;split
  ·exact⟨A2W 0,(by decide:(0:Int)<=9223372036854775807)⟩
  ·show 0<=(A4 L E z).value/\(A4 L E z).value<=9223372036854775807;unfold A4;rw[A1E];cases hg:L[z.i]? with
   |none=>exact⟨A2W 0,(by decide:(0:Int)<=9223372036854775807)⟩
   |some x=>exact hv x (A0S hg)
 obtain⟨D,hD⟩:∃D,D=R0 L E k s:=⟨_,rfl⟩;rw[<- hD];unfold R0 at hD;dsimp only at hD;generalize (A4 L E s).pos=p at hD ⊢;generalize (A7 L E (A6 s) 1).1.text=n at hD ⊢;generalize (A7 L E (A6 s) 1).2=s2 at hD hti ⊢;by_cases h6:k+1<=6
 ·rw[if_pos h6]at hD;have hd6:decide (1+k<=6)=true:=by simp;omega
  have hw2:IntKind.i64.wrap ((s2.i:Int)+1)=((s2.i+1:Nat):Int):=i7
  by_cases h5:k=5
  ·subst h5;refine wA0 hd6 ne0 @A0 @A1 ?_;refine AC.call (c_is L E s2 _ _ t (by repeat (first|exact A0|rw[hnO])) (by omega) _) ?_;rintro v H' c3 ⟨rfl,rfl⟩ hc3;cases hq:isR L E s2 [45] with
   |true =>
    rw[hq]at hD;have hn2:(A6 s2).i<=L.length:=(A0m hq).2;have hv2:=hval (A6 s2);have hneg:IntKind.i64.wrap (0-(A7 L E (A6 s2) 3).1.value) = -(A7 L E (A6 s2) 3).1.value:=i7
    simp only[go_sem,seval,hq,hw2,ne0,A0,A1];refine wAz hw2 ne0 @A0 @A1 ?_;have h4i:=M0 (E:=E) (x:=3) (by decide) hn2;subst hD;refine AC.call (c_take L E (A6 s2) _ _ t (by repeat (first|exact A0|rw[hnO])) (by omega) (by omega) 3) ?_;rintro v H' c4 ⟨rfl,rfl⟩ hc4;try dsimp only
    refine wA0 hneg ne0 @A0 @A1 ?_;refine AC.call (c_expect L E (A7 L E (A6 s2) 3).2 _ _ t (by repeat (first|exact A0|rw[hnO])) (by omega) (by omega) _) ?_;rintro v H' c9 ⟨rfl,rfl⟩ hc9;refine wAy ne0 @A0 @A1 ?_;rw[C9 (rv4 rfl A0)];refine⟨_,_,K1 (cc:=cc) (B7 hfr htc) (λj hj=>?_),rfl,rfl⟩;simp[Hp.upd,show ¬j=cc by omega,show ¬j=c1 by omega];try(split<;>rfl)
   |false =>
    rw[hq]at hD;simp only[go_sem,seval,hq,ne0,A0,A1];refine wAx ne0 @A0 @A1 ?_;have h4i:=M0 (E:=E) (x:=3) (by decide) hti;subst hD;refine AC.call (c_take L E s2 _ _ t (by repeat (first|exact A0|rw[hnO])) (by omega) (by omega) 3) ?_;rintro v H' c4 ⟨rfl,rfl⟩ hc4;try dsimp only
    refine wAy ne0 @A0 @A1 ?_;refine AC.call (c_expect L E (A7 L E s2 3).2 _ _ t (by repeat (first|exact A0|rw[hnO])) (by omega) (by omega) _) ?_;rintro v H' c9 ⟨rfl,rfl⟩ hc9;refine wAy ne0 @A0 @A1 ?_;rw[C9 (rv4 rfl A0)];refine⟨_,_,K1 (cc:=cc) (B7 hfr htc) (λj hj=>?_),rfl,rfl⟩;simp[Hp.upd,show ¬j=cc by omega,show ¬j=c1 by omega];try(split<;>rfl)
  ·have hd5:(1+k==6)=false:=by simp;omega
   have hm:(k+1==6)=false:=a8
   rw[hm]at hD;refine wA3 hd6 hd5 ne0 @A0 @A1 ?_;have h4i:=M0 (E:=E) (x:=3) (by decide) hti;subst hD;refine AC.call (c_take L E s2 _ _ t (by repeat (first|exact A0|rw[hnO])) (by omega) (by omega) 3) ?_;rintro v H' c4 ⟨rfl,rfl⟩ hc4;try dsimp only
   refine wAy ne0 @A0 @A1 ?_;refine AC.call (c_expect L E (A7 L E s2 3).2 _ _ t (by repeat (first|exact A0|rw[hnO])) (by omega) (by omega) _) ?_;rintro v H' c9 ⟨rfl,rfl⟩ hc9;refine wAy ne0 @A0 @A1 ?_;rw[C9 (rv4 rfl A0)];refine⟨_,_,K1 (cc:=cc) (B7 hfr htc) (λj hj=>?_),rfl,rfl⟩;simp[Hp.upd,show ¬j=cc by omega,show ¬j=c1 by omega];try(split<;>rfl)
 ·rw[if_neg h6]at hD;have hd6:decide (1+k<=6)=false:=by simp;omega
  subst hD;refine wA0 hd6 ne0 @A0 @A1 ?_;refine AC.call (c_expect L E s2 _ _ t (by repeat (first|exact A0|rw[hnO])) (by omega) (by omega) _) ?_;rintro v H' c3 ⟨rfl,rfl⟩ hc3;refine wAy ne0 @A0 @A1 ?_;rw[C9 (rv4 rfl A0)];refine⟨_,_,K1 (cc:=cc) (B7 hfr htc) (λj hj=>?_),rfl,rfl⟩;simp[Hp.upd,show ¬j=cc by omega,show ¬j=c1 by omega];try(split<;>rfl)
theorem E3s{ρ:Ren}{v:Value}{a b e:DV}(h:VRel ρ (.agg [a,b,.snil,e]) v):VRel ρ (.agg [a,b,.lst [],e]) v:=by
 obtain⟨bb,rfl,k1,k2⟩:=h.agg_inv;refine .agg _ _ k1 λj x y hx hy=>?_
 match j with
 |0=>cases hx;exact k2 0 _ y rfl hy
 |1=>cases hx;exact k2 1 _ y rfl hy
 |2=>cases hx;exact(k2 2 _ y rfl hy).snil_lst
 |3=>cases hx;exact k2 3 _ y rfl hy
 |_+4=>cases hx
theorem D1x{K H':Hp}{cc:Nat}{o:Option Nat}{a b e:DV}(l:List Hd)(hK:∀i,cc<=i->K i=none)(ho:∀i,o=some i->cc<=i)(hno:o=none->l=[])(hb:∀i,o=some i->H' i=some ⟨4,true,cellsL (l.map Hd.v)⟩)(h:∀j,j<cc->H' j=K j):
  GL H' [.agg [a,b,todoV o l.length,e]] K [.agg [a,b,O0 l,e]]:=by
 cases o with
 |none =>
  obtain rfl:=hno rfl;exact(K1 hK h).trans (GL.view fun ρ vs hA=>M6 (λv h=>E3s h) vs hA)
 |some i =>
  have:=ho i rfl;exact GL.frzS (id:=i) (hb i rfl) rfl (λj=>by
   by_cases hj:j<cc
   ·exact .inr ⟨b8,(h j hj).symm⟩
   ·exact .inl (hK j (by omega))) (.cons _ _ _ _ (.agg _ _ (.cons _ _ _ _ (.same _) (.cons _ _ _ _ (.same _) (.cons _ _ _ _ (Q2 (u:=4) (by simp) (A2m l) ⟨[],by simp⟩) (.cons _ _ _ _ (.same _) .nil))))) .nil)
theorem c_mode(L:List Tok)(E:Int)(hL:L.length<=1000000000)(f:Nat)(s:Rd)(r:Md × Rd)(h:A3h L E f s=some r)(hi:s.i<=L.length):RdC L E 75 [] s (r.1.v,r.2):=by
 intro H cc t ht htc;refine AC.go A2 λhfr=>?_;unfold A3h at h;dsimp only at h;have i1:=M5 (E:=E) (x:=[109,111,100,101]) hi;generalize hs1:D9 L E s [109,111,100,101]=s1 at h i1;have i2:=M0 (E:=E) (x:=1) (by decide) i1;have i3:=M0 (E:=E) (x:=3) (by decide) i2;have i4:=M5 (E:=E) (x:=[123]) i3;refine wAp ?_;refine AC.call (c_peek L E s _ _ t (by rw[hnO];exact ht) (by omega)) ?_;rintro v H' c1 ⟨rfl,rfl⟩ hc1;have ne0:=M7 t cc c1 (by omega);refine wAy ne0 @A0 @A1 ?_;refine AC.call (c_expect L E s _ _ t (by repeat (first|exact ht|rw[hnO])) (by omega) (by omega) _) ?_;rintro v H' c2 ⟨rfl,rfl⟩ hc2;rw[hs1];refine wAy ne0 @A0 @A1 ?_;refine AC.call (c_name L E s1 _ _ t (by repeat (first|exact A0|rw[hnO])) (by omega) (by omega)) ?_;rintro v H' c3 ⟨rfl,rfl⟩ hc3;generalize (A7 L E s1 1).1.text=n at h ⊢;generalize (A7 L E s1 1).2=s2 at h i2 i3 i4 ⊢;refine wAy ne0 @A0 @A1 ?_;refine AC.call (c_take L E s2 _ _ t (by repeat (first|exact A0|rw[hnO])) (by omega) (by omega) 3) ?_;rintro v H' c4 ⟨rfl,rfl⟩ hc4;try dsimp only
 refine wAy ne0 @A0 @A1 ?_;refine AC.call (c_expect L E (A7 L E s2 3).2 _ _ t (by repeat (first|exact A0|rw[hnO])) (by omega) (by omega) _) ?_;rintro v H' c5 ⟨rfl,rfl⟩ hc5;generalize (A7 L E s2 3).1.value=z at h ⊢;generalize D9 L E (A7 L E s2 3).2 [123]=s3 at h i4 ⊢;generalize (A4 L E s).pos=p at h ⊢;cases hm:R8 L E f [] s3 with
 |none=>rw[hm]at h;cases h
 |some q =>
  obtain⟨hl,s4⟩:=q;rw[hm]at h;dsimp only at h;cases h;refine wAy ne0 @A0 @A1 ?_;refine B6 (λ_:Nat × Option Nat × List Hd × Rd=>[(0,.ptr t 0),(2,.ptr cc 0),(3,.ptr c1 0)]) (λq=>optH (((H.upd cc ⟨0,true,[.str [],I64 0,.snil,I64 0]⟩).upd c1 ⟨0,true,[.str n,I64 z,todoV q.2.1 q.2.2.1.length,I64 p]⟩).upd t (rdR L E q.2.2.2)) q.2.1 ⟨4,true,cellsL (q.2.2.1.map Hd.v)⟩)
   (λq c=>c1+1<=c/\q.1<=f/\q.2.2.2.i<=L.length/\(q.2.1=none->q.2.2.1=[])/\(∀i,q.2.1=some i->c1<i/\i<c)/\q.2.2.1.length<=32/\R8 L E q.1 q.2.2.1 q.2.2.2=some (hl,s4)) (λq=>q.1) (f,none,[],s3)
   (by simp[B5,tm,Tm.upd]) (λj b hj=>?_) ⟨b8,A0D _,i4,λ_=>rfl,(λi hi=>by cases hi),by simp,hm⟩ ?_
  ·simp only[optH,A7a]at hj;by_cases e1:j=t
   ·subst e1;rw[A0]at hj ⊢;exact hj
   ·rw[h_ne e1]at hj ⊢;by_cases e2:j=c1
    ·subst e2;rw[A0]at hj ⊢;exact hj
    ·rw[h_ne e2]at hj ⊢;simp only[h_ne e1,h_ne e2];exact hj
  clear hm i1 i2 i3 i4;rintro⟨g,o,l,u⟩ c ⟨hc,hg,hi5,hno,ho,hl1,hv⟩;dsimp only at hc hg hi5 hno ho hl1 hv ⊢;cases g with
  |zero=>simp[R8]at hv
  |succ g =>
  unfold R8 at hv;dsimp only at hv;have hHt:optH (((H.upd cc ⟨0,true,[.str [],I64 0,.snil,I64 0]⟩).upd c1 ⟨0,true,[.str n,I64 z,todoV o l.length,I64 p]⟩).upd t (rdR L E u)) o ⟨4,true,cellsL (l.map Hd.v)⟩ t=some (rdR L E u):=j7
  refine wAp ?_;refine AC.call (c_rdok L E u _ _ t hHt (by omega)) ?_;rintro v H' c6 ⟨rfl,rfl⟩ hc6;have hbx:(optH (((H.upd cc ⟨0,true,[.str [],I64 0,.snil,I64 0]⟩).upd c1 ⟨0,true,[.str n,I64 z,todoV o l.length,I64 p]⟩).upd t (rdR L E u)) o ⟨4,true,cellsL (l.map Hd.v)⟩) c1=some ⟨0,true,[.str n,I64 z,todoV o l.length,I64 p]⟩:=n9
  have hbo:∀i:Nat,o=some i->(optH (((H.upd cc ⟨0,true,[.str [],I64 0,.snil,I64 0]⟩).upd c1 ⟨0,true,[.str n,I64 z,todoV o l.length,I64 p]⟩).upd t (rdR L E u)) o ⟨4,true,cellsL (l.map Hd.v)⟩) i=some ⟨4,true,cellsL (l.map Hd.v)⟩:=λi hi=>o9
  have hbj:∀j:Nat,j<cc->¬j=t->(optH (((H.upd cc ⟨0,true,[.str [],I64 0,.snil,I64 0]⟩).upd c1 ⟨0,true,[.str n,I64 z,todoV o l.length,I64 p]⟩).upd t (rdR L E u)) o ⟨4,true,cellsL (l.map Hd.v)⟩) j=H j:=λj h1 h2=>by rw[A8 (λi hi=>by have:=ho i hi;omega),h_ne h2,hnO,hnO]
  have hb0:(optH (((H.upd cc ⟨0,true,[.str [],I64 0,.snil,I64 0]⟩).upd c1 ⟨0,true,[.str n,I64 z,todoV o l.length,I64 p]⟩).upd t (rdR L E u)) o ⟨4,true,cellsL (l.map Hd.v)⟩) cc=some ⟨0,true,[.str [],I64 0,.snil,I64 0]⟩:=m0
  have hT:(todoV o l.length).one=true:=z7
  generalize hHH:optH (((H.upd cc ⟨0,true,[.str [],I64 0,.snil,I64 0]⟩).upd c1 ⟨0,true,[.str n,I64 z,todoV o l.length,I64 p]⟩).upd t (rdR L E u)) o ⟨4,true,cellsL (l.map Hd.v)⟩=HH at hHt hbx hbo hbj hb0 ⊢;have fin:∀(u2:Rd) (e:DV) (x:Blk) (q1 q2:DV),GL ((HH.upd t (rdR L E u2)).upd cc x) [.agg [q1,q2,todoV o l.length,e]] (H.upd t (rdR L E u2)) [.agg [q1,q2,O0 l,e]]:=λu2 e x q1 q2 =>
   D1x (cc:=cc) l (B7 hfr htc) (λi hi=>by have:=ho i hi;omega) hno (λi hi=>by have:=ho i hi;rw[hnO,hnO];exact hbo i hi) (λj hj=>by
    rw[hnO];by_cases e1:j=t
    ·subst e1;rw[A0,A0]
    ·rw[h_ne e1,h_ne e1,hbj j hj e1])
  cases hok:okR u with
  |false =>
   rw[if_neg (by simp[hok])]at hv;have e1:l=hl:=congrArg Prod.fst (Option.some.inj hv);have e2:D9 L E u [125]=s4:=congrArg Prod.snd (Option.some.inj hv);subst e1 e2;refine wAu hok ?_;refine AC.call (c_expect L E u _ _ t hHt (by omega) (by omega) _) ?_;rintro v H' c7 ⟨rfl,rfl⟩ hc7;refine wA3 ne0 @A0 hbx hb0 hT ?_;refine G7 (A3c (by rfl) (by decide) (by clear hHH;cases o<;>rfl)) ?_;refine wAu (wJ ne0 @A0) ?_;rw[C9 (rv4 rfl A0)];exact⟨_,_,fin _ _ _ _ _,rfl,rfl⟩
  |true =>
   refine wAu hok ?_;refine AC.call (c_is L E u _ _ t hHt (by omega) _) ?_;rintro v H' c7 ⟨rfl,rfl⟩ hc7;cases hq:isR L E u [125] with
   |true =>
    rw[if_neg (by simp[hq])]at hv;have e1:l=hl:=congrArg Prod.fst (Option.some.inj hv);have e2:D9 L E u [125]=s4:=congrArg Prod.snd (Option.some.inj hv);subst e1 e2;refine wAu hq ?_;refine AC.call (c_expect L E u _ _ t hHt (by omega) (by omega) _) ?_;rintro v H' c8 ⟨rfl,rfl⟩ hc8;refine wA3 ne0 @A0 hbx hb0 hT ?_;refine G7 (A3c (by rfl) (by decide) (by clear hHH;cases o<;>rfl)) ?_;refine wAu (wJ ne0 @A0) ?_;rw[C9 (rv4 rfl A0)];exact⟨_,_,fin _ _ _ _ _,rfl,rfl⟩
   |false =>
    rw[if_pos ⟨hok,hq⟩]at hv;refine wAu hq ?_;refine AC.call (c_is L E u _ _ t hHt (by omega) _) ?_;rintro v H' c8 ⟨rfl,rfl⟩ hc8;cases hon:isR L E u [111,110] with
    |false =>
     rw[if_pos hon]at hv;have e1:l=hl:=congrArg Prod.fst (Option.some.inj hv);have e2:R6 L E u=s4:=congrArg Prod.snd (Option.some.inj hv);subst e1 e2;refine wAu hon ?_;refine AC.call (c_syntax L E u _ _ t hHt (by omega)) ?_;rintro v H' c9 ⟨rfl,rfl⟩ hc9;refine wA3 ne0 @A0 hbx hb0 hT ?_;refine G7 (A3c (by rfl) (by decide) (by clear hHH;cases o<;>rfl)) ?_;refine wAu (wJ ne0 @A0) ?_;rw[C9 (rv4 rfl A0)];exact⟨_,_,fin _ _ _ _ _,rfl,rfl⟩
    |true =>
     rw[if_neg (by simp[hon])]at hv;have hlen:A3i (todoV o l.length)=some (I64 l.length):=by
      cases o with
      |none=>rw[hno rfl];rfl
      |some b=>rfl
     have hwl:IntKind.i64.wrap ((l.length:Int)+1)=(l.length:Int)+1:=w6z;refine wA0 hon hbx hlen hwl ?_;refine AC.call (c_limit L E u _ _ t hHt (by omega) _ _ _) ?_;rintro v H' c9 ⟨rfl,rfl⟩ hc9;have j1:(D3 L E u ((l.length:Int)+1) 32 9).i<=L.length:=by rw[I5];exact hi5
     generalize hlq:D3 L E u ((l.length:Int)+1) 32 9=u1 at hv j1 ⊢;have j2:=M5 (E:=E) (x:=[111,110]) j1;refine wAq ?_;refine AC.call (c_peek L E u1 _ _ t A0 (by omega)) ?_;rintro v H' c10 ⟨rfl,rfl⟩ hc10;have ne0:=V3 t cc c1 c10 (by omega);refine wAy ne0 @A0 @A1 ?_;refine AC.call (c_expect L E u1 _ _ t (by repeat (first|exact A0|rw[hnO])) (by omega) (by omega) _) ?_;rintro v H' c11 ⟨rfl,rfl⟩ hc11;generalize hu2:D9 L E u1 [111,110]=u2 at hv j2 ⊢;refine wBd c_trigs31 (wJ ne0 (wJ @A0 @A1)) ?_;refine AC.call (c_among L E u2 _ _ t (by repeat (first|exact A0|rw[hnO])) (by omega) F1 (by decide)) ?_;rintro v H' c12 ⟨rfl,rfl⟩ hc12;have hkr : -1<=B8 L E u2 F1/\B8 L E u2 F1<6:=A2r L E u2 F1 0;have hnn:0<=B8 L E u2 F1->okR u2=true/\u2.i<L.length:=λh=>⟨(I6 h).1,(I6 h).2.1⟩;generalize B8 L E u2 F1=k at hv hkr hnn;by_cases hk:k<0
     ·rw[if_pos hk]at hv;have e1:l=hl:=congrArg Prod.fst (Option.some.inj hv);have e2:R6 L E u2=s4:=congrArg Prod.snd (Option.some.inj hv);subst e1 e2;have hdk:decide (k<0)=true:=by simpa using hk
      simp only[go_sem,seval,ne0,hdk];refine wAs hdk ?_;refine AC.call (c_syntax L E u2 _ _ t (by repeat (first|exact A0|rw[hnO])) (by omega)) ?_;rintro v H' c13 ⟨rfl,rfl⟩ hc13;refine wA3 ne0 @A0 hbx hb0 hT ?_;refine G7 (A3c (by rfl) (by decide) (by clear hHH;cases o<;>rfl)) ?_;refine wAu (wJ ne0 @A0) ?_;rw[C9 (rv4 rfl A0)];refine⟨_,_,D1x (cc:=cc) l (B7 hfr htc) (λi hi=>by have:=ho i hi;omega) hno (λi hi=>?_) (λj hj=>?_),rfl,rfl⟩
      ·have:=ho i hi;dsimp only
       repeat rw[hnO]
       exact hbo i hi
      ·by_cases e1:j=t
       ·subst e1;dsimp only;rw[hnO,A0,A0]
       ·dsimp only
        repeat rw[hnO]
        exact hbj j hj e1
     rw[if_neg hk]at hv;have hdk:decide (k<0)=false:=by simpa using hk
     obtain⟨hok2,hi2⟩:=hnn (by omega);have hw2:IntKind.i64.wrap ((u2.i:Int)+1)=((u2.i+1:Nat):Int):=i7
     have hwk:IntKind.i64.wrap (1+k)=1+k:=w6z;have hn2:(A6 u2).i<=L.length:=hi2;have ht2:=M0 (E:=E) (x:=1) (by decide) hn2;have hl32:l.length+1<=32:=by
      have hok1:okR u1=true:=by
       cases hz:okR u1 with
       |true=>rfl
       |false =>
        have:D9 L E u1 [111,110]=R6 L E u1:=by unfold D9 isR;rw[hz];rfl
        rw[<- hu2,this,Z0]at hok2;cases hok2
      have:=(J2 (L:=L) (E:=E) (s:=u) (n:=(l.length:Int)+1) (m:=32) (e:=9) (by decide) (by rw[hlq];exact hok1)).2.1;omega
     simp only[go_sem,seval,ne0,hdk];by_cases hk2:2<=k
     ·rw[if_pos hk2,if_pos hk2]at hv;have hd2:decide (k≥2)=true:=by simpa using hk2
      refine wA7 hdk hd2 hw2 hwk ne0 @A0 @A1 ?_;refine AC.call (c_name L E (A6 u2) _ _ t (by repeat (first|exact A0|rw[hnO])) (by omega) (by omega)) ?_;rintro v H' c14 ⟨rfl,rfl⟩ hc14;refine wAy ne0 @A0 @A1 ?_;cases hb:K5 L E g 1 (A7 L E (A6 u2) 1).2 with
      |none=>rw[hb]at hv;cases hv
      |some qb =>
       obtain⟨bd,s6⟩:=qb;rw[hb]at hv;dsimp only at hv;have j6:=(II.all g).1 _ _ _ hb ht2;refine AC.call ((c_stm L E hL g).2.1 1 (A7 L E (A6 u2) 1).2 (bd,s6) (by decide) (by decide) hb ht2 _ _ t (by repeat (first|exact A0|rw[hnO])) (by omega)) ?_;rintro v H' c15 ⟨rfl,rfl⟩ hc15;try dsimp only
       have ne0:=S7 t cc c1 c10 c15 (by omega);refine wA0 ne0 @A0 @A1 hbx ?_;have hl4:(cellsL (l.map Hd.v)).length=l.length*4:=C7 (u:=4) (A2m _) |>.trans (by simp);refine G7 (D4 (cs:=cellsL (l.map Hd.v)) (λe=>by rw[hno e];exact⟨rfl,rfl⟩) (λi hi=>?_) hl4 (by omega) (by omega) (by omega)) ?_
       ·have:=ho i hi
        repeat rw[hnO]
        exact hbo i hi
       have hdx:∀X:Hp,delO X o c1=X c1:=λX=>A9 (λi hi=>by have:=ho i hi;omega);have ne0:=A7n t cc c1 c10 c15 (c15+1) (by omega);refine wA3 ne0 @A0 @A1 hdx hbx ?_;refine⟨(g,some (c15+1),l++[⟨1+k,(A7 L E (A6 u2) 1).1.text,bd,(A4 L E u1).pos⟩],s6),?_,inv ⟨b8,g9,j6,(λh=>by cases h),(λi hi=>by cases hi;omega),o8,hv⟩,by simp only;omega⟩;intro j b hj;simp only[optH,A2g,A0A,A0E,A0P,C8]at hj;by_cases e1:j=c15+1
       ·subst e1;rw[A0]at hj;rw[hnO,A0, <- hj];rfl
       rw[h_ne e1]at hj;by_cases e2:j=t
       ·subst e2;rw[A0]at hj;rw[hnO,hnO,A9 (λi hi=>by have:=ho i hi;omega),hnO,hnO,A0];exact hj
       rw[h_ne e2]at hj;by_cases e3:j=c1
       ·subst e3;rw[A0]at hj ⊢;exact hj
       rw[h_ne e3]at hj ⊢;by_cases e4:j=cc
       ·subst e4;rw[A0]at hj;rw[hnO,A9 (λi hi=>by have:=ho i hi;omega)]
        repeat rw[hnO]
        rw[hb0];exact hj
       ·rw[h_ne e4]at hj;have hjc:j<cc:=Classical.byContradiction λh=>by rw[hfr j (by omega)]at hj;cases hj
        rw[hnO,A9 (λi hi=>by have:=ho i hi;omega)]
        repeat rw[hnO]
        rw[hbj j hjc e2];exact hj
     ·rw[if_neg hk2,if_neg hk2]at hv;have hd2:decide (k≥2)=false:=by simpa using hk2
      refine wA7 hdk hd2 hw2 hwk ne0 @A0 @A1 ?_;cases hb:K5 L E g 1 (A6 u2) with
      |none=>rw[hb]at hv;cases hv
      |some qb =>
       obtain⟨bd,s6⟩:=qb;rw[hb]at hv;dsimp only at hv;have j6:=(II.all g).1 _ _ _ hb hn2;refine AC.call ((c_stm L E hL g).2.1 1 (A6 u2) (bd,s6) (by decide) (by decide) hb hn2 _ _ t (by repeat (first|exact A0|rw[hnO])) (by omega)) ?_;rintro v H' c15 ⟨rfl,rfl⟩ hc15;try dsimp only
       have ne0:=S7 t cc c1 c10 c15 (by omega);refine wA0 ne0 @A0 @A1 hbx ?_;have hl4:(cellsL (l.map Hd.v)).length=l.length*4:=C7 (u:=4) (A2m _) |>.trans (by simp);refine G7 (D4 (cs:=cellsL (l.map Hd.v)) (λe=>by rw[hno e];exact⟨rfl,rfl⟩) (λi hi=>?_) hl4 (by omega) (by omega) (by omega)) ?_
       ·have:=ho i hi
        repeat rw[hnO]
        exact hbo i hi
       have hdx:∀X:Hp,delO X o c1=X c1:=λX=>A9 (λi hi=>by have:=ho i hi;omega);have ne0:=A7n t cc c1 c10 c15 (c15+1) (by omega);refine wA3 ne0 @A0 @A1 hdx hbx ?_;refine⟨(g,some (c15+1),l++[⟨1+k,[],bd,(A4 L E u1).pos⟩],s6),?_,inv ⟨b8,g9,j6,(λh=>by cases h),(λi hi=>by cases hi;omega),o8,hv⟩,by simp only;omega⟩;intro j b hj;simp only[optH,A2g,A0A,A0E,A0P,C8]at hj;by_cases e1:j=c15+1
       ·subst e1;rw[A0]at hj;rw[hnO,A0, <- hj];rfl
       rw[h_ne e1]at hj;by_cases e2:j=t
       ·subst e2;rw[A0]at hj;rw[hnO,hnO,A9 (λi hi=>by have:=ho i hi;omega),hnO,hnO,A0];exact hj
       rw[h_ne e2]at hj;by_cases e3:j=c1
       ·subst e3;rw[A0]at hj ⊢;exact hj
       rw[h_ne e3]at hj ⊢;by_cases e4:j=cc
       ·subst e4;rw[A0]at hj;rw[hnO,A9 (λi hi=>by have:=ho i hi;omega)]
        repeat rw[hnO]
        rw[hb0];exact hj
       ·rw[h_ne e4]at hj;have hjc:j<cc:=Classical.byContradiction λh=>by rw[hfr j (by omega)]at hj;cases hj
        rw[hnO,A9 (λi hi=>by have:=ho i hi;omega)]
        repeat rw[hnO]
        rw[hbj j hjc e2];exact hj
theorem E8b{ρ:Ren}{v:Value}{a:DV}(h:VRel ρ (.agg [a,.snil]) v):VRel ρ (.agg [a,.lst []]) v:=by
 obtain⟨bb,rfl,k1,k2⟩:=h.agg_inv;refine .agg _ _ k1 λj x y hx hy=>?_
 match j with
 |0=>cases hx;exact k2 0 _ y rfl hy
 |1=>cases hx;exact(k2 1 _ y rfl hy).snil_lst
 |_+2=>cases hx
theorem D1v{K H':Hp}{cc:Nat}{o:Option Nat}{a:DV}(l:List Md)(hK:∀i,cc<=i->K i=none)(ho:∀i,o=some i->cc<=i)(hno:o=none->l=[])(hb:∀i,o=some i->H' i=some ⟨4,true,cellsL (l.map Md.v)⟩)(h:∀j,j<cc->H' j=K j):
  GL H' [.agg [a,todoV o l.length]] K [.agg [a,D8 l]]:=by
 cases o with
 |none =>
  obtain rfl:=hno rfl;exact(K1 hK h).trans (GL.view fun ρ vs hA=>M6 (λv h=>E8b h) vs hA)
 |some i =>
  have:=ho i rfl;exact GL.frzS (id:=i) (hb i rfl) rfl (λj=>by
   by_cases hj:j<cc
   ·exact .inr ⟨b8,(h j hj).symm⟩
   ·exact .inl (hK j (by omega))) (.cons _ _ _ _ (.agg _ _ (.cons _ _ _ _ (.same _) (.cons _ _ _ _ (Q2 (u:=4) (by simp) (A6h l) ⟨[],by simp⟩) .nil))) .nil)
theorem rv2{s:Sym.St}{x i u:Nat}{a b:DV}{o:Bool}(h:s.T x=.ptr i 0)(hb:s.H i=some ⟨u,o,[a,b]⟩):A1t s [.cell x 2 true]=some (.agg [a,b]):=by
 simp only[A1t,A5g,h,ldv,ldB,hb];rfl
theorem c_rules(L:List Tok)(E:Int)(hL:L.length<=1000000000)(hv:∀x∈L,0<=x.value/\x.value<=9223372036854775807)(f:Nat)(s:Rd)(r:Ru × Rd)(h:A7e L E f s=some r)(hi:s.i<=L.length):RdC L E 31 [] s (r.1.v,r.2):=by
 intro H cc t ht htc;refine AC.go A2 λhfr=>?_;unfold A7e at h;cases hd:T5 L E f [] s with
 |none=>rw[hd]at h;cases h
 |some q =>
 obtain⟨dl,s1⟩:=q;rw[hd]at h;dsimp only at h;cases hm:R7 L E f [] s1 with
 |none=>rw[hm]at h;cases h
 |some q =>
 obtain⟨ml,s2⟩:=q;rw[hm]at h;cases h;have ne0:=M7 t cc (cc+1) (by omega);refine wBc c_decls31 (wJ ne0 (wJ @A0 @A1)) ?_;refine AC.call (c_among L E s _ _ t (by repeat (first|exact ht|rw[hnO])) (by omega) D7 (by decide)) ?_;rintro v H' c1 ⟨rfl,rfl⟩ hc1;refine wAu ne0 ?_;refine B6 (λq:Nat × Option Nat × List Dc × Rd=>[(0,.ptr t 0),(2,.ptr cc 0),(3,.ptr (cc+1) 0),(4,I64 (B8 L E q.2.2.2 D7))]) (λq=>optH (((H.upd cc ⟨0,true,[.snil,.snil]⟩).upd t (rdR L E q.2.2.2)).upd (cc+1) ⟨0,true,[todoV q.2.1 q.2.2.1.length,.snil]⟩) q.2.1 ⟨4,true,cellsL (q.2.2.1.map Dc.v)⟩)
  (λq c=>cc+2<=c/\q.1<=f/\q.2.2.2.i<=L.length/\(q.2.1=none->q.2.2.1=[])/\(∀i,q.2.1=some i->cc+1<i/\i<c)/\q.2.2.1.length<=128/\T5 L E q.1 q.2.2.1 q.2.2.2=some (dl,s1)) (λq=>q.1) (f,none,[],s)
  (by simp[B5,tm,Tm.upd]) (λj b hj=>?_) ⟨b8,A0D _,hi,λ_=>rfl,(λi hi=>by cases hi),by simp,hd⟩ ?_
 ·simp only[optH,A7a]at hj;by_cases e1:j=cc+1
  ·subst e1;rw[A0]at hj ⊢;exact hj
  ·rw[h_ne e1]at hj ⊢;by_cases e2:j=t
   ·subst e2;rw[A0]at hj;rw[hnO,ht];exact hj
   ·rw[h_ne e2]at hj;exact hj
 clear hd;rintro⟨g,o,l,u⟩ c ⟨hc,hg,hi5,hno,ho,hl1,hv0⟩;dsimp only at hc hg hi5 hno ho hl1 hv0 ⊢;cases g with
 |zero=>simp[T5]at hv0
 |succ g =>
 unfold T5 at hv0;dsimp only at hv0;have hkr : -1<=B8 L E u D7/\B8 L E u D7<8:=A2r L E u D7 0;have hw:IntKind.i64.wrap ((l.length:Int)+1)=(l.length:Int)+1:=w6z;have hlen:A3i (todoV o l.length)=some (I64 l.length):=by
  cases o with
  |none=>rw[hno rfl];rfl
  |some b=>rfl
 by_cases hk:B8 L E u D7<0
 ·rw[if_pos hk]at hv0;have hdk:decide (B8 L E u D7≥0)=false:=by simp;omega
  have e1:l=dl:=congrArg Prod.fst (Option.some.inj hv0);have e2:u=s1:=congrArg Prod.snd (Option.some.inj hv0);subst e1 e2;refine wAs hdk ?_;clear hdk hkr hk hv0;refine IW.keep [0,2,3] [.ptr t 0,.ptr cc 0,.ptr (cc+1) 0] (g_fin (Hb:=(H.upd cc ⟨0,true,[.snil,.snil]⟩).upd t (rdR L E u)) (ci:=cc+1) (u:=4) (pre:=[]) (suf:=[.snil]) (xs:=l.map Dc.v) (by simp[DV.one]) (λh=>by rw[hno h];rfl) (λi hi=>by have:=ho i hi;exact⟨b8,by rw[hnO,hnO];exact hfr i (by omega)⟩) (by simp) (A1c _)) ?_;refine B6 (λq:Nat × Option Nat × List Md × Rd=>[(0,.ptr t 0),(2,.ptr cc 0),(3,.ptr (cc+1) 0)]) (λq=>optH (((H.upd cc ⟨0,true,[.snil,.snil]⟩).upd t (rdR L E q.2.2.2)).upd (cc+1) ⟨0,true,[D0 l,todoV q.2.1 q.2.2.1.length]⟩) q.2.1 ⟨4,true,cellsL (q.2.2.1.map Md.v)⟩)
   (λq c=>cc+2<=c/\q.1<=f/\q.2.2.2.i<=L.length/\(q.2.1=none->q.2.2.1=[])/\(∀i,q.2.1=some i->cc+1<i/\i<c)/\q.2.2.1.length<=16/\R7 L E q.1 q.2.2.1 q.2.2.2=some (ml,s2)) (λq=>q.1) (f,none,[],u)
   (by simp[B5,tm,Tm.upd]) (λj b hj=>hj) ⟨b8,A0D _,hi5,λ_=>rfl,(λi hi=>by cases hi),by simp,hm⟩ ?_
  clear hm hlen hw;clear hno ho hl1 hi5;rintro⟨g,o,m,u⟩ c ⟨hc,hg,hi5,hno,ho,hl1,hv⟩;dsimp only at hc hg hi5 hno ho hl1 hv ⊢;cases g with
  |zero=>simp[R7]at hv
  |succ g =>
  unfold R7 at hv;dsimp only at hv;have hw:IntKind.i64.wrap ((m.length:Int)+1)=(m.length:Int)+1:=w6z;have hlen:A3i (todoV o m.length)=some (I64 m.length):=by
   cases o with
   |none=>rw[hno rfl];rfl
   |some b=>rfl
  have hHt:optH (((H.upd cc ⟨0,true,[.snil,.snil]⟩).upd t (rdR L E u)).upd (cc+1) ⟨0,true,[D0 l,todoV o m.length]⟩) o ⟨4,true,cellsL (m.map Md.v)⟩ t=some (rdR L E u):=n9
  have hbx:optH (((H.upd cc ⟨0,true,[.snil,.snil]⟩).upd t (rdR L E u)).upd (cc+1) ⟨0,true,[D0 l,todoV o m.length]⟩) o ⟨4,true,cellsL (m.map Md.v)⟩ (cc+1)=some ⟨0,true,[D0 l,todoV o m.length]⟩:=j7
  have hbo:∀i:Nat,o=some i->optH (((H.upd cc ⟨0,true,[.snil,.snil]⟩).upd t (rdR L E u)).upd (cc+1) ⟨0,true,[D0 l,todoV o m.length]⟩) o ⟨4,true,cellsL (m.map Md.v)⟩ i=some ⟨4,true,cellsL (m.map Md.v)⟩:=λi hi=>o9
  have hbj:∀j:Nat,j<cc->¬j=t->optH (((H.upd cc ⟨0,true,[.snil,.snil]⟩).upd t (rdR L E u)).upd (cc+1) ⟨0,true,[D0 l,todoV o m.length]⟩) o ⟨4,true,cellsL (m.map Md.v)⟩ j=H j:=λj h1 h2=>r7
  have hb0:optH (((H.upd cc ⟨0,true,[.snil,.snil]⟩).upd t (rdR L E u)).upd (cc+1) ⟨0,true,[D0 l,todoV o m.length]⟩) o ⟨4,true,cellsL (m.map Md.v)⟩ cc=some ⟨0,true,[.snil,.snil]⟩:=m0
  have hbn:∀j:Nat,c<=j->optH (((H.upd cc ⟨0,true,[.snil,.snil]⟩).upd t (rdR L E u)).upd (cc+1) ⟨0,true,[D0 l,todoV o m.length]⟩) o ⟨4,true,cellsL (m.map Md.v)⟩ j=none:=λj h1=>y9
  have hT:(todoV o m.length).one=true:=z7
  generalize hHH:optH (((H.upd cc ⟨0,true,[.snil,.snil]⟩).upd t (rdR L E u)).upd (cc+1) ⟨0,true,[D0 l,todoV o m.length]⟩) o ⟨4,true,cellsL (m.map Md.v)⟩=HH at hHt hbx hbo hbj hb0 hbn ⊢;have fin:∀(u2:Rd) (x:Blk),GL ((HH.upd t (rdR L E u2)).upd cc x) [.agg [D0 l,todoV o m.length]] (H.upd t (rdR L E u2)) [.agg [D0 l,D8 m]]:=λu2 x =>
   D1v (cc:=cc) m (B7 hfr htc) (λi hi=>by have:=ho i hi;omega) hno (λi hi=>by have:=ho i hi;rw[hnO,hnO];exact hbo i hi) (λj hj=>by
    rw[hnO];by_cases e1:j=t
    ·subst e1;rw[A0,A0]
    ·rw[h_ne e1,h_ne e1,hbj j hj e1])
  have fin0:∀(x:Blk),GL (HH.upd cc x) [.agg [D0 l,todoV o m.length]] (H.upd t (rdR L E u)) [.agg [D0 l,D8 m]]:=λx=>by
   have h1:=fin u x
   rwa [upd_same hHt]at h1
  refine wAp ?_;refine AC.call (c_rdok L E u _ _ t hHt (by omega)) ?_;rintro v H' c2 ⟨rfl,rfl⟩ hc2;cases hok:okR u with
  |false =>
   rw[if_neg (by simp[hok])]at hv;have e1:m=ml:=congrArg Prod.fst (Option.some.inj hv);have e2:u=s2:=congrArg Prod.snd (Option.some.inj hv);subst e1 e2;have ne0:=M7 t cc (cc+1) (by omega);simp only[go_sem,seval,hok,hbx,ne0,hT,hb0];refine wA2 hok hHt hbx ne0 hT ?_;rw[hb0];refine G7 (A3c (by rfl) (by decide) (by clear hHH;cases o<;>rfl)) ?_;refine wAu (wJ ne0 @A0) ?_;rw[C9 (rv2 rfl A0)];exact⟨_,_,fin0 _,rfl,rfl⟩
  |true =>
   by_cases hlt:u.i<L.length
   ·rw[if_pos ⟨hok,hlt⟩]at hv;have hdl:decide ((u.i:Int)<(L.length:Int))=true:=by simpa using hlt
    refine wAy hok hHt hdl ?_;refine AC.call (c_is L E u _ _ t hHt (by omega) _) ?_;rintro v H' c3 ⟨rfl,rfl⟩ hc3;cases hmo:isR L E u [109,111,100,101] with
    |false =>
     rw[if_pos hmo]at hv;have e1:m=ml:=congrArg Prod.fst (Option.some.inj hv);have e2:R6 L E u=s2:=congrArg Prod.snd (Option.some.inj hv);subst e1 e2;have ne0:=M7 t cc (cc+1) (by omega);refine wAu hmo ?_;refine AC.call (c_syntax L E u _ _ t hHt (by omega)) ?_;rintro v H' c4 ⟨rfl,rfl⟩ hc4;refine wA3 ne0 @A0 hbx hb0 hT ?_;refine G7 (A3c (by rfl) (by decide) (by clear hHH;cases o<;>rfl)) ?_;refine wAu (wJ ne0 @A0) ?_;rw[C9 (rv2 rfl A0)];exact⟨_,_,fin _ _,rfl,rfl⟩
    |true =>
     rw[if_neg (by rw[hmo];decide)]at hv;refine wA0 hmo hbx hlen hw ?_;refine AC.call (c_limit L E u _ _ t hHt (by omega) _ _ _) ?_;rintro v H' c4 ⟨rfl,rfl⟩ hc4;have j1:(D3 L E u ((m.length:Int)+1) 16 9).i=u.i:=I5;have j2:=λh=>J2 (L:=L) (E:=E) (s:=u) (n:=(m.length:Int)+1) (m:=16) (e:=9) (by decide) h;generalize D3 L E u ((m.length:Int)+1) 16 9=u1 at hv j1 j2 ⊢;refine wAq ?_;refine AC.call (c_rdok L E u1 _ _ t A0 (by omega)) ?_;rintro v H' c5 ⟨rfl,rfl⟩ hc5;cases hok1:okR u1 with
     |false =>
      rw[if_neg (by rw[hok1];decide)]at hv;refine wAu hok1 ?_;refine⟨(g,o,m,u1),?_,inv ⟨b8,g9,by rw[j1];exact hi5,hno,(λi hi=>by have:=ho i hi;omega),hl1,hv⟩,by simp only;omega⟩;intro j b hj;by_cases e2:j=t
      ·subst e2;rw[A8 (λi hi=>by have:=ho i hi;omega),hnO,A0]at hj;rw[A0];exact hj
      ·rw[h_ne e2, <- hHH];cases o with
       |none =>
        simp only[optH]at hj ⊢;by_cases e1:j=cc+1
        ·subst e1;rw[A0]at hj ⊢;exact hj
        ·rw[h_ne e1,h_ne e2]at hj ⊢;exact hj
       |some i =>
        simp only[optH]at hj ⊢;by_cases e0:j=i
        ·subst e0;rw[A0]at hj ⊢;exact hj
        rw[h_ne e0]at hj ⊢;by_cases e1:j=cc+1
        ·subst e1;rw[A0]at hj ⊢;exact hj
        ·rw[h_ne e1,h_ne e2]at hj ⊢;exact hj
     |true =>
      rw[if_pos hok1]at hv;obtain⟨-,j3,rfl⟩:=j2 hok1;cases hmd:A3h L E g u1 with
      |none=>rw[hmd]at hv;cases hv
      |some qm =>
       obtain⟨md,u2⟩:=qm;rw[hmd]at hv;dsimp only at hv;have j6:=D7p hmd hi5;have ne0:=M7 t cc (cc+1) (by omega);refine wA3 hok1 ne0 @A0 @A1 hbx ?_;refine AC.call (c_mode L E hL g u1 (md,u2) hmd hi5 _ _ t A0 (by omega)) ?_;rintro v H' c6 ⟨rfl,rfl⟩ hc6;dsimp only;have ne0:=S7 t cc (cc+1) c6 (c6+1) (by omega);refine wA0 ne0 @A0 @A1 hbx ?_;refine⟨⟨s7,by rw[hnO];exact hbn _ (by omega)⟩,?_⟩;have hl4:(cellsL (m.map Md.v)).length=m.length*4:=C7 (u:=4) (A6h _) |>.trans (by simp);refine wAz ne0 @A0 @A1 hbx ?_;rw[D4 (cs:=cellsL (m.map Md.v)) (λe=>by rw[hno e];exact⟨rfl,rfl⟩) (λi hi=>by have:=ho i hi;rw[hnO,hnO];exact hbo i hi) hl4 (by omega) (by omega) (by omega)];have hdx:∀X:Hp,delO X o (cc+1)=X (cc+1):=λX=>A9 (λi hi=>by have:=ho i hi;omega);have ne0:=S7 t cc (cc+1) (c5+4) c6 (by omega);refine wA3 ne0 @A0 @A1 hdx hbx ?_;refine⟨(g,some c6,m++[md],u2),?_,inv ⟨b8,g9,j6,(λh=>by cases h),(λi hi=>by cases hi;omega),o8,hv⟩,by simp only;omega⟩;intro j b hj;simp only[optH,A2g,A0A,A0E,A0P,C8]at hj;by_cases e1:j=cc+1
       ·subst e1;by_cases e3:cc+1=c6
        ·omega
        rw[h_ne e3,A0]at hj;rw[A0];exact hj
       rw[h_ne e1];by_cases e0:j=c6
       ·subst e0;rw[A0]at hj;rw[A0, <- hj];rfl
       rw[h_ne e0]at hj ⊢;rw[h_ne e1]at hj;by_cases e2:j=t
       ·subst e2;rw[A0]at hj;rw[A9 (λi hi=>by have:=ho i hi;omega),hnO,A0];exact hj
       rw[h_ne e2]at hj;by_cases e4:j=cc
       ·subst e4;rw[A0]at hj;rw[A9 (λi hi=>by have:=ho i hi;omega)]
        repeat rw[hnO]
        rw[hb0];exact hj
       ·rw[h_ne e4]at hj;have hjc:j<cc:=Classical.byContradiction λh=>by rw[hfr j (by omega)]at hj;cases hj
        rw[A9 (λi hi=>by have:=ho i hi;omega)]
        repeat rw[hnO]
        rw[hbj j hjc e2];exact hj
   ·rw[if_neg (by simp[hlt])]at hv;have hdl:decide ((u.i:Int)<(L.length:Int))=false:=by simpa using hlt
    have e1:m=ml:=congrArg Prod.fst (Option.some.inj hv);have e2:u=s2:=congrArg Prod.snd (Option.some.inj hv);subst e1 e2;have ne0:=M7 t cc (cc+1) (by omega);simp only[go_sem,seval,hok,hHt,hdl,hbx,ne0,hT,hb0];refine wA5 hok hHt hdl hbx ne0 hT ?_;rw[hb0];refine G7 (A3c (by rfl) (by decide) (by clear hHH;cases o<;>rfl)) ?_;refine wAu (wJ ne0 @A0) ?_;rw[C9 (rv2 rfl A0)];exact⟨_,_,fin0 _,rfl,rfl⟩
 ·rw[if_neg hk]at hv0;have hdk:decide (B8 L E u D7≥0)=true:=by simp;omega
  have hHt:optH (((H.upd cc ⟨0,true,[.snil,.snil]⟩).upd t (rdR L E u)).upd (cc+1) ⟨0,true,[todoV o l.length,.snil]⟩) o ⟨4,true,cellsL (l.map Dc.v)⟩ t=some (rdR L E u):=n9
  have hbx:optH (((H.upd cc ⟨0,true,[.snil,.snil]⟩).upd t (rdR L E u)).upd (cc+1) ⟨0,true,[todoV o l.length,.snil]⟩) o ⟨4,true,cellsL (l.map Dc.v)⟩ (cc+1)=some ⟨0,true,[todoV o l.length,.snil]⟩:=j7
  have hbo:∀i:Nat,o=some i->optH (((H.upd cc ⟨0,true,[.snil,.snil]⟩).upd t (rdR L E u)).upd (cc+1) ⟨0,true,[todoV o l.length,.snil]⟩) o ⟨4,true,cellsL (l.map Dc.v)⟩ i=some ⟨4,true,cellsL (l.map Dc.v)⟩:=λi hi=>o9
  have hbj:∀j:Nat,j<cc->¬j=t->optH (((H.upd cc ⟨0,true,[.snil,.snil]⟩).upd t (rdR L E u)).upd (cc+1) ⟨0,true,[todoV o l.length,.snil]⟩) o ⟨4,true,cellsL (l.map Dc.v)⟩ j=H j:=λj h1 h2=>r7
  have hb0:optH (((H.upd cc ⟨0,true,[.snil,.snil]⟩).upd t (rdR L E u)).upd (cc+1) ⟨0,true,[todoV o l.length,.snil]⟩) o ⟨4,true,cellsL (l.map Dc.v)⟩ cc=some ⟨0,true,[.snil,.snil]⟩:=m0
  have hbn:∀j:Nat,c<=j->optH (((H.upd cc ⟨0,true,[.snil,.snil]⟩).upd t (rdR L E u)).upd (cc+1) ⟨0,true,[todoV o l.length,.snil]⟩) o ⟨4,true,cellsL (l.map Dc.v)⟩ j=none:=λj h1=>y9
  obtain⟨hok0,hi0, -⟩:=I6 (show 0<=B8 L E u D7 by omega);generalize hHH:optH (((H.upd cc ⟨0,true,[.snil,.snil]⟩).upd t (rdR L E u)).upd (cc+1) ⟨0,true,[todoV o l.length,.snil]⟩) o ⟨4,true,cellsL (l.map Dc.v)⟩=HH at hHt hbx hbo hbj hb0 hbn ⊢;generalize hkk:B8 L E u D7=k at hv0 hk hdk hkr ⊢;refine wAz hdk hbx hlen hw ?_;refine AC.call (c_limit L E u _ _ t hHt (by omega) _ _ _) ?_;rintro v H' c2 ⟨rfl,rfl⟩ hc2;have j1:(D3 L E u ((l.length:Int)+1) 128 9).i=u.i:=I5;have j2:=λh=>J2 (L:=L) (E:=E) (s:=u) (n:=(l.length:Int)+1) (m:=128) (e:=9) (by decide) h;generalize D3 L E u ((l.length:Int)+1) 128 9=u1 at hv0 j1 j2 ⊢;refine wAq ?_;refine AC.call (c_rdok L E u1 _ _ t A0 (by omega)) ?_;rintro v H' c3 ⟨rfl,rfl⟩ hc3;cases hok:okR u1 with
  |false =>
   rw[if_neg (by rw[hok];decide)]at hv0;refine wBd c_decls31 hok ?_;refine AC.call (c_among L E u1 _ _ t A0 (by omega) D7 (by decide)) ?_;rintro v H' c4 ⟨rfl,rfl⟩ hc4;refine wAq ?_;refine⟨(g,o,l,u1),b9,?_,inv ⟨b8,g9,by rw[j1];exact hi5,hno,(λi hi=>by have:=ho i hi;omega),hl1,hv0⟩,by simp only;omega⟩;intro j b hj;by_cases e2:j=t
   ·subst e2;rw[A8 (λi hi=>by have:=ho i hi;omega),hnO,A0]at hj;rw[A0];exact hj
   ·rw[h_ne e2, <- hHH];cases o with
    |none =>
     simp only[optH]at hj ⊢;by_cases e1:j=cc+1
     ·subst e1;rw[A0]at hj ⊢;exact hj
     ·rw[h_ne e1,h_ne e2]at hj ⊢;exact hj
    |some i =>
     simp only[optH]at hj ⊢;by_cases e0:j=i
     ·subst e0;rw[A0]at hj ⊢;exact hj
     rw[h_ne e0]at hj ⊢;by_cases e1:j=cc+1
     ·subst e1;rw[A0]at hj ⊢;exact hj
     ·rw[h_ne e1,h_ne e2]at hj ⊢;exact hj
  |true =>
   rw[if_pos hok]at hv0;obtain⟨-,j3,rfl⟩:=j2 hok;simp only[go_sem,seval,hok];have ne0:=M7 t cc (cc+1) (by omega);refine wA2 hok ne0 @A0 @A1 hbx ?_;refine AC.call (c_declaration L E u1 _ _ t A0 (by omega) hL hv k (by omega) (by omega) (by omega)) ?_;rintro v H' c4 ⟨rfl,rfl⟩ hc4;have ne0:=S7 t cc (cc+1) c4 (c4+1) (by omega);refine wA0 ne0 @A0 @A1 hbx ?_;refine⟨⟨s7,by rw[hnO];exact hbn _ (by omega)⟩,?_⟩;have hl4:(cellsL (l.map Dc.v)).length=l.length*4:=C7 (u:=4) (A1c _) |>.trans (by simp);refine wAz ne0 @A0 @A1 hbx ?_;rw[D4 (cs:=cellsL (l.map Dc.v)) (λe=>by rw[hno e];exact⟨rfl,rfl⟩) (λi hi=>by have:=ho i hi;rw[hnO,hnO];exact hbo i hi) hl4 (by omega) (by omega) (by omega)];have hdx:∀X:Hp,delO X o (cc+1)=X (cc+1):=λX=>A9 (λi hi=>by have:=ho i hi;omega);have ne0:=S7 t cc (cc+1) (c3+5) c4 (by omega);refine wBd c_decls31 (wJ ne0 (wJ @A0 (wJ @A1 (wJ hdx hbx)))) ?_;refine AC.call (c_among L E (R0 L E k u1).2 _ _ t (by rw[hnO,hnO,A9 (λi hi=>by have:=ho i hi;omega),hnO,A0]) (by omega) D7 (by decide)) ?_;rintro v H' c5 ⟨rfl,rfl⟩ hc5;refine wAq ?_;refine⟨(g,some c4,l++[(R0 L E k u1).1],(R0 L E k u1).2),b9,?_,inv ⟨b8,g9,D7z (by omega),(λh=>by cases h),(λi hi=>by cases hi;omega),o8,hv0⟩,by simp only;omega⟩;intro j b hj;simp only[optH,A2g,A0A,A0E,A0P,C8]at hj;by_cases e1:j=cc+1
   ·subst e1;by_cases e3:cc+1=c4
    ·omega
    rw[h_ne e3,A0]at hj;rw[A0];exact hj
   rw[h_ne e1];by_cases e0:j=c4
   ·subst e0;rw[A0]at hj;rw[A0, <- hj];rfl
   rw[h_ne e0]at hj ⊢;rw[h_ne e1]at hj;by_cases e2:j=t
   ·subst e2;rw[A0]at hj;rw[A9 (λi hi=>by have:=ho i hi;omega),hnO,A0];exact hj
   rw[h_ne e2]at hj;by_cases e4:j=cc
   ·subst e4;rw[A0]at hj;rw[A9 (λi hi=>by have:=ho i hi;omega)]
    repeat rw[hnO]
    rw[hb0];exact hj
   ·rw[h_ne e4]at hj;have hjc:j<cc:=Classical.byContradiction λh=>by rw[hfr j (by omega)]at hj;cases hj
    rw[A9 (λi hi=>by have:=ho i hi;omega)]
    repeat rw[hnO]
    rw[hbj j hjc e2];exact hj
theorem c_letter(c:UInt8):PC Tryz.prog 89 [.int .u8 c.toNat] (.bool (ltB c)):=by
 refine PC.go A2 ?_;repeat'((with_reducible first|apply wr|refine B0 ?_ ?_|apply wb2<;>(intro hb;try simp only[hb]))<;>try simp only[go_sem,seval])
 all_goals(refine A3 (congrArg DV.bool ?_);rw[A2E];simp_all[ltB]<;>omega)
theorem c_digit(c:UInt8):PC Tryz.prog 91 [.int .u8 c.toNat] (.bool (dgB c)):=by
 refine PC.go A2 ?_;repeat'((with_reducible first|apply wr|refine B0 ?_ ?_|apply wb2<;>(intro hb;try simp only[hb]))<;>try simp only[go_sem,seval])
 all_goals(refine A3 (congrArg DV.bool ?_);rw[A2E];simp_all[dgB]<;>omega)
theorem c_letterR(c:UInt8):PC Tryz.prog 117 [.int .u8 c.toNat] (.bool (ltB c)):=by
 refine PC.go A2 ?_;repeat'((with_reducible first|apply wr|refine B0 ?_ ?_|apply wb2<;>(intro hb;try simp only[hb]))<;>try simp only[go_sem,seval])
 all_goals(refine A3 (congrArg DV.bool ?_);rw[A2E];simp_all[ltB]<;>omega)
theorem c_digitR(c:UInt8):PC Tryz.prog 119 [.int .u8 c.toNat] (.bool (dgB c)):=by
 refine PC.go A2 ?_;repeat'((with_reducible first|apply wr|refine B0 ?_ ?_|apply wb2<;>(intro hb;try simp only[hb]))<;>try simp only[go_sem,seval])
 all_goals(refine A3 (congrArg DV.bool ?_);rw[A2E];simp_all[dgB]<;>omega)
theorem c_part(c:UInt8):PC Tryz.prog 90 [.int .u8 c.toNat] (.bool (ptB c)):=by
 refine PC.go A2 ?_;repeat'((with_reducible first|apply wr|refine cpc (c_letter c) ?_|refine cpc (c_digit c) ?_|refine B0 ?_ ?_|apply wb2<;>(intro hb;try simp only[hb]))<;>try simp only[go_sem,seval])
 all_goals(refine A3 (congrArg DV.bool ?_);rw[A2E];simp_all[ptB]<;>omega)
theorem c_no10(c:UInt8):PC Tryz.prog 88 [.int .u8 c.toNat] (.bool (decide (c.toNat≠10))):=by
 refine PC.go A2 ?_;refine wAp ?_;all_goals(refine A3 (congrArg DV.bool ?_);rw[A2E];simp_all<;>omega)
theorem c_span{p:UInt8->Bool}{f:Nat}{a cs:List DV}(s:List UInt8)(hs:s.length<=9223372036854775807)(na:DV.nlL a=true)(ncs:DV.nlL cs=true)(hf:∀x∈s,PC Tryz.prog f (a++[.int .u8 x.toNat]++cs) (.bool (p x))):
  PC Tryz.prog 87 [.str s,.func f a cs] (I64 (F3 p s)):=by
 refine PC.ofT A2 rfl (A0C rfl) (by simp[DV.nlL,DV.nl,na,ncs]) rfl ?_;refine wAp ?_;refine B6 (λk:Nat=>[(0,.str s),(1,.func f a cs),(5,I64 k)]) (λ_=>nil) (λk _=>k<=s.length/\k<=F3 p s) (λk=>s.length-k) 0 (by simp[B5,tm,Tm.upd]) (Sub.nil _) (by simp) ?_;rintro k c ⟨hk,he⟩;by_cases hlt:k<s.length
 ·have hd:=dtz hlt;have hg:=A0B hlt;have hw:=w64 (n:=(k:Int)+1);have hst:=A9j hg he;have hc:=hf s[k] (A0K hlt);repeat'((with_reducible first|apply wr|refine cpc hc ?_|refine B0 ?_ ?_|apply wb2<;>(intro hb;try simp only[hb]))<;>try simp only[go_sem,seval,hd,hg,hw])
  ·exact⟨k+1,rfl,Sub.refl _,inv ⟨b8,hst.1 hb⟩,by omega⟩
  ·refine A3 ?_;rw[hst.2 hb]
 ·have hd:=dfz hlt;refine wAs hd ?_;refine A3 ?_;rw[B6z (by omega) he]
theorem c_spanPt(s:List UInt8)(hs:s.length<=9223372036854775807):PC Tryz.prog 87 [.str s,.func 90 [] []] (I64 (F3 ptB s)) :=
 c_span s hs rfl rfl λx _=>c_part x
theorem c_spanDg(s:List UInt8)(hs:s.length<=9223372036854775807):PC Tryz.prog 87 [.str s,.func 91 [] []] (I64 (F3 dgB s)) :=
 c_span s hs rfl rfl λx _=>c_digit x
theorem c_spanCm(s:List UInt8)(hs:s.length<=9223372036854775807):PC Tryz.prog 87 [.str s,.func 88 [] []] (I64 (F3 (λc=>decide (c.toNat≠10)) s)) :=
 c_span s hs rfl rfl λx _=>c_no10 x
end Go.Proofs.YtdclpmddofggcaaGreatDoor
end
