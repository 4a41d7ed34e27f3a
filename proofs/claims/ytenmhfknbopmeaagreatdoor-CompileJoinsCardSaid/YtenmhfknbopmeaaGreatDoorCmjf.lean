/-
  HELPERS of the claim: part 6 of its texts.
-/
import Derived.Test.YtenmhfknbopmeaaGreatDoorCmje
import Derived.Shelf.SlSortCmp.WholeK
import Derived.Lib.ItoaNum
import Derived.Lib.Space
import Derived.Test.YtenmhfknbopmeaaGreatDoorProg
noncomputable section
set_option linter.unusedVariables false
set_option linter.unusedSectionVars false
set_option linter.unusedSimpArgs false
namespace Go.Sym
variable [Go.Sym.Tab]
open Go.Eng (E6)
open Go.RowKit Go.Proofs Go.Sort
variable {P:Program} {ρ : Ren} {H:Hp} {w:World}
theorem A3u.size{b:Blk}{t:Tgt}(h:A3u ρ b t w):t.block<w.heap.size:=by
 rcases h with ⟨-,c,e,fr,h1, -⟩|⟨-, -, -,es,cl,kd,ks,vs,h3, -⟩
 ·exact (A0M.1 h1).1
 grind
theorem Rep.grown(hR:Rep ρ H w){w':World}(hp:∀ k,k<w.heap.size->w'.heap[k]? = w.heap[k]?):Rep ρ H w' where
 blk:=fun id b hb=>by
  obtain⟨t,h1,h2⟩:=hR.blk id b hb;exact⟨t,h1,h2.world (hp _ h2.size)⟩
 sep:=hR.sep
 frz:=fun b r hb=>by
  obtain⟨e,fr,h⟩:=hR.frz b r hb
  grind
 dis:=hR.dis
 frm:=fun b es hb=>by
  obtain⟨⟨cl,h,hs⟩,h2⟩:=hR.frm b es hb
  grind
theorem B9e(w:World)(os:Array Obj){k:Nat}(hk:k<w.heap.size):(grow w os).heap[k]? = w.heap[k]? := by
 show (w.heap++os)[k]? = _
 grind
inductive F2 {α β : Type} (R : α -> β -> Prop):List α -> List β -> Prop where
 |nil:F2 R [] []
 |cons {a b l m}:R a b->F2 R l m->F2 R (a :: l) (b :: m)
theorem F2.len{α β : Type}{R : α -> β -> Prop}{l:List α}{m:List β}(h:F2 R l m):l.length=m.length:=by
 induction h with
 |nil=>rfl
 |cons _ _ ih=>grind
theorem F2.get{α β : Type}{R : α -> β -> Prop}{l:List α}{m:List β}(h:F2 R l m):∀ {k:Nat} {a : α},l[k]? = some a->∃ b,m[k]? = some b/\R a b:=by
 induction h with
 |nil=>simp
 |cons h1 _ ih =>
  grind
theorem F2.perm{α β : Type}{R : α -> β -> Prop}{m m':List β}(hp:m.Perm m'):∀ {l:List α},F2 R l m->∃ l',l.Perm l'/\F2 R l' m':=by
 induction hp with
 |nil=>intro l h;cases h;exact⟨[],.nil,.nil⟩
 |cons x _ ih =>
  intro l h;cases h with
  |cons h1 h2 =>
   obtain⟨l',a,b⟩:=ih h2;exact⟨_ :: l',a.cons _,.cons h1 b⟩
 |swap x y l0 =>
  intro l h;cases h with
  |cons h1 h2 =>
   cases h2 with
   |cons h3 h4=>exact⟨_,.swap _ _ _,.cons h3 (.cons h1 h4)⟩
 |trans _ _ ih1 ih2 =>
  intro l h;obtain⟨l1,a,b⟩:=ih1 h;obtain⟨l2,c,d⟩:=ih2 b;exact⟨l2,a.trans c,d⟩
end Go.Sym
namespace Go.Sym
variable [Go.Sym.Tab]
open Go.Eng (Opd FOp AOp EOp IOp IOper DReg IC RV IFn I5 A3k isNew)
mutual
def G4:DV->DV->Bool
 |.bot,.bot=>true
 |.bool a,.bool b=>a == b
 |.int k n,.int l m=>k == l && n == m
 |.str a,.str b=>a == b
 |.pnil,.pnil=>true
 |.ptr a b,.ptr c d=>a == c && b == d
 |.snil,.snil=>true
 |.slc a b c,.slc x y z=>a == x && b == y && c == z
 |.lst a,.lst b=>X7 a b
 |.fptr a,.fptr b=>X7 a b
 |.agg a,.agg b=>X7 a b
 |.tup a,.tup b=>X7 a b
 |.mid a,.mid b=>a == b
 |.mnil,.mnil=>true
 |.func f a c,.func g b d=>f == g && X7 a b && X7 c d
 |_,_=>false
def X7:List DV->List DV->Bool
 |[],[]=>true
 |a :: l,b :: m=>G4 a b && X7 l m
 |_,_=>false
end
mutual
theorem A4w:∀ (a b:DV),G4 a b=true->a=b
 |.bot,b,h=>by cases b<;>simp[G4]at h ⊢
 |.bool _,b,h=>by cases b<;>simp_all[G4]
 |.int _ _,b,h=>by cases b<;>simp_all[G4]
 |.str _,b,h=>by cases b<;>simp_all[G4]
 |.pnil,b,h=>by cases b<;>simp[G4]at h ⊢
 |.ptr _ _,b,h=>by cases b<;>simp_all[G4]
 |.snil,b,h=>by cases b<;>simp[G4]at h ⊢
 |.slc _ _ _,b,h=>by cases b<;>simp_all[G4]
 |.lst a,b,h=>by cases b with
  |lst b=>simp only[G4]at h;rw[N5 a b h]
  |_=>simp[G4]at h
 |.fptr a,b,h=>by cases b with
  |fptr b=>simp only[G4]at h;rw[N5 a b h]
  |_=>simp[G4]at h
 |.fnil,b,h=>by cases b<;>simp[G4]at h
 |.func f a c,b,h=>by cases b with
  |func g b d=>simp only[G4,A0E,A1R]at h;rw[h.1.1,N5 a b h.1.2,N5 c d h.2]
  |_=>simp[G4]at h
 |.inil,b,h=>by cases b<;>simp[G4]at h
 |.iface _ _,b,h=>by cases b<;>simp[G4]at h
 |.agg a,b,h=>by cases b with
  |agg b=>simp only[G4]at h;rw[N5 a b h]
  |_=>simp[G4]at h
 |.tup a,b,h=>by cases b with
  |tup b=>simp only[G4]at h;rw[N5 a b h]
  |_=>simp[G4]at h
 |.mpc _ _ _,b,h=>by cases b<;>simp[G4]at h
 |.mid _,b,h=>by cases b<;>simp_all[G4]
 |.mp _ _ _,b,h=>by cases b<;>simp[G4]at h
 |.mnil,b,h=>by cases b<;>simp[G4]at h ⊢
 |.ub,b,h=>by cases b<;>simp[G4]at h
theorem N5:∀ (a b:List DV),X7 a b=true->a=b
 |[],[],_=>rfl
 |[],_ :: _,h=>by simp[X7]at h
 |_ :: _,[],h=>by simp[X7]at h
 |a :: l,b :: m,h=>by
  simp only[X7,A0E]at h;rw[A4w a b h.1,N5 l m h.2]
end
def B0m:Option Blk->Option Blk->Bool
 |none,none=>true
 |some a,some b=>a.unit == b.unit && a.own == b.own && X7 a.cells b.cells
 |_,_=>false
theorem C1l:∀ (a b:Option Blk),B0m a b=true->a=b
 |none,none,_=>rfl
 |none,some _,h=>by simp[B0m]at h
 |some _,none,h=>by simp[B0m]at h
 |some ⟨a,b,c⟩,some ⟨x,y,z⟩,h=>by
  simp only[B0m,A0E,A1R]at h;rw[h.1.1,h.1.2,N5 c z h.2]
def fcN(n:Nat)(k:Nat->Bool):Bool:=match n with
 |0=>k 0
 |n+1=>k (n+1)
theorem A2s(n:Nat)(k:Nat->Bool):fcN n k=k n:=by cases n<;>rfl
def fcI(z:Int)(k:Int->Bool):Bool:=match z with
 |.ofNat n=>fcN n fun n=>k (.ofNat n)
 |.negSucc n=>fcN n fun n=>k (.negSucc n)
theorem D3v(z:Int)(k:Int->Bool):fcI z k=k z:=by cases z<;>simp only[fcI,A2s]<;>rfl
def fcV(v:DV)(k:DV->Bool):Bool:=match v with
 |.bool b=>match b with
  |true=>k (.bool true)
  |false=>k (.bool false)
 |.int t z=>fcI z fun z=>k (.int t z)
 |.ptr i o=>fcN i fun i=>fcN o fun o=>k (.ptr i o)
 |.slc i o n=>fcN i fun i=>fcN o fun o=>fcN n fun n=>k (.slc i o n)
 |v=>k v
theorem B4m(v:DV)(k:DV->Bool):fcV v k=k v:=by
 cases v with
 |bool b=>cases b<;>rfl
 |int t z=>simp only[fcV,D3v]
 |ptr i o=>simp only[fcV,A2s]
 |slc i o n=>simp only[fcV,A2s]
 |_=>rfl
abbrev Tl:=List (Nat × DV)
def O0(a:List DV):Tl->Tm
 |[],j=>A0b a j
 |(e,w) :: r,j=>match Nat.beq e j with
  |true=>w
  |false=>O0 a r j
def B3n(d:Nat)(v:DV):Tl->Tl
 |[]=>[(d,v)]
 |(e,w) :: r=>match Nat.beq e d with
  |true=>(d,v) :: r
  |false=>(e,w) :: B3n d v r
def C6l(d:Nat)(v:DV):Tl->(Tl->Bool)->Bool
 |[],k=>k [(d,v)]
 |(e,w) :: r,k=>match Nat.beq e d with
  |true=>k ((d,v) :: r)
  |false=>C6l d v r fun r'=>k ((e,w) :: r')
theorem B6d(d:Nat)(v:DV):∀ (l:Tl) (k:Tl->Bool),C6l d v l k=k (B3n d v l)
 |[],k=>rfl
 |(e,w) :: r,k=>by
  unfold C6l B3n;cases Nat.beq e d with
  |true=>rfl
  |false=>exact B6d d v r _
theorem get_put(a:List DV)(d:Nat)(v:DV):∀ l:Tl,O0 a (B3n d v l)=(O0 a l).upd d v
 |[]=>by
  funext j
  show (match Nat.beq d j with|true=>v|false=>A0b a j)=if j=d then v else A0b a j
  cases h:Nat.beq d j with
  |true=>rw[if_pos (A2Z h).symm]
  |false=>rw[if_neg fun e=>Nat.ne_of_beq_eq_false h e.symm]
 |(e,w) :: r=>by
  funext j
  have ih:=congrFun (get_put a d v r) j;show O0 a (match Nat.beq e d with|true=>(d,v) :: r|false=>(e,w) :: B3n d v r) j=if j=d then v else O0 a ((e,w) :: r) j
  cases h:Nat.beq e d with
  |true =>
   obtain rfl:=A2Z h;show (match Nat.beq e j with|true=>v|false=>O0 a r j)=if j=e then v else (match Nat.beq e j with|true=>w|false=>O0 a r j)
   cases h2:Nat.beq e j with
   |true=>rw[if_pos (A2Z h2).symm]
   |false=>rw[if_neg fun x=>Nat.ne_of_beq_eq_false h2 x.symm]
  |false =>
   show (match Nat.beq e j with|true=>w|false=>O0 a (B3n d v r) j)=if j=d then v else (match Nat.beq e j with|true=>w|false=>O0 a r j)
   cases h2:Nat.beq e j with
   |true=>rw[if_neg fun x=>Nat.ne_of_beq_eq_false h ((A2Z h2).trans x)]
   |false=>exact ih
def C0h(d:Option Nat)(v:DV)(l:Tl)(k:Tl->Bool):Bool:=match d with
 |some d=>C6l d v l k
 |none=>k l
abbrev A3j:=Nat->List DV->Hp->Nat->(DV->Hp->Nat->Bool)->Bool
def B3u(call:A3j)(T:Tm)(H:Hp)(c:Nat)(k:DV->Hp->Nat->Bool):IOp->Bool
 |.pur f=>match fev H (ev T) f with
  |some v=>fcV v fun v=>k v H c
  |none=>false
 |.new f=>match aev (ev T) f with
  |some (m,b)=>fcN (c+1) fun c'=>k (mkv c m) (H.upd c b) c'
  |none=>false
 |.eff f=>match eev H c (ev T) f with
  |some (v,H',c')=>fcV v fun v=>fcN c' fun c'=>k v H' c'
  |none=>false
 |.call f args=>call f (args.map (ev T)) H c k
 |.callv x args=>match ev T x with
  |.func f a c'=>call f (a++args.map (ev T)++c') H c k
  |_=>false
abbrev Kn:=Tl->Hp->Nat->Bool
def evR(call:A3j)(a:List DV)(k:Kn):List IOper->Tl->Hp->Nat->Bool
 |[],l,H,c=>k l H c
 |o :: os,l,H,c=>match L0 (O0 a l) o.guard with
  |some true=>B3u call (O0 a l) H c (fun v H' c'=>C0h o.dst v l fun l'=>evR call a k os l' H' c') o.op
  |some false=>C0h o.dst (.tup []) l fun l'=>evR call a k os l' H c
  |none=>false
def D4k(call:A3j)(T:Tm)(H:Hp)(c:Nat)(o:IOper)(k:DV->Hp->Nat->Bool):Bool :=
 match L0 T o.guard with
 |some true=>B3u call T H c k o.op
 |some false=>k (.tup []) H c
 |none=>false
def agE(io:List IOper)(c0:Nat)(s:St)(j:Nat):Bool:=match io[j]? with
 |some o=>match X9 s (c0+j) o with
  |some (v,ob)=>(match o.dst with
   |some d=>G4 (s.T d) v
   |none=>true) && B0m (s.H (c0+j)) ob
  |none=>false
 |none=>false
def evD(call:A3j)(a:List DV)(k:Kn)(io:List IOper)(c0:Nat):List (Nat × Option (List Nat))->Tl->Hp->Nat->Bool
 |[],l,H,c=>k l H c
 |(i,none) :: r,l,H,c=>match io[i]? with
  |some o=>match X9 ⟨O0 a l,H,c⟩ (c0+i) o with
   |some (v,ob)=>fcV v fun v=>C0h o.dst v l fun l'=>evD call a k io c0 r l' (W0 H (c0+i) ob) c
   |none=>false
  |none=>false
 |(i,some pend) :: r,l,H,c=>match io[i]? with
  |some o=>D4k call (O0 a l) (O8 H ((pend.filter (isNew io)).map (c0 + ·))) c o fun v H' c'=>C0h o.dst v l fun l' =>
    (pend.all fun j=>agE io c0 ⟨O0 a l',I0 ((pend.filter (isNew io)).map (c0 + ·)) H H',c'⟩ j) &&
    evD call a k io c0 r l' (I0 ((pend.filter (isNew io)).map (c0 + ·)) H H') c'
  |none=>false
abbrev Ke:=Exit->Tl->Hp->Nat->Bool
def lpE(body:Tl->Hp->Nat->Ke->Bool)(k:Ke):Nat->Tl->Hp->Nat->Bool
 |0,_,_,_=>false
 |n+1,l,H,c=>body l H c fun e l' H' c'=>match e with
  |.normal=>lpE body k n l' H' c'
  |e=>k e l' H' c'
def evI(call:A3j)(F:Nat)(a:List DV):IC->Tl->Hp->Nat->Ke->Bool
 |.skip,l,H,c,k=>k .normal l H c
 |.reg ops,l,H,c,k=>evR call a (k .normal) ops l H c
 |.drw n d,l,H,c,k=>fcN (c+n) fun c'=>evD call a (k .normal) d.ops c d.plan l H c'
 |.seq x y,l,H,c,k=>evI call F a x l H c fun e l' H' c'=>match e with
  |.normal=>evI call F a y l' H' c' k
  |e=>k e l' H' c'
 |.cond o x y,l,H,c,k=>match ev (O0 a l) o with
  |.bool b=>match b with
   |true=>evI call F a x l H c k
   |false=>evI call F a y l H c k
  |_=>false
 |.blk id x,l,H,c,k=>evI call F a x l H c fun e l' H' c'=>match e with
  |.exit i=>if i=id then k .normal l' H' c' else k (.exit i) l' H' c'
  |e=>k e l' H' c'
 |.loop x,l,H,c,k=>lpE (evI call F a x) k F l H c
 |.exit id,l,H,c,k=>k (.exit id) l H c
 |.ret,l,H,c,k=>k .ret l H c
 |.bad,_,_,_,_=>false
 |.rg _,_,_,_,_=>false
def clE(P:Program)(F:Nat)(O:Nat->List DV->Option DV):Nat->A3j
 |0,_,_,_,_,_=>false
 |n+1,f,args,H,c,k=>match O f args with
  |some r=>k r H c
  |none=>match (P.funcs[f]?).bind (A3k P) with
   |some i=>Nat.ble args.length i.n && evI (clE P F O n) F args i.body [] H c fun e l H' c'=>match e with
    |.normal=>(match resV ⟨O0 args l,H',c'⟩ i.res with
     |some v=>k v H' c'
     |none=>false)
    |.ret=>(match resV ⟨O0 args l,H',c'⟩ i.res with
     |some v=>k v H' c'
     |none=>false)
    |_=>false
   |none=>false
section
variable {P:Program} {call:A3j} {F N:Nat} {a:List DV}
def A2z(P:Program)(call:A3j):Prop:=∀ f args H c k,call f args H c k=true->AC P f args H c fun v H' c'=>k v H' c'=true
theorem A3v{d:Option Nat}{v:DV}{l:Tl}{k:Tl->Bool}(h:C0h d v l k=true):∃ l',k l'=true/\O0 a l'=E0 (O0 a l) d v:=by
 cases d with
 |none=>exact⟨l,h,rfl⟩
 |some d=>exact⟨B3n d v l,(B6d d v l k).symm.trans h,get_put a d v l⟩
theorem B6l(hc:A2z P call){T:Tm}{H:Hp}{c:Nat}{k:DV->Hp->Nat->Bool}{K:DV->Hp->Nat->Prop}(hk:∀ v H c,k v H c=true->K v H c):∀ {i:IOp},B3u call T H c k i=true->K0 P ⟨T,H,c⟩ K i
 |.pur f,h=>by
  simp only[B3u]at h;simp only[K0];split at h
  ·rename_i v hv;rw[B4m]at h;simp only[hv];exact hk _ _ _ h
  ·cases h
 |.new f,h=>by
  simp only[B3u]at h;simp only[K0];split at h
  ·rename_i m b hv;rw[A2s]at h;simp only[hv];exact hk _ _ _ h
  ·cases h
 |.eff f,h=>by
  simp only[B3u]at h;simp only[K0];split at h
  ·rename_i v H' c' hv;rw[B4m,A2s]at h;simp only[hv];exact hk _ _ _ h
  ·cases h
 |.call f args,h=>(hc _ _ _ _ _ h).mono hk
 |.callv x args,h=>by
  simp only[B3u]at h;simp only[K0];split at h
  ·rename_i f a c hv;simp only[hv];exact (hc _ _ _ _ _ h).mono hk
  ·cases h
theorem B4n(hc:A2z P call){k:Kn}{Q:St->Prop}(hk:∀ l H c,k l H c=true->Q ⟨O0 a l,H,c⟩):∀ (os:List IOper) (l:Tl) (H:Hp) (c:Nat),evR call a k os l H c=true->rwp P Q os ⟨O0 a l,H,c⟩
 |[],l,H,c,h=>hk l H c h
 |o :: os,l,H,c,h=>by
  simp only[evR]at h;unfold rwp;split at h
  ·rename_i hw;simp only[hw];exact B6l hc (fun v H c h=>by
    obtain⟨l',h1,h2⟩:=A3v (a:=a) h;rw[<- h2];exact B4n hc hk os _ _ _ h1) h
  ·rename_i hw;simp only[hw];obtain⟨l',h1,h2⟩:=A3v (a:=a) h;rw[<- h2];exact B4n hc hk os _ _ _ h1
  ·cases h
theorem C8c(hc:A2z P call){T:Tm}{H:Hp}{c:Nat}{o:IOper}{k:DV->Hp->Nat->Bool}{K:DV->Hp->Nat->Prop}(hk:∀ v H c,k v H c=true->K v H c)(h:D4k call T H c o k=true):B2h P ⟨T,H,c⟩ o K:=by
 unfold D4k at h;unfold B2h;split at h
 ·rename_i hw;simp only[hw];exact B6l hc hk h
 ·rename_i hw;simp only[hw];exact hk _ _ _ h
 ·cases h
theorem D5d{io:List IOper}{c0:Nat}{s:St}{j:Nat}(h:agE io c0 s j=true):A0c io c0 s j:=by
 unfold agE at h;unfold A0c;split at h
 ·rename_i o ho;split at h
  ·rename_i v ob hv;simp only[ho,hv];rw[A0E]at h;refine⟨fun d hd=>?_,C1l _ _ h.2⟩;have h1:=h.1;rw[hd]at h1;exact A4w _ _ h1
  ·cases h
 ·cases h
theorem C5l{io:List IOper}{c0:Nat}{s:St}:∀ {l:List Nat},l.all (fun j=>agE io c0 s j)=true->P1 io c0 s l
 |[],_=>trivial
 |j :: l,h=>by
  rw[A2F,A0E]at h;exact⟨D5d h.1,C5l h.2⟩
theorem B4o(hc:A2z P call){k:Kn}{Q:St->Prop}(hk:∀ l H c,k l H c=true->Q ⟨O0 a l,H,c⟩){io:List IOper}{c0:Nat}:∀ (p:List (Nat × Option (List Nat))) (l:Tl) (H:Hp) (c:Nat),evD call a k io c0 p l H c=true->dwp P Q io c0 p ⟨O0 a l,H,c⟩
 |[],l,H,c,h=>hk l H c h
 |(i,none) :: r,l,H,c,h=>by
  simp only[evD]at h;unfold dwp;split at h
  ·rename_i o ho;split at h
   ·rename_i v ob hv;rw[B4m]at h;simp only[ho,hv];obtain⟨l',h1,h2⟩:=A3v (a:=a) h;rw[<- h2];exact B4o hc hk r _ _ _ h1
   ·cases h
  ·cases h
 |(i,some pend) :: r,l,H,c,h=>by
  simp only[evD]at h;unfold dwp;split at h
  ·rename_i o ho;simp only[ho];refine C8c hc (fun v H c h=>?_) h;obtain⟨l',h1,h2⟩:=A3v (a:=a) h;rw[A0E]at h1;rw[<- h2];exact⟨C5l h1.1,B4o hc hk r _ _ _ h1.2⟩
  ·cases h
theorem IW.seq{x y:IC}{s:St}{Q:Exit->St->Prop}(h:IW P N x s (A3a (fun s'=>IW P N y s' Q) Q)):IW P N (.seq x y) s Q:=by
 intro hm c hc;cases c<;>simp only[Go.Eng.trC]at hc<;>(try (cases hc;done))
 case seq a b =>
  split at hc
  ·rename_i x' y' hx hy;cases hc;refine .seq ((h hm a hx).mono fun e s' q=>?_);cases e with
   |normal=>exact q hm b hy
   |_=>exact q
  ·cases hc
 all_goals (repeat' (split at hc))<;>(try (cases hc;done))
 all_goals simp at hc
theorem IW.blk{id:Nat}{x:IC}{s:St}{Q:Exit->St->Prop}(h:IW P N x s (B4z id Q)):IW P N (.blk id x) s Q:=by
 intro hm c hc;cases c<;>simp only[Go.Eng.trC]at hc<;>(try (cases hc;done))
 case block i b =>
  simp only[A0H]at hc;obtain⟨x',hx,he⟩:=hc;cases he;exact .block (h hm b hx)
 all_goals (repeat' (split at hc))<;>(try (cases hc;done))
 all_goals simp at hc
theorem D3z(hc:A2z P call):∀ (ic:IC) (l:Tl) (H:Hp) (c:Nat) (k:Ke) (Q:Exit->St->Prop),(∀ e l H c,k e l H c=true->Q e ⟨O0 a l,H,c⟩)->evI call F a ic l H c k=true->IW P N ic ⟨O0 a l,H,c⟩ Q:=by
 intro ic
 induction ic with
 |skip=>intro l H c k Q hk h;exact IW.of (hk _ _ _ _ h)
 |reg ops=>intro l H c k Q hk h;exact IW.of (B4n hc (hk .normal) ops l H c h)
 |drw n d =>
  intro l H c k Q hk h;simp only[evI,A2s]at h;exact IW.of (B4o hc (hk .normal) _ _ _ _ h)
 |seq x y ihx ihy =>
  intro l H c k Q hk h;simp only[evI]at h;refine IW.seq (ihx l H c _ (A3a _ Q) (fun e l' H' c' h=>?_) h);cases e with
  |normal=>exact ihy l' H' c' k Q hk h
  |_=>exact hk _ _ _ _ h
 |cond o x y ihx ihy =>
  intro l H c k Q hk h;simp only[evI]at h;split at h
  ·rename_i b hb;refine IW.of ?_;unfold wpI;simp only[hb];cases b with
   |true=>exact⟨fun _=>ihx l H c k Q hk h,fun e=>(by cases e)⟩
   |false=>exact⟨fun e=>(by cases e),fun _=>ihy l H c k Q hk h⟩
  ·cases h
 |blk id x ih =>
  intro l H c k Q hk h;simp only[evI]at h;refine IW.blk (ih l H c _ (B4z id Q) (fun e l' H' c' h=>?_) h);cases e with
  |exit i =>
   simp only[B4z]at h ⊢;by_cases e:i=id
   ·rw[if_pos e]at h ⊢;exact hk _ _ _ _ h
   ·rw[if_neg e]at h ⊢;exact hk _ _ _ _ h
  |_=>exact hk _ _ _ _ h
 |loop x ih =>
  intro l H c k Q hk h;refine IW.loop (fun n s => ∃ l,s.T=O0 a l/\lpE (evI call F a x) k n l s.H s.c=true) F ⟨l,rfl,h⟩ fun n s ⟨l,e,h⟩=>?_;obtain⟨T,H,c⟩:=s;simp only at e h;subst e;cases n with
  |zero=>cases h
  |succ n =>
   refine ih l H c _ (A3a _ Q) (fun e l' H' c' h=>?_) h;cases e with
   |normal=>exact⟨n,A1I _,l',rfl,h⟩
   |_=>exact hk _ _ _ _ h
 |exit id=>intro l H c k Q hk h;exact IW.of (hk _ _ _ _ h)
 |ret=>intro l H c k Q hk h;exact IW.of (hk _ _ _ _ h)
 |bad=>intro l H c k Q hk h;cases h
 |rg r=>intro l H c k Q hk h;cases h
def D5j(P:Program)(O:Nat->List DV->Option DV):Prop:=∀ f args r,O f args=some r->PC P f args r
theorem C4p(hm:P.follows .mixedOrders=true){O:Nat->List DV->Option DV}(hO:D5j P O):∀ n,A2z P (clE P F O n)
 |0,_,_,_,_,_,h=>by cases h
 |n+1,f,args,H,c,k,h=>by
  simp only[clE]at h;split at h
  ·rename_i r hr;exact ((hO f args r hr).at H c).mono fun v H' c' ⟨h1,h2,h3⟩=>by rw[h1,h2,h3];exact h
  ·split at h
   ·rename_i i hi;rw[A0E]at h;refine AC.of hm (i:=i) hi (A0A h.1) (D3z (a:=args) (C4p hm hO n) _ [] H c _ _ (fun e l H' c' h=>?_) h.2);cases e<;>simp only[B3j]at h ⊢ <;> (try (cases h;done));all_goals (split at h<;>simp_all)
   ·cases h
theorem PC.run(hm:P.follows .mixedOrders=true)(O:Nat->List DV->Option DV)(hO:D5j P O)(F n f:Nat)(args:List DV)(r:DV)(na:DV.nlL args=true)(nr:r.nl=true)(h:clE P F O n f args nil 0 (fun v _ _=>G4 v r)=true):PC P f args r :=
 ⟨na,nr,(C4p hm hO n _ _ _ _ _ h).mono fun v H' c' e=>A4w _ _ e⟩
end
end Go.Sym
namespace Go.Pb
open Go.Sym
variable [Go.Sym.Tab]
def cxM(r:Ru)(e:Ex):List Ins × Int × Int :=
 if (L1 r && R8 e)=true then
  match erE r e with
  |some (p,c)=>([],p,c)
  |none=>(cgE (nmR r) e,0,0)
 else ([],0,1)
abbrev cxV(q:List Ins × Int × Int):Sym.DV:=.tup [R3 q.1,I64 q.2.1,I64 q.2.2]
theorem D4q(q:List Ins × Int × Int):(cxV q).nl=true:=by simp[Sym.DV.nlL,Sym.DV.nl,A5e]
theorem C5s{ρ : Sym.Ren}{v:Value}{p c:Int}(h:Sym.VRel ρ (.tup [.snil,I64 p,I64 c]) v):Sym.VRel ρ (cxV ([],p,c)) v:=by
 obtain⟨bb,rfl,k1,k2⟩:=h.tup_inv;refine .tup _ _ k1 fun j x y hx hy=>?_
 match j with
 |0=>cases hx;exact (k2 0 _ y rfl hy).snil_lst
 |1=>cases hx;exact k2 1 _ y rfl hy
 |2=>cases hx;exact k2 2 _ y rfl hy
 |_+3=>cases hx
theorem B0w{H:Sym.Hp}{p c:Int}:∃ H2,Sym.GL H [.tup [.snil,I64 p,I64 c]] H2 [cxV ([],p,c)] :=
 ⟨H,Sym.GL.view fun ρ vs hA=>Sym.arel_one (fun v h=>C5s h) vs hA⟩
theorem C0f{r:Ru}(h:L1 r=true):r.decls.length<=128/\r.modes.length<=16:=by
 unfold L1 at h;simp only[A0E,A0G]at h;exact⟨h.1.1.1,h.1.1.2⟩
def nxK(L:List UInt8)(n i:Nat):Nat × Nat:=if h:i<L.length then ((L[i]).toNat % n,i+1) else (0,i)
def U3:List (List UInt8):=[[115,119,48],[99,111,105,108,48],[108,97,109,112,48],[118,48],[116,109,48],[101,118,48],[109,111,100,101,48],[110,111,110,101],[115,110,100,48],[115,104,111,119,48]]
def nmK(L:List UInt8)(w:Nat)(p:List UInt8)(n i:Nat):List UInt8 × Nat :=
 let a:=nxK L w i
 if 0<w/\a.1+1=w then
  let b:=nxK L 10 a.2
  (U3.getD b.1 [],b.2)
 else
  let b:=nxK L n (if 0<w then a.2 else i)
  (p++O9 (b.1:Int),b.2)
theorem A8s(L:List UInt8)(n i:Nat):i<=(nxK L n i).2:=by unfold nxK;grind
theorem I7(L:List UInt8){n:Nat}(i:Nat)(h:0<n):(nxK L n i).1<n:=by
 unfold nxK;split
 ·exact Nat.mod_lt _ h
 omega
abbrev Mk:=List UInt8 × Nat
def D4y:List (List UInt8):=[[50,49,52,55,52,56,51,54,52,55],[49,48,48,48,48,48,48],[54,53,53,51,54],[49,48,48,48,48,48]]
def B5c:List (List UInt8):=[[43],[45],[42],[47],[37]]
def B9q:List (List UInt8):=[[60],[60,61],[62],[62,61],[61,61],[33,61]]
def bl0(L:List UInt8)(w i:Nat):Mk :=
 let k:=nxK L 5 i
 if k.1=0 then ([116,114,117,101],k.2)
 else if k.1=1 then ([102,97,108,115,101],k.2)
 else if k.1=2 then let a:=nmK L w [109,111,100,101] 3 k.2;([97,99,116,105,118,101,32]++a.1,a.2)
 else let a:=nmK L w [115,119] 4 k.2;([99,108,111,115,101,100,32]++a.1,a.2)
def in1(L:List UInt8)(w i:Nat):Mk :=
 let k:=nxK L 7 i
 if k.1=0\/k.1=1 then nmK L w [118] 3 k.2
 else if k.1=2 then ([112,108,97,121,101,114],k.2)
 else if k.1=3 then ([98,97,108,108],k.2)
 else if k.1=4 then let a:=nmK L w [116,109] 2 k.2;([108,101,102,116,32]++a.1,a.2)
 else if k.1=5 then let j:=nxK L 4 k.2;(D4y.getD j.1 [],j.2)
 else let j:=nxK L 12 k.2;(O9 (j.1:Int),j.2)
def wlK(L:List UInt8)(w:Nat)(f g:Nat->Mk)(i:Nat):Mk :=
 let k:=nxK L (4 * w) i
 if 0<w/\k.1=1 then f k.2 else g (if 0<w then k.2 else i)
def in0(L:List UInt8)(w:Nat):Nat->Mk:=wlK L w (bl0 L w) (in1 L w)
mutual
def inK(L:List UInt8)(w:Nat):Nat->Nat->Mk
 |0,i=>in0 L w i
 |d+1,i=>wlK L w (blK L w d) (fun i =>
   let k:=nxK L 5 i
   if k.1=0 then in0 L w k.2
   else if k.1=1 then let a:=in0 L w k.2;([45]++a.1,a.2)
   else
    let a:=inK L w d k.2
    let c:=inK L w d a.2
    let o:=nxK L 5 c.2
    (((((([40]++a.1)++[32])++B5c.getD o.1 [])++[32])++c.1)++[41],o.2)) i
def blK(L:List UInt8)(w:Nat):Nat->Nat->Mk
 |0,i=>bl0 L w i
 |d+1,i =>
  let k:=nxK L 6 i
  if k.1=0 then let a:=bl0 L w k.2;([33]++a.1,a.2)
  else if k.1=1 then
   let a:=blK L w d k.2
   let c:=blK L w d a.2
   (((([40]++a.1)++[32,38,38,32])++c.1)++[41],c.2)
  else if k.1=2 then
   let a:=blK L w d k.2
   let c:=blK L w d a.2
   (((([40]++a.1)++[32,124,124,32])++c.1)++[41],c.2)
  else
   let a:=inK L w d k.2
   let o:=nxK L 6 a.2
   let c:=inK L w d o.2
   (((a.1++[32])++B9q.getD o.1 [])++[32]++c.1,c.2)
end
def bqB(c:UInt8):Bool := !ptB c && decide (c.toNat≠61) && decide (c.toNat≠38) && decide (c.toNat≠124)
def bd:List UInt8->Bool
 |[]=>true
 |c :: _=>bqB c
theorem B7t{c:UInt8}(h:bqB c=true):ptB c=false/\c.toNat≠61/\c.toNat≠38/\c.toNat≠124:=by
 simpa[bqB,and_assoc] using h
theorem C9y{r:List UInt8}(hr:bd r=true):∀ c q,r=c :: q->ptB c=false:=fun c q e=>by subst e;exact (B7t hr).1
theorem D9e{r:List UInt8}(hr:bd r=true):∀ c q,r=c :: q->dgB c=false:=fun c q e=>by
 have:=C9y hr c q e;simp only[ptB,Bool.or_eq_false_iff]at this;exact this.1.2
theorem C5g{c d:UInt8}{q:List UInt8}(h:bd (d :: q)=true):Y5 c d=false:=by
 obtain⟨h0,h1,h2,h3⟩:=B7t h;unfold Y5;rw[Bool.eq_false_iff];intro h4;simp at h4;omega
theorem C1b{p:UInt8->Bool}:∀ r:List UInt8,(∀ c q,r=c :: q->p c=false)->B0 p r=0
 |[],_=>rfl
 |c :: r,h=>by simp only[B0];rw[if_neg (by rw[h c r rfl];simp)]
theorem A4s{p:UInt8->Bool}{r:List UInt8}(hr:∀ c q,r=c :: q->p c=false):∀ s:List UInt8,B0 p (s.take (B0 p s)++r)=B0 p s
 |[]=>by rw[show B0 p []=0 from rfl,A0Y,A1J];exact C1b r hr
 |c :: s=>by
  by_cases h:p c=true
  ·have e:B0 p (c :: s)=B0 p s+1:=by simp only[B0];rw[if_pos h]
   rw[e,A0T,A0W];simp only[B0];rw[if_pos h,A4s hr s]
  ·have e:B0 p (c :: s)=0:=by simp only[B0];rw[if_neg h]
   rw[e,A0Y,A1J];exact C1b r hr
theorem C6f{r:List UInt8}(hr:bd r=true):∀ {s:List UInt8},D0 s≠0->D0 (s.take (D0 s)++r)=D0 s
 |[],h=>absurd rfl h
 |[c],h=>by
  have ho:A1b c=true:=by
   cases ho:A1b c with
   |true=>rfl
   |false=>simp[D0,ho]at h
  have e:D0 [c]=1:=by simp[D0,ho]
  rw[e,A0T,A0Y,A0W,A1J]
  match r,hr with
  |[],_=>exact e
  |d :: r,hr=>simp only[D0];rw[if_neg (by rw[C5g hr];simp),if_pos ho]
 |c :: d :: q,h=>by
  by_cases h2:Y5 c d=true
  ·have e:D0 (c :: d :: q)=2:=by simp only[D0];rw[if_pos h2]
   rw[e,A0T,A0T,A0Y];simp only[A0W,A1J,D0];rw[if_pos h2]
  ·have ho:A1b c=true:=by
    cases ho:A1b c with
    |true=>rfl
    |false=>simp only[D0]at h;rw[if_neg h2,if_neg (by rw[ho];simp)]at h;exact absurd rfl h
   have e:D0 (c :: d :: q)=1:=by simp only[D0];rw[if_neg h2,if_pos ho]
   rw[e,A0T,A0Y,A0W,A1J]
   match r,hr with
   |[],_=>simp only[D0];rw[if_pos ho]
   |d :: r,hr=>simp only[D0];rw[if_neg (by rw[C5g hr];simp),if_pos ho]
theorem B8t{s r:List UInt8}(h:(A3 s).err=0)(hr:bd r=true):A3 (s.take (A3 s).n++r)=A3 s:=by
 cases s with
 |nil=>simp[A3,nxE]at h
 |cons c q =>
  obtain⟨hn1,hn2⟩:=A1o h;obtain⟨k,hk⟩:∃ k,(A3 (c :: q)).n=k+1:=⟨(A3 (c :: q)).n-1,by omega⟩;have hform:(c :: q).take (A3 (c :: q)).n++r=c :: (q.take k++r):=by rw[hk,A0T,A0W]
  have htk:(c :: (q.take k++r)).take (A3 (c :: q)).n=(c :: q).take (A3 (c :: q)).n:=by rw[<- hform];exact C0w hn2
  have hp:=A4s (p:=ptB) (C9y hr) (c :: q);have hg:=A4s (p:=dgB) (D9e hr) (c :: q);rw[hform];by_cases hl:ltB c=true
  ·by_cases h12:12<B0 ptB (c :: q)
   ·rw[A3,if_pos hl,if_pos h12]at h;simp[nxE]at h
   ·have e:A3 (c :: q)=⟨if G9 ((c :: q).take (B0 ptB (c :: q)))=true then 2 else 1,(c :: q).take (B0 ptB (c :: q)),0,B0 ptB (c :: q),0⟩:=by rw[A3,if_pos hl,if_neg h12]
    have en:(A3 (c :: q)).n=B0 ptB (c :: q):=by rw[e]
    rw[en]at hform htk;rw[hform]at hp;rw[A3,if_pos hl,hp,if_neg h12,htk,e]
  ·by_cases hd:dgB c=true
   ·by_cases h1:1<B0 dgB (c :: q)/\c.toNat=48
    ·rw[A3,if_neg hl,if_pos hd,if_pos h1]at h;simp[nxE]at h
    ·by_cases h2:2147483647<L7 ((c :: q).take (B0 dgB (c :: q)))
     ·rw[A3,if_neg hl,if_pos hd,if_neg h1,if_pos h2]at h;simp[nxE]at h
     ·have e:A3 (c :: q)=⟨3,[],(L7 ((c :: q).take (B0 dgB (c :: q))):Int),B0 dgB (c :: q),0⟩:=by rw[A3,if_neg hl,if_pos hd,if_neg h1,if_neg h2]
      have en:(A3 (c :: q)).n=B0 dgB (c :: q):=by rw[e]
      rw[en]at hform htk;rw[hform]at hg;rw[A3,if_neg hl,if_pos hd,hg,htk,if_neg h1,if_neg h2,e]
   ·by_cases h34:c.toNat=34
    ·cases hq:quM q with
     |none=>rw[A3,if_neg hl,if_neg hd,if_pos h34,hq]at h;simp[nxE]at h
     |some x =>
      obtain⟨t,m⟩:=x;by_cases h32:32<t.length
      ·rw[A3,if_neg hl,if_neg hd,if_pos h34,hq]at h;simp only at h;rw[if_pos h32]at h;simp[nxE]at h
      ·have e:A3 (c :: q)=⟨4,t,0,m+1,0⟩:=by rw[A3,if_neg hl,if_neg hd,if_pos h34,hq];simp only;rw[if_neg h32]
       have en:m=k:=by rw[e]at hk;simp only at hk;omega
       subst en;rw[e,A3,if_neg hl,if_neg hd,if_pos h34,B3m r hq];simp only;rw[if_neg h32]
    ·by_cases hs:D0 (c :: q)=0
     ·rw[A3,if_neg hl,if_neg hd,if_neg h34,if_pos hs]at h;simp[nxE]at h
     ·have e:A3 (c :: q)=⟨5,(c :: q).take (D0 (c :: q)),0,D0 (c :: q),0⟩:=by rw[A3,if_neg hl,if_neg hd,if_neg h34,if_neg hs]
      have en:(A3 (c :: q)).n=D0 (c :: q):=by rw[e]
      have hsg:=C6f hr hs;rw[en]at hform htk;rw[hform]at hsg;rw[A3,if_neg hl,if_neg hd,if_neg h34,hsg,if_neg hs,htk,e]
abbrev T3:=Int × List UInt8 × Int
def st3(t:Tok):T3:=(t.kind,t.text,t.value)
def Lk(r:List UInt8)(tr:List T3):Prop:=∀ (s:List UInt8) (k:Nat),s.drop k=r->∃ l,V6 s (k+skM false r) l/\l.map st3=tr
theorem C5n:Lk [] []:=by
 intro s k hs;have hl:s.length<=k:=by
  have:=congrArg List.length hs;simp at this;omega
 exact⟨[],by show s.length<=k+0;omega,rfl⟩
theorem D5i{c:UInt8}{r:List UInt8}{tr:List T3}(hc:W7 c=true)(h:Lk r tr):Lk (c :: r) tr:=by
 intro s k hs;have e:skM false (c :: r)=skM false r+1:=by simp only[skM];rw[if_pos hc]
 rw[e];obtain⟨l,h1,h2⟩:=h s (k+1) (by rw[<- A3F,hs];rfl);exact⟨l,by rw[show k+(skM false r+1)=k+1+skM false r by omega];exact h1,h2⟩
theorem B5g{a r:List UInt8}{K V:Int}{T:List UInt8}{tr:List T3}(hx:A3 (a++r)=⟨K,T,V,a.length,0⟩)(ha:a≠[])(h:Lk r tr):Lk (a++r) ((K,T,V) :: tr):=by
 intro s k hs;have h0:skM false (a++r)=0:=C6v (by rw[hx]);rw[h0,A2O];have hl:k<s.length:=by
  have:=congrArg List.length hs;have h2:0<a.length:=by cases a with|nil=>exact absurd rfl ha|cons _ _=>simp
  simp at this;omega
 have hd:s.drop (k+a.length)=r:=by rw[<- A3F,hs,List.drop_left]
 obtain⟨l,h1,h2⟩:=h s _ hd;refine⟨nxT (A3 (s.drop k)) (k:Int) :: l,⟨hl,by rw[hs,hx],rfl,by rw[hs,hx];dsimp only;rw[hd];exact h1⟩,?_⟩;rw[A0R,h2,hs,hx];rfl
theorem V6.uniq{s:List UInt8}:∀ {k:Nat} {l l':List Tok},V6 s k l->V6 s k l'->l=l'
 |k,[],[],_,_=>rfl
 |k,[],t :: l',h,h'=>by have h:s.length<=k:=h;have:=h'.1;omega
 |k,t :: l,[],h,h'=>by have h':s.length<=k:=h';have:=h.1;omega
 |k,t :: l,t' :: l',h,h'=>by
  obtain⟨-, -,h3,h4⟩:=h;obtain⟨-, -,g3,g4⟩:=h';rw[h3,g3,V6.uniq h4 g4]
def Pc(b:Bool)(p:List UInt8)(tp:List T3):Prop:=∀ r tr,(b=true->bd r=true)->Lk r tr->Lk (p++r) (tp++tr)
def A1d(b:Bool):Nat->List UInt8->Option (List T3)
 |0,_=>none
 |_+1,[]=>some []
 |f+1,c :: s=>if W7 c=true then A1d b f s else
  let x:=A3 (c :: s)
  let q:=(c :: s).drop x.n
  if x.err=0/\1<=x.n/\x.n<=(c :: s).length/\bd q=true/\(q=[]->b=true) then (A1d b f q).map fun l=>(x.kind,x.text,x.value) :: l else none
theorem D5a{q r:List UInt8}(h:bd q=true)(h2:q=[]->bd r=true):bd (q++r)=true:=by
 cases q with
 |nil=>exact h2 rfl
 |cons c q=>exact h
theorem O6{b:Bool}:∀ (f:Nat) (s:List UInt8) (ts:List T3),A1d b f s=some ts->Pc b s ts
 |0,s,ts,h=>by simp[A1d]at h
 |f+1,[],ts,h=>by
  simp only[A1d]at h;cases h;exact fun r tr _ hr=>hr
 |f+1,c :: s,ts,h=>by
  unfold A1d at h;split at h
  ·rename_i hc;have ih:=O6 f s ts h;intro r tr hb hr;exact D5i hc (ih r tr hb hr)
  ·dsimp only at h;split at h
   ·rename_i hx;obtain⟨h1,h2,h3,h4,h5⟩:=hx;obtain⟨l,hl,rfl⟩:=A0H.1 h;have ih:=O6 f _ l hl;intro r tr hb hr;have hbd:bd ((c :: s).drop (A3 (c :: s)).n++r)=true:=D5a h4 fun e=>hb (h5 e);have hn:=B8t h1 hbd;rw[<- A0L,A1V]at hn;have hlen:((c :: s).take (A3 (c :: s)).n).length=(A3 (c :: s)).n:=by rw[A1D];omega
    have:=B5g (a:=(c :: s).take (A3 (c :: s)).n) (r:=(c :: s).drop (A3 (c :: s)).n++r) (K:=(A3 (c :: s)).kind) (T:=(A3 (c :: s)).text) (V:=(A3 (c :: s)).value) (tr:=l++tr)
     (by rw[<- A0L,A1V,hn,hlen];revert h1;cases A3 (c :: s);intro h1;simp only at h1;rw[h1]) (fun e=>by rw[e]at hlen;simp at hlen;omega) (ih r tr hb hr)
    rw[<- A0L,A1V]at this;exact this
   ·cases h
theorem Pc.app{b b':Bool}{p p':List UInt8}{t t':List T3}(h:Pc b p t)(h':Pc b' p' t')(hb:b=true->∀ r,(b'=true->bd r=true)->bd (p'++r)=true):Pc b' (p++p') (t++t'):=by
 intro r tr hr hl;rw[A0L,A0L];exact h _ _ (fun e=>hb e r hr) (h' r tr hr hl)
theorem Pc.lit{b b':Bool}{p:List UInt8}{c:UInt8}{q:List UInt8}{t t':List T3}(h:Pc b p t)(h':Pc b' (c :: q) t')(hc:bqB c=true):Pc b' (p++c :: q) (t++t'):=h.app h' fun _ _ _=>hc
theorem Pc.pre{b':Bool}{p p':List UInt8}{t t':List T3}(h:Pc false p t)(h':Pc b' p' t'):Pc b' (p++p') (t++t'):=h.app h' fun e=>by cases e
theorem A8m{c:UInt8}(h1:A1b c=true)(h2:(ltB c || dgB c || W7 c)=false)(h3:c.toNat≠34/\c.toNat≠35/\c.toNat≠60/\c.toNat≠62/\c.toNat≠61/\c.toNat≠33/\c.toNat≠38/\c.toNat≠124):Pc false [c] [(5,[c],0)]:=by
 intro r tr _ hr;have h2':ltB c=false/\dgB c=false/\W7 c=false:=by simpa[and_assoc] using h2
 obtain⟨a1,a2,a3⟩:=h2';have ht:∀ d,Y5 c d=false:=fun d=>by
  unfold Y5;rw[Bool.eq_false_iff];intro h4;simp at h4;omega
 have hs:D0 (c :: r)=1:=by
  cases r with
  |nil=>simp only[D0];rw[if_pos h1]
  |cons d r=>simp only[D0];rw[if_neg (by rw[ht];simp),if_pos h1]
 have hn:A3 (c :: r)=⟨5,[c],0,1,0⟩:=by
  rw[A3,if_neg (by rw[a1];simp),if_neg (by rw[a2];simp),if_neg h3.1,hs,if_neg (by decide)];rfl
 exact B5g (a:=[c]) hn (by simp) hr
theorem D2e{d:UInt8}{p:List UInt8}{b:Bool}{t:List T3}(h:Pc b (d :: p) t)(hd:d.toNat≠61):Pc b (33 :: d :: p) ((5,[33],0) :: t):=by
 intro r tr hb hr;have hn:A3 (33 :: d :: (p++r))=⟨5,[33],0,1,0⟩:=by
  have hs:D0 (33 :: d :: (p++r))=1:=by
   simp only[D0];rw[if_neg (by unfold Y5;simp;omega),if_pos (by decide)]
  rw[A3,if_neg (by decide),if_neg (by decide),if_neg (by decide),hs,if_neg (by decide)];rfl
 exact B5g (a:=[33]) hn (by simp) (h r tr hb hr)
theorem Pc.toks{b:Bool}{s:List UInt8}{ts:List T3}(h:Pc b s ts)(h0:(E7 s).2.2=0):(E7 s).1.map st3=ts:=by
 have:=h [] [] (fun _=>rfl) C5n;rw[A1B,A1B]at this;obtain⟨l,h1,h2⟩:=this s 0 rfl;rw[A0Z]at h1;rw[(Y7 h0).2.uniq h1,h2]
theorem Pc.scan{b:Bool}{s:List UInt8}{ts:List T3}(h:Pc b s ts)(hl:s.length<=20000):(E7 s).2.2=0:=by
 have:=h [] [] (fun _=>rfl) C5n;rw[A1B,A1B]at this;obtain⟨l,h1,h2⟩:=this s 0 rfl;rw[A0Z]at h1;rw[B0s hl h1]
def A7w(t:T3):Nat->List (List UInt8)->Int
 |_,[] => -1
 |k,x :: l=>if ((t.1 == 5 || t.1 == 2) && t.2.1 == x)=true then (k:Int) else A7w t (k+1) l
def K4(t:T3)(l:List (List UInt8)):Int:=A7w t 0 l
section
variable {L:List Tok} {E:Int}
def Tk(L:List Tok)(s:Rd):List T3:=(L.drop s.i).map st3
theorem W3{s:Rd}{t:T3}{q:List T3}(h:Tk L s=t :: q):st3 (A7 L E s)=t/\(L.drop (s.i+1)).map st3=q/\s.i<L.length:=by
 have hl:s.i<L.length:=by
  have:=congrArg List.length h;simp[Tk]at this;omega
 have e:L.drop s.i=L[s.i] :: L.drop (s.i+1):=A1T hl;unfold Tk at h;rw[e,A0R]at h;injection h with h1 h2
 refine⟨?_,h2,hl⟩;unfold A7;rw[A1E,A0B hl];exact h1
theorem D0x{s:Rd}(h:Tk L s=[]):A7 L E s=⟨0,[],0,E⟩:=by
 have hl:L.length<=s.i:=by
  have:=congrArg List.length h;simp[Tk]at this;omega
 unfold A7;rw[A1E,A2J hl];rfl
theorem Y9{s:Rd}{t:T3}{q:List T3}{x:List UInt8}(h:Tk L s=t :: q)(ho:okR s=true):isR L E s x=((t.1 == 5 || t.1 == 2) && t.2.1 == x):=by
 obtain⟨h1, -, -⟩:=W3 (E:=E) h;unfold isR;rw[ho,A2W, <- h1];rfl
theorem A8x{s:Rd}{t:T3}{q:List T3}{k:Int}(h:Tk L s=t :: q)(ho:okR s=true):F9 L E s k=(t.1 == k):=by
 obtain⟨h1, -, -⟩:=W3 (E:=E) h;unfold F9;rw[ho,A2W, <- h1];rfl
theorem B7y{s:Rd}{t:T3}{q:List T3}(h:Tk L s=t :: q)(ho:okR s=true):∀ (l:List (List UInt8)) (k:Nat),V5 L E s k l=A7w t k l
 |[],k=>rfl
 |x :: l,k=>by
  rw[V5,A7w,Y9 h ho,B7y h ho l (k+1)]
theorem P0{s:Rd}{t:T3}{q:List T3}{l:List (List UInt8)}(h:Tk L s=t :: q)(ho:okR s=true):A8 L E s l=K4 t l:=B7y h ho l 0
theorem A9s{s:Rd}(h:∀ x,isR L E s x=false):∀ (l:List (List UInt8)) (k:Nat),V5 L E s k l = -1
 |[],k=>rfl
 |x :: l,k=>by rw[V5,if_neg (by rw[h x];simp)];exact A9s h l (k+1)
theorem B2v{s:Rd}{l:List (List UInt8)}(h:okR s=false):A8 L E s l = -1:=A9s (fun x=>by unfold isR;rw[h];rfl) l 0
theorem B7x{s:Rd}{l:List (List UInt8)}(h:Tk L s=[]):A8 L E s l = -1:=A9s (fun x=>by unfold isR;rw[D0x (E:=E) h];simp) l 0
theorem V4{t:T3}(h5:t.1≠5)(h2:t.1≠2):∀ (l:List (List UInt8)) (k:Nat),A7w t k l = -1
 |[],k=>rfl
 |x :: l,k=>by
  rw[A7w,if_neg (by simp[h5,h2])];exact V4 h5 h2 l (k+1)
def A6t(n:Int)(rest:List T3):Prop:=∀ t q,rest=t :: q->K4 t C1<0\/E5 (12+K4 t C1)<n
theorem A6t.up{n m:Int}{rest:List T3}(h:A6t n rest)(hm:n<=m):A6t m rest:=fun t q e=>(h t q e).imp id fun h=>by omega
theorem B6y{n:Int}{e:Ex}{s:Rd}{rest:List T3}(h:okR s=true->Tk L s=rest)(hn:A6t n rest):Lop L E n e s (e,s):=by
 apply Lop.stop;cases ho:okR s with
 |false=>left;rw[B2v ho];decide
 |true =>
  have ht:=h ho;cases rest with
  |nil=>left;rw[B7x ht];decide
  |cons t q =>
   rw[P0 ht ho];exact (hn t q rfl).imp id fun h=>by omega
inductive TyE (Nm:Int->List UInt8->Prop):Bool->Ex->Prop where
 |num {v p:Int}:TyE Nm true (.mk 1 v [] [] p)
 |var {n:List UInt8} {p:Int}:Nm 6 n->TyE Nm true (.mk 2 0 n [] p)
 |word0 {k:Nat} {ty:Bool} {p:Int}:(k,ty)∈[(0,false),(1,false),(2,true),(3,true)]->TyE Nm ty (.mk (A2g.getD k 0) 0 [] [] p)
 |word1 {k:Nat} {nk:Int} {ty:Bool} {n:List UInt8} {p:Int}:(k,ty,nk)∈[(4,false,(1:Int)),(5,false,9),(6,true,7)]->Nm nk n->TyE Nm ty (.mk (A2g.getD k 0) 0 n [] p)
 |neg {a:Ex} {p:Int}:TyE Nm true a->TyE Nm true (.mk 10 0 [] [a] p)
 |not {a:Ex} {p:Int}:TyE Nm false a->TyE Nm false (.mk 11 0 [] [a] p)
 |bin {k:Nat} {ta ty:Bool} {a b:Ex} {p:Int}:k<13->(ta=decide (k<11))->(ty=decide (k<5))->TyE Nm ta a->TyE Nm ta b->TyE Nm ty (.mk (12+(k:Int)) 0 [] [a,b] p)
inductive GX (Nm:Int->List UInt8->Prop):Int->Bool->Nat->Nat->List T3->Prop where
 |num {v:Int}:GX Nm 6 true 0 1 [(3,[],v)]
 |var {n:List UInt8}:Nm 6 n->GX Nm 6 true 0 1 [(1,n,0)]
 |word0 {k:Nat} {ty:Bool}:(k,ty)∈[(0,false),(1,false),(2,true),(3,true)]->GX Nm 6 ty 0 1 [(2,D7.getD k [],0)]
 |word1 {k:Nat} {nk:Int} {ty:Bool} {n:List UInt8}:(k,ty,nk)∈[(4,false,(1:Int)),(5,false,9),(6,true,7)]->Nm nk n->GX Nm 6 ty 0 1 [(2,D7.getD k [],0),(1,n,0)]
 |neg {d c:Nat} {a:List T3}:GX Nm 6 true d c a->GX Nm 6 true (d+1) c ((5,[45],0) :: a)
 |not {d c:Nat} {a:List T3}:GX Nm 6 false d c a->GX Nm 6 false (d+1) c ((5,[33],0) :: a)
 |par {m:Int} {ty:Bool} {d c:Nat} {a:List T3}:GX Nm m ty d c a->GX Nm 6 ty (d+1) c ((5,[40],0) :: (a++[(5,[41],0)]))
 |bin {k:Nat} {m1 m2:Int} {ta ty:Bool} {d1 d2 c1 c2:Nat} {a b:List T3}:k<13->(ta=decide (k<11))->(ty=decide (k<5))->E5 (12+(k:Int))<m1->E5 (12+(k:Int))<m2 ->
   GX Nm m1 ta d1 c1 a->GX Nm m2 ta d2 c2 b->GX Nm (E5 (12+(k:Int))) ty (max d1 d2) (c1+c2) (a++(5,C1.getD k [],0) :: b)
def Res(L:List Tok)(Nm:Int->List UInt8->Prop)(s:Rd)(r:Ex × Rd)(rest:List T3)(d c:Nat)(ty:Bool):Prop :=
 (s.par+d<=16->s.ops+c<=32->okR r.2=true)/\(okR r.2=true->Tk L r.2=rest/\TyE Nm ty r.1/\r.2.par=s.par/\r.2.ops=s.ops+c)
def PzU(L:List Tok)(E:Int)(Nm:Int->List UInt8->Prop)(ts:List T3)(d c:Nat)(ty:Bool):Prop:=∀ s rest,okR s=true->Tk L s=ts++rest->∃ r,Un L E s r/\Res L Nm s r rest d c ty
def Pz(L:List Tok)(E:Int)(Nm:Int->List UInt8->Prop)(m:Int)(ts:List T3)(d c:Nat)(ty:Bool):Prop:=∀ n,1<=n->n<=m->∀ s rest,okR s=true->Tk L s=ts++rest->A6t n rest->∃ r,Bin L E n s r/\Res L Nm s r rest d c ty
variable {Nm:Int->List UInt8->Prop}
theorem D4x{n:Int}{s:Rd}{r:Ex × Rd}{rest:List T3}{d c:Nat}{ty:Bool}(hn:n<=5)(h:Bin L E (n+1) s r)(hr:Res L Nm s r rest d c ty)(ho:A6t n rest):Bin L E n s r :=
 Bin.go hn h (B6y (fun h=>(hr.2 h).1) ho)
theorem Pz.of{m:Int}{ts:List T3}{d c:Nat}{ty:Bool}(hm:m<=6)(h:∀ s rest,okR s=true->Tk L s=ts++rest->A6t m rest->∃ r,Bin L E m s r/\Res L Nm s r rest d c ty):Pz L E Nm m ts d c ty:=by
 intro n hn1 hnm s rest ho ht hno;obtain⟨k,hk⟩:∃ k:Nat,n=m-k:=⟨(m-n).toNat,by omega⟩
 induction k generalizing n with
 |zero =>
  obtain rfl:n=m:=by omega
  exact h s rest ho ht hno
 |succ k ih =>
  obtain⟨r,h1,h2⟩:=ih (n+1) (by omega) (by omega) (hno.up (by omega)) (by omega);exact⟨r,D4x (by omega) h1 h2 hno,h2⟩
theorem PzU.pz{ts:List T3}{d c:Nat}{ty:Bool}(h:PzU L E Nm ts d c ty):Pz L E Nm 6 ts d c ty :=
 Pz.of (by omega) fun s rest ho ht _=>by
  obtain⟨r,h1,h2⟩:=h s rest ho ht;exact⟨r,Bin.un (by omega) h1,h2⟩
theorem A1c{s:Rd}{n m e:Int}(h:n<=m):A9 L E s n m e=s:=by unfold A9;rw[if_neg (by omega)]
theorem C2x{s:Rd}{n m e:Int}(he:e≠0)(h:m<n):okR (A9 L E s n m e)=false:=by unfold A9;rw[if_pos h];exact A4j he
theorem A4q{s s':Rd}(h:s'.i=s.i+1){t:T3}{q:List T3}(ht:Tk L s=t :: q):Tk L s'=q:=by
 unfold Tk;rw[h];exact (W3 (E:=0) ht).2.1
theorem A1l{s:Rd}{t:T3}{q:List T3}(ho:okR s=true)(ht:Tk L s=t :: q)(hp:K4 t K3<0)(hk:0<=K4 t D7\/t.1=3\/t.1=1):
  ∃ r,Un L E s r/\(s.ops+1<=32->K4 t D7<4->okR r.2=true)/\(s.ops+1<=32->4<=K4 t D7->∀ n q',q=(1,n,0) :: q'->okR r.2=true/\Tk L r.2=q'/\r.1=.mk (A2g.getD (K4 t D7).toNat 0) 0 n [] (A7 L E s).pos) /\
   (okR r.2=true->r.2.par=s.par/\r.2.ops=s.ops+1/\s.ops+1<=32 /\
    (K4 t D7<4->Tk L r.2=q/\r.1=(if 0<=K4 t D7 then .mk (A2g.getD (K4 t D7).toNat 0) 0 [] [] (A7 L E s).pos else if t.1=3 then .mk 1 t.2.2 [] [] (A7 L E s).pos else .mk 2 0 t.2.1 [] (A7 L E s).pos))):=by
 refine⟨J6 L E s,Un.prim (by rw[P0 ht ho];exact hp),?_⟩;obtain⟨h1,h2,h3⟩:=W3 (E:=E) ht;have hg:¬ (A8 L E s D7<0/\F9 L E s 3=false/\F9 L E s 1=false):=by
  rw[P0 ht ho,A8x ht ho,A8x ht ho];rintro⟨a,b,c⟩;rcases hk with hk|hk|hk
  ·omega
  ·rw[hk]at b;cases b
  ·rw[hk]at c;cases c
 unfold J6;dsimp only;rw[if_neg hg,P0 ht ho];by_cases hop:s.ops+1<=32
 ·rw[A1c hop];have ho1:okR ({ s with ops:=s.ops+1 }:Rd)=true:=ho;rw[if_neg (by rw[ho1];simp)];have htn:Tk L (A6 { s with ops:=s.ops+1 })=q:=A4q (s:=s) rfl ht;have hon:okR (A6 { s with ops:=s.ops+1 })=true:=ho;by_cases h0:0<=K4 t D7
  ·rw[if_pos h0];by_cases h4:4<=K4 t D7
   ·rw[if_pos h4];refine⟨fun _ h=>by omega,fun _ _ n q' hq=>?_,fun hok=>⟨?_,?_,hop,fun h=>by omega⟩⟩
    ·rw[hq]at htn;have e:A4 L E (A6 { s with ops:=s.ops+1 }) 1=(A7 L E (A6 { s with ops:=s.ops+1 }),A6 (A6 { s with ops:=s.ops+1 })):=by
      unfold A4;rw[if_neg (by rw[A8x htn hon];simp)]
     rw[e];refine⟨ho,A4q (s:=A6 { s with ops:=s.ops+1 }) rfl htn,?_⟩;have:=(W3 (E:=E) htn).1;have e2:(A7 L E (A6 { s with ops:=s.ops+1 })).text=n:=congrArg (fun x=>x.2.1) this;rw[e2]
    ·rw[(W4 hok).2];rfl
    ·rw[(W4 hok).2];rfl
   ·rw[if_neg h4];refine⟨fun _ _=>hon,fun _ h=>absurd h h4,fun hok=>⟨rfl,rfl,hop,fun _=>⟨htn,?_⟩⟩⟩;rw[if_pos h0]
  ·rw[if_neg h0];have e1:(A7 L E s).kind=t.1:=congrArg (fun x=>x.1) h1;have e2:(A7 L E s).value=t.2.2:=congrArg (fun x=>x.2.2) h1;have e3:(A7 L E s).text=t.2.1:=congrArg (fun x=>x.2.1) h1;rw[e1,e2,e3];refine⟨fun _ _=>?_,fun _ h=>by omega,fun hok=>⟨?_,?_,hop,fun _=>⟨?_,?_⟩⟩⟩
   ·split<;>exact hon
   ·split<;>rfl
   ·split<;>rfl
   ·split<;>exact htn
   ·rw[if_neg h0];split<;>rfl
 ·have hl:=C2x (L:=L) (E:=E) (s:={ s with ops:=s.ops+1 }) (e:=9) (m:=32) (n:=s.ops+1) (by decide) (by omega);rw[if_pos hl];refine⟨fun h=>absurd h hop,fun h=>absurd h hop,fun hok=>?_⟩;dsimp only at hok;rw[hl]at hok;cases hok
theorem A7v(k:Nat)(hk:k<7):K4 (2,D7.getD k [],0) D7=k/\K4 (2,D7.getD k [],0) K3<0:=by
 have:∀ k,k<7->K4 (2,D7.getD k [],0) D7=k/\K4 (2,D7.getD k [],0) K3<0:=by decide
 exact this k hk
theorem B9y(k:Nat)(hk:k<13):K4 (5,C1.getD k [],0) C1=k:=by
 have:∀ k,k<13->K4 (5,C1.getD k [],0) C1=k:=by decide
 exact this k hk
theorem C2h{k:Nat}(hk:k<13):1<=E5 (12+(k:Int))/\E5 (12+(k:Int))<=5:=by
 have:∀ k:Nat,k<13->1<=E5 (12+(k:Int))/\E5 (12+(k:Int))<=5:=by decide
 exact this k hk
theorem C0k{s:Rd}(h:s.par+1<=16)(ho:okR s=true):okR (A9 L E s (s.par+1) 16 50)=true:=by rw[A1c h];exact ho
theorem C0l{s:Rd}{rest:List T3}{d c:Nat}{ty:Bool}(h:16<s.par+1)(ha:0<=A8 L E s K3):∃ r,Un L E s r/\Res L Nm s r rest (d+1) c ty:=by
 have hl:=C2x (L:=L) (E:=E) (s:=s) (n:=s.par+1) (m:=16) (e:=50) (by decide) h;refine⟨_,Un.bad ha hl,fun h1 _=>?_,fun h1=>?_⟩
 ·have:((d+1:Nat):Int)=d+1:=by omega
  omega
 ·rw[hl]at h1;cases h1
theorem B6k{s:Rd}{k:Int}{x:List UInt8}{a rest:List T3}{d c:Nat}{ty:Bool}(hx:K4 (5,x,0) K3=k)(h0:0<=k)(h2:k≠2)(h:PzU L E Nm a d c ty)
  (hq:∀ e p,TyE Nm ty e->TyE Nm ty (.mk (10+k) 0 [] [e] p)) (ho:okR s=true) (ht:Tk L s=(5,x,0) :: (a++rest)):∃ r,Un L E s r/\Res L Nm s r rest (d+1) c ty:=by
 have ha:A8 L E s K3=k:=by rw[P0 ht ho];exact hx
 by_cases h16:s.par+1<=16
 ·have hl:=C0k (L:=L) (E:=E) h16 ho;have htn:Tk L { s with i:=s.i+1,par:=s.par+1 }=a++rest:=A4q (s:=s) rfl ht;obtain⟨r,h1,h3,h4⟩:=h { s with i:=s.i+1,par:=s.par+1 } rest ho htn;obtain⟨e,s3⟩:=r;refine⟨_,Un.pre (by rw[ha];exact h0) (by rw[ha];exact h2) hl h1,fun p1 p2=>?_,fun hok=>?_⟩
  ·have:((d+1:Nat):Int)=d+1:=by omega
   exact h3 (by dsimp only;omega) p2
  ·obtain⟨q1,q2,q3,q4⟩:=h4 hok;rw[ha];exact⟨q1,hq _ _ q2,by dsimp only at q3 ⊢;omega,q4⟩
 ·exact C0l (by omega) (by rw[ha];exact h0)
theorem C3r{m:Int}{ty:Bool}{d c:Nat}{ts:List T3}(h:GX Nm m ty d c ts):1<=m/\m<=6/\Pz L E Nm m ts d c ty/\(m=6->PzU L E Nm ts d c ty):=by
 have key:∀ {ts:List T3} {d c:Nat} {ty:Bool},PzU L E Nm ts d c ty->1<=(6:Int)/\(6:Int)<=6/\Pz L E Nm 6 ts d c ty/\((6:Int)=6->PzU L E Nm ts d c ty):=fun h=>⟨by omega,by omega,h.pz,fun _=>h⟩
 induction h with
 | @num v =>
  refine key fun s rest ho ht=>?_;have a1:K4 (3,[],v) K3 = -1:=V4 (by simp) (by simp) _ _;have a2:K4 (3,[],v) D7 = -1:=V4 (by simp) (by simp) _ _;obtain⟨r,h1,h2, -,h3⟩:=A1l (E:=E) ho ht (by rw[a1];decide) (.inr (.inl rfl));rw[a2]at h2 h3;refine⟨r,h1,fun _ p2=>h2 (by simpa using p2) (by decide),fun hok=>?_⟩;obtain⟨q1,q2, -,q3⟩:=h3 hok;obtain⟨q4,q5⟩:=q3 (by decide);rw[if_neg (by decide),if_pos rfl]at q5;exact⟨q4,by rw[q5];exact .num,q1,by rw[q2];rfl⟩
 | @var n hn =>
  refine key fun s rest ho ht=>?_;have a1:K4 (1,n,0) K3 = -1:=V4 (by simp) (by simp) _ _;have a2:K4 (1,n,0) D7 = -1:=V4 (by simp) (by simp) _ _;obtain⟨r,h1,h2, -,h3⟩:=A1l (E:=E) ho ht (by rw[a1];decide) (.inr (.inr rfl));rw[a2]at h2 h3;refine⟨r,h1,fun _ p2=>h2 (by simpa using p2) (by decide),fun hok=>?_⟩;obtain⟨q1,q2, -,q3⟩:=h3 hok;obtain⟨q4,q5⟩:=q3 (by decide);rw[if_neg (by decide),if_neg (by simp)]at q5;exact⟨q4,by rw[q5];exact .var hn,q1,by rw[q2];rfl⟩
 | @word0 k ty hk =>
  refine key fun s rest ho ht=>?_;have hk4:k<4:=by
   simp only[A1A,Prod.mk.injEq,A1Y,or_false]at hk;omega
  obtain⟨a2,a1⟩:=A7v k (by omega);obtain⟨r,h1,h2, -,h3⟩:=A1l (E:=E) ho ht a1 (.inl (by rw[a2];omega));rw[a2]at h2 h3;refine⟨r,h1,fun _ p2=>h2 (by simpa using p2) (by omega),fun hok=>?_⟩;obtain⟨q1,q2, -,q3⟩:=h3 hok;obtain⟨q4,q5⟩:=q3 (by omega);rw[if_pos (by omega),A2M]at q5;exact⟨q4,by rw[q5];exact .word0 hk,q1,by rw[q2];rfl⟩
 | @word1 k nk ty n hk hn =>
  refine key fun s rest ho ht=>?_;have hk4:4<=k/\k<7:=by
   simp only[A1A,Prod.mk.injEq,A1Y,or_false]at hk;omega
  obtain⟨a2,a1⟩:=A7v k (by omega);obtain⟨r,h1, -,h2,h3⟩:=A1l (E:=E) ho ht a1 (.inl (by rw[a2];omega));rw[a2,A2M]at h2;by_cases hop:s.ops+1<=32
  ·obtain⟨q1,q2,q3⟩:=h2 hop (by omega) n rest rfl;obtain⟨q4,q5, -, -⟩:=h3 q1;exact⟨r,h1,fun _ _=>q1,fun _=>⟨q2,by rw[q3];exact .word1 hk hn,q4,by rw[q5];rfl⟩⟩
  ·exact⟨r,h1,fun _ p2=>absurd (by simpa using p2) hop,fun hok=>absurd (h3 hok).2.2.1 hop⟩
 | @neg d c a _ ih=>exact key fun s rest ho ht=>B6k (k:=0) rfl (by decide) (by decide) (ih.2.2.2 rfl) (fun e p h=>.neg h) ho ht
 | @not d c a _ ih=>exact key fun s rest ho ht=>B6k (k:=1) rfl (by decide) (by decide) (ih.2.2.2 rfl) (fun e p h=>.not h) ho ht
 | @par m ty d c a _ ih =>
  refine key fun s rest ho ht=>?_;obtain⟨hm1,hm6,hz, -⟩:=ih;have ha:A8 L E s K3=2:=by rw[P0 ht ho];rfl
  by_cases h16:s.par+1<=16
  ·have hl:=C0k (L:=L) (E:=E) h16 ho;have htn:Tk L { s with i:=s.i+1,par:=s.par+1 }=a++(5,[41],0) :: rest:=by
    have:=A4q (L:=L) (s':={ s with i:=s.i+1,par:=s.par+1 }) (s:=s) rfl ht;simpa using this
   obtain⟨r,h1,h3,h4⟩:=hz 1 (by decide) hm1 { s with i:=s.i+1,par:=s.par+1 } _ ho htn (fun t q e=>by
    injection e with e1 e2;subst e1;exact .inl (by decide))
   obtain⟨e,s3⟩:=r;refine⟨_,Un.par ha hl h1,fun p1 p2=>?_,fun hok=>?_⟩
   ·have:((d+1:Nat):Int)=d+1:=by omega
    have k1:=h3 (by dsimp only;omega) p2;obtain⟨q1, -, -, -⟩:=h4 k1;show okR (B5 L E s3 [41])=true;unfold B5;rw[if_neg (by rw[Y9 q1 k1];decide)];exact k1
   ·have k0:okR (B5 L E s3 [41])=true:=hok;obtain⟨k1,k2⟩:=A5u k0;have k3:okR s3=true:=(Z0 k1).1;obtain⟨q1,q2,q3,q4⟩:=h4 k3;refine⟨?_,q2,?_,?_⟩
    ·have:Tk L (B5 L E s3 [41])=rest:=by rw[k2];exact A4q (s:=s3) rfl q1
     exact this
    ·show (B5 L E s3 [41]).par-1=s.par;rw[k2];show s3.par-1=s.par;dsimp only at q3;omega
    ·show (B5 L E s3 [41]).ops=s.ops+c;rw[k2];exact q4
  ·exact C0l (by omega) (by rw[ha];decide)
 | @bin k m1 m2 ta ty d1 d2 c1 c2 a b hk hta hty hm1 hm2 _ _ iha ihb =>
  obtain⟨hl1,hl5⟩:=C2h hk;obtain⟨-, -,hza, -⟩:=iha;obtain⟨-, -,hzb, -⟩:=ihb;refine⟨hl1,by omega,?_,fun h=>by omega⟩;refine Pz.of (by omega) fun s rest ho ht hno=>?_;generalize hlv:E5 (12+(k:Int))=lv at *;have hsg:=B9y k hk;have ht':Tk L s=a++(5,C1.getD k [],0) :: (b++rest):=by rw[ht];simp
  obtain⟨⟨e,s1⟩,h1,h2,h3⟩:=hza (lv+1) (by omega) (by omega) s _ ho ht' (fun t q e=>by
   injection e with e1 e2;subst e1;right;rw[hsg,hlv];omega)
  cases ho1:okR s1 with
  |false =>
   refine⟨(e,s1),Bin.go (by omega) h1 (Lop.stop (.inl (by rw[B2v ho1];decide))),fun p1 p2=>?_,fun hok=>?_⟩
   ·have:=h2 (by omega) (by omega);exact absurd this (by rw[ho1];simp)
   ·rw[ho1]at hok;cases hok
  |true =>
   obtain⟨q1,q2,q3,q4⟩:=h3 ho1;have ham:A8 L E s1 C1=k:=by rw[P0 q1 ho1];exact hsg
   have htn:Tk L (A6 s1)=b++rest:=A4q (s:=s1) rfl q1;obtain⟨⟨x,s2⟩,g1,g2,g3⟩:=hzb (lv+1) (by omega) (by omega) (A6 s1) rest ho1 htn (hno.up (by omega));have hres:∀ p,Res L Nm s (.mk (12+(k:Int)) 0 [] [e,x] p,s2) rest (max d1 d2) (c1+c2) ty:=by
    intro p;refine⟨fun p1 p2=>?_,fun hok=>?_⟩
    ·exact g2 (by show s1.par+d2<=16;dsimp only at q3;omega) (by show s1.ops+c2<=32;dsimp only at q4;omega)
    ·obtain⟨w1,w2,w3,w4⟩:=g3 hok;refine⟨w1,.bin hk hta hty q2 w2,?_,?_⟩
     ·have:(A6 s1).par=s1.par:=rfl;dsimp only at q3 w3 ⊢;omega
     ·have:(A6 s1).ops=s1.ops:=rfl;dsimp only at q4 w4 ⊢;omega
   by_cases h33:lv=3
   ·refine⟨_,Bin.go (by omega) h1 (Lop.three (by rw[ham];omega) (by rw[ham];exact hlv) h33 g1),?_⟩;rw[ham];exact hres _
   ·refine⟨_,Bin.go (by omega) h1 (Lop.more (by rw[ham];omega) (by rw[ham];exact hlv) h33 g1 (B6y (rest:=rest) (fun h=>(g3 h).1) hno)),?_⟩;rw[ham];exact hres _
end
def D5f(Nm:Int->List UInt8->Prop)(R:Ru):Prop:=∀ k n,Nm k n->(H7 R n).1=k
theorem R6{R:Ru}{n:List UInt8}{k p:Int}(h:k=0\/(H7 R n).1=k):dnE R n k p=none:=by
 unfold dnE dnM;rw[if_pos h,if_pos rfl]
theorem C0o{Nm:Int->List UInt8->Prop}{R:Ru}(hR:D5f Nm R){ty:Bool}{e:Ex}(h:TyE Nm ty e):erE R e=none/\L2 e.kind=(if ty=true then 1 else 2):=by
 induction h with
 |num=>exact⟨by simp[erE,M6,R6 (show kdE 1=0\/_ from .inl rfl)],rfl⟩
 |var hn=>exact⟨by simp[erE,M6,R6 (.inr (hR _ _ hn)),show kdE 2=6 from rfl],rfl⟩
 | @word0 k ty p hk =>
  simp only[A1A,Prod.mk.injEq,A1Y,or_false]at hk;rcases hk with ⟨rfl,rfl⟩|⟨rfl,rfl⟩|⟨rfl,rfl⟩|⟨rfl,rfl⟩
  all_goals exact⟨by rw[erE,M6,R6 (.inl (by decide))];rfl,rfl⟩
 | @word1 k nk ty n p hk hn =>
  have hl:=hR _ _ hn;simp only[A1A,Prod.mk.injEq,A1Y,or_false]at hk;rcases hk with ⟨rfl,rfl,rfl⟩|⟨rfl,rfl,rfl⟩|⟨rfl,rfl,rfl⟩
  all_goals exact⟨by rw[erE,M6,R6 (.inr (by rw[hl];rfl))];rfl,rfl⟩
 |neg _ ih =>
  refine⟨?_,rfl⟩;rw[erE,M6,M6,ih.1,R6 (.inl (by decide))];simp[ih.2,U2]
 |not _ ih =>
  refine⟨?_,rfl⟩;rw[erE,M6,M6,ih.1,R6 (.inl (by decide))];simp[ih.2,U2]
 | @bin k ta ty a b p hk hta hty _ _ iha ihb =>
  have e1:∀ k:Nat,k<13->kdE (12+(k:Int))=0/\L2 (12+(k:Int))=(if decide (k<5)=true then 1 else 2)/\(k<11->k≠9->k≠10->∀ x,U2 (12+(k:Int)) x=1)/\((k=9\/k=10)->∀ x y,U2 (12+(k:Int)) (x :: y)=L2 x.kind)/\(11<=k->∀ x,U2 (12+(k:Int)) x=2):=by
   intro k hk;refine⟨?_,?_,fun h1 h2 h3 x=>?_,fun h x y=>?_,fun h x=>?_⟩
   ·unfold kdE;rw[if_neg (by omega),if_neg (by omega),if_neg (by omega),if_neg (by omega)]
   ·have:∀ k:Nat,k<13->L2 (12+(k:Int))=(if decide (k<5)=true then 1 else 2):=by decide
    exact this k hk
   ·unfold U2;rw[if_neg (by omega),if_neg (by omega)]
   ·unfold U2;rw[if_neg (by omega),if_pos (by omega)]
   ·unfold U2;rw[if_pos (by omega)]
  obtain⟨g1,g2,g3,g4,g5⟩:=e1 k hk;refine⟨?_,by rw[show (Ex.mk (12+(k:Int)) 0 [] [a,b] p).kind=12+(k:Int) from rfl,g2,hty]⟩;rw[erE,M6,M6,M6,iha.1,ihb.1,R6 (.inl g1)];have hall:([a,b].all fun x=>L2 x.kind == U2 (12+(k:Int)) [a,b])=true:=by
   simp only[A2F,List.all_nil,A2P,iha.2,ihb.2];by_cases h1:11<=k
   ·rw[g5 h1,hta,show decide (k<11)=false by simp;omega];rfl
   ·by_cases h2:k=9\/k=10
    ·rw[g4 h2,iha.2];simp
    ·rw[g3 (by omega) (by omega) (by omega),hta,show decide (k<11)=true by simp;omega];rfl
  rw[hall];rfl
theorem D8s{Nm:Int->List UInt8->Prop}{R:Ru}(hR:D5f Nm R){ty b:Bool}{e:Ex}(h:TyE Nm ty e)(hb:b = !ty):erA R b [e]=none:=by
 obtain⟨h1,h2⟩:=C0o hR h;rw[erA,erA,h1,h2,hb];cases ty<;>rfl
theorem B4p{R:Ru}{k p:Int}{n t:List UInt8}{a:List Ex}{x y:List St}(h1:kdS k=0\/(H7 R n).1=kdS k)(h2:erA R (k == 2) a=none)(h3:erB R x=none)(h4:erB R y=none):erS R (.mk k n t a x y p)=none:=by
 rw[erS,R6 h1,h2,h3,h4];rfl
section
variable {L:List Tok} {E:Int}
structure At (L:List Tok) (s:Rd) (q:List T3):Prop where
 ok:okR s=true
 tk:Tk L s=q
theorem At.nxt{s:Rd}{t:T3}{q:List T3}(h:At L s (t :: q)):At L (A6 s) q:=⟨h.ok,A4q (s:=s) rfl h.tk⟩
theorem At.take{s:Rd}{k v:Int}{n:List UInt8}{q:List T3}(h:At L s ((k,n,v) :: q)):A4 L E s k=(A7 L E s,A6 s)/\(A7 L E s).text=n/\(A7 L E s).value=v:=by
 have h1:=(W3 (E:=E) h.tk).1;refine⟨?_,congrArg (fun x=>x.2.1) h1,congrArg (fun x=>x.2.2) h1⟩;unfold A4;rw[if_neg (by rw[A8x h.tk h.ok];simp)]
theorem At.exp{s:Rd}{c v:Int}{x:List UInt8}{q:List T3}(h:At L s ((c,x,v) :: q))(hc:c=5\/c=2):B5 L E s x=A6 s:=by
 unfold B5;rw[if_neg (by rw[Y9 h.tk h.ok];rcases hc with rfl|rfl<;>simp)]
variable {Nm:Int->List UInt8->Prop}
theorem At.xpn{m:Int}{ty:Bool}{d c:Nat}{a rest:List T3}{s:Rd}(hx:GX Nm m ty d c a)(hd:d<=16)(hc:c<=32)(h:At L s (a++rest))(hno:A6t 1 rest):∃ e s1,Xpn L E s (e,s1)/\At L s1 rest/\TyE Nm ty e:=by
 obtain⟨h1,h2,hz, -⟩:=C3r (L:=L) (E:=E) hx;obtain⟨⟨e,s1⟩,g1,g2,g3⟩:=hz 1 (by decide) h1 { s with ops:=0,par:=0 } rest h.ok h.tk hno;have k:=g2 (by show (0:Int)+d<=16;omega) (by show (0:Int)+c<=32;omega);obtain⟨k1,k2, -, -⟩:=g3 k;exact⟨e,s1,g1,⟨k,k1⟩,k2⟩
theorem B8r{x:List UInt8}{q:List T3}{n:Int}(h:K4 (5,x,0) C1 = -1):A6t n ((5,x,0) :: q):=fun t q' e=>by
 injection e with e1 e2;subst e1;exact .inl (by rw[h];decide)
def SX(Nm:Int->List UInt8->Prop)(ty:Bool)(a:List T3):Prop:=∃ m d c,d<=16/\c<=32/\GX Nm m ty d c a
theorem At.sx{ty:Bool}{a rest:List T3}{s:Rd}(hx:SX Nm ty a)(h:At L s (a++rest))(hno:A6t 1 rest):∃ e s1,Xpn L E s (e,s1)/\At L s1 rest/\TyE Nm ty e:=by
 obtain⟨m,d,c,hd,hc,hg⟩:=hx;exact h.xpn hg hd hc hno
abbrev wdT(j:Nat):T3:=(2,C0.getD j [],0)
abbrev sgT(x:List UInt8):T3:=(5,x,0)
theorem D0h{j:Nat}(h:j<18):K4 (wdT j) C0=j:=by
 have:∀ j,j<18->K4 (wdT j) C0=j:=by decide
 exact this j h
theorem C7h{s:Rd}{d:Int}(h:d<=8):A9 L E s d 8 50=s:=A1c h
theorem B5o{s:Rd}{d:Int}{j:Nat}{q:List T3}{r:St × Rd}(hd:d<=8)(hj:2<=j)(hj2:j<18)(h:At L s (wdT j :: q))(he:Evt (fun f=>L3 L E f (2+(j:Int)) (A7 L E s).pos (A6 s)) r):O4 L E d s r:=by
 have ha:A8 L E s C0=j:=by rw[P0 h.tk h.ok];exact D0h hj2
 refine O4.tail (by rw[C7h hd];exact h.ok) (by rw[ha];omega) ?_;rw[ha];exact he
end
abbrev D3:=Nat × List UInt8 × Int
def st4(d:Dc):Int × List UInt8 × Int:=(d.kind,d.name,d.value)
def A6s(d:D3):List T3:=if d.1<6 then (if d.2.2<0 then [(5,[45],0),(3,[], -d.2.2)] else [(3,[],d.2.2)]) else []
def dT(d:D3):List T3:=(2,C2.getD d.1 [],0) :: (1,d.2.1,0) :: (A6s d++[(5,[59],0)])
def dWf(d:D3):Prop:=d.1<8/\(d.1<5->0<=d.2.2)/\(6<=d.1->d.2.2=0)
section
variable {L:List Tok} {E:Int}
theorem D4o{d:D3}{rest:List T3}{s:Rd}(hw:dWf d)(h:At L s (dT d++rest)):∃ s1,S4 L E (d.1:Int) s=(⟨1+(d.1:Int),d.2.1,d.2.2,(A7 L E s).pos⟩,s1)/\At L s1 rest:=by
 obtain⟨k,n,v⟩:=d;obtain⟨h1,h2,h3⟩:=hw;dsimp only at h1 h2 h3 ⊢;have h:At L s ((2,C2.getD k [],0) :: (1,n,0) :: (A6s (k,n,v)++(5,[59],0) :: rest)):=by simpa[dT] using h
 obtain⟨t1,t2, -⟩:=h.nxt.take (E:=E);have g:=h.nxt.nxt;unfold S4;dsimp only;rw[t1];dsimp only;rw[t2];by_cases h6:k<6
 ·rw[if_pos (by omega)];by_cases hv:v<0
  ·have g2:At L (A6 (A6 s)) ((5,[45],0) :: (3,[], -v) :: (5,[59],0) :: rest):=by
    have e:A6s (k,n,v)=[(5,[45],0),(3,[], -v)]:=by unfold A6s;rw[if_pos h6,if_pos hv]
    rw[e]at g;exact g
   have hk:k=5:=by
    by_cases h5:k<5
    ·have:=h2 h5;omega
    ·omega
   subst hk;have hm:(((5:Nat):Int)+1 == 6 && isR L E (A6 (A6 s)) [45])=true:=by rw[Y9 g2.tk g2.ok];rfl
   simp only[if_pos hm];obtain⟨u1, -,u3⟩:=g2.nxt.take (E:=E);rw[u1];dsimp only;rw[u3,Int.neg_neg,g2.nxt.nxt.exp (.inl rfl)];exact⟨_,rfl,g2.nxt.nxt.nxt⟩
  ·have g:At L (A6 (A6 s)) ((3,[],v) :: (5,[59],0) :: rest):=by
    have e:A6s (k,n,v)=[(3,[],v)]:=by unfold A6s;rw[if_pos h6,if_neg hv]
    rw[e]at g;exact g
   have hm:((k:Int)+1 == 6 && isR L E (A6 (A6 s)) [45])=false:=by rw[Y9 g.tk g.ok];simp
   have hm2:¬ ((k:Int)+1 == 6 && isR L E (A6 (A6 s)) [45])=true:=by rw[hm];decide
   simp only[if_neg hm2];obtain⟨u1, -,u3⟩:=g.take (E:=E);rw[u1];dsimp only;rw[u3,g.nxt.exp (.inl rfl)];exact⟨_,rfl,g.nxt.nxt⟩
 ·rw[if_neg (by omega)];have g:At L (A6 (A6 s)) ((5,[59],0) :: rest):=by
   have e:A6s (k,n,v)=[]:=by unfold A6s;rw[if_neg h6]
   rw[e]at g;exact g
  rw[g.exp (.inl rfl),h3 (by omega)];exact⟨_,rfl,g.nxt⟩
theorem C8d{k:Nat}(h:k<8):K4 (2,C2.getD k [],0) C2=k:=by
 have:∀ k,k<8->K4 (2,C2.getD k [],0) C2=k:=by decide
 exact this k h
theorem C1o(rest:List T3)(hr:∀ t q,rest=t :: q->K4 t C2 = -1):∀ (ds:List D3) (acc:List Dc) (s:Rd),acc.length+ds.length<=128->(∀ d∈ds,dWf d)->At L s ((ds.map dT).flatten++rest) ->
  ∃ l s1,Evt (fun f=>S1 L E f acc s) (acc++l,s1)/\At L s1 rest/\l.map st4=ds.map fun d=>(1+(d.1:Int),d.2.1,d.2.2)
 |[],acc,s,hl,hw,h=>by
  have h:At L s rest:=h;have ha:A8 L E s C2 = -1:=by
   cases rest with
   |nil=>exact B7x h.tk
   |cons t q=>rw[P0 h.tk h.ok];exact hr t q rfl
  refine⟨[],s,Evt.one fun f=>?_,h,rfl⟩;rw[S1];dsimp only;rw[if_pos (by rw[ha];decide),A1B]
 |d :: ds,acc,s,hl,hw,h=>by
  have h:At L s (dT d++((ds.map dT).flatten++rest)):=by simpa using h
  have hd:=hw d A0I;have ha:A8 L E s C2=d.1:=by
   have h':At L s ((2,C2.getD d.1 [],0) :: (1,d.2.1,0) :: (A6s d++(5,[59],0) :: ((ds.map dT).flatten++rest))):=by simpa[dT] using h
   rw[P0 h'.tk h'.ok];exact C8d hd.1
  obtain⟨s1,e1,h1⟩:=D4o (E:=E) hd h;obtain⟨l,s2,g1,g2,g3⟩:=C1o rest hr ds (acc++[⟨1+(d.1:Int),d.2.1,d.2.2,(A7 L E s).pos⟩]) s1 (by simp only[A0N,A0D,List.length_nil]at hl ⊢;omega) (fun x hx=>hw x (A0F _ hx)) h1;refine⟨⟨1+(d.1:Int),d.2.1,d.2.2,(A7 L E s).pos⟩ :: l,s2,?_,g2,by rw[A0R,A0R,g3];rfl⟩;rw[show acc++⟨1+(d.1:Int),d.2.1,d.2.2,(A7 L E s).pos⟩ :: l=acc++[⟨1+(d.1:Int),d.2.1,d.2.2,(A7 L E s).pos⟩]++l by simp];refine g1.ext fun f hf=>?_;have hlm:A9 L E s ((acc.length:Int)+1) 128 9=s:=A1c (by simp only[A0N]at hl;omega);rw[S1];dsimp only;rw[ha,if_neg (by omega),hlm,if_pos h.ok,e1];exact hf
variable {Nm:Int->List UInt8->Prop}
abbrev H3:=Nat × List UInt8 × List T3
def hT(h:H3):List T3:=(2,[111,110],0) :: (2,C6.getD h.1 [],0) :: ((if 2<=h.1 then [(1,h.2.1,0)] else [])++h.2.2)
theorem C0r{k:Nat}(h:k<6):K4 (2,C6.getD k [],0) C6=k:=by
 have:∀ k,k<6->K4 (2,C6.getD k [],0) C6=k:=by decide
 exact this k h
end
def D6w(v:Int):List D3:=[(0,[115,119,48],3),(0,[115,119,49],9),(0,[115,119,50],40),(0,[115,119,51],63),(1,[99,111,105,108,48],0),(1,[99,111,105,108,49],7),(1,[99,111,105,108,50],31),
 (2,[108,97,109,112,48],0),(2,[108,97,109,112,49],9),(2,[108,97,109,112,50],33),(2,[108,97,109,112,51],63),(3,[115,110,100,48],0),(3,[115,110,100,49],5),(4,[115,104,111,119,48],0),(4,[115,104,111,119,49],1),
 (5,[118,48],v),(5,[118,49],1),(5,[118,50],0),(6,[116,109,48],0),(6,[116,109,49],0),(7,[101,118,48],0),(7,[101,118,49],0)]
def D2z:List (List UInt8):=[[109,111,100,101,48],[109,111,100,101,49],[109,111,100,101,50]]
def D2y(v:Int):List (Int × List UInt8 × Int):=(D6w v).map fun d=>(1+(d.1:Int),d.2.1,d.2.2)
def NmM(k:Int)(n:List UInt8):Prop:=(k,n)∈((D2y 0).map fun q=>(q.1,q.2.1))++D2z.map fun n=>(9,n)
end Go.Pb
set_option maxRecDepth 100000
namespace Go.Pb
variable [Go.Sym.Tab]
open Go.Sym
theorem Pc.up{p:List UInt8}{t:List T3}(h:Pc false p t)(b:Bool):Pc b p t:=fun r tr _ hr=>h r tr (fun e=>by cases e) hr
def dcS:Nat->List UInt8
 |10=>[49,48]
 |11=>[49,49]
 |n=>[X6 n]
theorem C9w{n:Nat}(h:n<12):O9 (n:Int)=dcS n:=by
 by_cases h10:n<10
 ·rw[A4k (by omega) (by omega)];have e:M5 (n:Int)=n:=by unfold M5;omega
  rw[e];unfold dcS;split<;>first|omega|rfl
 ·have:n=10\/n=11:=by omega
  rw[B7p (by omega),A4k (by unfold Q3;omega) (by unfold Q3;omega)];rcases this with rfl|rfl<;>rfl
def nmB(k:Int)(n:List UInt8):Bool:=(((D2y 0).map fun q=>(q.1,q.2.1))++D2z.map fun n=>((9:Int),n)).any fun (q:Int × List UInt8)=>q.1 == k && q.2 == n
theorem D2r{k:Int}{n:List UInt8}(h:nmB k n=true):NmM k n:=by
 obtain⟨q,h1,h2⟩:=List.any_eq_true.1 h;simp only[A0E,A1R]at h2;unfold NmM;rw[<- h2.1, <- h2.2];exact h1
def C7i(b:Bool)(s:List UInt8)(ts:List T3):Bool:=A1d b 100 s == some ts
theorem B7c{b:Bool}{s:List UInt8}{ts:List T3}(h:C7i b s ts=true):A1d b 100 s=some ts:=by simpa[C7i] using h
theorem B6p{p:List UInt8}{n:Nat}{k:Int}(hn:n<=10)(h:∀ j,j<n->C7i true (p++dcS j) [(1,p++dcS j,0)]=true/\nmB k (p++dcS j)=true)(L:List UInt8)(i:Nat)(hn0:0<n):
  Pc true (nmK L 0 p n i).1 [(1,(nmK L 0 p n i).1,0)]/\NmM k (nmK L 0 p n i).1:=by
 have e:(nmK L 0 p n i).1=p++dcS (nxK L n i).1:=by
  unfold nmK;dsimp only;rw[if_neg (by rintro⟨h, -⟩;omega),if_neg (by omega)];have:=I7 L i hn0;rw[C9w (by omega)]
 obtain⟨h1,h2⟩:=h _ (I7 L i hn0);rw[e];exact⟨O6 _ _ _ (B7c h1),D2r h2⟩
theorem E0j(L:List UInt8)(i:Nat):Pc true (nmK L 0 [118] 3 i).1 [(1,(nmK L 0 [118] 3 i).1,0)]/\NmM 6 (nmK L 0 [118] 3 i).1:=B6p (by decide) (by decide) L i (by decide)
theorem D6p(L:List UInt8)(i:Nat):Pc true (nmK L 0 [116,109] 2 i).1 [(1,(nmK L 0 [116,109] 2 i).1,0)]/\NmM 7 (nmK L 0 [116,109] 2 i).1:=B6p (by decide) (by decide) L i (by decide)
theorem C6u(L:List UInt8)(i:Nat):Pc true (nmK L 0 [109,111,100,101] 3 i).1 [(1,(nmK L 0 [109,111,100,101] 3 i).1,0)]/\NmM 9 (nmK L 0 [109,111,100,101] 3 i).1:=B6p (by decide) (by decide) L i (by decide)
theorem D6q(L:List UInt8)(i:Nat):Pc true (nmK L 0 [115,119] 4 i).1 [(1,(nmK L 0 [115,119] 4 i).1,0)]/\NmM 1 (nmK L 0 [115,119] 4 i).1:=B6p (by decide) (by decide) L i (by decide)
def XT(m:Int)(ty:Bool)(d c:Nat)(s:List UInt8):Prop:=∃ ts m' d' c',m<=m'/\d'<=d/\c'<=c/\GX NmM m' ty d' c' ts/\Pc true s ts/\∃ x q,s=x :: q/\x.toNat≠61
theorem XT.mono{m m2:Int}{ty:Bool}{d d2 c c2:Nat}{s:List UInt8}(h:XT m ty d c s)(hm:m2<=m)(hd:d<=d2)(hc:c<=c2):XT m2 ty d2 c2 s:=by
 obtain⟨ts,m',d',c',h1,h2,h3,h4,h5,h6⟩:=h;exact⟨ts,m',d',c',by omega,by omega,by omega,h4,h5,h6⟩
theorem XT.six{ty:Bool}{d c:Nat}{s:List UInt8}(h:XT 6 ty d c s):∃ ts d' c',d'<=d/\c'<=c/\GX NmM 6 ty d' c' ts/\Pc true s ts/\∃ x q,s=x :: q/\x.toNat≠61:=by
 obtain⟨ts,m',d',c',h1,h2,h3,h4,h5,h6⟩:=h;obtain⟨-,h7, -, -⟩:=C3r (L:=[]) (E:=0) h4;obtain rfl:m'=6:=by omega
 exact⟨ts,d',c',h2,h3,h4,h5,h6⟩
theorem A7y{w n:List UInt8}{k:Nat}{nk:Int}{ty:Bool}(hk:(k,ty,nk)∈[(4,false,(1:Int)),(5,false,9),(6,true,7)])(hw:A1d false 100 w=some [(2,D7.getD k [],0)])(hh:∃ x q,w=x :: q/\x.toNat≠61)
  (hn:Pc true n [(1,n,0)]/\NmM nk n):XT 6 ty 0 1 (w++n):=by
 obtain⟨x,q,rfl,hx⟩:=hh;exact⟨_,6,0,1,by omega,by omega,by omega,.word1 hk hn.2,(O6 _ _ _ hw).pre hn.1,x,_,rfl,hx⟩
theorem A7z{w:List UInt8}{k:Nat}{ty:Bool}(hk:(k,ty)∈[(0,false),(1,false),(2,true),(3,true)])(hw:A1d true 100 w=some [(2,D7.getD k [],0)])(hh:∃ x q,w=x :: q/\x.toNat≠61):XT 6 ty 0 1 w :=
 ⟨_,6,0,1,by omega,by omega,by omega,.word0 hk,O6 _ _ _ hw,hh⟩
theorem C5f(L:List UInt8)(i:Nat):XT 6 false 0 1 (bl0 L 0 i).1:=by
 unfold bl0;dsimp only;split
 ·try dsimp only
  exact A7z (k:=0) (by decide) (by decide) ⟨_,_,rfl,by decide⟩
 ·split
  ·try dsimp only
   exact A7z (k:=1) (by decide) (by decide) ⟨_,_,rfl,by decide⟩
  ·split
   ·try dsimp only
    exact A7y (k:=5) (nk:=9) (by decide) (by decide) ⟨_,_,rfl,by decide⟩ (C6u L _)
   ·try dsimp only
    exact A7y (k:=4) (nk:=1) (by decide) (by decide) ⟨_,_,rfl,by decide⟩ (D6q L _)
theorem A4m{w:List UInt8}{v:Int}(hw:A1d true 100 w=some [(3,[],v)])(hh:∃ x q,w=x :: q/\x.toNat≠61):XT 6 true 0 1 w :=
 ⟨_,6,0,1,by omega,by omega,by omega,.num,O6 _ _ _ hw,hh⟩
theorem D3l(L:List UInt8)(i:Nat):XT 6 true 0 1 (in1 L 0 i).1:=by
 unfold in1;dsimp only;split
 ·obtain⟨h1,h2⟩:=E0j L (nxK L 7 i).2;refine⟨_,6,0,1,by omega,by omega,by omega,.var h2,h1,?_⟩;unfold nmK;dsimp only;rw[if_neg (by rintro⟨h, -⟩;omega)];exact⟨_,_,rfl,by decide⟩
 ·split
  ·try dsimp only
   exact A7z (k:=2) (by decide) (by decide) ⟨_,_,rfl,by decide⟩
  ·split
   ·try dsimp only
    exact A7z (k:=3) (by decide) (by decide) ⟨_,_,rfl,by decide⟩
   ·split
    ·try dsimp only
     exact A7y (k:=6) (nk:=7) (by decide) (by decide) ⟨_,_,rfl,by decide⟩ (D6p L _)
    ·split
     ·have hlt:=I7 L (n:=4) (nxK L 7 i).2 (by decide);generalize (nxK L 4 (nxK L 7 i).2).1=j at hlt;have:j=0\/j=1\/j=2\/j=3:=by omega
      rcases this with rfl|rfl|rfl|rfl
      ·try dsimp only
       exact A4m (v:=2147483647) (by decide) ⟨_,_,rfl,by decide⟩
      ·try dsimp only
       exact A4m (v:=1000000) (by decide) ⟨_,_,rfl,by decide⟩
      ·try dsimp only
       exact A4m (v:=65536) (by decide) ⟨_,_,rfl,by decide⟩
      ·try dsimp only
       exact A4m (v:=100000) (by decide) ⟨_,_,rfl,by decide⟩
     ·have hlt:=I7 L (n:=12) (nxK L 7 i).2 (by decide);generalize (nxK L 12 (nxK L 7 i).2).1=j at hlt;rw[C9w hlt];have h1:∀ j,j<12->C7i true (dcS j) [(3,[],(j:Int))]=true/\(match dcS j with |[]=>false|x :: _=>decide (x.toNat≠61))=true:=by decide
      obtain⟨a,c⟩:=h1 j hlt;refine A4m (B7c a) ?_;cases hd:dcS j with
      |nil=>rw[hd]at c;cases c
      |cons x q=>rw[hd]at c;exact⟨x,q,rfl,by simpa using c⟩
theorem D5r(L:List UInt8)(f g:Nat->Mk)(i:Nat):wlK L 0 f g i=g i:=by
 unfold wlK;dsimp only;rw[if_neg (by rintro⟨h, -⟩;omega),if_neg (by omega)]
theorem B4i(L:List UInt8)(i:Nat):XT 6 true 0 1 (in0 L 0 i).1:=by unfold in0;rw[D5r];exact D3l L i
theorem D2d{a:List UInt8}{ts:List T3}(h:Pc true a ts):Pc false ([40]++a++[41]) ((5,[40],0) :: (ts++[(5,[41],0)])):=by
 have h1:Pc false [40] [(5,[40],0)]:=A8m (by decide) (by decide) (by decide);have h2:Pc false [41] [(5,[41],0)]:=A8m (by decide) (by decide) (by decide);have:=h1.pre (h.lit (c:=41) (q:=[]) h2 (by decide));simpa using this
theorem B3a{k:Nat}{ta ty:Bool}{d c:Nat}{a b o:List UInt8}(hk:k<13)(hta:ta=decide (k<11))(hty:ty=decide (k<5))(ha:XT (E5 (12+(k:Int))+1) ta d c a)(hb:XT (E5 (12+(k:Int))+1) ta d c b)
  (ho:A1d false 100 (32 :: o)=some [(5,C1.getD k [],0)]):XT (E5 (12+(k:Int))) ty d (2 * c) (a++(32 :: o)++b):=by
 obtain⟨ts,m1,d1,c1,h1,h2,h3,h4,h5,x,q,rfl,hx⟩:=ha;obtain⟨ts2,m2,d2,c2,g1,g2,g3,g4,g5, -⟩:=hb;refine⟨_,_,_,_,A3G _,?_,?_,.bin hk hta hty (by omega) (by omega) h4 g4,?_,x,_,rfl,hx⟩
 ·omega
 ·omega
 ·have:=(h5.lit (O6 _ _ _ ho) (by decide)).pre g5;simpa using this
theorem C0c{m:Int}{ty:Bool}{d c:Nat}{a:List UInt8}(h:XT m ty d c a):XT 6 ty (d+1) c ([40]++a++[41]):=by
 obtain⟨ts,m1,d1,c1,h1,h2,h3,h4,h5, -⟩:=h;exact⟨_,6,d1+1,c1,by omega,by omega,by omega,.par h4,(D2d h5).up true,40,_,rfl,by decide⟩
theorem C3g(L:List UInt8):∀ d,(∀ i,XT 6 true (d+1) (2 ^ d) (inK L 0 d i).1)/\(∀ i,XT 3 false (d+1) (2 ^ d) (blK L 0 d i).1)
 |0=>⟨fun i=>by rw[inK];exact (B4i L i).mono (by omega) (by omega) (by omega),fun i=>by rw[blK];exact (C5f L i).mono (by omega) (by omega) (by omega)⟩
 |d+1=>by
  obtain⟨h1,h2⟩:=C3g L d;have hp:1<=2 ^ d:=Nat.one_le_two_pow;have hp2:2 ^ (d+1)=2 * 2 ^ d:=by rw[Nat.pow_succ,Nat.mul_comm]
  refine⟨fun i=>?_,fun i=>?_⟩
  ·rw[inK,D5r];dsimp only;split
   ·exact (B4i L _).mono (by omega) (by omega) (by omega)
   ·split
    ·obtain⟨ts,d',c',g1,g2,g3,g4, -⟩:=(B4i L (nxK L 5 i).2).six;refine⟨_,6,d'+1,c',by omega,by omega,by omega,.neg g3,?_,45,_,rfl,by decide⟩;have h3:Pc false [45] [(5,[45],0)]:=A8m (by decide) (by decide) (by decide);exact h3.pre g4
    ·have ha:=h1 (nxK L 5 i).2;have hb:=h1 (inK L 0 d (nxK L 5 i).2).2;have hlt:=I7 L (n:=5) (inK L 0 d (inK L 0 d (nxK L 5 i).2).2).2 (by decide);generalize (nxK L 5 (inK L 0 d (inK L 0 d (nxK L 5 i).2).2).2).1=o at hlt;have key:∀ k:Nat, ∀ op:List UInt8,k<5->A1d false 100 (32 :: (op++[32]))=some [(5,C1.getD k [],0)]->XT 6 true (d+1+1) (2 ^ (d+1)) (((((([40]++(inK L 0 d (nxK L 5 i).2).1)++[32])++op)++[32])++(inK L 0 d (inK L 0 d (nxK L 5 i).2).2).1)++[41]):=by
      intro k op hk ho;have hl:=C2h (k:=k) (by omega);have:=C0c (B3a (k:=k) (ta:=true) (ty:=true) (by omega) (by simp;omega) (by simp;omega) (ha.mono (by omega) (A0C _) (A0C _)) (hb.mono (by omega) (A0C _) (A0C _)) ho);rw[hp2];simpa using this
     have:o=0\/o=1\/o=2\/o=3\/o=4:=by omega
     rcases this with rfl|rfl|rfl|rfl|rfl
     ·exact key 3 [43] (by decide) (by decide)
     ·exact key 4 [45] (by decide) (by decide)
     ·exact key 0 [42] (by decide) (by decide)
     ·exact key 1 [47] (by decide) (by decide)
     ·exact key 2 [37] (by decide) (by decide)
  ·rw[blK];dsimp only;have key:∀ (k:Nat) (a b o:List UInt8),(k=11\/k=12)->XT 3 false (d+1) (2 ^ d) a->XT 3 false (d+1) (2 ^ d) b->A1d false 100 (32 :: o)=some [(5,C1.getD k [],0)]->XT 3 false (d+1+1) (2 ^ (d+1)) (((([40]++a)++(32 :: o))++b)++[41]):=by
    intro k a b o hk ha hb ho;have hl:E5 (12+(k:Int))<=2:=by rcases hk with rfl|rfl<;>decide
    have:=C0c (B3a (k:=k) (ta:=false) (ty:=false) (by omega) (by rcases hk with rfl|rfl<;>rfl) (by rcases hk with rfl|rfl<;>rfl) (ha.mono (by omega) (A0C _) (A0C _)) (hb.mono (by omega) (A0C _) (A0C _)) ho);rw[hp2];refine XT.mono ?_ (show (3:Int)<=6 by omega) (A0C _) (A0C _);simpa using this
   split
   ·obtain⟨ts,d',c',g1,g2,g3,g4,x,q,e,hx⟩:=(C5f L (nxK L 6 i).2).six;refine⟨_,6,d'+1,c',by omega,by omega,by omega,.not g3,?_,33,_,rfl,by decide⟩;rw[e]at g4 ⊢;exact D2e g4 hx
   ·split
    ·exact key 11 _ _ _ (.inl rfl) (h2 _) (h2 _) (by decide)
    ·split
     ·exact key 12 _ _ _ (.inr rfl) (h2 _) (h2 _) (by decide)
     ·have ha:=h1 (nxK L 6 i).2;have hlt:=I7 L (n:=6) (inK L 0 d (nxK L 6 i).2).2 (by decide);have hb:=h1 (nxK L 6 (inK L 0 d (nxK L 6 i).2).2).2;generalize (nxK L 6 (inK L 0 d (nxK L 6 i).2).2).2=j at hb ⊢;generalize (nxK L 6 (inK L 0 d (nxK L 6 i).2).2).1=o at hlt ⊢;have kc:∀ k:Nat, ∀ op:List UInt8,5<=k->k<11->E5 (12+(k:Int))=3->A1d false 100 (32 :: (op++[32]))=some [(5,C1.getD k [],0)]->XT 3 false (d+1+1) (2 ^ (d+1)) (((((inK L 0 d (nxK L 6 i).2).1++[32])++op)++[32])++(inK L 0 d j).1):=by
       intro k op hk hk2 hl ho;have:=B3a (k:=k) (ta:=true) (ty:=false) (by omega) (by simp;omega) (by simp;omega) (ha.mono (by omega) (A0C _) (A0C _)) (hb.mono (by omega) (A0C _) (A0C _)) ho;rw[hl]at this;rw[hp2];refine XT.mono ?_ (A3G 3) (show d+1<=d+1+1 by omega) (A0C _);simpa using this
      have:o=0\/o=1\/o=2\/o=3\/o=4\/o=5:=by omega
      rcases this with rfl|rfl|rfl|rfl|rfl|rfl
      ·exact kc 5 [60] (by decide) (by decide) (by decide) (by decide)
      ·exact kc 6 [60,61] (by decide) (by decide) (by decide) (by decide)
      ·exact kc 7 [62] (by decide) (by decide) (by decide) (by decide)
      ·exact kc 8 [62,61] (by decide) (by decide) (by decide) (by decide)
      ·exact kc 9 [61,61] (by decide) (by decide) (by decide) (by decide)
      ·exact kc 10 [33,61] (by decide) (by decide) (by decide) (by decide)
theorem Q2(L:List UInt8)(n i:Nat):i<=(nxK L n i).2/\((nxK L n i).1=0\/i+1<=(nxK L n i).2):=by
 unfold nxK;grind
def Pot(f:Nat->Mk):Prop:=∀ i,(f i).1.length+50 * i<=5+50 * (f i).2
theorem A0j{l:List (List UInt8)}{n:Nat}(h:∀ x∈l,x.length<=n)(k:Nat):(l.getD k []).length<=n:=by
 grind
theorem A0h(L:List UInt8)(w:Nat){p:List UInt8}{n:Nat}(hp:p.length<=4)(hn:0<n)(hn2:n<=1000):Pot (nmK L w p n):=by
 intro i;unfold nmK;dsimp only;obtain⟨h1,h2⟩:=Q2 L w i;split
 ·have h3:=A0j (l:=U3) (n:=5) (by decide) (nxK L 10 (nxK L w i).2).1;have h4:=A8s L 10 (nxK L w i).2
  grind
 ·have key:∀ j,i<=j->(p++O9 ((nxK L n j).1:Int)).length+50 * i<=5+50 * (nxK L n j).2:=by
   intro j hj;obtain⟨h3,h4⟩:=Q2 L n j;have hlt:=I7 L j hn;rw[A0D];rcases h4 with h4|h4
   ·rw[h4];have:(O9 ((0:Nat):Int)).length=1:=by rw[A4k (by decide) (by decide)];rfl
    omega
   ·have:=O1 (n:=((nxK L n j).1:Int)) (by omega) (by omega);omega
  grind
theorem A9o(L:List UInt8)(w:Nat):Pot (bl0 L w):=by
 intro i;unfold bl0;dsimp only;obtain⟨h1,h2⟩:=Q2 L 5 i;split
 ·grind
 ·split
  ·simp;omega
  ·split
   ·have:=A0h L w (p:=[109,111,100,101]) (n:=3) (by decide) (by decide) (by decide) (nxK L 5 i).2
    grind
   ·have:=A0h L w (p:=[115,119]) (n:=4) (by decide) (by decide) (by decide) (nxK L 5 i).2
    grind
theorem C7r(L:List UInt8)(w:Nat):Pot (in1 L w):=by
 intro i;unfold in1;dsimp only;obtain⟨h1,h2⟩:=Q2 L 7 i;split
 ·have:=A0h L w (p:=[118]) (n:=3) (by simp) (by simp) (by simp) (nxK L 7 i).2;omega
 ·split
  ·simp;omega
  ·split
   ·grind
   ·split
    ·have:=A0h L w (p:=[116,109]) (n:=2) (by decide) (by decide) (by decide) (nxK L 7 i).2
     grind
    ·split
     ·have h3:=A0j (l:=D4y) (n:=10) (by decide) (nxK L 4 (nxK L 7 i).2).1;have h4:=A8s L 4 (nxK L 7 i).2
      grind
     ·obtain⟨h3,h4⟩:=Q2 L 12 (nxK L 7 i).2;have hlt:=I7 L (nxK L 7 i).2 (n:=12) (by decide);have:=O1 (n:=((nxK L 12 (nxK L 7 i).2).1:Int)) (by omega) (by omega)
      grind
theorem C0e(L:List UInt8)(w:Nat){f g:Nat->Mk}(hf:Pot f)(hg:Pot g):Pot (wlK L w f g):=by
 intro i;unfold wlK;dsimp only;obtain⟨h1,h2⟩:=Q2 L (4 * w) i;split
 ·have:=hf (nxK L (4 * w) i).2;omega
 ·split
  ·have:=hg (nxK L (4 * w) i).2;omega
  ·exact hg i
theorem A8y(L:List UInt8)(w:Nat):Pot (in0 L w):=C0e L w (A9o L w) (C7r L w)
theorem C3f(L:List UInt8)(w:Nat):∀ d,Pot (inK L w d)/\Pot (blK L w d)
 |0=>⟨fun i=>by rw[inK];exact A8y L w i,fun i=>by rw[blK];exact A9o L w i⟩
 |d+1=>by
  obtain⟨h1,h2⟩:=C3f L w d;refine⟨fun i=>?_,fun i=>?_⟩
  ·rw[inK];refine C0e L w h2 (fun i=>?_) i;dsimp only;obtain⟨k1,k2⟩:=Q2 L 5 i;split
   ·have:=A8y L w (nxK L 5 i).2;omega
   ·split
    ·have:=A8y L w (nxK L 5 i).2
     grind
    ·have ha:=h1 (nxK L 5 i).2;have hc:=h1 (inK L w d (nxK L 5 i).2).2;have ho:=A8s L 5 (inK L w d (inK L w d (nxK L 5 i).2).2).2;have hg:=A0j (l:=B5c) (n:=5) (by decide) (nxK L 5 (inK L w d (inK L w d (nxK L 5 i).2).2).2).1
     grind
  ·rw[blK];dsimp only;obtain⟨k1,k2⟩:=Q2 L 6 i;split
   ·have:=A9o L w (nxK L 6 i).2;have e:0<L.length\/True:=.inr trivial;simp only[A0D,A0N,List.length_nil];unfold bl0 at this ⊢;dsimp only at this ⊢;obtain⟨q1,q2⟩:=Q2 L 5 (nxK L 6 i).2;split
    ·grind
    ·split
     ·grind
     ·split
      ·have:=A0h L w (p:=[109,111,100,101]) (n:=3) (by decide) (by decide) (by decide) (nxK L 5 (nxK L 6 i).2).2
       grind
      ·have:=A0h L w (p:=[115,119]) (n:=4) (by decide) (by decide) (by decide) (nxK L 5 (nxK L 6 i).2).2
       grind
   ·split
    ·have ha:=h2 (nxK L 6 i).2;have hc:=h2 (blK L w d (nxK L 6 i).2).2
     grind
    ·split
     ·have ha:=h2 (nxK L 6 i).2;have hc:=h2 (blK L w d (nxK L 6 i).2).2
      grind
     ·have ha:=h1 (nxK L 6 i).2;have ho:=A8s L 6 (inK L w d (nxK L 6 i).2).2;have hc:=h1 (nxK L 6 (inK L w d (nxK L 6 i).2).2).2;have hg:=A0j (l:=B9q) (n:=5) (by decide) (nxK L 6 (inK L w d (nxK L 6 i).2).2).1
      grind
def NmJ(k:Int)(n:List UInt8):Prop:=NmM k n/\(k=6\/k=7)
theorem E1r{m:Int}{ty:Bool}{d c:Nat}{ts:List T3}(h:GX NmM m ty d c ts):ty=true->GX NmJ m true d c ts:=by
 induction h with
 |num=>exact fun _=>.num
 |var hn=>exact fun _=>.var ⟨hn,.inl rfl⟩
 |word0 hk=>intro e;subst e;exact .word0 hk
 | @word1 k nk ty n hk hn =>
  intro e;subst e;refine .word1 hk ⟨hn,?_⟩;simp at hk;exact .inr hk.2
 |neg _ ih=>exact fun _=>.neg (ih rfl)
 |not _ ih=>intro e;cases e
 |par _ ih=>intro e;exact .par (ih e)
 | @bin k m1 m2 ta ty d1 d2 c1 c2 a b hk hta hty h1 h2 _ _ iha ihb =>
  intro e;subst e;have h5:k<5:=by simpa using hty.symm
  have:ta=true:=by rw[hta];simp;omega
  subst this;exact .bin hk hta hty h1 h2 (iha rfl) (ihb rfl)
theorem XT.sj{m:Int}{d c:Nat}{s:List UInt8}(h:XT m true d c s)(hd:d<=16)(hc:c<=32):∃ ts,SX NmJ true ts/\Pc true s ts:=by
 obtain⟨ts,m1,d1,c1,h1,h2,h3,h4,h5, -⟩:=h;exact⟨ts,⟨m1,d1,c1,by omega,by omega,E1r h4 rfl⟩,h5⟩
section
variable {L:List Tok} {E:Int}
theorem C3m{k:Nat}{n:List UInt8}{b:List T3}{acc:List Hd}{s:Rd}(h2:2<=k)(hk:k<6)(hl:acc.length<32)(h:At L s ((2,[111,110],0) :: (2,C6.getD k [],0) :: (1,n,0) :: b)):
  ∃ s4,At L s4 b/\∀ {x s5 r},A3t L E 1 s4 (x,s5)->Evt (fun f=>S2 L E f (acc++[⟨1+(k:Int),n,x,(A7 L E s).pos⟩]) s5) r->Evt (fun f=>S2 L E f acc s) r:=by
 have hi:isR L E s [125]=false:=by rw[Y9 h.tk h.ok];rfl
 have hon:isR L E s [111,110]=true:=by rw[Y9 h.tk h.ok];rfl
 have hlm:A9 L E s ((acc.length:Int)+1) 32 9=s:=A1c (by omega);have he:B5 L E s [111,110]=A6 s:=h.exp (.inr rfl);have ha:A8 L E (A6 s) C6=k:=by rw[P0 h.nxt.tk h.nxt.ok];exact C0r hk
 obtain⟨t1,t2, -⟩:=h.nxt.nxt.take (E:=E);refine⟨_,h.nxt.nxt.nxt,fun {x s5 r} x1 y1=>x1.ext2 y1 fun f hx hy=>?_⟩;rw[S2,if_pos ⟨h.ok,hi⟩,if_neg (by rw[hon];decide),hlm];dsimp only;rw[he,ha,if_neg (by omega),if_pos (by omega),if_pos (by omega),t1,t2,hx];exact hy
theorem C5e{t:T3}{q:List T3}{s:Rd}(h:At L s (sgT [123] :: t :: q))(h1:0<=K4 t C0)(h2:((t.1 == 5 || t.1 == 2) && t.2.1 == [125])=false):
  At L (A6 s) (t :: q)/\∀ {x s1 rest},O4 L E 1 (A6 s) (x,s1)->At L s1 (sgT [125] :: rest)->A3t L E 1 s ([x],A6 s1):=by
 have hn:=h.nxt;refine⟨hn,fun {x s1 rest} hx hs=>?_⟩;have hi:isR L E (A6 s) [125]=false:=by rw[Y9 hn.tk hn.ok];exact h2
 have hg:¬ (A8 L E (A6 s) C0<0/\F9 L E (A6 s) 1=false):=by
  rw[P0 hn.tk hn.ok];rintro⟨a1, -⟩;omega
 have hi1:isR L E s1 [125]=true:=by rw[Y9 hs.tk hs.ok];rfl
 have hst:=V7.stop (L:=L) (E:=E) (d:=1) (l:=[x]) (s:=s1) (by rw[hi1];simp);rw[hs.exp (.inl rfl)]at hst;refine A3t.mk ?_;rw[h.exp (.inl rfl)];exact V7.more ⟨hn.ok,hi⟩ hg (by rw[A1c (by decide)];exact hx) hst
theorem C9g{a rest:List T3}{s:Rd}(ha:SX NmJ true a)(h:At L s (wdT 2 :: (a++sgT [59] :: rest))):∃ e p s1,O4 L E 1 s (.mk 4 [] [] [e] [] [] p,s1)/\At L s1 rest/\TyE NmJ true e:=by
 obtain⟨e,s1,x1,x2,x3⟩:=h.nxt.sx (E:=E) ha (B8r (by decide));refine⟨e,(A7 L E s).pos,_,B5o (r:=(.mk 4 [] [] [e] [] [] (A7 L E s).pos,A6 s1)) (by decide) (by omega) (by omega) h (x1.map fun f h=>?_),x2.nxt,x3⟩;unfold L3;rw[if_pos (by decide),h];dsimp only;rw[x2.exp (.inl rfl)];rfl
theorem D8z{rest:List T3}{s:Rd}(h:At L s (wdT 17 :: sgT [59] :: rest)):∃ p s1,O4 L E 1 s (.mk 19 [] [] [] [] [] p,s1)/\At L s1 rest:=by
 refine⟨(A7 L E s).pos,_,B5o (r:=(.mk 19 [] [] [] [] [] (A7 L E s).pos,A6 (A6 s))) (by decide) (by omega) (by omega) h (Evt.one fun f=>?_),h.nxt.nxt⟩;unfold L3;rw[if_neg (by decide),if_neg (by decide),if_pos (by decide),h.nxt.exp (.inl rfl)];rfl
def dJ:List D3:=[(0,[112],0),(0,[113],0),(5,[118,48],0),(5,[118,49],0),(5,[118,50],0),(6,[116,109,48],0),(6,[116,109,49],0)]
def mJ(a b:List T3):List T3 :=
 (2,[109,111,100,101],0) :: (1,[109],0) :: (3,[],1) :: sgT [123] ::
 (2,[111,110],0) :: (2,C6.getD 2 [],0) :: (1,[112],0) :: sgT [123] :: wdT 2 :: (a++sgT [59] :: sgT [125] ::
 (2,[111,110],0) :: (2,C6.getD 3 [],0) :: (1,[112],0) :: sgT [123] :: wdT 17 :: sgT [59] :: sgT [125] ::
 (2,[111,110],0) :: (2,C6.getD 2 [],0) :: (1,[113],0) :: sgT [123] :: wdT 2 :: (b++[sgT [59],sgT [125],sgT [125]]))
def rJ(D:List Dc)(x y:Ex)(p:List Int):Ru :=
 ⟨D,[⟨[109],1,[⟨3,[112],[.mk 4 [] [] [x] [] [] (p.getD 1 0)],p.getD 2 0⟩,⟨4,[112],[.mk 19 [] [] [] [] [] (p.getD 3 0)],p.getD 4 0⟩,⟨3,[113],[.mk 4 [] [] [y] [] [] (p.getD 5 0)],p.getD 6 0⟩],p.getD 0 0⟩]⟩
theorem D5w{a b:List T3}(ha:SX NmJ true a)(hb:SX NmJ true b)(h:L.map st3=(dJ.map dT).flatten++mJ a b):
  ∃ D x y p s1,A4x L E=(rJ D x y p,s1)/\okR s1=true/\D.map st4=(dJ.map fun d=>(1+(d.1:Int),d.2.1,d.2.2))/\TyE NmJ true x/\TyE NmJ true y:=by
 have h0:At L rd0 ((dJ.map dT).flatten++mJ a b):=⟨rfl,by unfold Tk;exact h⟩;obtain⟨D,s0,x1,x2,x3⟩:=C1o (E:=E) (mJ a b) (fun t q e=>by
  unfold mJ at e;injection e with e1 e2;subst e1;decide) dJ [] rd0 (by decide) (by
   intro d hd;simp only[dJ,A1A,A1Y,or_false]at hd;rcases hd with rfl|rfl|rfl|rfl|rfl|rfl|rfl<;>simp[dWf]) h0
 have hm:At L s0 (mJ a b):=x2;unfold mJ at x2;have e1:B5 L E s0 [109,111,100,101]=A6 s0:=x2.exp (.inr rfl);obtain⟨t1,t2, -⟩:=x2.nxt.take (E:=E);obtain⟨u1, -,u3⟩:=x2.nxt.nxt.take (E:=E);have e2:=x2.nxt.nxt.nxt.exp (E:=E) (x:=[123]) (.inl rfl);obtain⟨s4,g1,k1⟩:=C3m (E:=E) (k:=2) (acc:=[]) (by decide) (by decide) (by decide) x2.nxt.nxt.nxt.nxt;obtain⟨g2,k2⟩:=C5e (E:=E) g1 (by decide) (by decide);obtain⟨x,p1,s5,g3,g4,tx⟩:=C9g (E:=E) ha g2;obtain⟨s6,g5,k3⟩:=C3m (E:=E) (k:=3) (acc:=[⟨1+((2:Nat):Int),[112],[.mk 4 [] [] [x] [] [] p1],(A7 L E (A6 (A6 (A6 (A6 s0))))).pos⟩]) (by decide) (by decide) (by simp) g4.nxt;obtain⟨g6,k4⟩:=C5e (E:=E) g5 (by decide) (by decide);obtain⟨p3,s7,g7,g8⟩:=D8z (E:=E) g6;obtain⟨s8,g9,k5⟩:=C3m (E:=E) (k:=2) (acc:=[⟨1+((2:Nat):Int),[112],[.mk 4 [] [] [x] [] [] p1],(A7 L E (A6 (A6 (A6 (A6 s0))))).pos⟩,⟨1+((3:Nat):Int),[112],[.mk 19 [] [] [] [] [] p3],(A7 L E (A6 s5)).pos⟩]) (by decide) (by decide) (by simp) g8.nxt;obtain⟨g10,k6⟩:=C5e (E:=E) g9 (by decide) (by decide);obtain⟨y,p5,s9,g11,g12,ty⟩:=C9g (E:=E) (rest:=[sgT [125],sgT [125]]) hb (by simpa using g10);have hend:At L (A6 s9) [sgT [125]]:=g12.nxt;have hi:isR L E (A6 s9) [125]=true:=by rw[Y9 hend.tk hend.ok];rfl
 have z0:∀ acc,Evt (fun f=>S2 L E f acc (A6 s9)) (acc,A6 (A6 s9)):=fun acc=>Evt.one fun f=>by
  rw[S2,if_neg (by rw[hi];simp),hend.exp (.inl rfl)]
 have z1:=k1 (k2 g3 g4) (k3 (k4 g7 g8) (k5 (k6 g11 g12) (z0 _)));refine⟨D,x,y,[(A7 L E s0).pos,p1,(A7 L E (A6 (A6 (A6 (A6 s0))))).pos,p3,(A7 L E (A6 s5)).pos,p5,(A7 L E (A6 s7)).pos],A6 (A6 s9),(A8h L E).uniq ?_,hend.ok,x3,tx,ty⟩;have zm:Evt (fun f=>A1p L E f s0) (⟨[109],1,[⟨3,[112],[.mk 4 [] [] [x] [] [] p1],(A7 L E (A6 (A6 (A6 (A6 s0))))).pos⟩,⟨4,[112],[.mk 19 [] [] [] [] [] p3],(A7 L E (A6 s5)).pos⟩,⟨3,[113],[.mk 4 [] [] [y] [] [] p5],(A7 L E (A6 s7)).pos⟩],(A7 L E s0).pos⟩,A6 (A6 s9)):=by
  refine z1.map fun f hf=>?_;unfold A1p;dsimp only;rw[e1,t1];dsimp only;rw[u1,t2];dsimp only;rw[u3,e2,hf];rfl
 have hnil:At L (A6 (A6 s9)) []:=hend.nxt;have hi2:¬ (A6 (A6 s9)).i<L.length:=by
  have:=congrArg List.length hnil.tk;simp[Tk]at this;omega
 have zs:∀ acc,Evt (fun f=>Q1 L E f acc (A6 (A6 s9))) (acc,A6 (A6 s9)):=fun acc=>Evt.one fun f=>by
  rw[Q1,if_neg (fun h=>hi2 h.2)]
 have hmd:isR L E s0 [109,111,100,101]=true:=by rw[Y9 x2.tk x2.ok];rfl
 have zr:=Evt.ext2 (k:=fun f=>Q1 L E f [] s0) zm (zs [⟨[109],1,[⟨3,[112],[.mk 4 [] [] [x] [] [] p1],(A7 L E (A6 (A6 (A6 (A6 s0))))).pos⟩,⟨4,[112],[.mk 19 [] [] [] [] [] p3],(A7 L E (A6 s5)).pos⟩,⟨3,[113],[.mk 4 [] [] [y] [] [] p5],(A7 L E (A6 s7)).pos⟩],(A7 L E s0).pos⟩]) fun f hx hy=>by
  rw[Q1,if_pos ⟨x2.ok,(W3 (E:=E) x2.tk).2.2⟩,if_neg (by rw[hmd];decide)];dsimp only;rw[A1c (by decide),if_pos x2.ok,hx];exact hy
 refine x1.map2 zr fun f hx hy=>?_;unfold A6o;rw[hx];dsimp only;rw[A1J,hy];rfl
end
mutual
theorem C4r(nm:List UInt8->Int):∀ (e:Ex) (o d:Nat),msM e=some (o,d)->1<=o/\(cgE nm e).length+1<=o * (d+2)
 |.mk k v n a p,o,d,h=>by
  obtain⟨-,h2, -, -,h5,h6⟩:=A5f h;rw[cgE,A0D,A0K];by_cases hc:I3 k=0
  ·obtain⟨rfl,rfl⟩:=h5 hc;rw[hc]at h2;obtain rfl:=A3K.1 h2;simp[C8]
  ·obtain⟨d',hl,hd⟩:=h6 hc;obtain⟨h7,h8⟩:=B7r nm k 0 a o d' hl;refine⟨by omega,?_⟩;rw[hd];split
   ·rename_i h1;rw[Nat.mul_add]at h8 ⊢;rw[Nat.mul_add];omega
   ·have:I3 k=2:=by unfold I3 at *;split at * <;> simp_all
    omega
theorem B7r(nm:List UInt8->Int):∀ (k:Int) (i:Nat) (l:List Ex) (o d:Nat),msL k i l=some (o,d)->l.length<=o/\(C8 nm l).length+l.length<=o * (d+2)
 |k,i,[],o,d,h=>by simp[C8]
 |k,i,e :: l,o,d,h=>by
  rw[msL]at h;cases he:msM e with
  |none=>rw[he]at h;cases h
  |some q =>
   obtain⟨o1,d1⟩:=q;obtain⟨g1,g2⟩:=C4r nm e o1 d1 he;rw[he]at h;dsimp only at h;cases hl:msL k (i+1) l with
   |none=>rw[hl]at h;cases h
   |some q2 =>
    obtain⟨o2,d2⟩:=q2;obtain⟨g3,g4⟩:=B7r nm k (i+1) l o2 d2 hl;rw[hl]at h;dsimp only at h;have h3:=Option.some.inj h;have h4:o1+o2=o:=congrArg Prod.fst h3;have h5:max (if A0o k e.kind i=true then d1+1 else d1) d2=d:=congrArg Prod.snd h3;have h6:d1<=d:=by split at h5<;>omega
    have h7:d2<=d:=by omega
    have h8:=Nat.mul_le_mul_left o1 (show d1+2<=d+2 by omega);have h9:=Nat.mul_le_mul_left o2 (show d2+2<=d+2 by omega);rw[<- h4,A2T,C8,A0D,A0N];omega
end
theorem A9l(nm:List UInt8->Int){e:Ex}(h:R8 e=true):(cgE nm e).length<=576:=by
 unfold R8 at h;cases hm:msM e with
 |none=>rw[hm]at h;cases h
 |some q =>
  obtain⟨o,d⟩:=q;rw[hm]at h;simp only[A0E,A0G]at h;have h1:=(C4r nm e o d hm).2;have h2:=Nat.mul_le_mul h.1 (show d+2<=18 by omega);omega
def dsJ(k:Int)(q:List Int):List Dc:=[⟨1,[112],k,q.getD 0 0⟩,⟨1,[113],k,q.getD 1 0⟩,⟨6,[118,48],0,q.getD 2 0⟩,⟨6,[118,49],0,q.getD 3 0⟩,⟨6,[118,50],0,q.getD 4 0⟩,⟨7,[116,109,48],0,q.getD 5 0⟩,⟨7,[116,109,49],0,q.getD 6 0⟩]
theorem A0z{d:Dc}{k v:Int}{n:List UInt8}(h:st4 d=(k,n,v)):d=⟨k,n,v,d.pos⟩:=by
 obtain⟨a,b,c,e⟩:=d;simp only[st4,Prod.mk.injEq]at h;obtain⟨rfl,rfl,rfl⟩:=h;rfl
theorem D4l{D:List Dc}(h:D.map st4=(dJ.map fun d=>(1+(d.1:Int),d.2.1,d.2.2))):∃ q,D=dsJ 0 q:=by
 simp only[dJ,A0R,A1Z]at h;have hl:D.length=7:=by have:=congrArg List.length h;simpa using this
 obtain⟨a,b,c,d,e,f,g,rfl⟩:∃ a b c d e f g,D=[a,b,c,d,e,f,g]:=by
  rcases D with _|⟨a,_|⟨b,_|⟨c,_|⟨d,_|⟨e,_|⟨f,_|⟨g,_|⟨z,D⟩⟩⟩⟩⟩⟩⟩⟩<;>simp at hl
  exact⟨_,_,_,_,_,_,_,rfl⟩
 simp only[A0R,A1Z,List.cons.injEq,and_true]at h;obtain⟨h1,h2,h3,h4,h5,h6,h7⟩:=h;refine⟨[a.pos,b.pos,c.pos,d.pos,e.pos,f.pos,g.pos],?_⟩;rw[A0z h1,A0z h2,A0z h3,A0z h4,A0z h5,A0z h6,A0z h7];rfl
section
variable {k:Int} {q p:List Int} {x y:Ex}
theorem B5r:D5f NmJ (rJ (dsJ k q) x y p):=by
 rintro k' n ⟨hn,hk⟩;simp only[NmM,D2y,D6w,D2z,A0R,A1Z,A0W,A1J,A1A,Prod.mk.injEq,A1Y,or_false]at hn;have:k'=6/\(n=[118,48]\/n=[118,49]\/n=[118,50])\/k'=7/\(n=[116,109,48]\/n=[116,109,49]):=by
  rcases hk with rfl|rfl
  ·left;simp at hn;exact⟨rfl,hn⟩
  ·right;simp at hn;exact⟨rfl,hn⟩
 rcases this with ⟨rfl,rfl|rfl|rfl⟩|⟨rfl,rfl|rfl⟩<;>rfl
theorem D9d(hk:0<=k/\k<64)(hx:TyE NmJ true x)(hy:TyE NmJ true y):A3q (rJ (dsJ k q) x y p)=none:=by
 have h1:erS (rJ (dsJ k q) x y p) (.mk 4 [] [] [x] [] [] (p.getD 1 0))=none:=B4p (.inl (by decide)) (D8s B5r hx rfl) rfl rfl;have h2:erS (rJ (dsJ k q) x y p) (.mk 19 [] [] [] [] [] (p.getD 3 0))=none:=B4p (.inl (by decide)) rfl rfl rfl;have h3:erS (rJ (dsJ k q) x y p) (.mk 4 [] [] [y] [] [] (p.getD 5 0))=none:=B4p (.inl (by decide)) (D8s B5r hy rfl) rfl rfl;have hd:erD [] (dsJ k q)=none:=by
  have e1:¬ (k>A3m 1):=by unfold A3m;simp;omega
  simp only[dsJ,erD,e1,if_false,A1J,A0W,A3V];rfl
 have hm:erM (rJ (dsJ k q) x y p) (rJ (dsJ k q) x y p).modes=none:=by
  show erM (rJ (dsJ k q) x y p) [⟨[109],1,[⟨3,[112],[.mk 4 [] [] [x] [] [] (p.getD 1 0)],p.getD 2 0⟩,⟨4,[112],[.mk 19 [] [] [] [] [] (p.getD 3 0)],p.getD 4 0⟩,⟨3,[113],[.mk 4 [] [] [y] [] [] (p.getD 5 0)],p.getD 6 0⟩],p.getD 0 0⟩]=none;simp only[erM,erH,erB,h1,h2,h3,A3V,A2Q];have d1:∀ z,dnE (rJ (dsJ k q) x y p) [112] (kdH 3) z=none:=fun z=>R6 (.inr rfl);have d2:∀ z,dnE (rJ (dsJ k q) x y p) [112] (kdH 4) z=none:=fun z=>R6 (.inr rfl);have d3:∀ z,dnE (rJ (dsJ k q) x y p) [113] (kdH 3) z=none:=fun z=>R6 (.inr rfl);rw[d1,d2,d3];rfl
 unfold A3q A8z;rw[hm,show erD [] (rJ (dsJ k q) x y p).decls=none from hd];rfl
theorem C8y(hk:0<=k/\k<64)(h:L1 (rJ (dsJ 0 q) x y p)=true):L1 (rJ (dsJ k q) x y p)=true/\R8 x=true/\R8 y=true:=by
 unfold L1 at h ⊢;simp only[A0E]at h ⊢;obtain⟨⟨⟨h1,h2⟩,h3⟩,h4⟩:=h;refine⟨⟨⟨⟨rfl,rfl⟩,?_⟩,h4⟩,?_⟩
 ·have e1:R9 ⟨1,[112],k,q.getD 0 0⟩=true:=by simp[R9];exact⟨⟨by decide,hk.1⟩,by omega⟩
  have e2:R9 ⟨1,[113],k,q.getD 1 0⟩=true:=by simp[R9];exact⟨⟨by decide,hk.1⟩,by omega⟩
  show (List.all (dsJ k q) R9)=true;simp only[dsJ,A2F,e1,e2];rfl
 ·simp[rJ,T6,A2a,P6,K2,V9]at h4
  simp_all
theorem D9b(hk:0<=k/\k<64)(hx:TyE NmJ true x)(hy:TyE NmJ true y)(hv:L1 (rJ (dsJ 0 q) x y p)=true):
  C4o (rJ (dsJ k q) x y p)=(⟨cgE (nmR (rJ (dsJ k q) x y p)) x++⟨15,0⟩ :: (cgE (nmR (rJ (dsJ k q) x y p)) y++[⟨15,0⟩,⟨31,0⟩,⟨30,0⟩,⟨31,0⟩]),[],[⟨0,3,k,0⟩,⟨0,4,k,((cgE (nmR (rJ (dsJ k q) x y p)) x).length+(cgE (nmR (rJ (dsJ k q) x y p)) y).length+3:Nat)⟩],[1],[0,0,0],2,0⟩,0,0) /\
   cxM (rJ (dsJ k q) x y p) x=(cgE (nmR (rJ (dsJ k q) x y p)) x,0,0)/\cxM (rJ (dsJ k q) x y p) y=(cgE (nmR (rJ (dsJ k q) x y p)) y,0,0):=by
 obtain⟨h1,vx,vy⟩:=C8y (p:=p) (q:=q) hk hv;have h2:=D9d (p:=p) (q:=q) hk hx hy;have hc:ChkR (rJ (dsJ k q) x y p):=⟨h1,h2⟩;have lx:=A9l (nmR (rJ (dsJ k q) x y p)) vx;have ly:=A9l (nmR (rJ (dsJ k q) x y p)) vy;have n1:nmR (rJ (dsJ k q) x y p) [112]=k:=rfl;have n2:nmR (rJ (dsJ k q) x y p) [113]=k:=rfl;have n0:nmR (rJ (dsJ k q) x y p) []=0:=rfl;have hp:[(⟨0,3,k⟩,[[.mk 4 [] [] [x] [] [] (p.getD 1 0)],[.mk 4 [] [] [y] [] [] (p.getD 5 0)]]),(⟨0,4,k⟩,[[.mk 19 [] [] [] [] [] (p.getD 3 0)]])]=A0p (nmR (rJ (dsJ k q) x y p)) 0 (rJ (dsJ k q) x y p).modes:=by
  refine B0y (fun m hm x hx=>(hc.hd m hm x hx).ok hc) ?_ (by simp[Srt,Ky.lt]);have:D9 [] (hkM (nmR (rJ (dsJ k q) x y p)) 0 (rJ (dsJ k q) x y p).modes)=[(⟨0,3,k⟩,[[.mk 4 [] [] [x] [] [] (p.getD 1 0)],[.mk 4 [] [] [y] [] [] (p.getD 5 0)]]),(⟨0,4,k⟩,[[.mk 19 [] [] [] [] [] (p.getD 3 0)]])]:=by
   show D9 [] [(⟨((0:Nat):Int),3,k⟩,[.mk 4 [] [] [x] [] [] (p.getD 1 0)]),(⟨((0:Nat):Int),4,k⟩,[.mk 19 [] [] [] [] [] (p.getD 3 0)]),(⟨((0:Nat):Int),3,k⟩,[.mk 4 [] [] [y] [] [] (p.getD 5 0)])]=_;simp[D9,G8]
  rw[this]
 have hC:cmC (rJ (dsJ k q) x y p)=⟨cgE (nmR (rJ (dsJ k q) x y p)) x++⟨15,0⟩ :: (cgE (nmR (rJ (dsJ k q) x y p)) y++[⟨15,0⟩,⟨31,0⟩,⟨30,0⟩,⟨31,0⟩]),[],[⟨0,3,k,0⟩,⟨0,4,k,((cgE (nmR (rJ (dsJ k q) x y p)) x).length+(cgE (nmR (rJ (dsJ k q) x y p)) y).length+3:Nat)⟩],[1],[0,0,0],2,0⟩:=by
  unfold cmC;rw[<- hp];simp[cgL,cgB,cgS,C8,stOp,n0];exact⟨by omega,⟨_,rfl,rfl⟩,rfl,rfl,rfl⟩
 refine⟨?_,?_,?_⟩
 ·unfold C4o;rw[if_pos h1,h2,hC];exact if_neg (by simp;omega)
 ·unfold cxM;rw[h1,vx,(C0o B5r hx).1];rfl
 ·unfold cxM;rw[h1,vy,(C0o B5r hy).1];rfl
end
def txJ(A B:List UInt8):List UInt8:=([115,119,105,116,99,104,32,112,32,48,59,32,115,119,105,116,99,104,32,113,32,48,59,118,97,114,32,118,48,32,48,59,32,118,97,114,32,118,49,32,48,59,32,118,97,114,32,118,50,32,48,59,32,116,105,109,101,114,32,116,109,48,59,32,116,105,109,101,114,32,116,109,49,59,109,111,100,101,32,109,32,49,32,123,32,111,110,32,99,108,111,115,101,32,112,32,123,32,115,99,111,114,101,32]++(A++([59,32,125,32,111,110,32,111,112,101,110,32,112,32,123,32,99,111,110,115,117,109,101,59,32,125,32,111,110,32,99,108,111,115,101,32,113,32,123,32,115,99,111,114,101,32]++(B++[59,32,125,32,125]))))
theorem C0p{A B:List UInt8}(hA:XT 6 true 2 2 A)(hB:XT 6 true 2 2 B)(hl:A.length+B.length<=19000):
  ∃ q x y p,B1a (txJ A B)=(rJ (dsJ 0 q) x y p,0,0)/\TyE NmJ true x/\TyE NmJ true y:=by
 obtain⟨a,ha,pa⟩:=hA.sj (by decide) (by decide);obtain⟨b,hb,pb⟩:=hB.sj (by decide) (by decide);have h4:Pc false [59] [sgT [59]]:=A8m (by decide) (by decide) (by decide);have ha0:=O6 (b:=true) 200 [115,119,105,116,99,104,32,112,32,48,59,32,115,119,105,116,99,104,32,113,32,48] [(2,C2.getD 0 [],0),(1,[112],0),(3,[],0),sgT [59],(2,C2.getD 0 [],0),(1,[113],0),(3,[],0)] (by decide +kernel);have hb0:=O6 (b:=true) 200 [118,97,114,32,118,48,32,48,59,32,118,97,114,32,118,49,32,48,59,32,118,97,114,32,118,50,32,48,59,32,116,105,109,101,114,32,116,109,48,59,32,116,105,109,101,114,32,116,109,49] [(2,C2.getD 5 [],0),(1,[118,48],0),(3,[],0),sgT [59],(2,C2.getD 5 [],0),(1,[118,49],0),(3,[],0),sgT [59],(2,C2.getD 5 [],0),(1,[118,50],0),(3,[],0),sgT [59],(2,C2.getD 6 [],0),(1,[116,109,48],0),sgT [59],(2,C2.getD 6 [],0),(1,[116,109,49],0)] (by decide +kernel);have hc0:=O6 (b:=false) 200 [109,111,100,101,32,109,32,49,32,123,32,111,110,32,99,108,111,115,101,32,112,32,123,32,115,99,111,114,101,32] [(2,[109,111,100,101],0),(1,[109],0),(3,[],1),sgT [123],(2,[111,110],0),(2,C6.getD 2 [],0),(1,[112],0),sgT [123],wdT 2] (by decide +kernel);have h1:=O6 (b:=false) 200 [59,32,125,32,111,110,32,111,112,101,110,32,112,32,123,32,99,111,110,115,117,109,101,59,32,125,32,111,110,32,99,108,111,115,101,32,113,32,123,32,115,99,111,114,101,32] [sgT [59],sgT [125],(2,[111,110],0),(2,C6.getD 3 [],0),(1,[112],0),sgT [123],wdT 17,sgT [59],sgT [125],(2,[111,110],0),(2,C6.getD 2 [],0),(1,[113],0),sgT [123],wdT 2] (by decide +kernel);have h2:=O6 (b:=true) 200 [59,32,125,32,125] [sgT [59],sgT [125],sgT [125]] (by decide +kernel);have key:∀ (s:List UInt8) (ts:List T3),Pc true s ts->s=txJ A B->ts=(dJ.map dT).flatten++mJ a b->Pc true (txJ A B) ((dJ.map dT).flatten++mJ a b):=by
  rintro s ts h rfl rfl;exact h
 have hp:=key _ _ ((ha0.lit h4 (by decide)).pre ((hb0.lit h4 (by decide)).pre (hc0.pre (pa.lit (h1.pre (pb.lit h2 (by decide))) (by decide))))) (by simp[txJ]) (by simp[mJ,dJ,dT,A6s]);have hs:=hp.scan (s:=txJ A B) (by simp[txJ];omega);have ht:=hp.toks hs;obtain⟨D,x,y,p,s1,e1,e2,e3,tx,ty⟩:=D5w (E:=((txJ A B).length:Int)) ha hb (L:=(E7 (txJ A B)).1) ht;obtain⟨q,rfl⟩:=D4l e3;refine⟨q,x,y,p,?_,tx,ty⟩;unfold B1a;dsimp only;rw[if_neg (by simpa using hs),e1,if_neg (by rw[e2];decide)]
end Go.Pb
namespace Go.Proofs.YtenmhfknbopmeaaGreatDoor
instance tabI:Go.Sym.Tab:=⟨[(5,fun r=>r=(Lib.pow10Tab.map fun z=>Value.int .u64 z).toArray),(0,fun r=>r=(Lib.asciiSpaceTab.map fun z=>Value.int .u8 z).toArray),(3,fun r => ∃ te pe,r = #[.iface te pe])]⟩
end Go.Proofs.YtenmhfknbopmeaaGreatDoor
set_option maxHeartbeats 4000000
namespace Go.Proofs.YtenmhfknbopmeaaGreatDoor
open Go.Eng (IC IOper DReg IFn I5)
open Go.Sym
theorem A2:Tryz.prog.follows .mixedOrders=true:=by kernel_rfl
abbrev x181:XT Tryz.prog 181:=mkF
instance t181:FT Tryz.prog 181 x181.d:=x181.ft
abbrev x183:XT Tryz.prog 183:=mkF
instance t183:FT Tryz.prog 183 x183.d:=x183.ft
abbrev x182:XT Tryz.prog 182:=mkF
instance t182:FT Tryz.prog 182 x182.d:=x182.ft
abbrev x179:XT Tryz.prog 179:=mkF
instance t179:FT Tryz.prog 179 x179.d:=x179.ft
abbrev x123:XT Tryz.prog 123:=mkF
instance t123:FT Tryz.prog 123 x123.d:=x123.ft
abbrev x218:XT Tryz.prog 218:=mkF
instance t218:FT Tryz.prog 218 x218.d:=x218.ft
abbrev x160:XT Tryz.prog 160:=mkF
instance t160:FT Tryz.prog 160 x160.d:=x160.ft
abbrev x132:XT Tryz.prog 132:=mkF
instance t132:FT Tryz.prog 132 x132.d:=x132.ft
abbrev x134:XT Tryz.prog 134:=mkF
instance t134:FT Tryz.prog 134 x134.d:=x134.ft
abbrev x174:XT Tryz.prog 174:=mkF
instance t174:FT Tryz.prog 174 x174.d:=x174.ft
abbrev x137:XT Tryz.prog 137:=mkF
instance t137:FT Tryz.prog 137 x137.d:=x137.ft
abbrev x120:XT Tryz.prog 120:=mkF
instance t120:FT Tryz.prog 120 x120.d:=x120.ft
abbrev x84:XT Tryz.prog 84:=mkF
instance t84:FT Tryz.prog 84 x84.d:=x84.ft
abbrev x133:XT Tryz.prog 133:=mkF
instance t133:FT Tryz.prog 133 x133.d:=x133.ft
abbrev x135:XT Tryz.prog 135:=mkF
instance t135:FT Tryz.prog 135 x135.d:=x135.ft
abbrev x136:XT Tryz.prog 136:=mkF
instance t136:FT Tryz.prog 136 x136.d:=x136.ft
abbrev x85:XT Tryz.prog 85:=mkF
instance t85:FT Tryz.prog 85 x85.d:=x85.ft
abbrev x40:XT Tryz.prog 40:=mkF
instance t40:FT Tryz.prog 40 x40.d:=x40.ft
abbrev x39:XT Tryz.prog 39:=mkF
instance t39:FT Tryz.prog 39 x39.d:=x39.ft
abbrev x42:XT Tryz.prog 42:=mkF
instance t42:FT Tryz.prog 42 x42.d:=x42.ft
abbrev x138:XT Tryz.prog 138:=mkF
instance t138:FT Tryz.prog 138 x138.d:=x138.ft
abbrev x139:XT Tryz.prog 139:=mkF
instance t139:FT Tryz.prog 139 x139.d:=x139.ft
abbrev x90:XT Tryz.prog 90:=mkF
instance t90:FT Tryz.prog 90 x90.d:=x90.ft
abbrev x192:XT Tryz.prog 192:=mkF
instance t192:FT Tryz.prog 192 x192.d:=x192.ft
abbrev x91:XT Tryz.prog 91:=mkF
instance t91:FT Tryz.prog 91 x91.d:=x91.ft
abbrev x88:XT Tryz.prog 88:=mkF
instance t88:FT Tryz.prog 88 x88.d:=x88.ft
abbrev x142:XT Tryz.prog 142:=mkF
instance t142:FT Tryz.prog 142 x142.d:=x142.ft
abbrev x141:XT Tryz.prog 141:=mkF
instance t141:FT Tryz.prog 141 x141.d:=x141.ft
abbrev x140:XT Tryz.prog 140:=mkF
instance t140:FT Tryz.prog 140 x140.d:=x140.ft
abbrev x86:XT Tryz.prog 86:=mkF
instance t86:FT Tryz.prog 86 x86.d:=x86.ft
abbrev x87:XT Tryz.prog 87:=mkF
instance t87:FT Tryz.prog 87 x87.d:=x87.ft
abbrev x78:XT Tryz.prog 78:=mkF
instance t78:FT Tryz.prog 78 x78.d:=x78.ft
abbrev x176:XT Tryz.prog 176:=mkF
instance t176:FT Tryz.prog 176 x176.d:=x176.ft
abbrev x250:XT Tryz.prog 250:=mkF
instance t250:FT Tryz.prog 250 x250.d:=x250.ft
abbrev x248:XT Tryz.prog 248:=mkF
instance t248:FT Tryz.prog 248 x248.d:=x248.ft
abbrev x257:XT Tryz.prog 257:=mkF
instance t257:FT Tryz.prog 257 x257.d:=x257.ft
abbrev x270:XT Tryz.prog 270:=mkF
instance t270:FT Tryz.prog 270 x270.d:=x270.ft
abbrev x277:XT Tryz.prog 277:=mkF
instance t277:FT Tryz.prog 277 x277.d:=x277.ft
abbrev x235:XT Tryz.prog 235:=mkF
instance t235:FT Tryz.prog 235 x235.d:=x235.ft
abbrev x143:XT Tryz.prog 143:=mkF
instance t143:FT Tryz.prog 143 x143.d:=x143.ft
abbrev x193:XT Tryz.prog 193:=mkF
instance t193:FT Tryz.prog 193 x193.d:=x193.ft
abbrev x89:XT Tryz.prog 89:=mkF
instance t89:FT Tryz.prog 89 x89.d:=x89.ft
abbrev x92:XT Tryz.prog 92:=mkF
instance t92:FT Tryz.prog 92 x92.d:=x92.ft
abbrev x41:XT Tryz.prog 41:=mkF
instance t41:FT Tryz.prog 41 x41.d:=x41.ft
abbrev x16:XT Tryz.prog 16:=mkF
instance t16:FT Tryz.prog 16 x16.d:=x16.ft
abbrev x70:XT Tryz.prog 70:=mkF
instance t70:FT Tryz.prog 70 x70.d:=x70.ft
abbrev x29:XT Tryz.prog 29:=mkF
instance t29:FT Tryz.prog 29 x29.d:=x29.ft
abbrev x68:XT Tryz.prog 68:=mkF
instance t68:FT Tryz.prog 68 x68.d:=x68.ft
abbrev x69:XT Tryz.prog 69:=mkF
instance t69:FT Tryz.prog 69 x69.d:=x69.ft
abbrev x44:XT Tryz.prog 44:=mkF
instance t44:FT Tryz.prog 44 x44.d:=x44.ft
abbrev x28:XT Tryz.prog 28:=mkF
instance t28:FT Tryz.prog 28 x28.d:=x28.ft
abbrev x26:XT Tryz.prog 26:=mkF
instance t26:FT Tryz.prog 26 x26.d:=x26.ft
abbrev x27:XT Tryz.prog 27:=mkF
instance t27:FT Tryz.prog 27 x27.d:=x27.ft
abbrev x8:XT Tryz.prog 8:=mkF
instance t8:FT Tryz.prog 8 x8.d:=x8.ft
abbrev x17:XT Tryz.prog 17:=mkF
instance t17:FT Tryz.prog 17 x17.d:=x17.ft
abbrev x18:XT Tryz.prog 18:=mkF (i:=⟨26,.seq (.reg [oV 4 (.bool false)]) (.seq (.seq (.reg [oM 6 0,oH 7 6,oM 8 1,oH 9 8,oB 10 7 9 .neq]) (.cond (.t 10) (.seq (.reg [oV 4 (.bool false)]) .ret) .skip)) (.seq (.seq (.reg [oI 5 0]) (.blk 0 (.loop (.seq (.seq (.reg [oM 11 5,oM 12 0,oH 13 12,oB 14 11 13 .lss]) (.cond (.t 14) .skip (.exit 0))) (.seq (.blk 1 (.seq (.drw 9 (dQ [oM 17 0,oM 18 5,oA 19 17 18 2,oD 20 19 2,oM 21 1,oM 22 5,oA 23 21 22 2,oD 24 23 2,oP 25 (.eqa true [0,0] (.t 20) (.t 24))] 0)) (.cond (.t 25) (.seq (.reg [oV 4 (.bool false)]) .ret) .skip))) (.reg [oM 15 5,oK 16 15 .add 1,oM 5 16])))))) (.seq (.reg [oV 4 (.bool true)]) .ret))),[.tmp 4]⟩) (by unfold I5;kernel_rfl) (fun h=>by conv=>lhs;cbv)
instance t18:FT Tryz.prog 18 x18.d:=x18.ft
abbrev x63:XT Tryz.prog 63:=mkF (i:=⟨8,.seq (.reg [oX 2 0,oV 3 (.bool false)]) (.seq (.reg [oF 4 2 0,oD 5 4 4,oD 6 1 4,oP 7 (.eqa false [0,0,0,0] (.t 5) (.t 6)),oM 3 7]) .ret),[.tmp 3]⟩) (by unfold I5;kernel_rfl) (fun h=>by conv=>lhs;cbv)
instance t63:FT Tryz.prog 63 x63.d:=x63.ft
abbrev x62:XT Tryz.prog 62:=mkF
instance t62:FT Tryz.prog 62 x62.d:=x62.ft
abbrev x4:XT Tryz.prog 4:=mkF (i:=⟨162,.seq (.reg [oV 4 (.bool false)]) (.seq (.reg [oM 23 0,oC 24 14 [.t 23],oM 5 24]) (.seq (.reg [oM 25 1,oP 26 (.bin .rem (.t 25) (.k (.int .u8 64))),oP 27 (.cvi .i64 (.t 26)),oM 6 27]) (.seq (.reg [oM 28 5,oC 29 15 [.t 28,.k (.int .i64 1)],oM 30 5,oC 31 15 [.t 30,.k (.int .i64 1)],oM 7 29,oM 8 31]) (.seq (.reg [oV 9 (.string ⟨#[118,97,114,32,118,48,32,48,59,32,118,97,114,32,118,49,32,48,59,32,118,97,114,32,118,50,32,48,59,32,116,105,109,101,114,32,116,109,48,59,32,116,105,109,101,114,32,116,109,49,59]⟩)]) (.seq (.reg [oM 33 9,oP 34 (.bin .add (.k (.string ⟨#[115,119,105,116,99,104,32,112,32,48,59,32,115,119,105,116,99,104,32,113,32,48,59]⟩)) (.t 33)),oP 35 (.bin .add (.t 34) (.k (.string ⟨#[109,111,100,101,32,109,32,49,32,123,32,111,110,32,99,108,111,115,101,32,112,32,123,32,115,99,111,114,101,32]⟩))),oM 36 7,oB 37 35 36 .add,oP 38 (.bin .add (.t 37) (.k (.string ⟨#[59,32,125,32,111,110,32,111,112,101,110,32,112,32,123,32,99,111,110,115,117,109,101,59,32,125,32,111,110,32,99,108,111,115,101,32,113,32,123,32,115,99,111,114,101,32]⟩))),oM 39 8,oB 40 38 39 .add,oP 41 (.bin .add (.t 40) (.k (.string ⟨#[59,32,125,32,125]⟩))),oC 42 16 [.t 41],oM 32 42,oE 43 32 0,oE 44 32 1,oE 45 32 2,oW 10 (.agg #[.slice none 0 0,.slice none 0 0]),oS 10 43 2,oM 11 44,oM 12 45]) (.seq (.seq (.reg [oM 46 12,oK 47 46 .neq 0]) (.cond (.t 47) (.seq (.reg [oV 4 (.bool false)]) .ret) .skip)) (.seq (.drw 12 ⟨[oF 48 10 0,oL 49 48,oF 50 10 0,oL 51 50,oM 52 6,oM 53 6,oP 54 (.iad 4 (.t 49) (.k (.int .i64 0))),oF 55 54 2,oS 55 52 1,oP 56 (.iad 4 (.t 51) (.k (.int .i64 1))),oF 57 56 2,oS 57 53 1],[],[(0,none),(1,none),(2,none),(3,none),(4,none),(5,none),(6,none),(7,none),(8,some [2,3,5]),(9,none),(10,none),(11,some [])]⟩) (.seq (.reg [oD 59 10 2,oC 60 8 [.t 59],oM 58 60,oE 61 58 0,oE 62 58 1,oE 63 58 2,oW 13 (.agg #[.slice none 0 0,.slice none 0 0,.slice none 0 0,.slice none 0 0,.slice none 0 0,.int .i64 0,.int .i64 0]),oS 13 61 7,oM 14 62,oM 15 63]) (.seq (.drw 22 ⟨[oD 65 10 2,oF 66 10 1,oL 67 66,oP 68 (.iad 4 (.t 67) (.k (.int .i64 0))),oF 69 68 2,oL 70 69,oP 71 (.iad 4 (.t 70) (.k (.int .i64 0))),oF 72 71 2,oL 73 72,oP 74 (.iad 7 (.t 73) (.k (.int .i64 0))),oF 75 74 3,oL 76 75,oP 77 (.iad 5 (.t 76) (.k (.int .i64 0))),oD 78 77 5,oC 79 17 [.t 65,.t 78],oM 64 79,oE 80 64 0,oE 81 64 1,oE 82 64 2,oM 16 80,oM 17 81,oM 18 82],[],[(0,none),(1,none),(2,none),(3,none),(4,none),(5,none),(6,none),(7,none),(8,none),(9,none),(10,none),(11,none),(12,none),(13,none),(14,some []),(15,none),(16,none),(17,none),(18,none),(19,some [17,18]),(20,some [18]),(21,some [])]⟩) (.seq (.drw 22 ⟨[oD 84 10 2,oF 85 10 1,oL 86 85,oP 87 (.iad 4 (.t 86) (.k (.int .i64 0))),oF 88 87 2,oL 89 88,oP 90 (.iad 4 (.t 89) (.k (.int .i64 2))),oF 91 90 2,oL 92 91,oP 93 (.iad 7 (.t 92) (.k (.int .i64 0))),oF 94 93 3,oL 95 94,oP 96 (.iad 5 (.t 95) (.k (.int .i64 0))),oD 97 96 5,oC 98 17 [.t 84,.t 97],oM 83 98,oE 99 83 0,oE 100 83 1,oE 101 83 2,oM 19 99,oM 20 100,oM 21 101],[],[(0,none),(1,none),(2,none),(3,none),(4,none),(5,none),(6,none),(7,none),(8,none),(9,none),(10,none),(11,none),(12,none),(13,none),(14,some []),(15,none),(16,none),(17,none),(18,none),(19,some [17,18]),(20,some [18]),(21,some [])]⟩) (.seq (.reg [oM 102 16,⟨some 103,.eff (.app 2 16 (.k (.slice none 0 0)) (.t 102)),none⟩,oP 104 (.bld #[.int .i64 0,.int .i64 0] [(0,1),(1,1)] [(0,.k (.int .i64 15))]),⟨some 105,.new (.bsl 2 1 #[.int .i64 0,.int .i64 0] [(0,.t 104)]),none⟩,oT 106 103 105 2 16,oM 107 19,oT 108 106 107 2 16,oM 22 108]) (.seq (.reg [oM 109 22,oP 110 (.bld #[.int .i64 0,.int .i64 0] [(0,1),(1,1)] [(0,.k (.int .i64 15))]),oP 111 (.bld #[.int .i64 0,.int .i64 0] [(0,1),(1,1)] [(0,.k (.int .i64 31))]),oP 112 (.bld #[.int .i64 0,.int .i64 0] [(0,1),(1,1)] [(0,.k (.int .i64 30))]),oP 113 (.bld #[.int .i64 0,.int .i64 0] [(0,1),(1,1)] [(0,.k (.int .i64 31))]),⟨some 114,.new (.bsl 2 4 #[.int .i64 0,.int .i64 0] [(0,.t 110),(1,.t 111),(2,.t 112),(3,.t 113)]),none⟩,oT 115 109 114 2 16,oM 22 115]) (.seq (.reg [oM 116 15,oK 117 116 .eql 0,oM 118 117,gM 119 18 118,gK 120 119 118 .eql 0,oJ 121 118 120,oM 122 121,gM 123 21 122,gK 124 123 122 .eql 0,oJ 125 122 124,oM 126 125,gF 127 13 0 126,gL 128 127 126,gM 129 22 126,⟨some 130,.call 18 [.t 128,.t 129],some (126,true)⟩,oJ 131 126 130,oM 132 131,gF 133 13 2 132,gL 134 133 132,oG 135 (.len (.t 134)) 132,gK 136 135 132 .eql 2,oJ 137 132 136,oM 138 137,gF 139 13 2 138,gL 140 139 138,oG 141 (.iad 4 (.t 140) (.k (.int .i64 0))) 138,oG 142 (.ld 4 true (.t 141)) 138,gM 143 6 138,oG 144 (.bld #[.int .i64 0,.int .i64 0,.int .i64 0,.int .i64 0] [(0,1),(1,1),(2,1),(3,1)] [(1,.k (.int .i64 3)),(2,.t 143)]) 138,oG 145 (.eqa false [0,0,0,0] (.t 142) (.t 144)) 138,oJ 146 138 145,oM 147 146,gF 148 13 2 147,gL 149 148 147,oG 150 (.iad 4 (.t 149) (.k (.int .i64 1))) 147,oG 151 (.ld 4 true (.t 150)) 147,gM 152 6 147,gM 153 22 147,oG 154 (.len (.t 153)) 147,gK 155 154 147 .sub 2,oG 156 (.bld #[.int .i64 0,.int .i64 0,.int .i64 0,.int .i64 0] [(0,1),(1,1),(2,1),(3,1)] [(1,.k (.int .i64 4)),(2,.t 152),(3,.t 155)]) 147,oG 157 (.eqa false [0,0,0,0] (.t 151) (.t 156)) 147,oJ 158 147 157,oM 159 158,⟨some 160,.call 12 [],some (159,true)⟩,oJ 161 159 160,oM 4 161]) .ret))))))))))))),[.tmp 4]⟩) (by unfold I5;kernel_rfl) (fun h=>by conv=>lhs;cbv)
instance t4:FT Tryz.prog 4 x4.d:=x4.ft
open Go.Sym Go.Pb
theorem c_opOf(k:Int):PC Tryz.prog 70 [I64 k] (I64 (Pb.stOp k)):=by
 refine PC.go A2 ?_;repeat' ((with_reducible first|refine wr ?_|refine wb2 ?_ ?_<;>(intro hb;try simp only[hb])|fail)<;>try simp only[go_sem,seval])
 all_goals (refine A1 (congrArg I64 ?_);simp_all[Pb.stOp]<;>omega)
def GC(f:Nat)(mk:DV->DV->List DV)(args:List DV)(x y:Cg)(r:DV):Prop:=∀ (H0:Hp) (c t:Nat) (a b:Option Nat),GN H0 t a b x c ->
 AC Tryz.prog f (.ptr t 0 :: args) (GM H0 t a b mk x) c (fun v H' c'=>v=r/\∃ a' b',GN H0 t a' b' y c'/\H'=GM H0 t a' b' mk y)
abbrev mkP(e p v m:DV)(t n:Int):DV->DV->List DV:=fun I S=>[I,S,e,p,v,I64 t,I64 n,m]
theorem c_emit(e p v m:DV)(t n op k:Int)(x:Cg)(hx:x.1.length<=100000000):GC 29 (mkP e p v m t n) [I64 op,I64 k] x (x.1++[⟨op,k⟩],x.2) (I64 x.1.length):=by
 intro H0 c t' a b h;refine AC.bodyT A2 rfl (A0A rfl) fun hfr=>?_;have hM:=A6u (mk:=mkP e p v m t n) h;have h1:=h.tc;have hw:IntKind.i64.wrap (((x.1.length+1:Nat):Int)-1)=(x.1.length:Int):=by rw[w6z (by omega)];omega
 have ne0:=U6 t' c (c+1) (by omega);repeat' (apply wr<;>try simp only[go_sem,seval,hM])
 refine O7 (E8 (cs:=K9 x.1) (fun e=>⟨S9 (h.an e),by rw[h.an e];rfl⟩) (fun i hi=>?_) (A5q _) (by omega) (by omega) (by omega)) ?_
 ·have:=h.ha i hi;rw[hnO];exact B5j h hi
 have dm:∀ X,delO X a t'=X t':=fun X=>B4 (fun i hi e=>(h.ha i hi).1 e.symm);simp only[go_sem,seval,dm,hM,ne0];repeat' (apply wr<;>try simp only[go_sem,seval,h_same,hw])
 refine⟨_,_,GL.less' (D4h (y:=(x.1++[⟨op,k⟩],x.2)) (i:=c+1) h (by omega) rfl (by rw[B9b]) (by simp[todoV])),rfl,some (c+1),b,h.newA (by omega) (by omega) rfl,rfl⟩
theorem c_patch(e p v m:DV)(t n op k:Int)(l r:List Ins)(S:List (List UInt8))(hl:(l++⟨op,k⟩ :: r).length<=100000000):
  GC 68 (mkP e p v m t n) [I64 l.length] (l++⟨op,k⟩ :: r,S) (l++⟨op,((l++⟨op,k⟩ :: r).length:Int)⟩ :: r,S) (.tup []):=by
 intro H0 c t' a b h;obtain⟨i,rfl⟩:∃ i,a=some i:=by
  cases a with
  |none=>have:=h.an rfl;simp at this
  |some i=>exact⟨i,rfl⟩
 refine AC.bodyT A2 rfl (A0A rfl) fun hfr=>?_;have hM:=A6u (mk:=mkP e p v m t n) h;have hA:=B5j (mk:=mkP e p v m t n) h rfl;have h1:=h.tc;have h2:=h.ha i rfl;have hle:l.length<(l++⟨op,k⟩ :: r).length:=by simp
 have hcl:=A5q (l++⟨op,k⟩ :: r);dsimp only at hA;have hst:∀ (z:Int) (d:Nat),stB (GM H0 t' (some i) b (mkP e p v m t n) (l++⟨op,k⟩ :: r,S)) d i 1 (l.length * 2+1) (I64 z) (some ⟨2,true,K9 (l++⟨op,k⟩ :: r)⟩)=some (.tup [],(GM H0 t' (some i) b (mkP e p v m t n) (l++⟨op,k⟩ :: r,S)).upd i ⟨2,true,K9 (l++⟨op,z⟩ :: r)⟩,d):=fun z d=>by
  exact (A9q (i:=1) rfl (by omega) rfl).trans (by rw[C3e])
 repeat' (apply wr<;>try simp only[go_sem,seval,hM,hA,hle,hst])
 refine⟨_,_,GL.less' (A6l (t:=t') (a:=some i) (b:=b) (mk:=mkP e p v m t n) (x:=(l++⟨op,((l++⟨op,k⟩ :: r).length:Int)⟩ :: r,S)) ?_ (fun j hj=>?_) (fun j hj=>?_) (fun j Q hj hQ=>?_)),rfl,some i,b,h.keep (by omega) (fun e=>by cases e) (fun e=>h.bn e),rfl⟩
 ·rw[h_ne (Ne.symm h2.1),hM];simp[gmB]
 ·cases hj;exact h_same
 ·rw[h_ne (fun e=>h.ne i j rfl hj e.symm),B5i hj]
 ·rw[h_ne (by rintro rfl;rw[h2.2.2]at hQ;cases hQ),A6m h hQ hj]
abbrev keB(k:Ky):Blk:=⟨0,true,[I64 k.mode,I64 k.trig,I64 k.ix,I64 0]⟩
theorem c_sameK(k q:Ky)(j n:Nat)(H:Hp)(c e:Nat)(he:H e=some (keB q))(hec:e<c):AC Tryz.prog 63 [.agg [I64 k.mode,I64 k.trig,I64 k.ix,I64 0,.slc j 0 n],.ptr e 0] H c (fun v H' c'=>v=.bool (decide (k=q))/\H'=H):=by
 refine AC.bodyT A2 rfl (A0A rfl) fun hfr=>?_;have ne0:=X4 e c (by omega);have hq:A5x false [0,0,0,0] (.agg [I64 k.mode,I64 k.trig,I64 k.ix,I64 0]) (.agg [I64 q.mode,I64 q.trig,I64 q.ix,I64 0])=some (.bool (decide (k=q))):=by
  rw[E2i]
  congr 2
  obtain⟨a1,a2,a3⟩:=k;obtain⟨b1,b2,b3⟩:=q;rw[A2C];simp
 repeat' (apply wr<;>try simp only[go_sem,seval,he,ne0,h_same,hq])
 exact⟨_,_,GL.less' (fun j B hj=>by rw[h_ne (by rintro rfl;rw[hfr _ (A0C _)]at hj;cases hj)];exact hj),rfl,rfl⟩
theorem c_IxP(q:Ky)(l:List B8)(is:List Nat)(hl:l.length<=1000000)(hn:is.length=l.length)(H:Hp)(c e:Nat)(o:Option Nat)(ho:∀ i,o=some i->H i=some ⟨5,true,ptC is l⟩)(hno:o=none->l=[])(he:H e=some (keB q))(hec:e<c):
  AC Tryz.prog 62 [todoV o l.length,.func 63 [] [.ptr e 0]] H c (fun v H' c'=>v=I64 (ixP q l 0)/\H'=H):=by
 cases o with
 |none =>
  obtain rfl:=hno rfl;refine AC.bodyT A2 rfl (A0A rfl) fun hfr=>?_;repeat' (apply wr<;>try simp only[go_sem,seval])
  refine B6 (fun k:Nat=>[(0,.snil),(7,I64 0),(8,I64 0)]) (fun _=>H) (fun k c=>True) (fun k=>0) 0 (by simp[B9,tm,Tm.upd]) (Sub.refl _) trivial ?_;rintro k c' -;repeat' (apply wr<;>try simp only[go_sem,seval])
  exact⟨_,_,GL.refl _ _,rfl,rfl⟩
 |some i =>
  have hi:=ho i rfl;refine AC.bodyT A2 rfl (A0A rfl) fun hfr=>?_;repeat' (apply wr<;>try simp only[go_sem,seval])
  refine B6 (fun k:Nat=>[(0,.slc i 0 l.length),(1,.func 63 [] [.ptr e 0]),(7,I64 l.length),(8,I64 k)]) (fun _=>H) (fun k cc=>c<=cc/\k<=l.length/\ixP q l 0=ixP q (l.drop k) k) (fun k=>l.length-k) 0 (by simp[B9,tm,Tm.upd]) (Sub.refl _) ⟨A0C _,by omega,rfl⟩ ?_;rintro k c' ⟨hc,hk,hv⟩;by_cases hlt:k<l.length
  ·have hd:=dtz hlt;have hg:=A0B hlt;have hgi:=A0B (show k<is.length by omega);have hw:IntKind.i64.wrap ((k:Int)+1)=((k+1:Nat):Int):=by rw[w6z (by omega)];omega
   rw[C3c hg]at hv;have hcl:=B3o hn hgi hg;have hcn:=S5 hn;have hle:k * 5+5<=(ptC is l).length:=by omega
   generalize l[k]=p at hg hv hcl;generalize is[k]=j at hgi hcl;repeat' (apply wr<;>try simp only[go_sem,seval,hi,hd,hcl,hle,hlt])
   refine AC.call (c_sameK p.1 q j p.2.length H c' e he (by omega)) ?_;rintro _ _ c2 ⟨rfl,rfl⟩ hc2;by_cases hpq:p.1=q
   ·have hb:decide (p.1=q)=true:=by simpa using hpq
    rw[if_pos hpq]at hv;simp only[go_sem,seval,hb];repeat' (apply wr<;>try simp only[go_sem,seval])
    exact⟨_,_,GL.refl _ _,by rw[hv],rfl⟩
   ·have hb:decide (p.1=q)=false:=by simpa using hpq
    rw[if_neg hpq]at hv;simp only[go_sem,seval,hb];repeat' (apply wr<;>try simp only[go_sem,seval,hw])
    exact⟨k+1,rfl,Sub.refl _,inv ⟨by omega,hlt,hv⟩,by omega⟩
  ·have hd:=dfz hlt;have hk:k=l.length:=by omega
   rw[hk,A3P,ixP]at hv;rw[hv];repeat' (apply wr<;>try simp only[go_sem,seval,hd])
   exact⟨_,_,GL.refl _ _,rfl,rfl⟩
abbrev x118:XT Tryz.prog 118:=mkF
instance t118:FT Tryz.prog 118 x118.d:=x118.ft
theorem A8u{H:Hp}{cc j:Nat}{b:Blk}(hfr:∀ i,cc<=i->H i=none)(h:H j=some b):j≠cc:=by
 rintro rfl;rw[hfr _ (A0C _)]at h;cases h
theorem A2q{H:Hp}{cc:Nat}{b:Blk}{ds:List DV}(hfr:∀ i,cc<=i->H i=none):GL (H.upd cc b) ds H ds:=GL.less' fun j b hj=>by rw[h_ne (A8u hfr hj)];exact hj
theorem N9{K H':Hp}{cc:Nat}{ds:List DV}(hK:∀ i,cc<=i->K i=none)(h:∀ j,j<cc->H' j=K j):GL H' ds K ds:=GL.less fun j=>by
 by_cases hj:j<cc
 ·exact .inr (h j hj).symm
 ·exact .inl (hK j (by omega))
theorem B7{H:Hp}{cc t:Nat}{b:Blk}(hfr:∀ i,cc<=i->H i=none)(htc:t<cc):∀ i,cc<=i->H.upd t b i=none:=fun i hi=>by rw[hnO];exact hfr i hi
theorem rv4{s:Sym.St}{x i u:Nat}{a b c d:DV}{o:Bool}(h:s.T x=.ptr i 0)(hb:s.H i=some ⟨u,o,[a,b,c,d]⟩):resV s [.cell x 4 true]=some (.agg [a,b,c,d]):=by
 simp only[resV,A0q,h,ldv,hb];rfl
theorem c_rdok(L:List Tok)(E:Int)(s:Rd)(H:Hp)(cc t:Nat)(ht:H t=some (rdR L E s))(htc:t<cc):AC Tryz.prog 42 [.ptr t 0] H cc (fun v H' c'=>v=.bool (okR s)/\H'=H):=by
 refine AC.bodyT A2 rfl (A0A rfl) fun hfr=>?_;repeat' (apply wr<;>try simp only[go_sem,seval,ht])
 exact⟨_,_,GL.refl _ _,rfl,rfl⟩
theorem c_peek(L:List Tok)(E:Int)(s:Rd)(H:Hp)(cc t:Nat)(ht:H t=some (rdR L E s))(htc:t<cc):AC Tryz.prog 139 [.ptr t 0] H cc (fun v H' c'=>v=(A7 L E s).v/\H'=H):=by
 refine AC.bodyT A2 rfl (A0A rfl) fun hfr=>?_;have ne0:=X4 t cc (by omega);by_cases hlt:s.i<L.length
 ·have hd:decide ((s.i:Int)<L.length)=true:=by simpa using hlt
  have hg:=A0B hlt;have e:A7 L E s=L[s.i]:=by unfold A7;rw[A1E,hg];rfl
  rw[e];generalize L[s.i]=a at hg;repeat' (apply wr<;>try simp only[go_sem,seval,ht,hd,hg,ne0,h_same,A0])
  rw[C7 (v:=a.v) (rv4 rfl h_same)];exact⟨_,_,A2q hfr,rfl,rfl⟩
 ·have hd:decide ((s.i:Int)<L.length)=false:=by simpa using hlt
  have e:A7 L E s=⟨0,[],0,E⟩:=by unfold A7;rw[A1E,A2J (by omega)];rfl
  rw[e];repeat' (apply wr<;>try simp only[go_sem,seval,ht,hd,ne0,h_same,A0])
  rw[C7 (v:=Tok.v ⟨0,[],0,E⟩) (rv4 rfl h_same)];exact⟨_,_,A2q hfr,rfl,rfl⟩
theorem c_fail(L:List Tok)(E:Int)(s:Rd)(H:Hp)(cc t:Nat)(ht:H t=some (rdR L E s))(htc:t<cc)(p e:Int):AC Tryz.prog 138 [.ptr t 0,I64 p,I64 e] H cc (fun v H' c'=>v=.tup []/\H'=H.upd t (rdR L E (J2 s p e))):=by
 refine AC.bodyT A2 rfl (A0A rfl) fun hfr=>?_;cases h:okR s with
 |true =>
  have e0:J2 s p e = { s with e:=e,pos:=p }:=by rw[J2,if_pos h]
  have h':(s.e == 0)=true:=h;rw[e0];repeat' (apply wr<;>try simp only[go_sem,seval,ht,h',h_same,A0])
  exact⟨_,_,GL.refl _ _,rfl,rfl⟩
 |false =>
  have e0:J2 s p e=s:=by rw[J2,if_neg (by simp[h])]
  have h':(s.e == 0)=false:=h;rw[e0];repeat' (apply wr<;>try simp only[go_sem,seval,ht,h'])
  refine⟨_,_,GL.refl _ _,rfl,?_⟩
  funext j
  by_cases ej:j=t
  ·subst ej;rw[h_same,ht]
  ·rw[h_ne ej]
theorem upd_same{H:Hp}{t:Nat}{b:Blk}(h:H t=some b):H.upd t b=H:=by
 funext j
 by_cases ej:j=t
 ·subst ej;rw[h_same,h]
 ·rw[h_ne ej]
theorem c_is(L:List Tok)(E:Int)(s:Rd)(H:Hp)(cc t:Nat)(ht:H t=some (rdR L E s))(htc:t<cc)(x:List UInt8):AC Tryz.prog 90 [.ptr t 0,.str x] H cc (fun v H' c'=>v=.bool (isR L E s x)/\H'=H):=by
 refine AC.bodyT A2 rfl (A0A rfl) fun hfr=>?_;repeat' (apply wr<;>try simp only[go_sem,seval])
 refine AC.call (c_peek L E s _ _ t ht (by omega)) ?_;rintro v H' c1 ⟨rfl,rfl⟩ hc;have ne0:=X4 t c1 (by omega);simp only[go_sem,seval,h_same,A0];repeat' (apply wr<;>try simp only[go_sem,seval])
 refine AC.call (c_rdok L E s _ _ t (by rw[hnO];exact ht) (by omega)) ?_;rintro v H' c2 ⟨rfl,rfl⟩ hc2;simp only[go_sem,seval];repeat' ((with_reducible first|refine wr ?_|refine wb2 ?_ ?_<;>(intro hb;try simp only[hb])|fail)<;>try simp only[go_sem,seval,h_same])
 all_goals exact⟨_,_,A2q (fun i hi=>hfr i (by omega)),by simp_all[isR],rfl⟩
theorem c_isKind(L:List Tok)(E:Int)(s:Rd)(H:Hp)(cc t:Nat)(ht:H t=some (rdR L E s))(htc:t<cc)(k:Int):AC Tryz.prog 192 [.ptr t 0,I64 k] H cc (fun v H' c'=>v=.bool (F9 L E s k)/\H'=H):=by
 refine AC.bodyT A2 rfl (A0A rfl) fun hfr=>?_;repeat' (apply wr<;>try simp only[go_sem,seval])
 refine AC.call (c_rdok L E s _ _ t ht (by omega)) ?_;rintro v H' c1 ⟨rfl,rfl⟩ hc;by_cases h:okR s=true
 ·simp only[go_sem,seval,h];repeat' (apply wr<;>try simp only[go_sem,seval,h])
  refine AC.call (c_peek L E s _ _ t ht (by omega)) ?_;rintro v H' c2 ⟨rfl,rfl⟩ hc2;simp only[go_sem,seval];repeat' (apply wr<;>try simp only[go_sem,seval])
  exact⟨_,_,GL.refl _ _,by rw[F9,h];rfl,rfl⟩
 ·have h:okR s=false:=by simpa using h
  simp only[go_sem,seval,h];repeat' (apply wr<;>try simp only[go_sem,seval])
  exact⟨_,_,GL.refl _ _,by rw[F9,h];rfl,rfl⟩
theorem c_syntax(L:List Tok)(E:Int)(s:Rd)(H:Hp)(cc t:Nat)(ht:H t=some (rdR L E s))(htc:t<cc):AC Tryz.prog 91 [.ptr t 0] H cc (fun v H' c'=>v=.tup []/\H'=H.upd t (rdR L E (K8 L E s))):=by
 refine AC.bodyT A2 rfl (A0A rfl) fun hfr=>?_;repeat' (apply wr<;>try simp only[go_sem,seval])
 refine AC.call (c_peek L E s _ _ t ht (by omega)) ?_;rintro v H' c1 ⟨rfl,rfl⟩ hc;simp only[go_sem,seval];repeat' (apply wr<;>try simp only[go_sem,seval])
 refine AC.call (c_fail L E s _ _ t ht (by omega) _ _) ?_;rintro v H' c2 ⟨rfl,rfl⟩ hc2;simp only[go_sem,seval];repeat' (apply wr<;>try simp only[go_sem,seval])
 exact⟨_,_,GL.refl _ _,rfl,rfl⟩
theorem c_limit(L:List Tok)(E:Int)(s:Rd)(H:Hp)(cc t:Nat)(ht:H t=some (rdR L E s))(htc:t<cc)(n m e:Int):AC Tryz.prog 88 [.ptr t 0,I64 n,I64 m,I64 e] H cc (fun v H' c'=>v=.tup []/\H'=H.upd t (rdR L E (A9 L E s n m e))):=by
 refine AC.bodyT A2 rfl (A0A rfl) fun hfr=>?_;by_cases h:m<n
 ·have hd:decide (n>m)=true:=by simpa using h
  have e0:A9 L E s n m e=J2 s (A7 L E s).pos e:=by rw[A9,if_pos h]
  rw[e0];repeat' (apply wr<;>try simp only[go_sem,seval,hd])
  refine AC.call (c_peek L E s _ _ t ht (by omega)) ?_;rintro v H' c1 ⟨rfl,rfl⟩ hc;simp only[go_sem,seval];repeat' (apply wr<;>try simp only[go_sem,seval])
  refine AC.call (c_fail L E s _ _ t ht (by omega) _ _) ?_;rintro v H' c2 ⟨rfl,rfl⟩ hc2;simp only[go_sem,seval];repeat' (apply wr<;>try simp only[go_sem,seval])
  exact⟨_,_,GL.refl _ _,rfl,rfl⟩
 ·have hd:decide (n>m)=false:=by simpa using h
  have e0:A9 L E s n m e=s:=by rw[A9,if_neg h]
  rw[e0];repeat' (apply wr<;>try simp only[go_sem,seval,hd])
  exact⟨_,_,GL.refl _ _,rfl,(upd_same ht).symm⟩
theorem c_expect(L:List Tok)(E:Int)(s:Rd)(H:Hp)(cc t:Nat)(ht:H t=some (rdR L E s))(htc:t<cc)(hi:s.i<=10000000000)(x:List UInt8):AC Tryz.prog 142 [.ptr t 0,.str x] H cc (fun v H' c'=>v=.tup []/\H'=H.upd t (rdR L E (B5 L E s x))):=by
 refine AC.bodyT A2 rfl (A0A rfl) fun hfr=>?_;repeat' (apply wr<;>try simp only[go_sem,seval])
 refine AC.call (c_is L E s _ _ t ht (by omega) x) ?_;rintro v H' c1 ⟨rfl,rfl⟩ hc;cases h:isR L E s x with
 |false =>
  have e0:B5 L E s x=K8 L E s:=by rw[B5,if_pos h]
  rw[e0];simp only[go_sem,seval];repeat' (apply wr<;>try simp only[go_sem,seval])
  refine AC.call (c_syntax L E s _ _ t ht (by omega)) ?_;rintro v H' c2 ⟨rfl,rfl⟩ hc2;simp only[go_sem,seval];repeat' (apply wr<;>try simp only[go_sem,seval])
  exact⟨_,_,GL.refl _ _,rfl,rfl⟩
 |true =>
  have hw:IntKind.i64.wrap ((s.i:Int)+1)=((s.i+1:Nat):Int):=by rw[w6z (by omega)];omega
  have e0:B5 L E s x=A6 s:=by rw[B5,if_neg (by simp[h])]
  rw[e0];simp only[go_sem,seval];repeat' (apply wr<;>try simp only[go_sem,seval,ht,hw])
  exact⟨_,_,GL.refl _ _,rfl,rfl⟩
theorem c_take(L:List Tok)(E:Int)(s:Rd)(H:Hp)(cc t:Nat)(ht:H t=some (rdR L E s))(htc:t<cc)(hi:s.i<=10000000000)(k:Int):AC Tryz.prog 141 [.ptr t 0,I64 k] H cc (fun v H' c'=>v=(A4 L E s k).1.v/\H'=H.upd t (rdR L E (A4 L E s k).2)):=by
 refine AC.bodyT A2 rfl (A0A rfl) fun hfr=>?_;repeat' (apply wr<;>try simp only[go_sem,seval])
 refine AC.call (c_peek L E s _ _ t (by rw[hnO];exact ht) (by omega)) ?_;rintro v H' c1 ⟨rfl,rfl⟩ hc;have ne0:=U6 t cc c1 (by omega);simp only[go_sem,seval,h_same];repeat' (apply wr<;>try simp only[go_sem,seval])
 refine AC.call (c_isKind L E s _ _ t (by rw[hnO,hnO,hnO];exact ht) (by omega) k) ?_;rintro v H' c2 ⟨rfl,rfl⟩ hc2;cases h:F9 L E s k with
 |false =>
  have e0:A4 L E s k=(D0v,K8 L E s):=by rw[A4,if_pos h]
  rw[e0];simp only[go_sem,seval,A0];repeat' (apply wr<;>try simp only[go_sem,seval])
  refine AC.call (c_syntax L E s _ _ t (by rw[hnO,hnO];exact ht) (by omega)) ?_;rintro v H' c3 ⟨rfl,rfl⟩ hc3;simp only[go_sem,seval];repeat' (apply wr<;>try simp only[go_sem,seval,ne0,h_same])
  rw[C7 (v:=D0v.v) (rv4 rfl h_same)];exact⟨_,_,N9 (B7 hfr htc) (fun j hj=>by simp[Hp.upd,show ¬j=cc by omega,show ¬j=c1 by omega]),rfl,rfl⟩
 |true =>
  have hw:IntKind.i64.wrap ((s.i:Int)+1)=((s.i+1:Nat):Int):=by rw[w6z (by omega)];omega
  have e0:A4 L E s k=(A7 L E s,A6 s):=by rw[A4,if_neg (by simp[h])]
  rw[e0];simp only[go_sem,seval,A0];repeat' (apply wr<;>try simp only[go_sem,seval,ne0,ht,hw,h_same])
  rw[C7 (v:=(A7 L E s).v) (rv4 rfl h_same)];exact⟨_,_,N9 (B7 hfr htc) (fun j hj=>by simp[Hp.upd,show ¬j=cc by omega,show ¬j=c1 by omega];rfl),rfl,rfl⟩
theorem c_name(L:List Tok)(E:Int)(s:Rd)(H:Hp)(cc t:Nat)(ht:H t=some (rdR L E s))(htc:t<cc)(hi:s.i<=10000000000):AC Tryz.prog 140 [.ptr t 0] H cc (fun v H' c'=>v=.str (A4 L E s 1).1.text/\H'=H.upd t (rdR L E (A4 L E s 1).2)):=by
 refine AC.bodyT A2 rfl (A0A rfl) fun hfr=>?_;repeat' (apply wr<;>try simp only[go_sem,seval])
 refine AC.call (c_take L E s _ _ t ht (by omega) hi 1) ?_;rintro v H' c1 ⟨rfl,rfl⟩ hc;simp only[go_sem,seval];repeat' (apply wr<;>try simp only[go_sem,seval])
 exact⟨_,_,GL.refl _ _,rfl,rfl⟩
abbrev A6y(l:List (List UInt8)):DV:=.lst (l.map DV.str)
theorem c_among(L:List Tok)(E:Int)(s:Rd)(H:Hp)(cc t:Nat)(ht:H t=some (rdR L E s))(htc:t<cc)(l:List (List UInt8))(hl:l.length<=1000000):AC Tryz.prog 86 [.ptr t 0,A6y l] H cc (fun v H' c'=>v=I64 (A8 L E s l)/\H'=H):=by
 refine AC.bodyT A2 rfl (A0A rfl) fun hfr=>?_;repeat' (apply wr<;>try simp only[go_sem,seval])
 refine B6 (fun k:Nat=>[(0,.ptr t 0),(1,A6y l),(5,I64 k)]) (fun _=>H) (fun k c=>cc<=c/\k<=l.length/\A8 L E s l=V5 L E s k (l.drop k)) (fun k=>l.length-k) 0 (by simp[B9,tm,Tm.upd]) (Sub.refl _) ⟨by omega,by simp,rfl⟩ ?_;rintro k c ⟨hc,hk,hv⟩;by_cases hlt:k<l.length
 ·have hd:=dtz hlt;have hg:=A0B hlt;have hw:IntKind.i64.wrap ((k:Int)+1)=((k+1:Nat):Int):=by rw[w6z (by omega)];omega
  rw[A1T hlt,V5]at hv;generalize l[k]=a at hg hv;repeat' (apply wr<;>try simp only[go_sem,seval,hd,hg])
  refine AC.call (c_is L E s _ _ t ht (by omega) a) ?_;rintro v H' c1 ⟨rfl,rfl⟩ hc1;cases h:isR L E s a with
  |true =>
   rw[if_pos h]at hv;rw[hv];simp only[go_sem,seval];repeat' (apply wr<;>try simp only[go_sem,seval])
   exact⟨_,_,GL.refl _ _,rfl,rfl⟩
  |false =>
   rw[if_neg (by simp[h])]at hv;simp only[go_sem,seval];repeat' (apply wr<;>try simp only[go_sem,seval,hw])
   exact⟨k+1,rfl,Sub.refl _,inv ⟨by omega,hlt,hv⟩,by omega⟩
 ·have hd:=dfz hlt;have hk:k=l.length:=by omega
  rw[hk,A3P,V5]at hv;rw[hv];repeat' (apply wr<;>try simp only[go_sem,seval,hd])
  exact⟨_,_,GL.refl _ _,rfl,rfl⟩
theorem A6b(l:List (List UInt8)):cellsL (l.map DV.str)=l.map DV.str:=T2 (fun _=>rfl) l
theorem c_amongO(L:List Tok)(E:Int)(s:Rd)(K:Hp)(cc t b:Nat)(hK:K b=none)(ht:K t=some (rdR L E s))(htc:t<cc)(l:List (List UInt8))(hl:l.length<=1000000):
  AC Tryz.prog 86 [.ptr t 0,.slc b 0 l.length] (K.upd b ⟨1,true,l.map DV.str⟩) cc (fun v H' c'=>v=I64 (A8 L E s l)/\H'=K) :=
 AC.ghost (GL.frzS (id:=b) h_same rfl (fun j=>by
  by_cases e:j=b
  ·subst e;exact .inl hK
  ·exact .inr ⟨e,(h_ne e).symm⟩) (.cons _ _ _ _ (.same _) (.cons _ _ _ _ (M2 (u:=1) (by simp) (Q8 _) ⟨[],by rw[A1B,A6b]⟩) .nil))) (c_among L E s K cc t ht htc l hl)
theorem D9t{ρ : Ren}{v:Value}{a b c e:DV}(h:VRel ρ (.agg [a,b,c,.snil,e]) v):VRel ρ (.agg [a,b,c,.lst [],e]) v:=by
 obtain⟨bb,rfl,k1,k2⟩:=h.agg_inv;refine .agg _ _ k1 fun j x y hx hy=>?_
 match j with
 |0=>cases hx;exact k2 0 _ y rfl hy
 |1=>cases hx;exact k2 1 _ y rfl hy
 |2=>cases hx;exact k2 2 _ y rfl hy
 |3=>cases hx;exact (k2 3 _ y rfl hy).snil_lst
 |4=>cases hx;exact k2 4 _ y rfl hy
 |_+5=>cases hx
theorem A5r{K H':Hp}{cc:Nat}{a b c e:DV}(hK:∀ i,cc<=i->K i=none)(h:∀ j,j<cc->H' j=K j):GL H' [.agg [a,b,c,.snil,e]] K [.agg [a,b,c,.lst [],e]] :=
 (N9 hK h).trans (GL.view fun ρ vs hA=>arel_one (fun v h=>D9t h) vs hA)
theorem rv5{s:Sym.St}{x i u:Nat}{a b c d e:DV}{o:Bool}(h:s.T x=.ptr i 0)(hb:s.H i=some ⟨u,o,[a,b,c,d,e]⟩):resV s [.cell x 5 true]=some (.agg [a,b,c,d,e]):=by
 simp only[resV,A0q,h,ldv,hb];rfl
theorem A1h(L:List Tok)(E:Int)(s:Rd):∀ (l:List (List UInt8)) (k:Nat), -1<=V5 L E s k l/\V5 L E s k l<((k+l.length:Nat):Int)
 |[],k=>by simp[V5];omega
 |x :: l,k=>by
  have:=A1h L E s l (k+1);unfold V5;split
  ·simp only[A0N];omega
  ·simp only[A0N];omega
theorem D6y{L:List Tok}{E:Int}{s:Rd}{n m e:Int}:(A9 L E s n m e).i=s.i:=by unfold A9 J2;split<;>(try split)<;>rfl
abbrev tkB(a:Tok):Blk:=⟨0,true,[I64 a.kind,.str a.text,I64 a.value,I64 a.pos]⟩
abbrev C3z:Blk:=⟨0,true,[I64 0,I64 0,.str [],.snil,I64 0]⟩
theorem c_primary(L:List Tok)(E:Int)(s:Rd)(H:Hp)(cc t:Nat)(ht:H t=some (rdR L E s))(htc:t<cc)(hi:s.i<=9999999999)(ho:0<=s.ops/\s.ops<=100):AC Tryz.prog 277 [.ptr t 0] H cc (fun v H' c'=>v=(J6 L E s).1.v/\H'=H.upd t (rdR L E (J6 L E s).2)):=by
 refine AC.bodyT A2 rfl (A0A rfl) fun hfr=>?_;repeat' (apply wr<;>try simp only[go_sem,seval])
 refine AC.call (c_peek L E s _ _ t (by rw[hnO];exact ht) (by omega)) ?_;rintro v H' c1 ⟨rfl,rfl⟩ hc;have ne0:=T8 t cc c1 (c1+1) (by omega);simp only[go_sem,seval,h_same,A0];repeat' (apply wr<;>try simp only[go_sem,seval])
 have ham:=c_amongO L E s ((H.upd cc ⟨0,true,[I64 0,I64 0,.str [],.snil,I64 0]⟩).upd c1 ⟨0,true,[I64 (A7 L E s).kind,.str (A7 L E s).text,I64 (A7 L E s).value,I64 (A7 L E s).pos]⟩) (c1+1+1) t (c1+1) (by rw[hnO,hnO];exact hfr _ (by omega)) (by rw[hnO,hnO];exact ht) (by omega) D7 (by decide);refine AC.call ham ?_;rintro v H' c2 ⟨rfl,rfl⟩ hc2;have hpr:J6 L E s=J6 L E s:=rfl
 conv at hpr=>rhs;unfold J6
 have hkr : -1<=A8 L E s D7/\A8 L E s D7<7:=A1h L E s D7 0;generalize A8 L E s D7=k at hpr hkr;have hk0 : -1<=k/\k<7:=hkr;have hw:IntKind.i64.wrap (s.ops+1)=s.ops+1:=w6z (by omega);have tail:∀ c3,c2<=c3->¬(k<0/\F9 L E s 3=false/\F9 L E s 1=false)->IW Tryz.prog 78 (pz Tryz.prog 277 (.i (.o (.o (.o .h))))) ⟨tm [(0,.ptr t 0),(2,.ptr cc 0),(3,.ptr c1 0),(4,I64 k),(22,.bool false)],(H.upd cc C3z).upd c1 (tkB (A7 L E s)),c3⟩ (rt [.cell 2 5 true] fun v H' c' => ∃ v2 H2,GL H' [v] H2 [v2]/\v2=(J6 L E s).1.v/\H2=H.upd t (rdR L E (J6 L E s).2)):=by
  intro c3 hc3 hcd;rw[if_neg hcd]at hpr;dsimp only at hpr;repeat' (apply wr<;>try simp only[go_sem,seval,ht,hw,ne0,h_same])
  refine AC.call (c_limit L E { s with ops:=s.ops+1 } _ _ t h_same (by omega) _ _ _) ?_;rintro v H' c4 ⟨rfl,rfl⟩ hc4;have hi2:(A9 L E { s with ops:=s.ops+1 } (s.ops+1) 32 9).i=s.i:=D6y;generalize A9 L E { s with ops:=s.ops+1 } (s.ops+1) 32 9=s2 at *;simp only[go_sem,seval,A0];repeat' (apply wr<;>try simp only[go_sem,seval])
  refine AC.call (c_rdok L E s2 _ _ t h_same (by omega)) ?_;rintro v H' c5 ⟨rfl,rfl⟩ hc5;have hG:∀ (b5:Blk) (j:Nat),j<cc->(((H.upd cc b5).upd c1 (tkB (A7 L E s))).upd t (rdR L E s2)) j=(H.upd t (rdR L E s2)) j:=fun b5 j hj=>by simp[Hp.upd,show ¬j=cc by omega,show ¬j=c1 by omega]
  cases h2:okR s2 with
  |false =>
   rw[if_pos h2]at hpr;rw[hpr];simp only[go_sem,seval];repeat' (apply wr<;>try simp only[go_sem,seval,ne0,h_same])
   rw[C7 (v:=.agg [I64 0,I64 0,.str [],.snil,I64 0]) (rv5 rfl h_same)];refine⟨_,_,A5r (cc:=cc) (B7 hfr htc) (fun j hj=>?_),rfl,rfl⟩;simp[Hp.upd,show ¬j=cc by omega,show ¬j=c1 by omega]
  |true =>
   rw[if_neg (by simp[h2])]at hpr;have hw2:IntKind.i64.wrap ((s2.i:Int)+1)=((s2.i+1:Nat):Int):=by rw[w6z (by omega)];omega
   simp only[go_sem,seval];by_cases hk1:0<=k
   ·rw[if_pos hk1]at hpr;have hd1:decide (k≥0)=true:=by simpa using hk1
    have ne0:=A2m t cc c1 c5 (c5+7) (by omega);by_cases h4:4<=k
    ·rw[if_pos h4]at hpr;rw[hpr];rcases (show k=4\/k=5\/k=6 by omega) with rfl|rfl|rfl
     all_goals
      repeat' (apply wr<;>try simp only[go_sem,seval,hw2,ne0,h_same,A0])
      refine AC.call (c_name L E (A6 s2) _ _ t (by repeat (first|exact h_same|rw[hnO])) (by omega) (by show s2.i+1<=10000000000;omega)) ?_;rintro v H' c6 ⟨rfl,rfl⟩ hc6;simp only[go_sem,seval,ne0,h_same];repeat' (apply wr<;>try simp only[go_sem,seval,ne0,h_same])
      rw[C7 (rv5 rfl h_same)];refine⟨_,_,A5r (cc:=cc) (B7 hfr htc) (fun j hj=>?_),rfl,rfl⟩;simp[Hp.upd,show ¬j=cc by omega,show ¬j=c1 by omega,show ¬j=c5 by omega,show ¬j=c5+7 by omega];try (split<;>rfl)
    ·rw[if_neg h4]at hpr;rw[hpr];rcases (show k=0\/k=1\/k=2\/k=3 by omega) with rfl|rfl|rfl|rfl
     all_goals
      repeat' (apply wr<;>try simp only[go_sem,seval,hw2,ne0,h_same,A0])
      rw[C7 (rv5 rfl h_same)];refine⟨_,_,A5r (cc:=cc) (B7 hfr htc) (fun j hj=>?_),rfl,rfl⟩;simp[Hp.upd,show ¬j=cc by omega,show ¬j=c1 by omega,show ¬j=c5 by omega,show ¬j=c5+7 by omega];rfl
   ·rw[if_neg hk1]at hpr;have hd1:decide (k≥0)=false:=by simpa using hk1
    by_cases h3:(A7 L E s).kind=3
    ·rw[if_pos h3]at hpr;rw[hpr];have hd3:((A7 L E s).kind == 3)=true:=by simpa using h3
     repeat' (apply wr<;>try simp only[go_sem,seval,hw2,hd1,hd3,ne0,h_same,A0])
     rw[C7 (v:=.agg [I64 1,I64 (A7 L E s).value,.str [],.snil,I64 (A7 L E s).pos]) (rv5 rfl h_same)];refine⟨_,_,A5r (cc:=cc) (B7 hfr htc) (fun j hj=>?_),rfl,rfl⟩;simp[Hp.upd,show ¬j=cc by omega,show ¬j=c1 by omega];rfl
    ·rw[if_neg h3]at hpr;rw[hpr];have hd3:((A7 L E s).kind == 3)=false:=by simpa using h3
     repeat' (apply wr<;>try simp only[go_sem,seval,hw2,hd1,hd3,ne0,h_same,A0])
     rw[C7 (v:=.agg [I64 2,I64 0,.str (A7 L E s).text,.snil,I64 (A7 L E s).pos]) (rv5 rfl h_same)];refine⟨_,_,A5r (cc:=cc) (B7 hfr htc) (fun j hj=>?_),rfl,rfl⟩;simp[Hp.upd,show ¬j=cc by omega,show ¬j=c1 by omega];rfl
 have hGt:∀ b5:Blk,((H.upd cc b5).upd c1 (tkB (A7 L E s))) t=some (rdR L E s):=fun b5=>by rw[hnO,hnO];exact ht
 by_cases hk1:k<0
 ·have hd:decide (k<0)=true:=by simpa using hk1
  simp only[go_sem,seval];repeat' (apply wr<;>try simp only[go_sem,seval,hd])
  refine AC.call (c_isKind L E s _ _ t (hGt _) (by omega) 3) ?_;rintro v H' c3 ⟨rfl,rfl⟩ hc3;cases h3:F9 L E s 3 with
  |true =>
   simp only[go_sem,seval];repeat' ((with_reducible first|refine F6 (p:=IW _ _ (pz Tryz.prog 277 (.i (.o (.o (.o .h))))) _ _) ?_|refine wr ?_|fail)<;>try simp only[go_sem,seval])
   exact tail _ (by omega) (by simp[h3])
  |false =>
   simp only[go_sem,seval];repeat' (apply wr<;>try simp only[go_sem,seval,h3])
   refine AC.call (c_isKind L E s _ _ t (hGt _) (by omega) 1) ?_;rintro v H' c4 ⟨rfl,rfl⟩ hc4;cases h1:F9 L E s 1 with
   |true =>
    simp only[go_sem,seval];repeat' ((with_reducible first|refine F6 (p:=IW _ _ (pz Tryz.prog 277 (.i (.o (.o (.o .h))))) _ _) ?_|refine wr ?_|fail)<;>try simp only[go_sem,seval])
    exact tail _ (by omega) (by simp[h1])
   |false =>
    rw[if_pos ⟨hk1,h3,h1⟩]at hpr;rw[hpr];simp only[go_sem,seval];repeat' (apply wr<;>try simp only[go_sem,seval])
    refine AC.call (c_syntax L E s _ _ t (hGt _) (by omega)) ?_;rintro v H' c5 ⟨rfl,rfl⟩ hc5;simp only[go_sem,seval];repeat' (apply wr<;>try simp only[go_sem,seval,ne0,h_same])
    rw[C7 (rv5 rfl h_same)];refine⟨_,_,A5r (cc:=cc) (B7 hfr htc) (fun j hj=>?_),rfl,rfl⟩;simp[Hp.upd,show ¬j=cc by omega,show ¬j=c1 by omega]
 ·have hd:decide (k<0)=false:=by simpa using hk1
  simp only[go_sem,seval];repeat' ((with_reducible first|refine F6 (p:=IW _ _ (pz Tryz.prog 277 (.i (.o (.o (.o .h))))) _ _) ?_|refine wr ?_|fail)<;>try simp only[go_sem,seval,hd])
  exact tail _ (by omega) fun h=>hk1 h.1
theorem c_IdxO(x:List UInt8)(l:List (List UInt8))(hl:l.length<=100000000)(H:Hp)(c:Nat)(o:Option Nat)(hn:o=none->l=[])(hb:∀ i,o=some i->H i=some ⟨1,true,txC l⟩):
  AC Tryz.prog 118 [todoV o l.length,.str x] H c (fun v H' c'=>v=I64 (A3o x 0 l)/\H'=H):=by
 cases o with
 |none =>
  obtain rfl:=hn rfl;refine AC.bodyT A2 rfl (A0A rfl) fun hfr=>?_;repeat' (apply wr<;>try simp only[go_sem,seval])
  refine B6 (fun k:Nat=>[(0,.snil),(1,.str x),(7,I64 0),(8,I64 0)]) (fun _=>H) (fun k c=>True) (fun k=>0) 0 (by simp[B9,tm,Tm.upd]) (Sub.refl _) trivial ?_;rintro k c' -;repeat' (apply wr<;>try simp only[go_sem,seval])
  exact⟨_,_,GL.refl _ _,rfl,rfl⟩
 |some i =>
  have hi:=hb i rfl;refine AC.bodyT A2 rfl (A0A rfl) fun hfr=>?_;repeat' (apply wr<;>try simp only[go_sem,seval])
  refine B6 (fun k:Nat=>[(0,.slc i 0 l.length),(1,.str x),(7,I64 l.length),(8,I64 k)]) (fun _=>H) (fun k c=>k<=l.length/\A3o x 0 l=A3o x k (l.drop k)) (fun k=>l.length-k) 0 (by simp[B9,tm,Tm.upd]) (Sub.refl _) ⟨by omega,rfl⟩ ?_;rintro k c' ⟨hk,hv⟩;by_cases hlt:k<l.length
  ·have hd:=dtz hlt;have hg:=A0B hlt;have hw:IntKind.i64.wrap ((k:Int)+1)=((k+1:Nat):Int):=by rw[w6z (by omega)];omega
   rw[A1T hlt,A3o]at hv;generalize l[k]=a at hg hv;have hc:(txC l)[k]? = some (.str a):=by rw[A1P,hg];rfl
   cases h:(x == a) with
   |true =>
    rw[if_pos h]at hv;rw[hv];repeat' (apply wr<;>try simp only[go_sem,seval,hi,hd,hc,h,hlt])
    exact⟨_,_,GL.refl _ _,rfl,rfl⟩
   |false =>
    rw[if_neg (by simp[h])]at hv;repeat' (apply wr<;>try simp only[go_sem,seval,hi,hd,hc,h,hw,hlt])
    exact⟨k+1,rfl,Sub.refl _,inv ⟨hlt,hv⟩,by omega⟩
  ·have hd:=dfz hlt;have hk:k=l.length:=by omega
   rw[hk,A3P,A3o]at hv;rw[hv];repeat' (apply wr<;>try simp only[go_sem,seval,hd])
   exact⟨_,_,GL.refl _ _,rfl,rfl⟩
theorem D3m(S:List (List UInt8))(x:List UInt8):(A3o x 0 S = -1/\txS S x=(S.length,S++[x]))\/(A3o x 0 S=((txS S x).1:Int)/\(txS S x).2=S):=by
 have key:∀ (S:List (List UInt8)) (k:Nat),(A3o x k S = -1/\x ∉ S)\/(A3o x k S=((k+S.idxOf x:Nat):Int)/\x∈S):=by
  intro S
  induction S with
  |nil=>intro k;exact .inl ⟨rfl,by simp⟩
  |cons a S ih =>
   intro k;rw[A3o];by_cases h:(x == a)=true
   ·have e:x=a:=by simpa using h
    subst e;right;rw[if_pos h];simp
   ·have e:¬ x=a:=by simpa using h
    have e2:¬ a=x:=fun q=>e q.symm;rw[if_neg h];rcases ih (k+1) with ⟨h1,h2⟩|⟨h1,h2⟩
    ·exact .inl ⟨h1,by simp[e,h2]⟩
    ·refine .inr ⟨?_,by simp[h2]⟩;rw[h1,List.idxOf_cons];have:(a == x)=false:=by simpa using e2
     rw[this];simp only[cond_false];omega
 unfold txS;rcases key S 0 with ⟨h1,h2⟩|⟨h1,h2⟩
 ·exact .inl ⟨h1,by rw[if_neg h2]⟩
 ·right;rw[if_pos h2,h1];simp
theorem C5u(S:List (List UInt8)):(txC S).length=S.length * 1:=by rw[A0J,Nat.mul_one]
theorem c_gtext(e p v m:DV)(t n:Int)(s:List UInt8)(x:Cg)(hx:x.2.length<=100000000):GC 69 (mkP e p v m t n) [.str s] x (x.1,(txS x.2 s).2) (I64 (txS x.2 s).1):=by
 intro H0 c t' a b h;refine AC.bodyT A2 rfl (A0A rfl) fun hfr=>?_;have hM:=A6u (mk:=mkP e p v m t n) h;have h1:=h.tc;repeat' (apply wr<;>try simp only[go_sem,seval,hM])
 refine AC.call (c_IdxO s x.2 hx _ _ b h.bn (fun i hi=>B5i hi)) ?_;rintro _ H' c1 ⟨rfl,rfl⟩ hc;rcases D3m x.2 s with ⟨q1,q2⟩|⟨q1,q2⟩
 ·rw[q1,q2];have ne0:=U6 t' c1 (c1+1) (by omega);simp only[go_sem,seval];have hln:=Q7 (o:=b) (n:=x.2.length) (fun e=>S9 (h.bn e));repeat' (apply wr<;>try simp only[go_sem,seval,hM,hln])
  refine O7 (E8 (cs:=txC x.2) (fun e=>⟨S9 (h.bn e),by rw[h.bn e];rfl⟩) (fun i hi=>?_) (C5u _) (by omega) (by omega) (by omega)) ?_
  ·have:=h.hb i hi;rw[hnO];exact B5i hi
  have dm:∀ X,delO X b t'=X t':=fun X=>B4 (fun i hi e=>(h.hb i hi).1 e.symm);simp only[go_sem,seval,dm,hM,ne0];repeat' (apply wr<;>try simp only[go_sem,seval])
  refine⟨_,_,GL.less' (D0o (y:=(x.1,x.2++[s])) (i:=c1+1) (h.le hc) (by omega) rfl (by simp) (by simp[todoV])),rfl,a,some (c1+1),(h.le hc).newB (by omega) (by omega) rfl,rfl⟩
 ·have hd:decide (A3o s 0 x.2<0)=false:=by rw[q1];simp
  simp only[go_sem,seval];repeat' (apply wr<;>try simp only[go_sem,seval,hd])
  rw[q1,q2];exact⟨_,_,GL.refl _ _,rfl,a,b,h.le hc,rfl⟩
theorem A5z(nm:List UInt8->Int):∀ a b:List Ex,C8 nm (a++b)=C8 nm a++C8 nm b
 |[],b=>rfl
 |x :: a,b=>by rw[A0W,C8,C8,A5z nm a b,A0L]
theorem A7q(nm:List UInt8->Int){l:List Ex}{k:Nat}{x:Ex}(h:l[k]? = some x):C8 nm (l.take (k+1))=C8 nm (l.take k)++cgE nm x:=by
 rw[A1F,h,A5z];simp[C8]
theorem A1w(nm:List UInt8->Int)(l:List Ex)(k:Nat):(C8 nm (l.take k)).length<=(C8 nm l).length:=by
 have h:=A5z nm (l.take k) (l.drop k);rw[A1V]at h;rw[h,A0D];omega
theorem c_gexpr(e p v:DV)(ks vs:List DV)(t n:Int)(nm:List UInt8->Int)(hm:∀ s,Sym.lkV (I64 0) false vs (C3 (.str s) ks 0)=some (I64 (nm s))):∀ (z:Nat) (ex:Ex),ex.sz<z->ex.sz<=100000000->∀ x:Cg,x.1.length+(cgE nm ex).length<=100000000 ->
  GC 44 (mkP e p v (.mp .s ks vs) t n) [ex.v] x (x.1++cgE nm ex,x.2) (.tup []):=by
 intro z
 induction z with
 |zero=>intro ex h;omega
 |succ z ih =>
 intro ex hz hB x hx H0 c t' a b h;have hal:Ex.szs ex.args<ex.sz:=by cases ex with|mk k v n a p=>rw[Ex.sz];show Ex.szs a<_;omega
 have hargs:∀ x∈ex.args,x.sz<=Ex.szs ex.args:=fun x hx=>Ex.szs_mem hx;have hll:=Ex.szs_len ex.args;have hE:=C9x nm ex;rw[hE]at hx ⊢;rw[Ex.v_w];cases ex with|mk k vv nn ar pos =>
 dsimp only[Ex.w,Ex.kind,Ex.value,Ex.name,Ex.args,Ex.pos]at hal hargs hll hx ⊢;clear hE;rw[A0D,A0K]at hx;have h1:=h.tc;refine AC.bodyT A2 rfl (A0A rfl) fun hfr=>?_;repeat' (apply wr<;>try simp only[go_sem,seval])
 obtain⟨B,hBe⟩:∃ B:Blk,B=⟨0,true,[I64 k,I64 vv,.str nn,G7 ar,I64 pos]⟩:=⟨_,rfl⟩;rw[<- hBe,h.com (A0C _)];have hb0:=h.box (B:=B) (A0C c) (A1I c);refine B6 (fun q:Nat × Option Nat × Option Nat=>[(0,.ptr t' 0),(3,.ptr c 0),(7,G7 ar),(8,I64 ar.length),(9,I64 q.1)]) (fun q=>GM (H0.upd c B) t' q.2.1 q.2.2 (mkP e p v (.mp .s ks vs) t n) (x.1++C8 nm (ar.take q.1),x.2))
  (fun q cc=>c+1<=cc/\q.1<=ar.length/\GN (H0.upd c B) t' q.2.1 q.2.2 (x.1++C8 nm (ar.take q.1),x.2) cc) (fun q=>ar.length-q.1) (0,a,b)
  (by simp[B9,tm,Tm.upd]) (by simp only[A0Y,C8,A1B];exact Sub.refl _) ⟨A0C _,A0V _,by simp only[A0Y,C8,A1B];exact hb0⟩ ?_
 clear hb0;rintro⟨i,o,b1⟩ cc ⟨hc,hk,hN⟩;dsimp only at hk hN ⊢;have hnn:=hN.tc;have hfr':=fun (j:Nat) (hj:cc<=j)=>C5p (mk:=mkP e p v (.mp .s ks vs) t n) hN hj;by_cases hlt:i<ar.length
 ·have hd:=dtz hlt;have hg:=A0B hlt;have hw:=w64 (n:=(i:Int)+1);have hsn:=A7q nm hg;have hle:=A1w nm ar (i+1);have hmem:=hargs _ (A0S hlt);generalize ar[i]=y at hg hsn hmem;rw[hsn,A0D]at hle;have hcall:=ih y (by omega) (by omega) (x.1++C8 nm (ar.take i),x.2) (by rw[A0D];omega);rw[Ex.v_w]at hcall;repeat' (apply wr<;>try simp only[go_sem,seval,hd,hg,Ex.v_w,h_same,A0])
  obtain⟨B2,hB2⟩:∃ B:Blk,B=⟨0,true,[I64 y.kind,I64 y.value,.str y.name,G7 y.args,I64 y.pos]⟩:=⟨_,rfl⟩;rw[<- hB2,hN.com (A0C _)];refine AC.call (hcall _ _ _ _ _ (hN.box (A0C _) (A1I _))) ?_;rintro _ _ c2 ⟨rfl,a2,b2,hN2,rfl⟩ hc2;have hz0:=hN.fr cc (A0C _);simp only[go_sem,seval];repeat' (apply wr<;>try simp only[go_sem,seval,hw])
  dsimp only at hN2 ⊢;rw[A0L, <- hsn]at hN2 ⊢;exact⟨(i+1,a2,b2),by simp[],Q6 hz0 (by omega) hN2,inv ⟨by omega,hlt,hN2.unbox hz0 (by omega) hN.fr⟩,by simp only;omega⟩
 ·have hd:=dfz hlt;have hi:i=ar.length:=by omega
  subst hi;rw[A1S]at hN hfr' ⊢;have hM:=A6u (mk:=mkP e p v (.mp .s ks vs) t n) hN;have hcB:GM (H0.upd c B) t' o b1 (mkP e p v (.mp .s ks vs) t n) (x.1++C8 nm ar,x.2) c=some ⟨0,true,[I64 k,I64 vv,.str nn,G7 ar,I64 pos]⟩:=A6m hN (by rw[h_same,hBe]) (by omega);have hz0:=h.fr c (A0C _);have hlk:=hm nn;have fin:∀ (op A:Int),B9j nm k vv nn=⟨op,A⟩->∀ cx,cc<=cx->AC Tryz.prog 29 [.ptr t' 0,I64 op,I64 A] (GM (H0.upd c B) t' o b1 (mkP e p v (.mp .s ks vs) t n) (x.1++C8 nm ar,x.2)) cx (fun v' H' c' => ∃ a' b',GN (H0.upd c B) t' a' b' (x.1++(C8 nm ar++[B9j nm k vv nn]),x.2) c'/\H'=GM (H0.upd c B) t' a' b' (mkP e p v (.mp .s ks vs) t n) (x.1++(C8 nm ar++[B9j nm k vv nn]),x.2)):=fun op A he cx hcx=>by
   rw[he, <- A0L];refine AC.call (c_emit e p v _ t n op A (x.1++C8 nm ar,x.2) (by rw[A0D];omega) _ _ _ _ _ (hN.le hcx)) ?_;rintro _ _ c2 ⟨rfl,a2,b2,hN2,rfl⟩ hc2;exact⟨a2,b2,hN2,rfl⟩
  repeat' ((with_reducible first|refine wr ?_|refine wb2 ?_ ?_<;>(intro hb;try simp only[hb])|fail)<;>try simp only[go_sem,seval,hd,hM,hcB,hlk])
  all_goals
   try refine⟨hfr' _ (by omega),?_⟩
   refine AC.call (fin _ _ ?_ _ ?_) ?_
   ·clear fin hm hN hM hcB hfr' hlk hx hz0 hnn ih hfr h hargs hal hBe;simp_all[B9j]
   ·omega
   rintro _ _ c2 ⟨a2,b2,hN2,rfl⟩ hc2;simp only[go_sem,seval];repeat' (apply wr<;>try simp only[go_sem,seval])
   exact⟨_,_,GL.less' (Q6 hz0 (by omega) hN2),rfl,a2,b2,hN2.unbox hz0 (by omega) h.fr,rfl⟩
theorem c_gblock(e p v:DV)(ks vs:List DV)(t n:Int)(nm:List UInt8->Int)(hm:∀ s,Sym.lkV (I64 0) false vs (C3 (.str s) ks 0)=some (I64 (nm s))):∀ (z:Nat) (l:List Pb.St),St.szs l<z->St.szs l<=99000000->∀ x,CgB (I8 nm l x) ->
  GC 28 (mkP e p v (.mp .s ks vs) t n) [D2 l] x (I8 nm l x) (.tup []):=by
 intro z
 induction z with
 |zero=>intro l h1;omega
 |succ z ih =>
 intro l hz hB x hx H0 c t' a b h;have hll:=St.szs_len l;refine AC.bodyT A2 rfl (A0A rfl) fun hfr=>?_;repeat' (apply wr<;>try simp only[go_sem,seval])
 refine B6 (fun q:Nat × Option Nat × Option Nat=>[(0,.ptr t' 0),(11,D2 l),(12,I64 l.length),(13,I64 q.1)]) (fun q=>GM H0 t' q.2.1 q.2.2 (mkP e p v (.mp .s ks vs) t n) (I8 nm (l.take q.1) x))
  (fun q cc=>c<=cc/\q.1<=l.length/\GN H0 t' q.2.1 q.2.2 (I8 nm (l.take q.1) x) cc) (fun q=>l.length-q.1) (0,a,b)
  (by simp[B9,tm,Tm.upd]) (by simp only[A0Y,V3];exact Sub.refl _) ⟨A0C _,A0V _,by simp only[A0Y,V3];exact h⟩ ?_
 clear h hfr a b;rintro⟨i,a,b⟩ cc ⟨hc,hk,hN0⟩;dsimp only at hk hN0 ⊢;by_cases hlt:i<l.length
 rotate_left
 ·have hd:=dfz hlt;have hi:i=l.length:=by omega
  subst hi;rw[A1S]at hN0 ⊢;repeat' (apply wr<;>try simp only[go_sem,seval,hd])
  exact⟨_,_,GL.refl _ _,rfl,a,b,hN0,rfl⟩
 have hd:=dtz hlt;have hg:=A0B hlt;have hw:=w64 (n:=(i:Int)+1);have hsn:=B9u (nm:=nm) hg x;have hle:=(B9t (nm:=nm) l (i+1) x).bnd hx;have hssz:=St.szs_mem (A0S hlt);generalize l[i]=s at hg hsn hssz;rw[hsn]at hle;obtain⟨y,hy⟩:∃ y,y=I8 nm (l.take i) x:=⟨_,rfl⟩;rw[<- hy]at hle hN0 hsn ⊢;have hxa:=(B9s (nm:=nm) s y).bnd hle;have hfr0:=fun j (hj:cc<=j)=>C5p (mk:=(mkP e p v (.mp .s ks vs) t n)) hN0 hj;obtain⟨k,nn,tt,ar,u,w,pos⟩:=s;dsimp only[St.args]at hxa;rw[St.sz]at hssz;have hargs:∀ x∈ar,x.sz<=Ex.szs ar:=fun x hx=>Ex.szs_mem hx;have hla:=Ex.szs_len ar;have hu:=ih u (by omega) (by omega);have hel:=ih w (by omega) (by omega);clear ih;have htc:=hN0.tc;obtain⟨x1,hx1⟩:∃ x1:Cg,x1=(y.1++C8 nm ar,y.2):=⟨_,rfl⟩;rw[<- hx1]at hxa;repeat' (apply wr<;>try simp only[go_sem,seval,hd,hg,St.v_w,A0J,h_same,A0])
 dsimp only[St.kind,St.name,St.text,St.args,St.thn,St.els,St.pos];obtain⟨B,hBe⟩:∃ B:Blk,B=⟨0,true,[I64 k,.str nn,.str tt,G7 ar,D2 u,D2 w,I64 pos]⟩:=⟨_,rfl⟩;rw[<- hBe,hN0.com (A0C _)];have hb0:=hN0.box (B:=B) (A0C cc) (A1I cc);have hcB:∀ {x' o' b' c2},GN (H0.upd cc B) t' o' b' x' c2->GM (H0.upd cc B) t' o' b' (mkP e p v (.mp .s ks vs) t n) x' cc=some ⟨0,true,[I64 k,.str nn,.str tt,G7 ar,D2 u,D2 w,I64 pos]⟩:=fun hN=>A6m hN (by rw[h_same,hBe]) (by omega);have hcB0:=hcB hb0;repeat' (apply wr<;>try simp only[go_sem,seval,hcB0])
 have hz0:=hN0.fr cc (A0C _);clear hcB0;refine B6 (fun q:Nat × Option Nat × Option Nat=>[(0,.ptr t' 0),(5,.ptr cc 0),(11,D2 l),(12,I64 l.length),(13,I64 i),(18,G7 ar),(19,I64 ar.length),(20,I64 q.1)]) (fun q=>GM (H0.upd cc B) t' q.2.1 q.2.2 (mkP e p v (.mp .s ks vs) t n) (y.1++C8 nm (ar.take q.1),y.2))
  (fun q c1=>cc+1<=c1/\q.1<=ar.length/\GN (H0.upd cc B) t' q.2.1 q.2.2 (y.1++C8 nm (ar.take q.1),y.2) c1) (fun q=>ar.length-q.1) (0,a,b)
  (by simp[B9,tm,Tm.upd]) (by simp only[A0Y,C8,A1B];exact Sub.refl _) ⟨A0C _,A0V _,by simp only[A0Y,C8,A1B];exact hb0⟩ ?_
 clear hb0;rintro⟨j,o,b1⟩ c1 ⟨hcc,hkj,hN⟩;dsimp only at hkj hN ⊢;by_cases hltj:j<ar.length
 ·have hdj:=dtz hltj;have hgj:=A0B hltj;have hwj:=w64 (n:=(j:Int)+1);have hsnj:=A7q nm hgj;have hlej:=A1w nm ar (j+1);have hmem:=hargs _ (A0S hltj);generalize ar[j]=q at hgj hsnj hmem;rw[hsnj,A0D]at hlej;have hlx:=hxa.1;rw[hx1,A0D]at hlx;have hcall:=c_gexpr e p v ks vs t n nm hm _ q (A1I _) (by omega) (y.1++C8 nm (ar.take j),y.2) (by rw[A0D];omega);rw[Ex.v_w]at hcall;have hfrj:=fun j (hj:c1<=j)=>C5p (mk:=(mkP e p v (.mp .s ks vs) t n)) hN hj;repeat' (apply wr<;>try simp only[go_sem,seval,hdj,hgj,Ex.v_w,h_same,A0])
  obtain⟨B2,hB2⟩:∃ B:Blk,B=⟨0,true,[I64 q.kind,I64 q.value,.str q.name,G7 q.args,I64 q.pos]⟩:=⟨_,rfl⟩;rw[<- hB2,hN.com (A0C _)];refine AC.call (hcall _ _ _ _ _ (hN.box (A0C _) (A1I _))) ?_;rintro _ _ c2 ⟨rfl,a2,b2,hN2,rfl⟩ hc2;have hz1:=hN.fr c1 (A0C _);simp only[go_sem,seval];repeat' (apply wr<;>try simp only[go_sem,seval,hwj])
  dsimp only at hN2 ⊢;rw[A0L, <- hsnj]at hN2 ⊢;exact⟨(j+1,a2,b2),by simp[],Q6 hz1 (by omega) hN2,inv ⟨by omega,hltj,hN2.unbox hz1 (by omega) hN.fr⟩,by simp only;omega⟩
 have hdj:=dfz hltj;have hij:j=ar.length:=by omega
 subst hij;rw[A1S, <- hx1]at hN ⊢;have hM:=A6u (mk:=(mkP e p v (.mp .s ks vs) t n)) hN;have hcB1:=hcB hN;have hxb:=hxa.1;clear hltj hkj hla hargs;by_cases q2:k=2
 ·have d2:(k == 2)=true:=by simpa using q2
  subst q2;obtain⟨T,hT⟩:∃ T,T=cgB nm (x1.1.length+1) x1.2 u:=⟨_,rfl⟩;have eT:I8 nm u (x1.1++[⟨13,0⟩],x1.2)=(x1.1++⟨13,0⟩ :: T.1,T.2):=by
   unfold I8;rw[A0D,A0K, <- hT];simp
  repeat' (apply wr<;>try simp only[go_sem,seval,hdj,hcB1,d2])
  refine AC.call (c_emit _ _ _ _ _ _ 13 0 x1 (by omega) _ _ _ _ _ hN) ?_;rintro _ _ c2 ⟨rfl,a2,b2,hN2,rfl⟩ hc2;have hcB2:=hcB hN2;simp only[go_sem,seval];repeat' (apply wr<;>try simp only[go_sem,seval,hcB2])
  by_cases hv0:w.length=0
  ·have q0:decide ((w.length:Int)>0)=false:=by rw[hv0];rfl
   have hfin:=B2p (nm:=nm) (n:=nn) (t:=tt) (q:=pos) (u:=u) hx1 hv0;rw[<- hT]at hfin;rw[hfin]at hle;have hbT:CgB (x1.1++⟨13,0⟩ :: T.1,T.2):=⟨by have:=hle.1;rw[A0D,A0N]at this ⊢;exact this,hle.2⟩;refine AC.call (hu _ (by rw[eT];exact hbT) _ _ _ _ _ hN2) ?_;rintro _ _ c3 ⟨rfl,a3,b3,hN3,rfl⟩ hc3;rw[eT]at hN3 ⊢;have hcB3:=hcB hN3;simp only[go_sem,seval];repeat' (apply wr<;>try simp only[go_sem,seval,hcB3,q0,A0J])
   refine AC.call (c_patch _ _ _ _ _ _ 13 0 x1.1 T.1 T.2 (A0X hbT.1 (by omega)) _ _ _ _ _ hN3) ?_;rintro _ _ c4 ⟨rfl,a4,b4,hN4,rfl⟩ hc4;simp only[go_sem,seval];repeat' (apply wr<;>try simp only[go_sem,seval,hw])
   refine⟨(i+1,a4,b4),by simp[],?_,inv ⟨by omega,hlt,?_⟩,by simp only;omega⟩
   ·dsimp only;rw[hsn,hfin];exact Q6 hz0 (by omega) hN4
   ·dsimp only;rw[hsn,hfin];exact hN4.unbox hz0 (by omega) hN0.fr
  ·have q0:decide ((w.length:Int)>0)=true:=by simp;omega
   obtain⟨V,hV⟩:∃ V,V=cgB nm (x1.1.length+1+T.1.length+1) T.2 w:=⟨_,rfl⟩;have hfin:=B2o (nm:=nm) (n:=nn) (t:=tt) (q:=pos) hx1 hv0 hT hV;rw[hfin]at hle;obtain⟨J,hJ⟩:∃ J,J=x1.1.length+1+T.1.length:=⟨_,rfl⟩;rw[<- hJ]at hle hV hfin;have l3:(x1.1++(⟨13,0⟩:Ins) :: T.1).length=J:=by simp;omega
   have l4:(x1.1++(⟨13,0⟩:Ins) :: (T.1++[⟨12,0⟩])).length=J+1:=by simp;omega
   have l5:(x1.1++(⟨13,((J+1:Nat):Int)⟩:Ins) :: T.1).length=J:=by simp;omega
   have hxl:=hle.1;rw[A0D,l5,A0N]at hxl;have hxs:=hle.2;have hTs:B5k T (T.1++V.1,V.2):=⟨by simp,by rw[hV];exact Z6 _ w _ _⟩;have hbT:CgB (x1.1++⟨13,0⟩ :: T.1,T.2):=⟨by rw[l3];omega,A0X hTs.2 hxs⟩;refine AC.call (hu _ (by rw[eT];exact hbT) _ _ _ _ _ hN2) ?_;rintro _ _ c3 ⟨rfl,a3,b3,hN3,rfl⟩ hc3;rw[eT]at hN3 ⊢;have hcB3:=hcB hN3;simp only[go_sem,seval];repeat' (apply wr<;>try simp only[go_sem,seval,hcB3,q0,A0J])
   refine AC.call (c_emit _ _ _ _ _ _ 12 0 _ (by have:=hbT.1;omega) _ _ _ _ _ hN3) ?_;rintro _ _ c4 ⟨rfl,a4,b4,hN4,rfl⟩ hc4;have e4:(((x1.1++(⟨13,0⟩:Ins) :: T.1,T.2):Cg).1++[⟨12,0⟩],((x1.1++(⟨13,0⟩:Ins) :: T.1,T.2):Cg).2)=((x1.1++⟨13,0⟩ :: (T.1++[⟨12,0⟩]),T.2):Cg):=by simp
   rw[e4]at hN4 ⊢;simp only[go_sem,seval,l3];repeat' (apply wr<;>try simp only[go_sem,seval])
   refine AC.call (c_patch _ _ _ _ _ _ 13 0 x1.1 (T.1++[⟨12,0⟩]) T.2 (by rw[l4];omega) _ _ _ _ _ hN4) ?_;rintro _ _ c5 ⟨rfl,a5,b5,hN5,rfl⟩ hc5;rw[l4]at hN5 ⊢;have hcB5:=hcB hN5;have e5:∀ z:Int,I8 nm w (x1.1++⟨13,((J+1:Nat):Int)⟩ :: (T.1++[⟨12,z⟩]),T.2)=((x1.1++⟨13,((J+1:Nat):Int)⟩ :: T.1)++⟨12,z⟩ :: V.1,V.2):=fun z=>by
    have l6:(x1.1++(⟨13,((J+1:Nat):Int)⟩:Ins) :: (T.1++[⟨12,z⟩])).length=J+1:=by simp;omega
    unfold I8;dsimp only;rw[l6, <- hV];simp
   have hbW:CgB ((x1.1++⟨13,((J+1:Nat):Int)⟩ :: T.1)++⟨12,0⟩ :: V.1,V.2):=⟨by rw[A0D,l5,A0N];omega,hxs⟩;simp only[go_sem,seval];repeat' (apply wr<;>try simp only[go_sem,seval,hcB5])
   refine AC.call (hel _ (by rw[e5];exact hbW) _ _ _ _ _ hN5) ?_;rintro _ _ c6 ⟨rfl,a6,b6,hN6,rfl⟩ hc6;rw[e5]at hN6 ⊢;have hpt:=c_patch e p v (.mp .s ks vs) t n 12 0 (x1.1++⟨13,((J+1:Nat):Int)⟩ :: T.1) V.1 V.2 (A0X hbW.1 (by omega));rw[l5]at hpt;have l7:((x1.1++(⟨13,((J+1:Nat):Int)⟩:Ins) :: T.1)++(⟨12,0⟩:Ins) :: V.1).length=J+1+V.1.length:=by rw[A0D,l5,A0N];omega
   rw[l7]at hpt;simp only[go_sem,seval];repeat' (apply wr<;>try simp only[go_sem,seval])
   refine AC.call (hpt _ _ _ _ _ hN6) ?_;rintro _ _ c7 ⟨rfl,a7,b7,hN7,rfl⟩ hc7;simp only[go_sem,seval];repeat' (apply wr<;>try simp only[go_sem,seval,hw])
   refine⟨(i+1,a7,b7),by simp[],?_,inv ⟨by omega,hlt,?_⟩,by simp only;omega⟩
   ·dsimp only;rw[hsn,hfin];exact Q6 hz0 (by omega) hN7
   ·dsimp only;rw[hsn,hfin];exact hN7.unbox hz0 (by omega) hN0.fr
 have d2:(k == 2)=false:=by simpa using q2
 by_cases q3:k=3
 ·have d3:(k == 3)=true:=by simpa using q3
  subst q3;obtain⟨T,hT⟩:∃ T,T=cgB nm (x1.1.length+1) x1.2 u:=⟨_,rfl⟩;have eT:I8 nm u (x1.1++[⟨14,0⟩],x1.2)=(x1.1++⟨14,0⟩ :: T.1,T.2):=by
   unfold I8;rw[A0D,A0K, <- hT];simp
  have hfin:=B2m (nm:=nm) (n:=nn) (t:=tt) (v:=w) (q:=pos) hx1 hT;rw[hfin]at hle;obtain⟨J,hJ⟩:∃ J,J=x1.1.length+1+T.1.length:=⟨_,rfl⟩;rw[<- hJ]at hle hfin;have l3:(x1.1++(⟨14,0⟩:Ins) :: T.1).length=J:=by simp;omega
  have l4:(x1.1++(⟨14,0⟩:Ins) :: (T.1++[⟨12,(x1.1.length:Int)⟩])).length=J+1:=by simp;omega
  have hxl:=hle.1;rw[A0D,A0N,A0D,A0K]at hxl;have hbT:CgB (x1.1++⟨14,0⟩ :: T.1,T.2):=⟨by rw[l3];omega,hle.2⟩;repeat' (apply wr<;>try simp only[go_sem,seval,hdj,hcB1,d2,d3])
  refine AC.call (c_emit _ _ _ _ _ _ 14 0 x1 (by omega) _ _ _ _ _ hN) ?_;rintro _ _ c2 ⟨rfl,a2,b2,hN2,rfl⟩ hc2;have hcB2:=hcB hN2;simp only[go_sem,seval];repeat' (apply wr<;>try simp only[go_sem,seval,hcB2])
  refine AC.call (hu _ (by rw[eT];exact hbT) _ _ _ _ _ hN2) ?_;rintro _ _ c3 ⟨rfl,a3,b3,hN3,rfl⟩ hc3;rw[eT]at hN3 ⊢;simp only[go_sem,seval];repeat' (apply wr<;>try simp only[go_sem,seval])
  refine AC.call (c_emit _ _ _ _ _ _ 12 x1.1.length _ (by have:=hbT.1;omega) _ _ _ _ _ hN3) ?_;rintro _ _ c4 ⟨rfl,a4,b4,hN4,rfl⟩ hc4;have e4:(((x1.1++(⟨14,0⟩:Ins) :: T.1,T.2):Cg).1++[⟨12,(x1.1.length:Int)⟩],((x1.1++(⟨14,0⟩:Ins) :: T.1,T.2):Cg).2)=((x1.1++⟨14,0⟩ :: (T.1++[⟨12,(x1.1.length:Int)⟩]),T.2):Cg):=by simp
  rw[e4]at hN4 ⊢;have hpt:=c_patch e p v (.mp .s ks vs) t n 14 0 x1.1 (T.1++[⟨12,(x1.1.length:Int)⟩]) T.2 (by rw[l4];omega);rw[l4]at hpt;simp only[go_sem,seval];repeat' (apply wr<;>try simp only[go_sem,seval])
  refine AC.call (hpt _ _ _ _ _ hN4) ?_;rintro _ _ c5 ⟨rfl,a5,b5,hN5,rfl⟩ hc5;simp only[go_sem,seval];repeat' (apply wr<;>try simp only[go_sem,seval,hw])
  refine⟨(i+1,a5,b5),by simp[],?_,inv ⟨by omega,hlt,?_⟩,by simp only;omega⟩
  ·dsimp only;rw[hsn,hfin];exact Q6 hz0 (by omega) hN5
  ·dsimp only;rw[hsn,hfin];exact hN5.unbox hz0 (by omega) hN0.fr
 have d3:(k == 3)=false:=by simpa using q3
 by_cases q18:k=18
 ·have d18:(k == 18)=true:=by simpa using q18
  subst q18;have hfin:=B2l (nm:=nm) (n:=nn) (t:=tt) (u:=u) (v:=w) (q:=pos) hx1;have hxs:x1.2.length<=99999999:=hxa.2;repeat' (apply wr<;>try simp only[go_sem,seval,hdj,hcB1,d2,d3,d18])
  refine AC.call (c_gtext _ _ _ _ _ _ tt x1 (by omega) _ _ _ _ _ hN) ?_;rintro _ _ c2 ⟨rfl,a2,b2,hN2,rfl⟩ hc2;simp only[go_sem,seval];repeat' (apply wr<;>try simp only[go_sem,seval])
  refine AC.call (c_emit _ _ _ _ _ _ 29 _ _ (by dsimp only;omega) _ _ _ _ _ hN2) ?_;rintro _ _ c3 ⟨rfl,a3,b3,hN3,rfl⟩ hc3;simp only[go_sem,seval];repeat' (apply wr<;>try simp only[go_sem,seval,hw])
  refine⟨(i+1,a3,b3),by simp[],?_,inv ⟨by omega,hlt,?_⟩,by simp only;omega⟩
  ·dsimp only;rw[hsn,hfin];exact Q6 hz0 (by omega) hN3
  ·dsimp only;rw[hsn,hfin];exact hN3.unbox hz0 (by omega) hN0.fr
 have d18:(k == 18)=false:=by simpa using q18
 have hfin:=B2n (nm:=nm) (n:=nn) (t:=tt) (u:=u) (v:=w) (q:=pos) hx1 q2 q3 q18;have hop:=c_opOf k;have hlk:=hm nn;have hfr1:=fun j (hj:c1<=j)=>C5p (mk:=(mkP e p v (.mp .s ks vs) t n)) hN hj;repeat' ((with_reducible first|apply wr|refine cpc hop ?_|fail)<;>try simp only[go_sem,seval,hdj,hM,hcB1,d2,d3,d18,hlk])
 refine⟨by (try and_intros)<;>exact hfr1 _ (by omega),?_⟩;refine AC.call (c_emit _ _ _ _ _ _ _ _ x1 (by omega) _ _ _ _ _ (hN.le (show c1<=c1+12 by omega))) ?_;rintro _ _ c3 ⟨rfl,a3,b3,hN3,rfl⟩ hc3;simp only[go_sem,seval];repeat' (apply wr<;>try simp only[go_sem,seval,hw])
 refine⟨(i+1,a3,b3),by simp[],?_,inv ⟨by omega,hlt,?_⟩,by simp only;omega⟩
 ·dsimp only;rw[hsn,hfin];exact Q6 hz0 (by omega) hN3
 ·dsimp only;rw[hsn,hfin];exact hN3.unbox hz0 (by omega) hN0.fr
theorem c_level(k:Int):PC Tryz.prog 248 [I64 k] (I64 (E5 k)):=by
 refine PC.go A2 ?_;repeat' ((with_reducible first|refine wr ?_|refine wb2 ?_ ?_<;>(intro hb;try simp only[hb])|fail)<;>try simp only[go_sem,seval])
 all_goals
  refine A1 (congrArg I64 ?_);simp only[A1R,beq_eq_false_iff_ne,A0G,A1O]at *;unfold E5;repeat' split
  all_goals omega
theorem c_signs31:PC Tryz.prog 250 [] (A6y C1):=by
 refine PC.ofT A2 rfl (A0A rfl) rfl (L8 _) ?_;repeat' (apply wr<;>try simp only[go_sem,seval])
 exact A2i (xs:=C1.map DV.str) (u:=1) h_same rfl rfl (Q8 _) ⟨[],rfl⟩
theorem c_decls31:PC Tryz.prog 87 [] (A6y C2):=by
 refine PC.ofT A2 rfl (A0A rfl) rfl (L8 _) ?_;repeat' (apply wr<;>try simp only[go_sem,seval])
 exact A2i (xs:=C2.map DV.str) (u:=1) h_same rfl rfl (Q8 _) ⟨[],rfl⟩
theorem c_trigs31:PC Tryz.prog 78 [] (A6y C6):=by
 refine PC.ofT A2 rfl (A0A rfl) rfl (L8 _) ?_;repeat' (apply wr<;>try simp only[go_sem,seval])
 exact A2i (xs:=C6.map DV.str) (u:=1) h_same rfl rfl (Q8 _) ⟨[],rfl⟩
theorem c_stmts31:PC Tryz.prog 176 [] (A6y C0):=by
 refine PC.ofT A2 rfl (A0A rfl) rfl (L8 _) ?_;repeat' (apply wr<;>try simp only[go_sem,seval])
 exact A2i (xs:=C0.map DV.str) (u:=1) h_same rfl rfl (Q8 _) ⟨[],rfl⟩
theorem C9u{K H':Hp}{cc b:Nat}{a b' c e:DV}(l:List Ex)(hK:∀ i,cc<=i->K i=none)(hb0:cc<=b)(hb:H' b=some ⟨5,true,cellsL (l.map Ex.v)⟩)(h:∀ j,j<cc->H' j=K j):
  GL H' [.agg [a,b',c,.slc b 0 l.length,e]] K [.agg [a,b',c,G7 l,e]] :=
 GL.frzS (id:=b) hb rfl (fun j=>by
  by_cases hj:j<cc
  ·exact .inr ⟨by omega,(h j hj).symm⟩
  ·exact .inl (hK j (by omega))) (.cons _ _ _ _ (.agg _ _ (.cons _ _ _ _ (.same _) (.cons _ _ _ _ (.same _) (.cons _ _ _ _ (.same _) (.cons _ _ _ _ (M2 (u:=5) (by simp) (A9f l) ⟨[],by simp⟩) (.cons _ _ _ _ (.same _) .nil)))))) .nil)
theorem A3f(e:Ex):cellsL ([e].map Ex.v)=[I64 e.kind,I64 e.value,.str e.name,G7 e.args,I64 e.pos]:=by
 rw[A0R,Ex.v_w];rfl
theorem C3y(e x:Ex):cellsL ([e,x].map Ex.v)=[I64 e.kind,I64 e.value,.str e.name,G7 e.args,I64 e.pos,I64 x.kind,I64 x.value,.str x.name,G7 x.args,I64 x.pos]:=by
 rw[A0R,A0R,Ex.v_w,Ex.v_w];rfl
abbrev RdC(L:List Tok)(E:Int)(f:Nat)(vs:List DV)(s:Rd)(r:DV × Rd):Prop :=
 ∀ (H:Hp) (cc t:Nat),H t=some (rdR L E s)->t<cc->AC Tryz.prog f (.ptr t 0 :: vs) H cc (fun v H' c'=>v=r.1/\H'=H.upd t (rdR L E r.2))
theorem c_unary(L:List Tok)(E:Int)(hL:L.length<=1000000000)(f:Nat)
  (ib:∀ n s r,1<=n->n<=6->I1 L E f n s=some r->RI L s->RdC L E 257 [I64 n] s (r.1.v,r.2))
  (iu:∀ s r,S0 L E f s=some r->RI L s->RdC L E 270 [] s (r.1.v,r.2))
  (s:Rd) (r:Ex × Rd) (h:S0 L E (f+1) s=some r) (hR:RI L s):RdC L E 270 [] s (r.1.v,r.2):=by
 intro H cc t ht htc;have hri:=hR.i;have hro:=hR.o0;have hro1:=hR.o1;have hp0:=hR.p0;have hp1:=hR.p1;refine AC.bodyT A2 rfl (A0A rfl) fun hfr=>?_;repeat' (apply wr<;>try simp only[go_sem,seval])
 refine AC.call (c_peek L E s _ _ t (by rw[hnO];exact ht) (by omega)) ?_;rintro v H' c1 ⟨rfl,rfl⟩ hc;have ne0:=T8 t cc c1 (c1+1) (by omega);simp only[go_sem,seval,h_same,A0];repeat' (apply wr<;>try simp only[go_sem,seval])
 have ham:=c_amongO L E s ((H.upd cc C3z).upd c1 (tkB (A7 L E s))) (c1+1+1) t (c1+1) (by rw[hnO,hnO];exact hfr _ (by omega)) (by rw[hnO,hnO];exact ht) (by omega) K3 (by decide);refine AC.call ham ?_;rintro v H' c2 ⟨rfl,rfl⟩ hc2;unfold S0 at h;dsimp only at h;have hkr : -1<=A8 L E s K3/\A8 L E s K3<3:=A1h L E s K3 0;have hnn:0<=A8 L E s K3->s.i<L.length:=fun h=>(E2 h).2.1;generalize A8 L E s K3=k at h hkr hnn;have hGt:((H.upd cc C3z).upd c1 (tkB (A7 L E s))) t=some (rdR L E s):=by rw[hnO,hnO];exact ht
 by_cases hk:k<0
 ·rw[if_pos hk]at h;cases h;have hd:decide (k<0)=true:=by simpa using hk
  simp only[go_sem,seval];repeat' (apply wr<;>try simp only[go_sem,seval,hd])
  refine AC.call (c_primary L E s _ _ t hGt (by omega) (by omega) (by omega)) ?_;rintro v H' c3 ⟨rfl,rfl⟩ hc3;simp only[go_sem,seval,ne0,h_same,Ex.v_w];repeat' (apply wr<;>try simp only[go_sem,seval])
  rw[C7 (rv5 rfl h_same)];refine⟨_,_,N9 (cc:=cc) (B7 hfr htc) (fun j hj=>?_),rfl,rfl⟩;simp[Hp.upd,show ¬j=cc by omega,show ¬j=c1 by omega]
 ·rw[if_neg hk]at h;have hd:decide (k<0)=false:=by simpa using hk
  have hw:IntKind.i64.wrap (s.par+1)=s.par+1:=w6z (by omega);have hw2:IntKind.i64.wrap ((s.i:Int)+1)=((s.i+1:Nat):Int):=by rw[w6z (by omega)];omega
  have hw3:IntKind.i64.wrap (10+k)=10+k:=w6z (by omega);simp only[go_sem,seval];repeat' (apply wr<;>try simp only[go_sem,seval,ne0,hd,ht,hw])
  refine AC.call (c_limit L E s _ _ t hGt (by omega) _ _ _) ?_;rintro v H' c3 ⟨rfl,rfl⟩ hc3;simp only[go_sem,seval];repeat' (apply wr<;>try simp only[go_sem,seval])
  refine AC.call (c_rdok L E _ _ _ t h_same (by omega)) ?_;rintro v H' c4 ⟨rfl,rfl⟩ hc4;cases h2:okR (A9 L E s (s.par+1) 16 50) with
  |false =>
   rw[if_pos h2]at h;cases h;simp only[go_sem,seval];repeat' (apply wr<;>try simp only[go_sem,seval,ne0,h_same])
   rw[C7 (rv5 rfl h_same)];refine⟨_,_,A5r (cc:=cc) (B7 hfr htc) (fun j hj=>?_),rfl,rfl⟩;simp[Hp.upd,show ¬j=cc by omega,show ¬j=c1 by omega]
  |true =>
   rw[if_neg (by simp[h2])]at h;obtain⟨h3,h4,h5⟩:=E1 (by decide) h2;rw[h5]at h h2 ⊢;simp only[go_sem,seval];have ne0:=T8 t cc c1 c4 (by omega);have k2:RI L { s with i:=s.i+1,par:=s.par+1 }:=⟨hnn (by omega),hro,hro1,hR.o2,by show 0<=s.par+1;omega,h4⟩;by_cases hk2:k=2
   ·subst hk2;rw[if_pos rfl]at h;cases hb:I1 L E f 1 { s with i:=s.i+1,par:=s.par+1 } with
    |none=>rw[hb]at h;cases h
    |some q =>
     obtain⟨e,s3⟩:=q;rw[hb]at h;dsimp only at h;obtain⟨a1,a2⟩:=(RI.all f).1 _ _ _ hb k2;obtain⟨b1,b2⟩:=a1.exp (E:=E) (x:=[41]);have hi3:=a1.i;dsimp only at a2 b2 hi3;repeat' (apply wr<;>try simp only[go_sem,seval,hw,hw2,h_same,A0])
     refine AC.call (ib 1 _ (e,s3) (by decide) (by decide) hb k2 _ _ t (by rw[hnO,h_same]) (by omega)) ?_;rintro v H' c5 ⟨rfl,rfl⟩ hc5;dsimp only;simp only[go_sem,seval,ne0,h_same,Ex.v_w];repeat' (apply wr<;>try simp only[go_sem,seval])
     refine AC.call (c_expect L E s3 _ _ t (by repeat (first|exact h_same|rw[hnO])) (by omega) (by omega) _) ?_;rintro v H' c6 ⟨rfl,rfl⟩ hc6;obtain⟨s4,hs4⟩:∃ s4,s4=B5 L E s3 [41]:=⟨_,rfl⟩;rw[<- hs4]at h b1 b2 ⊢;have hw5:IntKind.i64.wrap (s4.par-1)=s4.par-1:=w6z (by omega);cases h;simp only[go_sem,seval];repeat' (apply wr<;>try simp only[go_sem,seval,hw5,ne0,h_same,A0])
     rw[C7 (rv5 rfl h_same)];refine⟨_,_,N9 (cc:=cc) (B7 hfr htc) (fun j hj=>?_),rfl,rfl⟩;simp[Hp.upd,show ¬j=cc by omega,show ¬j=c1 by omega,show ¬j=c4 by omega];try (split<;>rfl)
   ·rw[if_neg hk2]at h;have hd2:(k == 2)=false:=by simpa using hk2
    cases hb:S0 L E f { s with i:=s.i+1,par:=s.par+1 } with
    |none=>rw[hb]at h;cases h
    |some q =>
     obtain⟨e,s3⟩:=q;rw[hb]at h;dsimp only at h;obtain⟨a1,a2⟩:=(RI.all f).2.2 _ _ hb k2;dsimp only at a2;repeat' (apply wr<;>try simp only[go_sem,seval,hw,hw2,hw3,hd2,ne0,h_same,A0])
     refine AC.call (iu _ (e,s3) hb k2 _ _ t (by rw[hnO,h_same]) (by omega)) ?_;rintro v H' c5 ⟨rfl,rfl⟩ hc5;have hw5:IntKind.i64.wrap (s3.par-1)=s3.par-1:=w6z (by omega);cases h;have ne0:=A2m t cc c1 c4 (c4+1+4) (by omega);simp only[go_sem,seval,ne0,h_same,Ex.v_w];repeat' (apply wr<;>try simp only[go_sem,seval,ne0,h_same,A0])
     and_intros
     all_goals try (first|rw[hw3]|((repeat rw[hnO]);exact hfr _ (by omega)))
     repeat' (apply wr<;>try simp only[go_sem,seval,hw5,ne0,h_same])
     rw[C7 (rv5 rfl h_same)];refine⟨_,_,C9u (cc:=cc) (b:=c4+1+4) [e] (B7 hfr htc) (by omega) ?_ (fun j hj=>?_),rfl,rfl⟩
     ·rw[A3f];dsimp only
      repeat (first|exact h_same|rw[hnO])
     simp[Hp.upd,show ¬j=cc by omega,show ¬j=c1 by omega,show ¬j=c4 by omega,show ¬j=c4+1+4 by omega];try (split<;>rfl)
abbrev exB(e:Ex):Blk:=⟨0,true,[I64 e.kind,I64 e.value,.str e.name,G7 e.args,I64 e.pos]⟩
theorem c_binary(L:List Tok)(E:Int)(hL:L.length<=1000000000)(f:Nat)
  (ib:∀ g,g<=f->∀ n s r,1<=n->n<=6->I1 L E g n s=some r->RI L s->RdC L E 257 [I64 n] s (r.1.v,r.2))
  (iu:∀ s r,S0 L E f s=some r->RI L s->RdC L E 270 [] s (r.1.v,r.2))
  (n:Int) (s:Rd) (r:Ex × Rd) (hn1:1<=n) (hn6:n<=6) (h:I1 L E (f+1) n s=some r) (hR:RI L s):RdC L E 257 [I64 n] s (r.1.v,r.2):=by
 intro H cc t ht htc;refine AC.bodyT A2 rfl (A0A rfl) fun hfr=>?_;unfold I1 at h;have ne0:=X4 t cc (by omega);by_cases h5:5<n
 ·rw[if_pos h5]at h;have hd:decide (n>5)=true:=by simpa using h5
  repeat' (apply wr<;>try simp only[go_sem,seval,hd])
  refine AC.call (iu _ _ h hR _ _ t (by rw[hnO];exact ht) (by omega)) ?_;rintro v H' c1 ⟨rfl,rfl⟩ hc1;dsimp only;simp only[go_sem,seval,ne0,h_same,Ex.v_w];repeat' (apply wr<;>try simp only[go_sem,seval])
  rw[C7 (rv5 rfl h_same)];refine⟨_,_,N9 (cc:=cc) (B7 hfr htc) (fun j hj=>?_),rfl,rfl⟩;simp[Hp.upd,show ¬j=cc by omega]
 rw[if_neg h5]at h;have hd:decide (n>5)=false:=by simpa using h5
 have hw:IntKind.i64.wrap (n+1)=n+1:=w6z (by omega);cases hb:I1 L E f (n+1) s with
 |none=>rw[hb]at h;cases h
 |some q =>
  obtain⟨e,s1⟩:=q;rw[hb]at h;dsimp only at h;obtain⟨a1,a2⟩:=(RI.all f).1 _ _ _ hb hR;dsimp only at a1;repeat' (apply wr<;>try simp only[go_sem,seval,hd,hw])
  refine AC.call (ib f (A0C _) (n+1) _ _ (by omega) (by omega) hb hR _ _ t (by rw[hnO];exact ht) (by omega)) ?_;rintro v H' c1 ⟨rfl,rfl⟩ hc1;dsimp only;have ne0:=U6 t cc c1 (by omega);simp only[go_sem,seval,h_same,A0,Ex.v_w];repeat' (apply wr<;>try simp only[go_sem,seval])
  refine C7t (fun _:Nat × Ex × Rd=>[(0,.ptr t 0),(1,I64 n),(4,.ptr cc 0),(5,.ptr c1 0)]) (fun q=>((H.upd cc C3z).upd t (rdR L E q.2.2)).upd c1 (exB q.2.1))
   (fun q c=>c1+1<=c/\q.1<=f/\N6 L E q.1 n q.2.1 q.2.2=some r/\RI L q.2.2) (fun q=>q.1) (f,e,s1) (fun b=>by simp[B9,tm,Tm.upd]) (by simp[B9,tm,Tm.upd]) (Sub.refl _) ⟨A0C _,A0C _,h,a1⟩ ?_
  clear h hb a1 a2 s1 e;rintro⟨g,e,s1⟩ c ⟨hc,hg,hv,k1⟩;dsimp only at hc hg hv k1 ⊢;have hri:=k1.i;cases g with
  |zero=>simp[N6]at hv
  |succ g =>
  unfold N6 at hv;dsimp only at hv;have hTt:∀ b:Blk,(((H.upd cc C3z).upd t (rdR L E s1)).upd c1 b) t=some (rdR L E s1):=fun b=>by rw[hnO,h_same]
  repeat' ((with_reducible first|apply wr|refine cpc c_signs31 ?_|fail)<;>try simp only[go_sem,seval])
  refine AC.call (c_among L E s1 _ _ t (hTt _) (by omega) C1 (by decide)) ?_;rintro v H' c2 ⟨rfl,rfl⟩ hc2;have hkr : -1<=A8 L E s1 C1/\A8 L E s1 C1<13:=A1h L E s1 C1 0;have hnn:0<=A8 L E s1 C1->s1.i<L.length:=fun h=>(E2 h).2.1;generalize A8 L E s1 C1=k at hv hkr hnn;have hwk:IntKind.i64.wrap (12+k)=12+k:=w6z (by omega);by_cases hk:k<0
  ·rw[if_pos (.inl hk)]at hv;cases hv;have hdk:decide (k<0)=true:=by simpa using hk
   simp only[go_sem,seval];repeat' (apply wr<;>try simp only[go_sem,seval,ne0,hdk,h_same])
   rw[C7 (rv5 rfl h_same)];refine⟨_,_,N9 (cc:=cc) (B7 hfr htc) (fun j hj=>?_),rfl,rfl⟩;simp[Hp.upd,show ¬j=cc by omega,show ¬j=c1 by omega]
  have hdk:decide (k<0)=false:=by simpa using hk
  by_cases hl:E5 (12+k)=n
  ·rw[if_neg (by omega)]at hv;have hdl:(E5 (12+k) != n)=false:=by simp[hl]
   simp only[go_sem,seval];repeat' ((with_reducible first|refine wr ?_|refine cpc (c_level _) ?_|fail)<;>try simp only[go_sem,seval,hdk,hwk,hdl])
   cases hb:I1 L E g (n+1) (A6 s1) with
   |none=>rw[hb]at hv;cases hv
   |some q =>
    obtain⟨x,s2⟩:=q;rw[hb]at hv;dsimp only at hv;have k2:=k1.nxt (hnn (by omega));obtain⟨b1,b2⟩:=(RI.all g).1 _ _ _ hb k2;dsimp only at b1;have hw2:IntKind.i64.wrap ((s1.i:Int)+1)=((s1.i+1:Nat):Int):=by rw[w6z (by omega)];omega
    refine AC.call (c_peek L E s1 _ _ t (hTt _) (by omega)) ?_;rintro v H' c3 ⟨rfl,rfl⟩ hc3;have ne0:=A2m t cc c1 c3 (c3+7) (by omega);simp only[go_sem,seval];repeat' (apply wr<;>try simp only[go_sem,seval,hw2,hwk,hw,ne0,h_same])
    refine AC.call (ib g (by omega) (n+1) (A6 s1) (x,s2) (by omega) (by omega) hb k2 _ _ t (by repeat (first|exact h_same|rw[hnO])) (by omega)) ?_;rintro v H' c4 ⟨rfl,rfl⟩ hc4;dsimp only;simp only[go_sem,seval,ne0,h_same,A0,Ex.v_w];repeat' (apply wr<;>try simp only[go_sem,seval,ne0,h_same,A0])
    and_intros
    all_goals try (first|rw[hwk]|((repeat rw[hnO]);exact hfr _ (by omega)))
    by_cases h3:n=3
    ·rw[if_pos h3]at hv;cases hv;have hd3:(n == 3)=true:=by simpa using h3
     repeat' (apply wr<;>try simp only[go_sem,seval,hd3,ne0,h_same])
     rw[C7 (rv5 rfl h_same)];refine⟨_,_,C9u (cc:=cc) (b:=c3+7) [e,x] (B7 hfr htc) (by omega) ?_ (fun j hj=>?_),rfl,rfl⟩
     ·rw[C3y];dsimp only
      repeat (first|exact h_same|rw[hnO])
     simp[Hp.upd,show ¬j=cc by omega,show ¬j=c1 by omega,show ¬j=c3+7 by omega];try (split<;>rfl)
    ·rw[if_neg h3]at hv;have hd3:(n == 3)=false:=by simpa using h3
     repeat' (apply wr<;>try simp only[go_sem,seval,hd3])
     refine⟨(g,.mk (12+k) 0 [] [e,x] (A7 L E s1).pos,s2),?_,inv ⟨by omega,by simp only;omega,hv,b1⟩,by simp only;omega⟩;refine GL.frzT (id:=c3+7) (b:=⟨5,true,cellsL ([e,x].map Ex.v)⟩) ?_ rfl (fun j=>?_) (FzL.refl _)
     ·rw[C3y]
      repeat (first|exact h_same|rw[hnO])
     by_cases j1:j=c1
     ·subst j1;refine .inr ⟨by omega,.inr ⟨_,_,h_same,h_same,rfl,rfl,.cons _ _ _ _ (.same _) (.cons _ _ _ _ (.same _) (.cons _ _ _ _ (.same _) (.cons _ _ _ _ (M2 (u:=5) (xs:=[e,x].map Ex.v) (by simp) (A9f _) ⟨[],by simp⟩) (.cons _ _ _ _ (.same _) .nil)))),by simp[DV.one]⟩⟩
     ·by_cases j2:j=c3+7
      ·subst j2;left
       repeat rw[hnO]
       exact hfr _ (by omega)
      ·refine .inr ⟨j2,.inl ?_⟩;simp[Hp.upd,j1,j2];try (split<;>rfl)
  ·rw[if_pos (.inr hl)]at hv;cases hv;have hdl:(E5 (12+k) != n)=true:=by simpa using hl
   simp only[go_sem,seval];repeat' ((with_reducible first|refine wr ?_|refine cpc (c_level _) ?_|fail)<;>try simp only[go_sem,seval,ne0,hdk,hwk,hdl,h_same])
   rw[C7 (rv5 rfl h_same)];refine⟨_,_,N9 (cc:=cc) (B7 hfr htc) (fun j hj=>?_),rfl,rfl⟩;simp[Hp.upd,show ¬j=cc by omega,show ¬j=c1 by omega]
theorem c_bu(L:List Tok)(E:Int)(hL:L.length<=1000000000):∀ f:Nat,(∀ n s r,1<=n->n<=6->I1 L E f n s=some r->RI L s->RdC L E 257 [I64 n] s (r.1.v,r.2))/\(∀ s r,S0 L E f s=some r->RI L s->RdC L E 270 [] s (r.1.v,r.2)):=by
 intro f
 induction f using Nat.strongRecOn with
 |_ f ih =>
  cases f with
  |zero=>exact⟨fun n s r _ _ h=>by simp[I1]at h,fun s r h=>by simp[S0]at h⟩
  |succ f =>
   exact⟨fun n s r h1 h2 h hR=>c_binary L E hL f (fun g hg=>(ih g (by omega)).1) (ih f (by omega)).2 n s r h1 h2 h hR,
    fun s r h hR=>c_unary L E hL f (ih f (by omega)).1 (ih f (by omega)).2 s r h hR⟩
theorem c_expression(L:List Tok)(E:Int)(hL:L.length<=1000000000)(f:Nat)(s:Rd)(r:Ex × Rd)(h:M4 L E f s=some r)(hi:s.i<=L.length):RdC L E 235 [] s (r.1.v,r.2):=by
 intro H cc t ht htc;refine AC.bodyT A2 rfl (A0A rfl) fun hfr=>?_;have ne0:=X4 t cc (by omega);repeat' (apply wr<;>try simp only[go_sem,seval,ht,ne0,h_same,A0])
 refine AC.call ((c_bu L E hL f).1 1 { s with ops:=0,par:=0 } r (by decide) (by decide) h ⟨hi,A3G 0,(by decide:(0:Int)<=33),fun _=>(by decide:(0:Int)<=32),A3G 0,(by decide:(0:Int)<=16)⟩ _ _ t (by exact h_same) (by omega)) ?_;rintro v H' c1 ⟨rfl,rfl⟩ hc1;dsimp only;simp only[go_sem,seval,ne0,h_same,A0,Ex.v_w];repeat' (apply wr<;>try simp only[go_sem,seval])
 rw[C7 (rv5 rfl h_same)];refine⟨_,_,N9 (cc:=cc) (B7 hfr htc) (fun j hj=>?_),rfl,rfl⟩;simp[Hp.upd,show ¬j=cc by omega];try (split<;>rfl)
abbrev x236:XT Tryz.prog 236:=mkF
instance t236:FT Tryz.prog 236 x236.d:=x236.ft
theorem C3u{K H':Hp}{cc b:Nat}(l:List Pb.St)(hK:∀ i,cc<=i->K i=none)(hb0:cc<=b)(hb:H' b=some ⟨7,true,cellsL (l.map Pb.St.v)⟩)(h:∀ j,j<cc->H' j=K j):
  GL H' [.slc b 0 l.length] K [D2 l] :=
 GL.frzS (id:=b) hb rfl (fun j=>by
  by_cases hj:j<cc
  ·exact .inr ⟨by omega,(h j hj).symm⟩
  ·exact .inl (hK j (by omega))) (.cons _ _ _ _ (M2 (u:=7) (by simp) (B5s l) ⟨[],by simp⟩) .nil)
theorem C9e(e:Pb.St):cellsL ([e].map Pb.St.v)=[I64 e.kind,.str e.name,.str e.text,G7 e.args,D2 e.thn,D2 e.els,I64 e.pos]:=by
 rw[A0R,Pb.St.v_w];rfl
theorem c_other(L:List Tok)(E:Int)(hL:L.length<=1000000000)(f:Nat)
  (is:∀ d s r,0<=d->d<=100->P9 L E f d s=some r->s.i<=L.length->RdC L E 193 [I64 d] s (r.1.v,r.2))
  (ib:∀ d s r,0<=d->d<=100->K7 L E f d s=some r->s.i<=L.length->RdC L E 143 [I64 d] s (D2 r.1,r.2))
  (d:Int) (s:Rd) (r:List Pb.St × Rd) (hd0:0<=d) (hd:d<=99) (h:P2 L E (f+1) d s=some r) (hi:s.i<=L.length):RdC L E 236 [I64 d] s (D2 r.1,r.2):=by
 intro H cc t ht htc;refine AC.bodyT A2 rfl (A0A rfl) fun hfr=>?_;unfold P2 at h;have hw:IntKind.i64.wrap (d+1)=d+1:=w6z (by omega);repeat' (apply wr<;>try simp only[go_sem,seval])
 refine AC.call (c_is L E s _ _ t ht (by omega) _) ?_;rintro v H' c1 ⟨rfl,rfl⟩ hc1;cases hq:isR L E s [105,102] with
 |true =>
  rw[if_pos hq]at h;cases hs:P9 L E f (d+1) s with
  |none=>rw[hs]at h;cases h
  |some q =>
   obtain⟨x,s1⟩:=q;rw[hs]at h;cases h;simp only[go_sem,seval];repeat' (apply wr<;>try simp only[go_sem,seval,hw])
   refine AC.call (is (d+1) s (x,s1) (by omega) (by omega) hs hi _ _ t ht (by omega)) ?_;rintro v H' c2 ⟨rfl,rfl⟩ hc2;dsimp only;simp only[go_sem,seval,Pb.St.v_w];repeat' (apply wr<;>try simp only[go_sem,seval])
   exact⟨_,_,C3u (cc:=cc) [x] (B7 hfr htc) (by omega) (by rw[C9e];exact h_same) (fun j hj=>by rw[hnO]),rfl,rfl⟩
 |false =>
  rw[if_neg (by simp[hq])]at h;simp only[go_sem,seval];repeat' (apply wr<;>try simp only[go_sem,seval,hw])
  refine AC.call (ib (d+1) s r (by omega) (by omega) h hi _ _ t ht (by omega)) ?_;rintro v H' c2 ⟨rfl,rfl⟩ hc2;simp only[go_sem,seval];repeat' (apply wr<;>try simp only[go_sem,seval])
  exact⟨_,_,GL.refl _ _,rfl,rfl⟩
theorem B1v{K H':Hp}{cc:Nat}{o:Option Nat}(l:List Pb.St)(hK:∀ i,cc<=i->K i=none)(ho:∀ i,o=some i->cc<=i)(hno:o=none->l=[])(hb:∀ i,o=some i->H' i=some ⟨7,true,cellsL (l.map Pb.St.v)⟩)(h:∀ j,j<cc->H' j=K j):
  GL H' [todoV o l.length] K [D2 l]:=by
 cases o with
 |none =>
  obtain rfl:=hno rfl;exact (N9 hK h).trans (GL.view fun ρ vs hA=>arel_one (fun v h=>h.snil_lst) vs hA)
 |some b=>exact C3u l hK (ho b rfl) (hb b rfl) h
theorem c_block(L:List Tok)(E:Int)(hL:L.length<=1000000000)(f:Nat)
  (is:∀ g,g<=f->∀ d s r,0<=d->d<=100->P9 L E g d s=some r->s.i<=L.length->RdC L E 193 [I64 d] s (r.1.v,r.2))
  (d:Int) (s:Rd) (r:List Pb.St × Rd) (hd0:0<=d) (hd:d<=100) (h:K7 L E (f+1) d s=some r) (hi:s.i<=L.length):RdC L E 143 [I64 d] s (D2 r.1,r.2):=by
 intro H cc t ht htc;refine AC.bodyT A2 rfl (A0A rfl) fun hfr=>?_;unfold K7 at h;repeat' (apply wr<;>try simp only[go_sem,seval])
 refine AC.call (c_expect L E s _ _ t ht (by omega) (by omega) _) ?_;rintro v H' c1 ⟨rfl,rfl⟩ hc1;simp only[go_sem,seval];repeat' (apply wr<;>try simp only[go_sem,seval])
 refine B6 (fun q:Nat × Option Nat × List Pb.St × Rd=>[(0,.ptr t 0),(1,I64 d),(5,todoV q.2.1 q.2.2.1.length)]) (fun q=>optH (H.upd t (rdR L E q.2.2.2)) q.2.1 ⟨7,true,cellsL (q.2.2.1.map Pb.St.v)⟩)
  (fun q c=>cc<=c/\q.1<=f/\q.2.2.2.i<=L.length/\(q.2.1=none->q.2.2.1=[])/\(∀ i,q.2.1=some i->cc<=i/\i<c)/\q.2.2.1.length<=65/\(okR q.2.2.2=true->q.2.2.1.length<=64)/\P5 L E q.1 d q.2.2.1 q.2.2.2=some r) (fun q=>q.1) (f,none,[],B5 L E s [123])
  (by simp[B9,tm,Tm.upd,todoV]) (Sub.refl _) ⟨hc1,A0C _,G6 hi,fun _=>rfl,(fun i hi=>by cases hi),by simp,fun _=>by simp,h⟩ ?_
 clear h hi;rintro⟨g,o,l,u⟩ c ⟨hc,hg,hi,hno,ho,hl1,hl2,hv⟩;dsimp only at hc hg hi hno ho hl1 hl2 hv ⊢;have hHt:optH (H.upd t (rdR L E u)) o ⟨7,true,cellsL (l.map Pb.St.v)⟩ t=some (rdR L E u):=by rw[B1 (fun i hi=>by have:=ho i hi;omega),h_same]
 have hfin:∀ (z:Rd) (j:Nat),j<cc->((optH (H.upd t (rdR L E u)) o ⟨7,true,cellsL (l.map Pb.St.v)⟩).upd t (rdR L E z)) j=(H.upd t (rdR L E z)) j:=fun z j hj=>by
  by_cases ej:j=t
  ·subst ej;rw[h_same,h_same]
  ·rw[h_ne ej,h_ne ej,B1 (fun i hi=>by have:=ho i hi;omega),h_ne ej]
 have hbo:∀ (z:Rd) (i:Nat),o=some i->((optH (H.upd t (rdR L E u)) o ⟨7,true,cellsL (l.map Pb.St.v)⟩).upd t (rdR L E z)) i=some ⟨7,true,cellsL (l.map Pb.St.v)⟩:=fun z i hi=>by
  have:=ho i hi;rw[hnO];subst hi;exact h_same
 cases g with
 |zero=>simp[P5]at hv
 |succ g =>
 unfold P5 at hv;repeat' (apply wr<;>try simp only[go_sem,seval])
 refine AC.call (c_rdok L E u _ _ t hHt (by omega)) ?_;rintro v H' c2 ⟨rfl,rfl⟩ hc2;cases hok:okR u with
 |false =>
  rw[if_neg (by simp[hok])]at hv;cases hv;simp only[go_sem,seval];repeat' (apply wr<;>try simp only[go_sem,seval])
  refine AC.call (c_expect L E u _ _ t hHt (by omega) (by omega) _) ?_;rintro v H' c3 ⟨rfl,rfl⟩ hc3;simp only[go_sem,seval];repeat' (apply wr<;>try simp only[go_sem,seval])
  exact⟨_,_,B1v (cc:=cc) l (B7 hfr htc) (fun i hi=>(ho i hi).1) hno (hbo _) (hfin _),rfl,rfl⟩
 |true =>
  simp only[go_sem,seval];repeat' (apply wr<;>try simp only[go_sem,seval,hok])
  refine AC.call (c_is L E u _ _ t hHt (by omega) _) ?_;rintro v H' c3 ⟨rfl,rfl⟩ hc3;cases hq:isR L E u [125] with
  |true =>
   rw[if_neg (by simp[hq])]at hv;cases hv;simp only[go_sem,seval];repeat' (apply wr<;>try simp only[go_sem,seval])
   refine AC.call (c_expect L E u _ _ t hHt (by omega) (by omega) _) ?_;rintro v H' c4 ⟨rfl,rfl⟩ hc4;simp only[go_sem,seval];repeat' (apply wr<;>try simp only[go_sem,seval])
   exact⟨_,_,B1v (cc:=cc) l (B7 hfr htc) (fun i hi=>(ho i hi).1) hno (hbo _) (hfin _),rfl,rfl⟩
  |false =>
   rw[if_pos ⟨hok,hq⟩]at hv;simp only[go_sem,seval];repeat' ((with_reducible first|apply wr|refine cpc c_stmts31 ?_|fail)<;>try simp only[go_sem,seval])
   refine AC.call (c_among L E u _ _ t hHt (by omega) C0 (by decide)) ?_;rintro v H' c4 ⟨rfl,rfl⟩ hc4;generalize A8 L E u C0=k at hv;have hlen:A5l (todoV o l.length)=some (I64 l.length):=by
    cases o with
    |none=>rw[hno rfl];rfl
    |some b=>rfl
   have hwl:IntKind.i64.wrap ((l.length:Int)+1)=(l.length:Int)+1:=w6z (by omega);by_cases hsy:k<0/\F9 L E u 1=false
   ·rw[if_pos hsy]at hv;cases hv;have hdk:decide (k<0)=true:=by simpa using hsy.1
    have h1:=hsy.2;simp only[go_sem,seval,hdk];repeat' (apply wr<;>try simp only[go_sem,seval,hdk])
    refine AC.call (c_isKind L E u _ _ t hHt (by omega) 1) ?_;rintro v H' c5 ⟨rfl,rfl⟩ hc5;simp only[go_sem,seval,h1];repeat' (apply wr<;>try simp only[go_sem,seval])
    refine AC.call (c_syntax L E u _ _ t hHt (by omega)) ?_;rintro v H' c6 ⟨rfl,rfl⟩ hc6;simp only[go_sem,seval];repeat' (apply wr<;>try simp only[go_sem,seval])
    exact⟨_,_,(N9 (cc:=cc) (B7 hfr htc) (hfin _)).trans (GL.view fun ρ vs hA=>arel_one (fun v h=>h.snil_lst) vs hA),rfl,rfl⟩
   rw[if_neg hsy]at hv;cases hs:P9 L E g d (A9 L E u ((l.length:Int)+1) 64 9) with
   |none=>rw[hs]at hv;cases hv
   |some q =>
   obtain⟨x,s1⟩:=q;rw[hs]at hv;dsimp only at hv;have hix:=(II.all g).2.2.1 _ _ _ hs (by rw[D8];exact hi);have hnok:=D1a hs;have hll:=hl2 hok;have hlk:okR s1=true->l.length+1<=64:=fun h=>by
    cases hz:okR (A9 L E u ((l.length:Int)+1) 64 9) with
    |false=>rw[hnok hz]at h;cases h
    |true=>have:=(E1 (by decide) hz).2.1;omega
   rcases (show ¬ k<0\/(k<0/\F9 L E u 1=true) by
    by_cases hk:k<0
    ·exact .inr ⟨hk,by cases h1:F9 L E u 1 with|true=>rfl|false=>exact absurd ⟨hk,h1⟩ hsy⟩
    ·exact .inl hk) with hk|⟨hk,h1⟩
   case' inl =>
    have hdk:decide (k<0)=false:=by simpa using hk
    simp only[go_sem,seval,hdk];repeat' ((with_reducible first|refine F6 (p:=IW _ _ (pz Tryz.prog 143 (.i (.i (.o (.i .h))))) _ _) ?_|refine wr ?_|fail)<;>try simp only[go_sem,seval])
    obtain⟨c5,hc5,e5⟩:∃ c5,c4<=c5/\c5=c4:=⟨c4,A0C _,rfl⟩;rw[<- e5];clear e5 hdk hk
   case' inr =>
    have hdk:decide (k<0)=true:=by simpa using hk
    simp only[go_sem,seval,hdk];repeat' (apply wr<;>try simp only[go_sem,seval,hdk])
    refine AC.call (c_isKind L E u _ _ t hHt (by omega) 1) ?_;rintro v H' c5 ⟨rfl,rfl⟩ hc5;simp only[go_sem,seval,h1];repeat' ((with_reducible first|refine F6 (p:=IW _ _ (pz Tryz.prog 143 (.i (.i (.o (.i .h))))) _ _) ?_|refine wr ?_|fail)<;>try simp only[go_sem,seval])
    clear hdk hk h1
   all_goals
    unfold C5o;repeat' (apply wr<;>try simp only[go_sem,seval,hlen,hwl])
    refine AC.call (c_limit L E u _ _ t hHt (by omega) _ _ _) ?_;rintro v H' c6 ⟨rfl,rfl⟩ hc6;simp only[go_sem,seval];repeat' (apply wr<;>try simp only[go_sem,seval])
    refine AC.call (is g (by omega) d _ (x,s1) hd0 hd hs (by rw[D8];exact hi) _ _ t h_same (by omega)) ?_;rintro v H' c7 ⟨rfl,rfl⟩ hc7;dsimp only;have ne0:=U6 t c7 (c7+1) (by omega);simp only[go_sem,seval,A0,Pb.St.v_w];repeat' (apply wr<;>try simp only[go_sem,seval,ne0])
    refine O7 (E8 (cs:=cellsL (l.map Pb.St.v)) (fun e=>by rw[hno e];exact⟨rfl,rfl⟩) (fun i hi=>?_) (by rw[C4 (u:=7) (B5s _)];simp) (by omega) (by omega) (by omega)) ?_
    ·have:=ho i hi;rw[hnO];exact hbo _ i hi
    simp only[go_sem,seval];repeat' (apply wr<;>try simp only[go_sem,seval,ne0])
    refine⟨(g,some (c7+1),l++[x],s1),by simp only[A0D,A0K];rfl,?_,inv ⟨by omega,by simp only;omega,hix,(fun h=>by cases h),(fun i hi=>by cases hi;omega),by simp only[A0D,A0K];omega,(fun h=>by have:=hlk h;simp only[A0D,A0K];omega),hv⟩,by simp only;omega⟩;intro jj b hj;simp only[optH]at hj;by_cases e1:jj=c7+1
    ·subst e1;rw[h_same]at hj ⊢;rw[<- hj,A1K,F3,C9e]
    ·rw[h_ne e1]at hj ⊢;by_cases e2:jj=t
     ·subst e2;rw[h_same]at hj;rw[B4 (fun i hi=>by have:=ho i hi;omega),hnO,h_same];exact hj
     ·rw[h_ne e2]at hj;have hjc:jj<cc:=Classical.byContradiction fun h=>by rw[hfr jj (by omega)]at hj;cases hj
      rw[B4 (fun i hi=>by have:=ho i hi;omega),hnO,h_ne e2,B1 (fun i hi=>by have:=ho i hi;omega),h_ne e2];exact hj
end Go.Proofs.YtenmhfknbopmeaaGreatDoor
set_option maxHeartbeats 8000000
namespace Go.Proofs.YtenmhfknbopmeaaGreatDoor
open Go.Eng (IC IOper DReg IFn I5)
open Go.Sym Go.Pb
def NlR(a b:DV):Prop:=b=a\/(a=.snil/\b=.lst [])
theorem NlR.v{ρ : Ren}{v:Value}{a b:DV}(h:NlR a b)(k:VRel ρ a v):VRel ρ b v:=by
 rcases h with rfl|⟨rfl,rfl⟩
 ·exact k
 ·exact k.snil_lst
theorem D5s{ρ : Ren}{v:Value}{a b c d e f g d' e' f':DV}(hd:NlR d d')(he:NlR e e')(hf:NlR f f')(h:VRel ρ (.agg [a,b,c,d,e,f,g]) v):VRel ρ (.agg [a,b,c,d',e',f',g]) v:=by
 obtain⟨bb,rfl,k1,k2⟩:=h.agg_inv;refine .agg _ _ k1 fun j x y hx hy=>?_
 match j with
 |0=>cases hx;exact k2 0 _ y rfl hy
 |1=>cases hx;exact k2 1 _ y rfl hy
 |2=>cases hx;exact k2 2 _ y rfl hy
 |3=>cases hx;exact hd.v (k2 3 _ y rfl hy)
 |4=>cases hx;exact he.v (k2 4 _ y rfl hy)
 |5=>cases hx;exact hf.v (k2 5 _ y rfl hy)
 |6=>cases hx;exact k2 6 _ y rfl hy
 |_+7=>cases hx
theorem C3t{K H':Hp}{cc:Nat}{a b c d e f g d' e' f':DV}(hd:NlR d d')(he:NlR e e')(hf:NlR f f')(hK:∀ i,cc<=i->K i=none)(h:∀ j,j<cc->H' j=K j):GL H' [.agg [a,b,c,d,e,f,g]] K [.agg [a,b,c,d',e',f',g]] :=
 (N9 hK h).trans (GL.view fun ρ vs hA=>arel_one (fun v h=>D5s hd he hf h) vs hA)
theorem Z3{K H':Hp}{cc i:Nat}{a b c e f g e' f':DV}(l:List Ex)(he:NlR e e')(hf:NlR f f')(hK:∀ i,cc<=i->K i=none)(hi0:cc<=i)(hb:H' i=some ⟨5,true,cellsL (l.map Ex.v)⟩)(h:∀ j,j<cc->H' j=K j):GL H' [.agg [a,b,c,.slc i 0 l.length,e,f,g]] K [.agg [a,b,c,G7 l,e',f',g]] :=
 (GL.frzS (id:=i) hb rfl (fun j=>by
  by_cases hj:j<cc
  ·exact .inr ⟨by omega,(h j hj).symm⟩
  ·exact .inl (hK j (by omega))) (.cons _ _ _ _ (.agg _ _ (.cons _ _ _ _ (.same _) (.cons _ _ _ _ (.same _) (.cons _ _ _ _ (.same _) (.cons _ _ _ _ (M2 (u:=5) (by simp) (A9f l) ⟨[],by simp⟩) (.cons _ _ _ _ (.same _) (.cons _ _ _ _ (.same _) (.cons _ _ _ _ (.same _) .nil)))))))) .nil)).trans (GL.view fun ρ vs hA=>arel_one (fun v h=>D5s (.inl rfl) he hf h) vs hA)
theorem rv7{s:Sym.St}{x i u:Nat}{a b c d e f g:DV}{o:Bool}(h:s.T x=.ptr i 0)(hb:s.H i=some ⟨u,o,[a,b,c,d,e,f,g]⟩):resV s [.cell x 7 true]=some (.agg [a,b,c,d,e,f,g]):=by
 simp only[resV,A0q,h,ldv,hb];rfl
theorem c_statement(L:List Tok)(E:Int)(hL:L.length<=1000000000)(f:Nat)
  (ib:∀ d s r,0<=d->d<=100->K7 L E f d s=some r->s.i<=L.length->RdC L E 143 [I64 d] s (D2 r.1,r.2))
  (io:∀ d s r,0<=d->d<=99->P2 L E f d s=some r->s.i<=L.length->RdC L E 236 [I64 d] s (D2 r.1,r.2))
  (d:Int) (s0:Rd) (r:Pb.St × Rd) (hd0:0<=d) (hd:d<=100) (h:P9 L E (f+1) d s0=some r) (hi:s0.i<=L.length):RdC L E 193 [I64 d] s0 (r.1.v,r.2):=by
 intro H cc t ht htc;refine AC.bodyT A2 rfl (A0A rfl) fun hfr=>?_;unfold P9 at h;dsimp only at h;repeat' (apply wr<;>try simp only[go_sem,seval])
 refine AC.call (c_limit L E s0 _ _ t (by rw[hnO];exact ht) (by omega) _ _ _) ?_;rintro v H' c1 ⟨rfl,rfl⟩ hc1;have his:(A9 L E s0 d 8 50).i<=L.length:=by rw[D8];exact hi
 generalize hsq:A9 L E s0 d 8 50=s at *;have ne0:=X4 t cc (by omega);simp only[go_sem,seval];repeat' (apply wr<;>try simp only[go_sem,seval])
 refine AC.call (c_rdok L E s _ _ t h_same (by omega)) ?_;rintro v H' c2 ⟨rfl,rfl⟩ hc2;cases hok:okR s with
 |false =>
  rw[if_pos hok]at h;cases h;simp only[go_sem,seval];repeat' (apply wr<;>try simp only[go_sem,seval,ne0,h_same])
  rw[C7 (rv7 rfl h_same)];refine⟨_,_,C3t (cc:=cc) (.inr ⟨rfl,rfl⟩) (.inr ⟨rfl,rfl⟩) (.inr ⟨rfl,rfl⟩) (B7 hfr htc) (fun j hj=>?_),rfl,rfl⟩;simp[Hp.upd,show ¬j=cc by omega]
 |true =>
  rw[if_neg (by simp[hok])]at h;have hd8:d<=8:=by rw[<- hsq]at hok;exact (E1 (by decide) hok).2.1
  simp only[go_sem,seval];repeat' (apply wr<;>try simp only[go_sem,seval])
  refine AC.call (c_peek L E s _ _ t h_same (by omega)) ?_;rintro v H' c3 ⟨rfl,rfl⟩ hc3;have ne0:=U6 t cc c3 (by omega);simp only[go_sem,seval];repeat' ((with_reducible first|apply wr|refine cpc c_stmts31 ?_|fail)<;>try simp only[go_sem,seval,A0])
  refine AC.call (c_among L E s _ _ t (by rw[hnO];exact h_same) (by omega) C0 (by decide)) ?_;rintro v H' c4 ⟨rfl,rfl⟩ hc4;have hkr : -1<=A8 L E s C0/\A8 L E s C0<18:=A1h L E s C0 0;have hnn:0<=A8 L E s C0->s.i<L.length:=fun h=>(E2 h).2.1;generalize A8 L E s C0=k at h hkr hnn;generalize (A7 L E s).pos=p at h ⊢;have hti:=I6 (E:=E) (x:=1) (by decide) his;by_cases hk:k<0
  ·rw[if_pos hk]at h;have hdk:decide (k<0)=true:=by simpa using hk
   cases hz5:M4 L E f (B5 L E (A4 L E s 1).2 [61]) with
   |none=>rw[hz5]at h;cases h
   |some qhz5 =>
    obtain⟨e,s1⟩:=qhz5;rw[hz5]at h;dsimp only at h;cases h;simp only[go_sem,seval];repeat' (apply wr<;>try simp only[go_sem,seval,hdk])
    refine AC.call (c_name L E s _ _ t (by repeat (first|exact h_same|rw[hnO]|rw[D5 (by omega)])) (by omega) (by have:=his;omega)) ?_;rintro v H' c6 ⟨rfl,rfl⟩ hc6;try dsimp only
    simp only[go_sem,seval,ne0,h_same,A0];repeat' (apply wr<;>try simp only[go_sem,seval])
    refine AC.call (c_expect L E (A4 L E s 1).2 _ _ t (by repeat (first|exact h_same|rw[hnO]|rw[D5 (by omega)])) (by omega) (by have:=hti;omega) _) ?_;rintro v H' c7 ⟨rfl,rfl⟩ hc7;try dsimp only
    simp only[go_sem,seval];repeat' (apply wr<;>try simp only[go_sem,seval])
    refine AC.call (c_expression L E hL f (B5 L E (A4 L E s 1).2 [61]) (e,s1) hz5 (G6 hti) _ _ t (by repeat (first|exact h_same|rw[hnO]|rw[D5 (by omega)])) (by omega)) ?_;rintro v H' c8 ⟨rfl,rfl⟩ hc8;have ne0:=T8 t cc c3 c8 (by omega);try dsimp only
    simp only[go_sem,seval,Ex.v_w,ne0,h_same,A0];repeat' (apply wr<;>try simp only[go_sem,seval])
    have h1i:=M3 hz5 (G6 hti);dsimp only at h1i;refine AC.call (c_expect L E s1 _ _ t (by repeat (first|exact h_same|rw[hnO]|rw[D5 (by omega)])) (by omega) (by have:=h1i;omega) _) ?_;rintro v H' c9 ⟨rfl,rfl⟩ hc9;try dsimp only
    simp only[go_sem,seval];repeat' (apply wr<;>try simp only[go_sem,seval,ne0,h_same])
    rw[C7 (rv7 rfl h_same)];refine⟨_,_,Z3 (cc:=cc) (i:=c8) [e] (.inr ⟨rfl,rfl⟩) (.inr ⟨rfl,rfl⟩) (B7 hfr htc) (by omega) ?_ (fun j hj=>?_),(by first|rfl|(rw[Pb.St.v_w];done)|(rw[Pb.St.v_w];rfl)),rfl⟩
    ·rw[A3f];dsimp only
     repeat (first|exact h_same|rw[hnO]|rw[D5 (by omega)])
    simp[Hp.upd,show ¬j=cc by omega,show ¬j=c3 by omega,show ¬j=c8 by omega];try (split<;>rfl)
  rw[if_neg hk]at h;have hdk:decide (k<0)=false:=by simpa using hk
  have hw2:IntKind.i64.wrap ((s.i:Int)+1)=((s.i+1:Nat):Int):=by rw[w6z (by omega)];omega
  have hwk:IntKind.i64.wrap (2+k)=2+k:=w6z (by omega);have hwd:IntKind.i64.wrap (d+1)=d+1:=w6z (by omega);have hn:(A6 s).i<=L.length:=hnn (by omega);simp only[go_sem,seval];have u2:IntKind.i64.wrap 2=2:=w6z (by omega);have u3:IntKind.i64.wrap 3=3:=w6z (by omega);have u4:IntKind.i64.wrap 4=4:=w6z (by omega);have u8:IntKind.i64.wrap 8=8:=w6z (by omega);have u9:IntKind.i64.wrap 9=9:=w6z (by omega);have u10:IntKind.i64.wrap 10=10:=w6z (by omega);have u18:IntKind.i64.wrap 18=18:=w6z (by omega);have u19:IntKind.i64.wrap 19=19:=w6z (by omega);by_cases hb:k=0\/k=1
  ·rw[if_pos hb]at h;cases hz10:M4 L E f (A6 s) with
   |none=>rw[hz10]at h;cases h
   |some qhz10 =>
    obtain⟨e,s2⟩:=qhz10;rw[hz10]at h;dsimp only at h;cases hz11:K7 L E f (d+1) s2 with
    |none=>rw[hz11]at h;cases h
    |some qhz11 =>
     obtain⟨tt,s3⟩:=qhz11;rw[hz11]at h;dsimp only at h;have h2i:=M3 hz10 hn;dsimp only at h2i;have h3i:=(II.all f).1 _ _ _ hz11 h2i;dsimp only at h3i;have hw3:IntKind.i64.wrap ((s3.i:Int)+1)=((s3.i+1:Nat):Int):=by rw[w6z (by omega)];omega
     rcases hb with rfl|rfl
     ·repeat' (apply wr<;>try simp only[go_sem,seval,hw2,u2,ne0,h_same])
      refine AC.call (c_expression L E hL f (A6 s) (e,s2) hz10 (hn) _ _ t (by repeat (first|exact h_same|rw[hnO]|rw[D5 (by omega)])) (by omega)) ?_;rintro v H' c12 ⟨rfl,rfl⟩ hc12;have ne0:=T8 t cc c3 c12 (by omega);try dsimp only
      simp only[go_sem,seval,Ex.v_w,ne0,h_same];repeat' (apply wr<;>try simp only[go_sem,seval])
      try simp only[hwd]
      refine AC.call (ib (d+1) s2 (tt,s3) (by omega) (by omega) hz11 h2i _ _ t (by repeat (first|exact h_same|rw[hnO]|rw[D5 (by omega)])) (by omega)) ?_;rintro v H' c13 ⟨rfl,rfl⟩ hc13;try dsimp only
      simp only[go_sem,seval,ne0,h_same];repeat' (apply wr<;>try simp only[go_sem,seval,h_same])
      refine AC.call (c_is L E s3 _ _ t (by repeat (first|exact h_same|rw[hnO]|rw[D5 (by omega)])) (by omega) _) ?_;rintro v H' c14 ⟨rfl,rfl⟩ hc14;cases hq:isR L E s3 [101,108,115,101] with
      |true =>
       rw[if_pos ⟨rfl,hq⟩]at h;cases hz15:P2 L E f d (A6 s3) with
       |none=>rw[hz15]at h;cases h
       |some qhz15 =>
        obtain⟨oo,s4⟩:=qhz15;rw[hz15]at h;dsimp only at h;cases h;simp only[go_sem,seval];repeat' (apply wr<;>try simp only[go_sem,seval,hw3,ne0,h_same])
        refine AC.call (io d (A6 s3) (oo,s4) hd0 (by omega) hz15 (Z0 hq).2 _ _ t (by repeat (first|exact h_same|rw[hnO]|rw[D5 (by omega)])) (by omega)) ?_;rintro v H' c16 ⟨rfl,rfl⟩ hc16;try dsimp only
        simp only[go_sem,seval,ne0,h_same,A0];repeat' (apply wr<;>try simp only[go_sem,seval,ne0,h_same])
        rw[C7 (rv7 rfl h_same)];refine⟨_,_,Z3 (cc:=cc) (i:=c12) [e] (.inl rfl) (.inl rfl) (B7 hfr htc) (by omega) ?_ (fun j hj=>?_),(by first|rfl|(rw[Pb.St.v_w];done)|(rw[Pb.St.v_w];rfl)),rfl⟩
        ·rw[A3f];dsimp only
         repeat (first|exact h_same|rw[hnO]|rw[D5 (by omega)])
        simp[Hp.upd,show ¬j=cc by omega,show ¬j=c3 by omega,show ¬j=c12 by omega];try (split<;>rfl)
      |false =>
       rw[if_neg (by simp[hq])]at h;cases h;simp only[go_sem,seval];repeat' (apply wr<;>try simp only[go_sem,seval,ne0,h_same])
       rw[C7 (rv7 rfl h_same)];refine⟨_,_,Z3 (cc:=cc) (i:=c12) [e] (.inl rfl) (.inr ⟨rfl,rfl⟩) (B7 hfr htc) (by omega) ?_ (fun j hj=>?_),(by first|rfl|(rw[Pb.St.v_w];done)|(rw[Pb.St.v_w];rfl)),rfl⟩
       ·rw[A3f];dsimp only
        repeat (first|exact h_same|rw[hnO]|rw[D5 (by omega)])
       simp[Hp.upd,show ¬j=cc by omega,show ¬j=c3 by omega,show ¬j=c12 by omega];try (split<;>rfl)
     ·repeat' (apply wr<;>try simp only[go_sem,seval,hw2,u3,ne0,h_same])
      refine AC.call (c_expression L E hL f (A6 s) (e,s2) hz10 (hn) _ _ t (by repeat (first|exact h_same|rw[hnO]|rw[D5 (by omega)])) (by omega)) ?_;rintro v H' c17 ⟨rfl,rfl⟩ hc17;have ne0:=T8 t cc c3 c17 (by omega);try dsimp only
      simp only[go_sem,seval,Ex.v_w,ne0,h_same];repeat' (apply wr<;>try simp only[go_sem,seval])
      try simp only[hwd]
      refine AC.call (ib (d+1) s2 (tt,s3) (by omega) (by omega) hz11 h2i _ _ t (by repeat (first|exact h_same|rw[hnO]|rw[D5 (by omega)])) (by omega)) ?_;rintro v H' c18 ⟨rfl,rfl⟩ hc18;try dsimp only
      simp only[go_sem,seval,ne0,h_same];repeat' (apply wr<;>try simp only[go_sem,seval,ne0,h_same])
      rw[if_neg (by simp)]at h;cases h;rw[C7 (rv7 rfl h_same)];refine⟨_,_,Z3 (cc:=cc) (i:=c17) [e] (.inl rfl) (.inr ⟨rfl,rfl⟩) (B7 hfr htc) (by omega) ?_ (fun j hj=>?_),(by first|rfl|(rw[Pb.St.v_w];done)|(rw[Pb.St.v_w];rfl)),rfl⟩
      ·rw[A3f];dsimp only
       repeat (first|exact h_same|rw[hnO]|rw[D5 (by omega)])
      simp[Hp.upd,show ¬j=cc by omega,show ¬j=c3 by omega,show ¬j=c17 by omega];try (split<;>rfl)
  rw[if_neg hb]at h;unfold L3 at h;dsimp only at h;by_cases k2:k=2
  ·subst k2;rw[if_pos (by decide)]at h;cases hz19:M4 L E f (A6 s) with
   |none=>rw[hz19]at h;cases h
   |some qhz19 =>
    obtain⟨e,s1⟩:=qhz19;rw[hz19]at h;dsimp only at h;cases h;have h1i:=M3 hz19 hn;dsimp only at h1i;repeat' (apply wr<;>try simp only[go_sem,seval,hw2,u4,ne0,h_same])
    refine AC.call (c_expression L E hL f (A6 s) (e,s1) hz19 (hn) _ _ t (by repeat (first|exact h_same|rw[hnO]|rw[D5 (by omega)])) (by omega)) ?_;rintro v H' c20 ⟨rfl,rfl⟩ hc20;have ne0:=T8 t cc c3 c20 (by omega);try dsimp only
    simp only[go_sem,seval,Ex.v_w,ne0,h_same];repeat' (apply wr<;>try simp only[go_sem,seval])
    refine AC.call (c_expect L E s1 _ _ t (by repeat (first|exact h_same|rw[hnO]|rw[D5 (by omega)])) (by omega) (by have:=h1i;omega) _) ?_;rintro v H' c21 ⟨rfl,rfl⟩ hc21;try dsimp only
    simp only[go_sem,seval];repeat' (apply wr<;>try simp only[go_sem,seval,ne0,h_same])
    rw[C7 (rv7 rfl h_same)];refine⟨_,_,Z3 (cc:=cc) (i:=c20) [e] (.inr ⟨rfl,rfl⟩) (.inr ⟨rfl,rfl⟩) (B7 hfr htc) (by omega) ?_ (fun j hj=>?_),(by first|rfl|(rw[Pb.St.v_w];done)|(rw[Pb.St.v_w];rfl)),rfl⟩
    ·rw[A3f];dsimp only
     repeat (first|exact h_same|rw[hnO]|rw[D5 (by omega)])
    simp[Hp.upd,show ¬j=cc by omega,show ¬j=c3 by omega,show ¬j=c20 by omega];try (split<;>rfl)
  rw[if_neg (by omega)]at h;by_cases k16:k=16
  ·subst k16;rw[if_pos (by decide)]at h;have h4i:=I6 (E:=E) (x:=4) (by decide) hn;cases hz22:M4 L E f (B5 L E (A4 L E (A6 s) 4).2 [44]) with
   |none=>rw[hz22]at h;cases h
   |some qhz22 =>
    obtain⟨e,s1⟩:=qhz22;rw[hz22]at h;dsimp only at h;cases h;have h1i:=M3 hz22 (G6 h4i);dsimp only at h1i;repeat' (apply wr<;>try simp only[go_sem,seval,hw2,u18,ne0,h_same])
    refine AC.call (c_take L E (A6 s) _ _ t (by repeat (first|exact h_same|rw[hnO]|rw[D5 (by omega)])) (by omega) (by omega) 4) ?_;rintro v H' c23 ⟨rfl,rfl⟩ hc23;try dsimp only
    simp only[go_sem,seval,ne0,h_same];repeat' (apply wr<;>try simp only[go_sem,seval])
    refine AC.call (c_expect L E (A4 L E (A6 s) 4).2 _ _ t (by repeat (first|exact h_same|rw[hnO]|rw[D5 (by omega)])) (by omega) (by have:=h4i;omega) _) ?_;rintro v H' c24 ⟨rfl,rfl⟩ hc24;try dsimp only
    simp only[go_sem,seval];repeat' (apply wr<;>try simp only[go_sem,seval])
    refine AC.call (c_expression L E hL f (B5 L E (A4 L E (A6 s) 4).2 [44]) (e,s1) hz22 (G6 h4i) _ _ t (by repeat (first|exact h_same|rw[hnO]|rw[D5 (by omega)])) (by omega)) ?_;rintro v H' c25 ⟨rfl,rfl⟩ hc25;have ne0:=T8 t cc c3 c25 (by omega);try dsimp only
    simp only[go_sem,seval,Ex.v_w,ne0,h_same,A0];repeat' (apply wr<;>try simp only[go_sem,seval])
    refine AC.call (c_expect L E s1 _ _ t (by repeat (first|exact h_same|rw[hnO]|rw[D5 (by omega)])) (by omega) (by have:=h1i;omega) _) ?_;rintro v H' c26 ⟨rfl,rfl⟩ hc26;try dsimp only
    simp only[go_sem,seval];repeat' (apply wr<;>try simp only[go_sem,seval,ne0,h_same])
    rw[C7 (rv7 rfl h_same)];refine⟨_,_,Z3 (cc:=cc) (i:=c25) [e] (.inr ⟨rfl,rfl⟩) (.inr ⟨rfl,rfl⟩) (B7 hfr htc) (by omega) ?_ (fun j hj=>?_),(by first|rfl|(rw[Pb.St.v_w];done)|(rw[Pb.St.v_w];rfl)),rfl⟩
    ·rw[A3f];dsimp only
     repeat (first|exact h_same|rw[hnO]|rw[D5 (by omega)])
    simp[Hp.upd,show ¬j=cc by omega,show ¬j=c3 by omega,show ¬j=c25 by omega];try (split<;>rfl)
  rw[if_neg (by omega)]at h;by_cases k17:k=17
  ·subst k17;rw[if_pos (by decide)]at h;cases h;repeat' (apply wr<;>try simp only[go_sem,seval,hw2,u19,ne0,h_same])
   refine AC.call (c_expect L E (A6 s) _ _ t (by repeat (first|exact h_same|rw[hnO]|rw[D5 (by omega)])) (by omega) (by have:=hn;omega) _) ?_;rintro v H' c27 ⟨rfl,rfl⟩ hc27;try dsimp only
   simp only[go_sem,seval];repeat' (apply wr<;>try simp only[go_sem,seval,ne0,h_same])
   rw[C7 (rv7 rfl h_same)];refine⟨_,_,C3t (cc:=cc) (.inr ⟨rfl,rfl⟩) (.inr ⟨rfl,rfl⟩) (.inr ⟨rfl,rfl⟩) (B7 hfr htc) (fun j hj=>?_),(by first|rfl|(rw[Pb.St.v_w];done)|(rw[Pb.St.v_w];rfl)),rfl⟩;simp[Hp.upd,show ¬j=cc by omega,show ¬j=c3 by omega];try (split<;>rfl)
  rw[if_neg (by omega)]at h;have hti2:=I6 (E:=E) (x:=1) (by decide) hn;by_cases k7:k=7
  ·subst k7;rw[if_pos (by omega)]at h;cases hz28:M4 L E f (A4 L E (A6 s) 1).2 with
   |none=>rw[hz28]at h;cases h
   |some qhz28 =>
    obtain⟨e,s1⟩:=qhz28;rw[hz28]at h;dsimp only at h;rw[if_pos (by decide)]at h;have h1i:=M3 hz28 hti2;dsimp only at h1i;cases hz29:M4 L E f (B5 L E s1 [44]) with
    |none=>rw[hz29]at h;cases h
    |some qhz29 =>
     obtain⟨e2,s2⟩:=qhz29;rw[hz29]at h;dsimp only at h;cases h;have h2i:=M3 hz29 (G6 h1i);dsimp only at h2i;repeat' (apply wr<;>try simp only[go_sem,seval,hw2,u9,ne0,h_same])
     refine AC.call (c_name L E (A6 s) _ _ t (by repeat (first|exact h_same|rw[hnO]|rw[D5 (by omega)])) (by omega) (by have:=hn;omega)) ?_;rintro v H' c30 ⟨rfl,rfl⟩ hc30;try dsimp only
     simp only[go_sem,seval,ne0,h_same];repeat' (apply wr<;>try simp only[go_sem,seval,h_same])
     refine AC.call (c_expression L E hL f (A4 L E (A6 s) 1).2 (e,s1) hz28 (hti2) _ _ t (by repeat (first|exact h_same|rw[hnO]|rw[D5 (by omega)])) (by omega)) ?_;rintro v H' c31 ⟨rfl,rfl⟩ hc31;have ne0:=T8 t cc c3 c31 (by omega);try dsimp only
     simp only[go_sem,seval,Ex.v_w,ne0,h_same];repeat' (apply wr<;>try simp only[go_sem,seval,h_same])
     refine AC.call (c_expect L E s1 _ _ t (by repeat (first|exact h_same|rw[hnO]|rw[D5 (by omega)])) (by omega) (by have:=h1i;omega) _) ?_;rintro v H' c32 ⟨rfl,rfl⟩ hc32;try dsimp only
     simp only[go_sem,seval];repeat' (apply wr<;>try simp only[go_sem,seval,ne0,h_same])
     have hgx:=G6 (E:=E) (x:=[44]) h1i;refine AC.call (c_expression L E hL f (B5 L E s1 [44]) (e2,s2) hz29 (G6 h1i) _ _ t (by repeat (first|exact h_same|rw[hnO]|rw[D5 (by omega)])) (by omega)) ?_;rintro v H' c33 ⟨rfl,rfl⟩ hc33;have ne0:=A2m t cc c3 c31 (c32+4) (by omega);try dsimp only
     simp only[go_sem,seval,Ex.v_w,ne0,h_same,A0];repeat' (apply wr<;>try simp only[go_sem,seval,ne0,h_same,A0])
     refine⟨?_,?_⟩
     ·and_intros
      all_goals ((repeat rw[hnO]);exact hfr _ (by omega))
     have ne0:=B3x t cc c3 c31 (c32+4) c33 (by omega);try simp only[go_sem,seval,delO,D5,A4i,ne0,h_same,A0]
     repeat' (apply wr<;>try simp only[go_sem,seval,delO,D5,A4i,ne0,h_same,A0])
     refine A1z (C5h (by rfl) (by omega) (by omega)) ?_;try simp only[go_sem,seval,D5,ne0,h_same]
     repeat' (apply wr<;>try simp only[go_sem,seval])
     refine AC.call (c_expect L E s2 _ _ t (by repeat (first|exact h_same|rw[hnO]|rw[D5 (by omega)])) (by omega) (by have:=h2i;omega) _) ?_;rintro v H' c34 ⟨rfl,rfl⟩ hc34;try dsimp only
     simp only[go_sem,seval];repeat' (apply wr<;>try simp only[go_sem,seval,ne0,h_same])
     rw[C7 (rv7 rfl h_same)];refine⟨_,_,Z3 (cc:=cc) (i:=c33) [e,e2] (.inr ⟨rfl,rfl⟩) (.inr ⟨rfl,rfl⟩) (B7 hfr htc) (by omega) ?_ (fun j hj=>?_),(by first|rfl|(rw[Pb.St.v_w];done)|(rw[Pb.St.v_w];rfl)),rfl⟩
     ·rw[C3y];dsimp only
      repeat (first|exact h_same|rw[hnO]|rw[D5 (by omega)])
     simp[Hp.upd,Hp.del,show ¬j=cc by omega,show ¬j=c3 by omega,show ¬j=c31 by omega,show ¬j=c32+4 by omega,show ¬j=c33 by omega];try (split<;>rfl)
  by_cases k68:k=6\/k=8
  ·rw[if_pos (by omega)]at h;cases hz35:M4 L E f (A4 L E (A6 s) 1).2 with
   |none=>rw[hz35]at h;cases h
   |some qhz35 =>
    obtain⟨e,s1⟩:=qhz35;rw[hz35]at h;dsimp only at h;rw[if_neg (by omega)]at h;cases h;have h1i:=M3 hz35 hti2;dsimp only at h1i;rcases k68 with rfl|rfl
    all_goals
     repeat' (apply wr<;>try simp only[go_sem,seval,hw2,u8,u10,ne0,h_same])
     refine AC.call (c_name L E (A6 s) _ _ t (by repeat (first|exact h_same|rw[hnO]|rw[D5 (by omega)])) (by omega) (by have:=hn;omega)) ?_;rintro v H' c36 ⟨rfl,rfl⟩ hc36;try dsimp only
     simp only[go_sem,seval,ne0,h_same];repeat' (apply wr<;>try simp only[go_sem,seval,h_same])
     refine AC.call (c_expression L E hL f (A4 L E (A6 s) 1).2 (e,s1) hz35 (hti2) _ _ t (by repeat (first|exact h_same|rw[hnO]|rw[D5 (by omega)])) (by omega)) ?_;rintro v H' c37 ⟨rfl,rfl⟩ hc37;have ne0:=T8 t cc c3 c37 (by omega);try dsimp only
     simp only[go_sem,seval,Ex.v_w,ne0,h_same];repeat' (apply wr<;>try simp only[go_sem,seval,h_same])
     refine AC.call (c_expect L E s1 _ _ t (by repeat (first|exact h_same|rw[hnO]|rw[D5 (by omega)])) (by omega) (by have:=h1i;omega) _) ?_;rintro v H' c38 ⟨rfl,rfl⟩ hc38;try dsimp only
     simp only[go_sem,seval];repeat' (apply wr<;>try simp only[go_sem,seval,ne0,h_same])
     rw[C7 (rv7 rfl h_same)];refine⟨_,_,Z3 (cc:=cc) (i:=c37) [e] (.inr ⟨rfl,rfl⟩) (.inr ⟨rfl,rfl⟩) (B7 hfr htc) (by omega) ?_ (fun j hj=>?_),(by first|rfl|(rw[Pb.St.v_w];done)|(rw[Pb.St.v_w];rfl)),rfl⟩
     ·rw[A3f];dsimp only
      repeat (first|exact h_same|rw[hnO]|rw[D5 (by omega)])
     simp[Hp.upd,show ¬j=cc by omega,show ¬j=c3 by omega,show ¬j=c37 by omega];try (split<;>rfl)
  rw[if_neg (by omega)]at h;cases h;have e2:(2+k == 2)=false:=by simp;omega
  have e3:(2+k == 3)=false:=by simp;omega
  have e4:(2+k == 4)=false:=by simp;omega
  have e18:(2+k == 18)=false:=by simp;omega
  have e19:(2+k == 19)=false:=by simp;omega
  have e8:(2+k == 8)=false:=by simp;omega
  have e9:(2+k == 9)=false:=by simp;omega
  have e10:(2+k == 10)=false:=by simp;omega
  repeat' (apply wr<;>try simp only[go_sem,seval,hdk,hw2,hwk,e2,e3,e4,e18,e19,ne0,h_same])
  refine AC.call (c_name L E (A6 s) _ _ t (by repeat (first|exact h_same|rw[hnO]|rw[D5 (by omega)])) (by omega) (by have:=hn;omega)) ?_;rintro v H' c39 ⟨rfl,rfl⟩ hc39;try dsimp only
  simp only[go_sem,seval,ne0,h_same];repeat' (apply wr<;>try simp only[go_sem,seval,e8,e9,e10,h_same])
  refine AC.call (c_expect L E (A4 L E (A6 s) 1).2 _ _ t (by repeat (first|exact h_same|rw[hnO]|rw[D5 (by omega)])) (by omega) (by have:=hti2;omega) _) ?_;rintro v H' c40 ⟨rfl,rfl⟩ hc40;try dsimp only
  simp only[go_sem,seval];repeat' (apply wr<;>try simp only[go_sem,seval,ne0,h_same])
  rw[C7 (rv7 rfl h_same)];refine⟨_,_,C3t (cc:=cc) (.inr ⟨rfl,rfl⟩) (.inr ⟨rfl,rfl⟩) (.inr ⟨rfl,rfl⟩) (B7 hfr htc) (fun j hj=>?_),(by first|rfl|(rw[Pb.St.v_w];done)|(rw[Pb.St.v_w];rfl)),rfl⟩;simp[Hp.upd,show ¬j=cc by omega,show ¬j=c3 by omega];try (split<;>rfl)
end Go.Proofs.YtenmhfknbopmeaaGreatDoor
set_option maxHeartbeats 4000000
namespace Go.Proofs.YtenmhfknbopmeaaGreatDoor
open Go.Eng (IC IOper DReg IFn I5)
open Go.Sym Go.Pb
theorem c_stm(L:List Tok)(E:Int)(hL:L.length<=1000000000):∀ f:Nat,
  (∀ d s r,0<=d->d<=100->P9 L E f d s=some r->s.i<=L.length->RdC L E 193 [I64 d] s (r.1.v,r.2)) /\
  (∀ d s r,0<=d->d<=100->K7 L E f d s=some r->s.i<=L.length->RdC L E 143 [I64 d] s (D2 r.1,r.2)) /\
  (∀ d s r,0<=d->d<=99->P2 L E f d s=some r->s.i<=L.length->RdC L E 236 [I64 d] s (D2 r.1,r.2)):=by
 intro f
 induction f using Nat.strongRecOn with
 |_ f ih =>
  cases f with
  |zero=>exact⟨fun d s r _ _ h=>by simp[P9]at h,fun d s r _ _ h=>by simp[K7]at h,fun d s r _ _ h=>by simp[P2]at h⟩
  |succ f =>
   have i0:=ih f (by omega);exact⟨fun d s r h1 h2 h hi=>c_statement L E hL f i0.2.1 i0.2.2 d s r h1 h2 h hi,
    fun d s r h1 h2 h hi=>c_block L E hL f (fun g hg=>(ih g (by omega)).1) d s r h1 h2 h hi,
    fun d s r h1 h2 h hi=>c_other L E hL f i0.1 i0.2.1 d s r h1 h2 h hi⟩
theorem c_declaration(L:List Tok)(E:Int)(s:Rd)(H:Hp)(cc t:Nat)(ht:H t=some (rdR L E s))(htc:t<cc)(hL:L.length<=1000000000)(hv:∀ x∈L,0<=x.value/\x.value<=9223372036854775807)(k:Int)(hk0:0<=k)(hk:k<8)(hi:s.i<L.length):AC Tryz.prog 89 [.ptr t 0,I64 k] H cc (fun v H' c'=>v=(S4 L E k s).1.v/\H'=H.upd t (rdR L E (S4 L E k s).2)):=by
 refine AC.bodyT A2 rfl (A0A rfl) fun hfr=>?_;have hwk:IntKind.i64.wrap (1+k)=1+k:=w6z (by omega);have hw:IntKind.i64.wrap ((s.i:Int)+1)=((s.i+1:Nat):Int):=by rw[w6z (by omega)];omega
 have hn:(A6 s).i<=L.length:=hi;have hti:=I6 (E:=E) (x:=1) (by decide) hn;repeat' (apply wr<;>try simp only[go_sem,seval])
 refine AC.call (c_peek L E s _ _ t (by rw[hnO];exact ht) (by omega)) ?_;rintro v H' c1 ⟨rfl,rfl⟩ hc1;have ne0:=U6 t cc c1 (by omega);simp only[go_sem,seval,hwk];repeat' (apply wr<;>try simp only[go_sem,seval,ht,hw,ne0,A0])
 refine AC.call (c_name L E (A6 s) _ _ t (by repeat (first|exact h_same|rw[hnO])) (by omega) (by omega)) ?_;rintro v H' c2 ⟨rfl,rfl⟩ hc2;have hval:∀ z,0<=(A4 L E z 3).1.value/\(A4 L E z 3).1.value<=9223372036854775807:=fun z=>by
  unfold A4;split
  ·exact⟨A3G 0,(by decide:(0:Int)<=9223372036854775807)⟩
  ·show 0<=(A7 L E z).value/\(A7 L E z).value<=9223372036854775807;unfold A7;rw[A1E];cases hg:L[z.i]? with
   |none=>exact⟨A3G 0,(by decide:(0:Int)<=9223372036854775807)⟩
   |some x=>exact hv x (A0O hg)
 obtain⟨D,hD⟩:∃ D,D=S4 L E k s:=⟨_,rfl⟩;rw[<- hD];unfold S4 at hD;dsimp only at hD;generalize (A7 L E s).pos=p at hD ⊢;generalize (A4 L E (A6 s) 1).1.text=n at hD ⊢;generalize (A4 L E (A6 s) 1).2=s2 at hD hti ⊢;by_cases h6:k+1<=6
 ·rw[if_pos h6]at hD;have hd6:decide (1+k<=6)=true:=by simp;omega
  have hw2:IntKind.i64.wrap ((s2.i:Int)+1)=((s2.i+1:Nat):Int):=by rw[w6z (by omega)];omega
  by_cases h5:k=5
  ·subst h5;simp only[go_sem,seval,ne0,h_same,A0];repeat' (apply wr<;>try simp only[go_sem,seval,h_same])
   refine AC.call (c_is L E s2 _ _ t (by repeat (first|exact h_same|rw[hnO])) (by omega) _) ?_;rintro v H' c3 ⟨rfl,rfl⟩ hc3;cases hq:isR L E s2 [45] with
   |true =>
    rw[hq]at hD;have hn2:(A6 s2).i<=L.length:=(Z0 hq).2;have hv2:=hval (A6 s2);have hneg:IntKind.i64.wrap (0-(A4 L E (A6 s2) 3).1.value) = -(A4 L E (A6 s2) 3).1.value:=by rw[w6z (by omega)];omega
    simp only[go_sem,seval];repeat' (apply wr<;>try simp only[go_sem,seval,hw2,ne0,h_same])
    have h4i:=I6 (E:=E) (x:=3) (by decide) hn2;subst hD;refine AC.call (c_take L E (A6 s2) _ _ t (by repeat (first|exact h_same|rw[hnO])) (by omega) (by omega) 3) ?_;rintro v H' c4 ⟨rfl,rfl⟩ hc4;try dsimp only
    simp only[go_sem,seval,ne0,h_same,A0];repeat' (apply wr<;>try simp only[go_sem,seval,hneg,h_same,A0])
    refine AC.call (c_expect L E (A4 L E (A6 s2) 3).2 _ _ t (by repeat (first|exact h_same|rw[hnO])) (by omega) (by omega) _) ?_;rintro v H' c9 ⟨rfl,rfl⟩ hc9;simp only[go_sem,seval];repeat' (apply wr<;>try simp only[go_sem,seval,ne0,h_same])
    rw[C7 (rv4 rfl h_same)];refine⟨_,_,N9 (cc:=cc) (B7 hfr htc) (fun j hj=>?_),rfl,rfl⟩;simp[Hp.upd,show ¬j=cc by omega,show ¬j=c1 by omega];try (split<;>rfl)
   |false =>
    rw[hq]at hD;simp only[go_sem,seval];repeat' (apply wr<;>try simp only[go_sem,seval])
    have h4i:=I6 (E:=E) (x:=3) (by decide) hti;subst hD;refine AC.call (c_take L E s2 _ _ t (by repeat (first|exact h_same|rw[hnO])) (by omega) (by omega) 3) ?_;rintro v H' c4 ⟨rfl,rfl⟩ hc4;try dsimp only
    simp only[go_sem,seval,ne0,h_same];repeat' (apply wr<;>try simp only[go_sem,seval])
    refine AC.call (c_expect L E (A4 L E s2 3).2 _ _ t (by repeat (first|exact h_same|rw[hnO])) (by omega) (by omega) _) ?_;rintro v H' c9 ⟨rfl,rfl⟩ hc9;simp only[go_sem,seval];repeat' (apply wr<;>try simp only[go_sem,seval,ne0,h_same])
    rw[C7 (rv4 rfl h_same)];refine⟨_,_,N9 (cc:=cc) (B7 hfr htc) (fun j hj=>?_),rfl,rfl⟩;simp[Hp.upd,show ¬j=cc by omega,show ¬j=c1 by omega];try (split<;>rfl)
  ·have hd5:(1+k == 6)=false:=by simp;omega
   have hm:(k+1 == 6)=false:=by simp;omega
   rw[hm]at hD;simp only[go_sem,seval,ne0,h_same,A0];repeat' (apply wr<;>try simp only[go_sem,seval,hd6,hd5,h_same])
   have h4i:=I6 (E:=E) (x:=3) (by decide) hti;subst hD;refine AC.call (c_take L E s2 _ _ t (by repeat (first|exact h_same|rw[hnO])) (by omega) (by omega) 3) ?_;rintro v H' c4 ⟨rfl,rfl⟩ hc4;try dsimp only
   simp only[go_sem,seval,ne0,h_same];repeat' (apply wr<;>try simp only[go_sem,seval])
   refine AC.call (c_expect L E (A4 L E s2 3).2 _ _ t (by repeat (first|exact h_same|rw[hnO])) (by omega) (by omega) _) ?_;rintro v H' c9 ⟨rfl,rfl⟩ hc9;simp only[go_sem,seval];repeat' (apply wr<;>try simp only[go_sem,seval,ne0,h_same])
   rw[C7 (rv4 rfl h_same)];refine⟨_,_,N9 (cc:=cc) (B7 hfr htc) (fun j hj=>?_),rfl,rfl⟩;simp[Hp.upd,show ¬j=cc by omega,show ¬j=c1 by omega];try (split<;>rfl)
 ·rw[if_neg h6]at hD;have hd6:decide (1+k<=6)=false:=by simp;omega
  subst hD;simp only[go_sem,seval,ne0,h_same,A0];repeat' (apply wr<;>try simp only[go_sem,seval,hd6,h_same])
  refine AC.call (c_expect L E s2 _ _ t (by repeat (first|exact h_same|rw[hnO])) (by omega) (by omega) _) ?_;rintro v H' c3 ⟨rfl,rfl⟩ hc3;simp only[go_sem,seval];repeat' (apply wr<;>try simp only[go_sem,seval,ne0,h_same])
  rw[C7 (rv4 rfl h_same)];refine⟨_,_,N9 (cc:=cc) (B7 hfr htc) (fun j hj=>?_),rfl,rfl⟩;simp[Hp.upd,show ¬j=cc by omega,show ¬j=c1 by omega];try (split<;>rfl)
end Go.Proofs.YtenmhfknbopmeaaGreatDoor
end
