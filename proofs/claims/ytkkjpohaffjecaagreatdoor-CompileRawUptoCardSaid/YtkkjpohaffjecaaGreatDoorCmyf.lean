/-
  HELPERS of the claim: part 6 of its texts.
-/
import Derived.Test.YtkkjpohaffjecaaGreatDoorCmye
import Derived.Shelf.SlSortCmp.WholeK
import Derived.Lib.ItoaNum
import Derived.Lib.Space
import Derived.Test.YtkkjpohaffjecaaGreatDoorProg
noncomputable section
set_option linter.unusedVariables false
set_option linter.unusedSectionVars false
set_option linter.unusedSimpArgs false
namespace Go.Sym
variable [Go.Sym.Tab]
open Go.Eng (I0)
open Go.RowKit Go.Proofs Go.Sort
variable {P:Program} {ρ : Ren} {H:Hp} {w:World}
theorem A8g.size{b:Blk}{t:Tgt}(h:A8g ρ b t w):t.block<w.heap.size:=by
 rcases h with ⟨-,c,e,fr,h1, -⟩|⟨-, -, -,es,cl,kd,ks,vs,h3, -⟩
 ·exact (A0V.1 h1).1
 ·exact (A0V.1 h3).1
theorem Rep.grown(hR:Rep ρ H w){w':World}(hp:∀ k,k<w.heap.size->w'.heap[k]? = w.heap[k]?):Rep ρ H w' where
 blk:=fun id b hb=>by
  obtain⟨t,h1,h2⟩:=hR.blk id b hb;exact⟨t,h1,h2.world (hp _ h2.size)⟩
 sep:=hR.sep
 frz:=fun b r hb=>by
  obtain⟨e,fr,h⟩:=hR.frz b r hb;exact⟨e,fr,by rw[hp b (A0V.1 h).1];exact h⟩
 dis:=hR.dis
 frm:=fun b es hb=>by
  obtain⟨⟨cl,h,hs⟩,h2⟩:=hR.frm b es hb;exact⟨⟨cl,by rw[hp b (A0V.1 h).1];exact h,hs⟩,h2⟩
theorem C3z(w:World)(os:Array Obj){k:Nat}(hk:k<w.heap.size):(grow w os).heap[k]? = w.heap[k]? := by
 show (w.heap++os)[k]? = _;rw[A4O hk]
inductive F2 {α β : Type} (R : α -> β -> Prop):List α -> List β -> Prop where
 |nil:F2 R [] []
 |cons {a b l m}:R a b->F2 R l m->F2 R (a :: l) (b :: m)
theorem F2.len{α β : Type}{R : α -> β -> Prop}{l:List α}{m:List β}(h:F2 R l m):l.length=m.length:=by
 induction h with
 |nil=>rfl
 |cons _ _ ih=>rw[A0K,A0K,ih]
theorem F2.get{α β : Type}{R : α -> β -> Prop}{l:List α}{m:List β}(h:F2 R l m):∀ {k:Nat} {a : α},l[k]? = some a->∃ b,m[k]? = some b/\R a b:=by
 induction h with
 |nil=>intro k a h;cases h
 |cons h1 _ ih =>
  intro k a hk;cases k with
  |zero=>cases hk;exact⟨_,rfl,h1⟩
  |succ k=>exact ih hk
theorem F2.perm{α β : Type}{R : α -> β -> Prop}{m m':List β}(hp:m.Perm m'):∀ {l:List α},F2 R l m->∃ l',l.Perm l'/\F2 R l' m':=by
 induction hp with
 |nil=>intro l h;cases h;exact⟨[],.nil,.nil⟩
 |cons x _ ih =>
  intro l h;cases h with
  |cons h1 h2 =>
   obtain⟨l',a,b⟩:=ih h2;exact⟨_ :: l',a.cons _,.cons h1 b⟩
 |swap x y l0 =>
  intro l h;cases h with
  |cons h1 h2 =>
   cases h2 with
   |cons h3 h4=>exact⟨_,.swap _ _ _,.cons h3 (.cons h1 h4)⟩
 |trans _ _ ih1 ih2 =>
  intro l h;obtain⟨l1,a,b⟩:=ih1 h;obtain⟨l2,c,d⟩:=ih2 b;exact⟨l2,a.trans c,d⟩
end Go.Sym
namespace Go.Sym
variable [Go.Sym.Tab]
open Go.Eng (Opd FOp AOp EOp IOp IOper DReg IC RV IFn L2 A7w isNew)
mutual
def J2:DV->DV->Bool
 |.bot,.bot=>true
 |.bool a,.bool b=>a == b
 |.int k n,.int l m=>k == l && n == m
 |.str a,.str b=>a == b
 |.pnil,.pnil=>true
 |.ptr a b,.ptr c d=>a == c && b == d
 |.snil,.snil=>true
 |.slc a b c,.slc x y z=>a == x && b == y && c == z
 |.lst a,.lst b=>A1o a b
 |.fptr a,.fptr b=>A1o a b
 |.agg a,.agg b=>A1o a b
 |.tup a,.tup b=>A1o a b
 |.mid a,.mid b=>a == b
 |.mnil,.mnil=>true
 |.func f a c,.func g b d=>f == g && A1o a b && A1o c d
 |_,_=>false
def A1o:List DV->List DV->Bool
 |[],[]=>true
 |a :: l,b :: m=>J2 a b && A1o l m
 |_,_=>false
end
mutual
theorem A9c:∀ (a b:DV),J2 a b=true->a=b
 |.bot,b,h=>by cases b<;>simp[J2]at h ⊢
 |.bool _,b,h=>by cases b<;>simp_all[J2]
 |.int _ _,b,h=>by cases b<;>simp_all[J2]
 |.str _,b,h=>by cases b<;>simp_all[J2]
 |.pnil,b,h=>by cases b<;>simp[J2]at h ⊢
 |.ptr _ _,b,h=>by cases b<;>simp_all[J2]
 |.snil,b,h=>by cases b<;>simp[J2]at h ⊢
 |.slc _ _ _,b,h=>by cases b<;>simp_all[J2]
 |.lst a,b,h=>by cases b with
  |lst b=>simp only[J2]at h;rw[T8 a b h]
  |_=>simp[J2]at h
 |.fptr a,b,h=>by cases b with
  |fptr b=>simp only[J2]at h;rw[T8 a b h]
  |_=>simp[J2]at h
 |.fnil,b,h=>by cases b<;>simp[J2]at h
 |.func f a c,b,h=>by cases b with
  |func g b d=>simp only[J2,A0F,A1Y]at h;rw[h.1.1,T8 a b h.1.2,T8 c d h.2]
  |_=>simp[J2]at h
 |.inil,b,h=>by cases b<;>simp[J2]at h
 |.iface _ _,b,h=>by cases b<;>simp[J2]at h
 |.agg a,b,h=>by cases b with
  |agg b=>simp only[J2]at h;rw[T8 a b h]
  |_=>simp[J2]at h
 |.tup a,b,h=>by cases b with
  |tup b=>simp only[J2]at h;rw[T8 a b h]
  |_=>simp[J2]at h
 |.mpc _ _ _,b,h=>by cases b<;>simp[J2]at h
 |.mid _,b,h=>by cases b<;>simp_all[J2]
 |.mp _ _ _,b,h=>by cases b<;>simp[J2]at h
 |.mnil,b,h=>by cases b<;>simp[J2]at h ⊢
 |.ub,b,h=>by cases b<;>simp[J2]at h
theorem T8:∀ (a b:List DV),A1o a b=true->a=b
 |[],[],_=>rfl
 |[],_ :: _,h=>by simp[A1o]at h
 |_ :: _,[],h=>by simp[A1o]at h
 |a :: l,b :: m,h=>by
  simp only[A1o,A0F]at h;rw[A9c a b h.1,T8 l m h.2]
end
def B5c:Option Blk->Option Blk->Bool
 |none,none=>true
 |some a,some b=>a.unit == b.unit && a.own == b.own && A1o a.cells b.cells
 |_,_=>false
theorem C6a:∀ (a b:Option Blk),B5c a b=true->a=b
 |none,none,_=>rfl
 |none,some _,h=>by simp[B5c]at h
 |some _,none,h=>by simp[B5c]at h
 |some ⟨a,b,c⟩,some ⟨x,y,z⟩,h=>by
  simp only[B5c,A0F,A1Y]at h;rw[h.1.1,h.1.2,T8 c z h.2]
def fcN(n:Nat)(k:Nat->Bool):Bool:=match n with
 |0=>k 0
 |n+1=>k (n+1)
theorem A7d(n:Nat)(k:Nat->Bool):fcN n k=k n:=by cases n<;>rfl
def fcI(z:Int)(k:Int->Bool):Bool:=match z with
 |.ofNat n=>fcN n fun n=>k (.ofNat n)
 |.negSucc n=>fcN n fun n=>k (.negSucc n)
theorem D8o(z:Int)(k:Int->Bool):fcI z k=k z:=by cases z<;>simp only[fcI,A7d]<;>rfl
def fcV(v:DV)(k:DV->Bool):Bool:=match v with
 |.bool b=>match b with
  |true=>k (.bool true)
  |false=>k (.bool false)
 |.int t z=>fcI z fun z=>k (.int t z)
 |.ptr i o=>fcN i fun i=>fcN o fun o=>k (.ptr i o)
 |.slc i o n=>fcN i fun i=>fcN o fun o=>fcN n fun n=>k (.slc i o n)
 |v=>k v
theorem B9b(v:DV)(k:DV->Bool):fcV v k=k v:=by
 cases v with
 |bool b=>cases b<;>rfl
 |int t z=>simp only[fcV,D8o]
 |ptr i o=>simp only[fcV,A7d]
 |slc i o n=>simp only[fcV,A7d]
 |_=>rfl
abbrev A7v:=Nat->List DV->Hp->Nat->(DV->Hp->Nat->Bool)->Bool
def B8h(call:A7v)(s:St)(k:DV->Hp->Nat->Bool):IOp->Bool
 |.pur f=>match fev s.H (ev s.T) f with
  |some v=>fcV v fun v=>k v s.H s.c
  |none=>false
 |.new f=>match aev (ev s.T) f with
  |some (m,b)=>fcN (s.c+1) fun c'=>k (mkv s.c m) (s.H.upd s.c b) c'
  |none=>false
 |.eff f=>match eev s.H s.c (ev s.T) f with
  |some (v,H',c')=>fcV v fun v=>fcN c' fun c'=>k v H' c'
  |none=>false
 |.call f args=>call f (args.map (ev s.T)) s.H s.c k
 |.callv x args=>match ev s.T x with
  |.func f a c=>call f (a++args.map (ev s.T)++c) s.H s.c k
  |_=>false
def evR(call:A7v)(k:St->Bool):List IOper->St->Bool
 |[],s=>k s
 |o :: os,s=>match Q3 s.T o.guard with
  |some true=>B8h call s (fun v H' c'=>evR call k os ⟨G7 s.T o.dst v,H',c'⟩) o.op
  |some false=>evR call k os ⟨G7 s.T o.dst (.tup []),s.H,s.c⟩
  |none=>false
def D8v(call:A7v)(s:St)(o:IOper)(k:DV->Hp->Nat->Bool):Bool :=
 match Q3 s.T o.guard with
 |some true=>B8h call s k o.op
 |some false=>k (.tup []) s.H s.c
 |none=>false
def agE(io:List IOper)(c0:Nat)(s:St)(j:Nat):Bool:=match io[j]? with
 |some o=>match A1r s (c0+j) o with
  |some (v,ob)=>(match o.dst with
   |some d=>J2 (s.T d) v
   |none=>true) && B5c (s.H (c0+j)) ob
  |none=>false
 |none=>false
def evD(call:A7v)(k:St->Bool)(io:List IOper)(c0:Nat):List (Nat × Option (List Nat))->St->Bool
 |[],s=>k s
 |(i,none) :: r,s=>match io[i]? with
  |some o=>match A1r s (c0+i) o with
   |some (v,ob)=>fcV v fun v=>evD call k io c0 r ⟨G7 s.T o.dst v,A0y s.H (c0+i) ob,s.c⟩
   |none=>false
  |none=>false
 |(i,some pend) :: r,s=>match io[i]? with
  |some o=>D8v call ⟨s.T,X9 s.H ((pend.filter (isNew io)).map (c0 + ·)),s.c⟩ o fun v H' c' =>
    (pend.all fun j=>agE io c0 ⟨G7 s.T o.dst v,L4 ((pend.filter (isNew io)).map (c0 + ·)) s.H H',c'⟩ j) &&
    evD call k io c0 r ⟨G7 s.T o.dst v,L4 ((pend.filter (isNew io)).map (c0 + ·)) s.H H',c'⟩
  |none=>false
def lpE(body:St->(Exit->St->Bool)->Bool)(k:Exit->St->Bool):Nat->St->Bool
 |0,_=>false
 |n+1,s=>body s fun e s'=>match e with
  |.normal=>lpE body k n s'
  |e=>k e s'
def evI(call:A7v)(F:Nat):IC->St->(Exit->St->Bool)->Bool
 |.skip,s,k=>k .normal s
 |.reg ops,s,k=>evR call (k .normal) ops s
 |.drw n d,s,k=>fcN (s.c+n) fun c'=>evD call (k .normal) d.ops s.c d.plan ⟨s.T,s.H,c'⟩
 |.seq x y,s,k=>evI call F x s fun e s'=>match e with
  |.normal=>evI call F y s' k
  |e=>k e s'
 |.cond c x y,s,k=>match ev s.T c with
  |.bool b=>match b with
   |true=>evI call F x s k
   |false=>evI call F y s k
  |_=>false
 |.blk id x,s,k=>evI call F x s fun e s'=>match e with
  |.exit i=>if i=id then k .normal s' else k (.exit i) s'
  |e=>k e s'
 |.loop x,s,k=>lpE (evI call F x) k F s
 |.exit id,s,k=>k (.exit id) s
 |.ret,s,k=>k .ret s
 |.bad,_,_=>false
 |.rg _,_,_=>false
def clE(P:Program)(F:Nat)(O:Nat->List DV->Option DV):Nat->A7v
 |0,_,_,_,_,_=>false
 |n+1,f,args,H,c,k=>match O f args with
  |some r=>k r H c
  |none=>match (P.funcs[f]?).bind (A7w P) with
   |some i=>Nat.ble args.length i.n && evI (clE P F O n) F i.body ⟨A4s args,H,c⟩ fun e s=>match e with
    |.normal=>(match A4g s i.res with
     |some v=>k v s.H s.c
     |none=>false)
    |.ret=>(match A4g s i.res with
     |some v=>k v s.H s.c
     |none=>false)
    |_=>false
   |none=>false
section
variable {P:Program} {call:A7v} {F N:Nat}
def A7m(P:Program)(call:A7v):Prop:=∀ f args H c k,call f args H c k=true->AC P f args H c fun v H' c'=>k v H' c'=true
theorem C0x(hc:A7m P call){s:St}{k:DV->Hp->Nat->Bool}{K:DV->Hp->Nat->Prop}(hk:∀ v H c,k v H c=true->K v H c):∀ {i:IOp},B8h call s k i=true->O1 P s K i
 |.pur f,h=>by
  simp only[B8h]at h;simp only[O1];split at h
  ·rename_i v hv;rw[B9b]at h;simp only[hv];exact hk _ _ _ h
  ·cases h
 |.new f,h=>by
  simp only[B8h]at h;simp only[O1];split at h
  ·rename_i m b hv;rw[A7d]at h;simp only[hv];exact hk _ _ _ h
  ·cases h
 |.eff f,h=>by
  simp only[B8h]at h;simp only[O1];split at h
  ·rename_i v H' c' hv;rw[B9b,A7d]at h;simp only[hv];exact hk _ _ _ h
  ·cases h
 |.call f args,h=>(hc _ _ _ _ _ h).mono hk
 |.callv x args,h=>by
  simp only[B8h]at h;simp only[O1];split at h
  ·rename_i f a c hv;simp only[hv];exact (hc _ _ _ _ _ h).mono hk
  ·cases h
theorem B9c(hc:A7m P call){k:St->Bool}{Q:St->Prop}(hk:∀ s,k s=true->Q s):∀ (os:List IOper) (s:St),evR call k os s=true->rwp P Q os s
 |[],s,h=>hk s h
 |o :: os,s,h=>by
  simp only[evR]at h;unfold rwp;split at h
  ·rename_i hw;simp only[hw];exact C0x hc (fun v H c h=>B9c hc hk os _ h) h
  ·rename_i hw;simp only[hw];exact B9c hc hk os _ h
  ·cases h
theorem D2u(hc:A7m P call){s:St}{o:IOper}{k:DV->Hp->Nat->Bool}{K:DV->Hp->Nat->Prop}(hk:∀ v H c,k v H c=true->K v H c)(h:D8v call s o k=true):B6v P s o K:=by
 unfold D8v at h;unfold B6v;split at h
 ·rename_i hw;simp only[hw];exact C0x hc hk h
 ·rename_i hw;simp only[hw];exact hk _ _ _ h
 ·cases h
theorem D9j{io:List IOper}{c0:Nat}{s:St}{j:Nat}(h:agE io c0 s j=true):A2r io c0 s j:=by
 unfold agE at h;unfold A2r;split at h
 ·rename_i o ho;split at h
  ·rename_i v ob hv;simp only[ho,hv];rw[A0F]at h;refine⟨fun d hd=>?_,C6a _ _ h.2⟩;have h1:=h.1;rw[hd]at h1;exact A9c _ _ h1
  ·cases h
 ·cases h
theorem D0h{io:List IOper}{c0:Nat}{s:St}:∀ {l:List Nat},l.all (fun j=>agE io c0 s j)=true->V3 io c0 s l
 |[],_=>trivial
 |j :: l,h=>by
  rw[A2T,A0F]at h;exact⟨D9j h.1,D0h h.2⟩
theorem B9d(hc:A7m P call){k:St->Bool}{Q:St->Prop}(hk:∀ s,k s=true->Q s){io:List IOper}{c0:Nat}:∀ (p:List (Nat × Option (List Nat))) (s:St),evD call k io c0 p s=true->dwp P Q io c0 p s
 |[],s,h=>hk s h
 |(i,none) :: r,s,h=>by
  simp only[evD]at h;unfold dwp;split at h
  ·rename_i o ho;split at h
   ·rename_i v ob hv;rw[B9b]at h;simp only[ho,hv];exact B9d hc hk r _ h
   ·cases h
  ·cases h
 |(i,some pend) :: r,s,h=>by
  simp only[evD]at h;unfold dwp;split at h
  ·rename_i o ho;simp only[ho];refine D2u hc (fun v H c h=>?_) h;rw[A0F]at h;exact⟨D0h h.1,B9d hc hk r _ h.2⟩
  ·cases h
theorem IW.seq{x y:IC}{s:St}{Q:Exit->St->Prop}(h:IW P N x s (B1i (fun s'=>IW P N y s' Q) Q)):IW P N (.seq x y) s Q:=by
 intro hm c hc;cases c<;>simp only[Go.Eng.trC]at hc<;>(try (cases hc;done))
 case seq a b =>
  split at hc
  ·rename_i x' y' hx hy;cases hc;refine .seq ((h hm a hx).mono fun e s' q=>?_);cases e with
   |normal=>exact q hm b hy
   |_=>exact q
  ·cases hc
 all_goals (repeat' (split at hc))<;>(try (cases hc;done))
 all_goals simp at hc
theorem IW.blk{id:Nat}{x:IC}{s:St}{Q:Exit->St->Prop}(h:IW P N x s (C4r id Q)):IW P N (.blk id x) s Q:=by
 intro hm c hc;cases c<;>simp only[Go.Eng.trC]at hc<;>(try (cases hc;done))
 case block i b =>
  simp only[A0Z]at hc;obtain⟨x',hx,he⟩:=hc;cases he;exact .block (h hm b hx)
 all_goals (repeat' (split at hc))<;>(try (cases hc;done))
 all_goals simp at hc
theorem D8r(hc:A7m P call):∀ (ic:IC) (s:St) (k:Exit->St->Bool) (Q:Exit->St->Prop),(∀ e s,k e s=true->Q e s)->evI call F ic s k=true->IW P N ic s Q:=by
 intro ic
 induction ic with
 |skip=>intro s k Q hk h;exact IW.of (hk _ _ h)
 |reg ops=>intro s k Q hk h;exact IW.of (B9c hc (hk .normal) ops s h)
 |drw n d =>
  intro s k Q hk h;simp only[evI,A7d]at h;exact IW.of (B9d hc (hk .normal) _ _ h)
 |seq x y ihx ihy =>
  intro s k Q hk h;simp only[evI]at h;refine IW.seq (ihx s _ _ (fun e s' h=>?_) h);cases e with
  |normal=>exact ihy s' k Q hk h
  |_=>exact hk _ _ h
 |cond c x y ihx ihy =>
  intro s k Q hk h;simp only[evI]at h;split at h
  ·rename_i b hb;refine IW.of ?_;unfold wpI;simp only[hb];cases b with
   |true=>exact⟨fun _=>ihx s k Q hk h,fun e=>(by cases e)⟩
   |false=>exact⟨fun e=>(by cases e),fun _=>ihy s k Q hk h⟩
  ·cases h
 |blk id x ih =>
  intro s k Q hk h;simp only[evI]at h;refine IW.blk (ih s _ _ (fun e s' h=>?_) h);cases e with
  |exit i =>
   simp only[C4r]at h ⊢;by_cases e:i=id
   ·rw[if_pos e]at h ⊢;exact hk _ _ h
   ·rw[if_neg e]at h ⊢;exact hk _ _ h
  |_=>exact hk _ _ h
 |loop x ih =>
  intro s k Q hk h;refine IW.loop (fun n s=>lpE (evI call F x) k n s=true) F h fun n s h=>?_;cases n with
  |zero=>cases h
  |succ n =>
   refine ih s _ _ (fun e s' h=>?_) h;cases e with
   |normal=>exact⟨n,A1O _,h⟩
   |_=>exact hk _ _ h
 |exit id=>intro s k Q hk h;exact IW.of (hk _ _ h)
 |ret=>intro s k Q hk h;exact IW.of (hk _ _ h)
 |bad=>intro s k Q hk h;cases h
 |rg r=>intro s k Q hk h;cases h
def D9m(P:Program)(O:Nat->List DV->Option DV):Prop:=∀ f args r,O f args=some r->PC P f args r
theorem C9t(hm:P.follows .mixedOrders=true){O:Nat->List DV->Option DV}(hO:D9m P O):∀ n,A7m P (clE P F O n)
 |0,_,_,_,_,_,h=>by cases h
 |n+1,f,args,H,c,k,h=>by
  simp only[clE]at h;split at h
  ·rename_i r hr;exact ((hO f args r hr).at H c).mono fun v H' c' ⟨h1,h2,h3⟩=>by rw[h1,h2,h3];exact h
  ·split at h
   ·rename_i i hi;rw[A0F]at h;refine AC.of hm (i:=i) hi (A0D h.1) (D8r (C9t hm hO n) _ _ _ _ (fun e s h=>?_) h.2);cases e<;>simp only[B7z]at h ⊢ <;> (try (cases h;done));all_goals (split at h<;>simp_all)
   ·cases h
theorem PC.run(hm:P.follows .mixedOrders=true)(O:Nat->List DV->Option DV)(hO:D9m P O)(F n f:Nat)(args:List DV)(r:DV)(na:DV.nlL args=true)(nr:r.nl=true)(h:clE P F O n f args nil 0 (fun v _ _=>J2 v r)=true):PC P f args r :=
 ⟨na,nr,(C9t hm hO n _ _ _ _ _ h).mono fun v H' c' e=>A9c _ _ e⟩
end
end Go.Sym
namespace Go.Proofs.YtkkjpohaffjecaaGreatDoor
instance tabI:Go.Sym.Tab:=⟨[(0,fun r=>r=(Lib.pow10Tab.map fun z=>Value.int .u64 z).toArray),(1,fun r=>r=(Lib.asciiSpaceTab.map fun z=>Value.int .u8 z).toArray),(7,fun r => ∃ te pe,r = #[.iface te pe])]⟩
end Go.Proofs.YtkkjpohaffjecaaGreatDoor
set_option maxHeartbeats 4000000
set_option maxRecDepth 100000
namespace Go.Proofs.YtkkjpohaffjecaaGreatDoor
open Go.Eng (IC IOper DReg IFn L2)
open Go.Sym
theorem A2:Tryz.prog.follows .mixedOrders=true:=by kernel_rfl
abbrev x198:XT Tryz.prog 198:=mkF
instance t198:FT Tryz.prog 198 x198.d:=x198.ft
abbrev x267:XT Tryz.prog 267:=mkF
instance t267:FT Tryz.prog 267 x267.d:=x267.ft
abbrev x200:XT Tryz.prog 200:=mkF
instance t200:FT Tryz.prog 200 x200.d:=x200.ft
abbrev x199:XT Tryz.prog 199:=mkF
instance t199:FT Tryz.prog 199 x199.d:=x199.ft
abbrev x216:XT Tryz.prog 216:=mkF
instance t216:FT Tryz.prog 216 x216.d:=x216.ft
abbrev x201:XT Tryz.prog 201:=mkF
instance t201:FT Tryz.prog 201 x201.d:=x201.ft
abbrev x133:XT Tryz.prog 133:=mkF
instance t133:FT Tryz.prog 133 x133.d:=x133.ft
abbrev x187:XT Tryz.prog 187:=mkF
instance t187:FT Tryz.prog 187 x187.d:=x187.ft
abbrev x189:XT Tryz.prog 189:=mkF
instance t189:FT Tryz.prog 189 x189.d:=x189.ft
abbrev x272:XT Tryz.prog 272:=mkF
instance t272:FT Tryz.prog 272 x272.d:=x272.ft
abbrev x205:XT Tryz.prog 205:=mkF
instance t205:FT Tryz.prog 205 x205.d:=x205.ft
abbrev x206:XT Tryz.prog 206:=mkF
instance t206:FT Tryz.prog 206 x206.d:=x206.ft
abbrev x60:XT Tryz.prog 60:=mkF
instance t60:FT Tryz.prog 60 x60.d:=x60.ft
abbrev x162:XT Tryz.prog 162:=mkF
instance t162:FT Tryz.prog 162 x162.d:=x162.ft
abbrev x163:XT Tryz.prog 163:=mkF
instance t163:FT Tryz.prog 163 x163.d:=x163.ft
abbrev x129:XT Tryz.prog 129:=mkF
instance t129:FT Tryz.prog 129 x129.d:=x129.ft
abbrev x264:XT Tryz.prog 264:=mkF
instance t264:FT Tryz.prog 264 x264.d:=x264.ft
abbrev x84:XT Tryz.prog 84:=mkF
instance t84:FT Tryz.prog 84 x84.d:=x84.ft
abbrev x127:XT Tryz.prog 127:=mkF
instance t127:FT Tryz.prog 127 x127.d:=x127.ft
abbrev x195:XT Tryz.prog 195:=mkF
instance t195:FT Tryz.prog 195 x195.d:=x195.ft
abbrev x194:XT Tryz.prog 194:=mkF
instance t194:FT Tryz.prog 194 x194.d:=x194.ft
abbrev x193:XT Tryz.prog 193:=mkF
instance t193:FT Tryz.prog 193 x193.d:=x193.ft
abbrev x125:XT Tryz.prog 125:=mkF
instance t125:FT Tryz.prog 125 x125.d:=x125.ft
abbrev x126:XT Tryz.prog 126:=mkF
instance t126:FT Tryz.prog 126 x126.d:=x126.ft
abbrev x141:XT Tryz.prog 141:=mkF
instance t141:FT Tryz.prog 141 x141.d:=x141.ft
abbrev x265:XT Tryz.prog 265:=mkF
instance t265:FT Tryz.prog 265 x265.d:=x265.ft
abbrev x238:XT Tryz.prog 238:=mkF
instance t238:FT Tryz.prog 238 x238.d:=x238.ft
abbrev x239:XT Tryz.prog 239:=mkF
instance t239:FT Tryz.prog 239 x239.d:=x239.ft
abbrev x161:XT Tryz.prog 161:=mkF
instance t161:FT Tryz.prog 161 x161.d:=x161.ft
abbrev x237:XT Tryz.prog 237:=mkF
instance t237:FT Tryz.prog 237 x237.d:=x237.ft
abbrev x298:XT Tryz.prog 298:=mkF
instance t298:FT Tryz.prog 298 x298.d:=x298.ft
abbrev x83:XT Tryz.prog 83:=mkF
instance t83:FT Tryz.prog 83 x83.d:=x83.ft
abbrev x196:XT Tryz.prog 196:=mkF
instance t196:FT Tryz.prog 196 x196.d:=x196.ft
abbrev x266:XT Tryz.prog 266:=mkF
instance t266:FT Tryz.prog 266 x266.d:=x266.ft
abbrev x128:XT Tryz.prog 128:=mkF
instance t128:FT Tryz.prog 128 x128.d:=x128.ft
abbrev x130:XT Tryz.prog 130:=mkF
instance t130:FT Tryz.prog 130 x130.d:=x130.ft
abbrev x59:XT Tryz.prog 59:=mkF
instance t59:FT Tryz.prog 59 x59.d:=x59.ft
open Go.Sym Go.Pb
theorem B3r{H:Hp}{cc j:Nat}{b:Blk}(hfr:∀ i,cc<=i->H i=none)(h:H j=some b):j≠cc:=by
 rintro rfl;rw[hfr _ (A0E _)]at h;cases h
theorem A7b{H:Hp}{cc:Nat}{b:Blk}{ds:List DV}(hfr:∀ i,cc<=i->H i=none):GL (H.upd cc b) ds H ds:=GL.less' fun j b hj=>by rw[h_ne (B3r hfr hj)];exact hj
theorem S3{K H':Hp}{cc:Nat}{ds:List DV}(hK:∀ i,cc<=i->K i=none)(h:∀ j,j<cc->H' j=K j):GL H' ds K ds:=GL.less fun j=>by
 by_cases hj:j<cc
 ·exact .inr (h j hj).symm
 ·exact .inl (hK j (by omega))
theorem D8{H:Hp}{cc t:Nat}{b:Blk}(hfr:∀ i,cc<=i->H i=none)(htc:t<cc):∀ i,cc<=i->H.upd t b i=none:=fun i hi=>by rw[hnO];exact hfr i hi
theorem rv4{s:Sym.St}{x i u:Nat}{a b c d:DV}{o:Bool}(h:s.T x=.ptr i 0)(hb:s.H i=some ⟨u,o,[a,b,c,d]⟩):A4g s [.cell x 4 true]=some (.agg [a,b,c,d]):=by
 simp only[A4g,A4i,h,ldv,hb];rfl
theorem c_rdok(L:List Tok)(E:Int)(s:Rd)(H:Hp)(cc t:Nat)(ht:H t=some (rdR L E s))(htc:t<cc):AC Tryz.prog 60 [.ptr t 0] H cc (fun v H' c'=>v=.bool (okR s)/\H'=H):=by
 refine AC.bodyT A2 rfl (A0D rfl) fun hfr=>?_;repeat' (apply wr<;>try simp only[go_sem,seval,ht])
 exact⟨_,_,GL.refl _ _,rfl,rfl⟩
theorem c_peek(L:List Tok)(E:Int)(s:Rd)(H:Hp)(cc t:Nat)(ht:H t=some (rdR L E s))(htc:t<cc):AC Tryz.prog 163 [.ptr t 0] H cc (fun v H' c'=>v=(B8 L E s).v/\H'=H):=by
 refine AC.bodyT A2 rfl (A0D rfl) fun hfr=>?_;have ne0:=A0m t cc (by omega);by_cases hlt:s.i<L.length
 ·have hd:decide ((s.i:Int)<L.length)=true:=by simpa using hlt
  have hg:=A0B hlt;have e:B8 L E s=L[s.i]:=by unfold B8;rw[A1M,hg];rfl
  rw[e];generalize L[s.i]=a at hg;repeat' (apply wr<;>try simp only[go_sem,seval,ht,hd,hg,ne0,h_same,A5])
  rw[I1 (v:=a.v) (rv4 rfl h_same)];exact⟨_,_,A7b hfr,rfl,rfl⟩
 ·have hd:decide ((s.i:Int)<L.length)=false:=by simpa using hlt
  have e:B8 L E s=⟨0,[],0,E⟩:=by unfold B8;rw[A1M,A2Z (by omega)];rfl
  rw[e];repeat' (apply wr<;>try simp only[go_sem,seval,ht,hd,ne0,h_same,A5])
  rw[I1 (v:=Tok.v ⟨0,[],0,E⟩) (rv4 rfl h_same)];exact⟨_,_,A7b hfr,rfl,rfl⟩
theorem c_fail(L:List Tok)(E:Int)(s:Rd)(H:Hp)(cc t:Nat)(ht:H t=some (rdR L E s))(htc:t<cc)(p e:Int):AC Tryz.prog 162 [.ptr t 0,I64 p,I64 e] H cc (fun v H' c'=>v=.tup []/\H'=H.upd t (rdR L E (N0 s p e))):=by
 refine AC.bodyT A2 rfl (A0D rfl) fun hfr=>?_;cases h:okR s with
 |true =>
  have e0:N0 s p e = { s with e:=e,pos:=p }:=by rw[N0,if_pos h]
  have h':(s.e == 0)=true:=h;rw[e0];repeat' (apply wr<;>try simp only[go_sem,seval,ht,h',h_same,A5])
  exact⟨_,_,GL.refl _ _,rfl,rfl⟩
 |false =>
  have e0:N0 s p e=s:=by rw[N0,if_neg (by simp[h])]
  have h':(s.e == 0)=false:=h;rw[e0];repeat' (apply wr<;>try simp only[go_sem,seval,ht,h'])
  refine⟨_,_,GL.refl _ _,rfl,?_⟩
  funext j
  by_cases ej:j=t
  ·subst ej;rw[h_same,ht]
  ·rw[h_ne ej]
theorem upd_same{H:Hp}{t:Nat}{b:Blk}(h:H t=some b):H.upd t b=H:=by
 funext j
 by_cases ej:j=t
 ·subst ej;rw[h_same,h]
 ·rw[h_ne ej]
theorem c_is(L:List Tok)(E:Int)(s:Rd)(H:Hp)(cc t:Nat)(ht:H t=some (rdR L E s))(htc:t<cc)(x:List UInt8):AC Tryz.prog 129 [.ptr t 0,.str x] H cc (fun v H' c'=>v=.bool (isR L E s x)/\H'=H):=by
 refine AC.bodyT A2 rfl (A0D rfl) fun hfr=>?_;repeat' (apply wr<;>try simp only[go_sem,seval])
 refine AC.call (c_peek L E s _ _ t ht (by omega)) ?_;rintro v H' c1 ⟨rfl,rfl⟩ hc;have ne0:=A0m t c1 (by omega);simp only[go_sem,seval,h_same,A5];repeat' (apply wr<;>try simp only[go_sem,seval])
 refine AC.call (c_rdok L E s _ _ t (by rw[hnO];exact ht) (by omega)) ?_;rintro v H' c2 ⟨rfl,rfl⟩ hc2;simp only[go_sem,seval];repeat' ((with_reducible first|refine wr ?_|refine wb2 ?_ ?_<;>(intro hb;try simp only[hb])|fail)<;>try simp only[go_sem,seval,h_same])
 all_goals exact⟨_,_,A7b (fun i hi=>hfr i (by omega)),by simp_all[isR],rfl⟩
theorem c_isKind(L:List Tok)(E:Int)(s:Rd)(H:Hp)(cc t:Nat)(ht:H t=some (rdR L E s))(htc:t<cc)(k:Int):AC Tryz.prog 264 [.ptr t 0,I64 k] H cc (fun v H' c'=>v=.bool (K2 L E s k)/\H'=H):=by
 refine AC.bodyT A2 rfl (A0D rfl) fun hfr=>?_;repeat' (apply wr<;>try simp only[go_sem,seval])
 refine AC.call (c_rdok L E s _ _ t ht (by omega)) ?_;rintro v H' c1 ⟨rfl,rfl⟩ hc;by_cases h:okR s=true
 ·simp only[go_sem,seval,h];repeat' (apply wr<;>try simp only[go_sem,seval,h])
  refine AC.call (c_peek L E s _ _ t ht (by omega)) ?_;rintro v H' c2 ⟨rfl,rfl⟩ hc2;simp only[go_sem,seval];repeat' (apply wr<;>try simp only[go_sem,seval])
  exact⟨_,_,GL.refl _ _,by rw[K2,h];rfl,rfl⟩
 ·have h:okR s=false:=by simpa using h
  simp only[go_sem,seval,h];repeat' (apply wr<;>try simp only[go_sem,seval])
  exact⟨_,_,GL.refl _ _,by rw[K2,h];rfl,rfl⟩
theorem c_syntax(L:List Tok)(E:Int)(s:Rd)(H:Hp)(cc t:Nat)(ht:H t=some (rdR L E s))(htc:t<cc):AC Tryz.prog 84 [.ptr t 0] H cc (fun v H' c'=>v=.tup []/\H'=H.upd t (rdR L E (Q1 L E s))):=by
 refine AC.bodyT A2 rfl (A0D rfl) fun hfr=>?_;repeat' (apply wr<;>try simp only[go_sem,seval])
 refine AC.call (c_peek L E s _ _ t ht (by omega)) ?_;rintro v H' c1 ⟨rfl,rfl⟩ hc;simp only[go_sem,seval];repeat' (apply wr<;>try simp only[go_sem,seval])
 refine AC.call (c_fail L E s _ _ t ht (by omega) _ _) ?_;rintro v H' c2 ⟨rfl,rfl⟩ hc2;simp only[go_sem,seval];repeat' (apply wr<;>try simp only[go_sem,seval])
 exact⟨_,_,GL.refl _ _,rfl,rfl⟩
theorem c_limit(L:List Tok)(E:Int)(s:Rd)(H:Hp)(cc t:Nat)(ht:H t=some (rdR L E s))(htc:t<cc)(n m e:Int):AC Tryz.prog 127 [.ptr t 0,I64 n,I64 m,I64 e] H cc (fun v H' c'=>v=.tup []/\H'=H.upd t (rdR L E (C9 L E s n m e))):=by
 refine AC.bodyT A2 rfl (A0D rfl) fun hfr=>?_;by_cases h:m<n
 ·have hd:decide (n>m)=true:=by simpa using h
  have e0:C9 L E s n m e=N0 s (B8 L E s).pos e:=by rw[C9,if_pos h]
  rw[e0];repeat' (apply wr<;>try simp only[go_sem,seval,hd])
  refine AC.call (c_peek L E s _ _ t ht (by omega)) ?_;rintro v H' c1 ⟨rfl,rfl⟩ hc;simp only[go_sem,seval];repeat' (apply wr<;>try simp only[go_sem,seval])
  refine AC.call (c_fail L E s _ _ t ht (by omega) _ _) ?_;rintro v H' c2 ⟨rfl,rfl⟩ hc2;simp only[go_sem,seval];repeat' (apply wr<;>try simp only[go_sem,seval])
  exact⟨_,_,GL.refl _ _,rfl,rfl⟩
 ·have hd:decide (n>m)=false:=by simpa using h
  have e0:C9 L E s n m e=s:=by rw[C9,if_neg h]
  rw[e0];repeat' (apply wr<;>try simp only[go_sem,seval,hd])
  exact⟨_,_,GL.refl _ _,rfl,(upd_same ht).symm⟩
theorem c_expect(L:List Tok)(E:Int)(s:Rd)(H:Hp)(cc t:Nat)(ht:H t=some (rdR L E s))(htc:t<cc)(hi:s.i<=10000000000)(x:List UInt8):AC Tryz.prog 195 [.ptr t 0,.str x] H cc (fun v H' c'=>v=.tup []/\H'=H.upd t (rdR L E (E1 L E s x))):=by
 refine AC.bodyT A2 rfl (A0D rfl) fun hfr=>?_;repeat' (apply wr<;>try simp only[go_sem,seval])
 refine AC.call (c_is L E s _ _ t ht (by omega) x) ?_;rintro v H' c1 ⟨rfl,rfl⟩ hc;cases h:isR L E s x with
 |false =>
  have e0:E1 L E s x=Q1 L E s:=by rw[E1,if_pos h]
  rw[e0];simp only[go_sem,seval];repeat' (apply wr<;>try simp only[go_sem,seval])
  refine AC.call (c_syntax L E s _ _ t ht (by omega)) ?_;rintro v H' c2 ⟨rfl,rfl⟩ hc2;simp only[go_sem,seval];repeat' (apply wr<;>try simp only[go_sem,seval])
  exact⟨_,_,GL.refl _ _,rfl,rfl⟩
 |true =>
  have hw:IntKind.i64.wrap ((s.i:Int)+1)=((s.i+1:Nat):Int):=by rw[w6z (by omega)];omega
  have e0:E1 L E s x=A7 s:=by rw[E1,if_neg (by simp[h])]
  rw[e0];simp only[go_sem,seval];repeat' (apply wr<;>try simp only[go_sem,seval,ht,hw])
  exact⟨_,_,GL.refl _ _,rfl,rfl⟩
theorem c_take(L:List Tok)(E:Int)(s:Rd)(H:Hp)(cc t:Nat)(ht:H t=some (rdR L E s))(htc:t<cc)(hi:s.i<=10000000000)(k:Int):AC Tryz.prog 194 [.ptr t 0,I64 k] H cc (fun v H' c'=>v=(A8 L E s k).1.v/\H'=H.upd t (rdR L E (A8 L E s k).2)):=by
 refine AC.bodyT A2 rfl (A0D rfl) fun hfr=>?_;repeat' (apply wr<;>try simp only[go_sem,seval])
 refine AC.call (c_peek L E s _ _ t (by rw[hnO];exact ht) (by omega)) ?_;rintro v H' c1 ⟨rfl,rfl⟩ hc;have ne0:=R9 t cc c1 (by omega);simp only[go_sem,seval,h_same];repeat' (apply wr<;>try simp only[go_sem,seval])
 refine AC.call (c_isKind L E s _ _ t (by rw[hnO,hnO,hnO];exact ht) (by omega) k) ?_;rintro v H' c2 ⟨rfl,rfl⟩ hc2;cases h:K2 L E s k with
 |false =>
  have e0:A8 L E s k=(W9,Q1 L E s):=by rw[A8,if_pos h]
  rw[e0];simp only[go_sem,seval,A5];repeat' (apply wr<;>try simp only[go_sem,seval])
  refine AC.call (c_syntax L E s _ _ t (by rw[hnO,hnO];exact ht) (by omega)) ?_;rintro v H' c3 ⟨rfl,rfl⟩ hc3;simp only[go_sem,seval];repeat' (apply wr<;>try simp only[go_sem,seval,ne0,h_same])
  rw[I1 (v:=W9.v) (rv4 rfl h_same)];exact⟨_,_,S3 (D8 hfr htc) (fun j hj=>by simp[Hp.upd,show ¬j=cc by omega,show ¬j=c1 by omega]),rfl,rfl⟩
 |true =>
  have hw:IntKind.i64.wrap ((s.i:Int)+1)=((s.i+1:Nat):Int):=by rw[w6z (by omega)];omega
  have e0:A8 L E s k=(B8 L E s,A7 s):=by rw[A8,if_neg (by simp[h])]
  rw[e0];simp only[go_sem,seval,A5];repeat' (apply wr<;>try simp only[go_sem,seval,ne0,ht,hw,h_same])
  rw[I1 (v:=(B8 L E s).v) (rv4 rfl h_same)];exact⟨_,_,S3 (D8 hfr htc) (fun j hj=>by simp[Hp.upd,show ¬j=cc by omega,show ¬j=c1 by omega];rfl),rfl,rfl⟩
theorem c_name(L:List Tok)(E:Int)(s:Rd)(H:Hp)(cc t:Nat)(ht:H t=some (rdR L E s))(htc:t<cc)(hi:s.i<=10000000000):AC Tryz.prog 193 [.ptr t 0] H cc (fun v H' c'=>v=.str (A8 L E s 1).1.text/\H'=H.upd t (rdR L E (A8 L E s 1).2)):=by
 refine AC.bodyT A2 rfl (A0D rfl) fun hfr=>?_;repeat' (apply wr<;>try simp only[go_sem,seval])
 refine AC.call (c_take L E s _ _ t ht (by omega) hi 1) ?_;rintro v H' c1 ⟨rfl,rfl⟩ hc;simp only[go_sem,seval];repeat' (apply wr<;>try simp only[go_sem,seval])
 exact⟨_,_,GL.refl _ _,rfl,rfl⟩
abbrev A3w(l:List (List UInt8)):DV:=.lst (l.map DV.str)
theorem c_among(L:List Tok)(E:Int)(s:Rd)(H:Hp)(cc t:Nat)(ht:H t=some (rdR L E s))(htc:t<cc)(l:List (List UInt8))(hl:l.length<=1000000):AC Tryz.prog 125 [.ptr t 0,A3w l] H cc (fun v H' c'=>v=I64 (C0 L E s l)/\H'=H):=by
 refine AC.bodyT A2 rfl (A0D rfl) fun hfr=>?_;repeat' (apply wr<;>try simp only[go_sem,seval])
 refine A9 (fun k:Nat=>[(0,.ptr t 0),(1,A3w l),(5,I64 k)]) (fun _=>H) (fun k c=>cc<=c/\k<=l.length/\C0 L E s l=A1m L E s k (l.drop k)) (fun k=>l.length-k) 0 (by simp[C1,tm,Tm.upd]) (Sub.refl _) ⟨by omega,by simp,rfl⟩ ?_;rintro k c ⟨hc,hk,hv⟩;by_cases hlt:k<l.length
 ·have hd:=dtz hlt;have hg:=A0B hlt;have hw:IntKind.i64.wrap ((k:Int)+1)=((k+1:Nat):Int):=by rw[w6z (by omega)];omega
  rw[A1C hlt,A1m]at hv;generalize l[k]=a at hg hv;repeat' (apply wr<;>try simp only[go_sem,seval,hd,hg])
  refine AC.call (c_is L E s _ _ t ht (by omega) a) ?_;rintro v H' c1 ⟨rfl,rfl⟩ hc1;cases h:isR L E s a with
  |true =>
   rw[if_pos h]at hv;rw[hv];simp only[go_sem,seval];repeat' (apply wr<;>try simp only[go_sem,seval])
   exact⟨_,_,GL.refl _ _,rfl,rfl⟩
  |false =>
   rw[if_neg (by simp[h])]at hv;simp only[go_sem,seval];repeat' (apply wr<;>try simp only[go_sem,seval,hw])
   exact⟨k+1,rfl,Sub.refl _,inv ⟨by omega,hlt,hv⟩,by omega⟩
 ·have hd:=dfz hlt;have hk:k=l.length:=by omega
  rw[hk,A3X,A1m]at hv;rw[hv];repeat' (apply wr<;>try simp only[go_sem,seval,hd])
  exact⟨_,_,GL.refl _ _,rfl,rfl⟩
theorem A4r(l:List (List UInt8)):cellsL (l.map DV.str)=l.map DV.str:=A2k (fun _=>rfl) l
theorem c_amongO(L:List Tok)(E:Int)(s:Rd)(K:Hp)(cc t b:Nat)(hK:K b=none)(ht:K t=some (rdR L E s))(htc:t<cc)(l:List (List UInt8))(hl:l.length<=1000000):
  AC Tryz.prog 125 [.ptr t 0,.slc b 0 l.length] (K.upd b ⟨1,true,l.map DV.str⟩) cc (fun v H' c'=>v=I64 (C0 L E s l)/\H'=K) :=
 AC.ghost (GL.frzS (id:=b) h_same rfl (fun j=>by
  by_cases e:j=b
  ·subst e;exact .inl hK
  ·exact .inr ⟨e,(h_ne e).symm⟩) (.cons _ _ _ _ (.same _) (.cons _ _ _ _ (P0 (u:=1) (by simp) (Q5 _) ⟨[],by rw[A0W,A4r]⟩) .nil))) (c_among L E s K cc t ht htc l hl)
theorem E4d{ρ : Ren}{v:Value}{a b c e:DV}(h:VRel ρ (.agg [a,b,c,.snil,e]) v):VRel ρ (.agg [a,b,c,.lst [],e]) v:=by
 obtain⟨bb,rfl,k1,k2⟩:=h.agg_inv;refine .agg _ _ k1 fun j x y hx hy=>?_
 match j with
 |0=>cases hx;exact k2 0 _ y rfl hy
 |1=>cases hx;exact k2 1 _ y rfl hy
 |2=>cases hx;exact k2 2 _ y rfl hy
 |3=>cases hx;exact (k2 3 _ y rfl hy).snil_lst
 |4=>cases hx;exact k2 4 _ y rfl hy
 |_+5=>cases hx
theorem A9z{K H':Hp}{cc:Nat}{a b c e:DV}(hK:∀ i,cc<=i->K i=none)(h:∀ j,j<cc->H' j=K j):GL H' [.agg [a,b,c,.snil,e]] K [.agg [a,b,c,.lst [],e]] :=
 (S3 hK h).trans (GL.view fun ρ vs hA=>N6 (fun v h=>E4d h) vs hA)
theorem rv5{s:Sym.St}{x i u:Nat}{a b c d e:DV}{o:Bool}(h:s.T x=.ptr i 0)(hb:s.H i=some ⟨u,o,[a,b,c,d,e]⟩):A4g s [.cell x 5 true]=some (.agg [a,b,c,d,e]):=by
 simp only[A4g,A4i,h,ldv,hb];rfl
theorem A4t(L:List Tok)(E:Int)(s:Rd):∀ (l:List (List UInt8)) (k:Nat), -1<=A1m L E s k l/\A1m L E s k l<((k+l.length:Nat):Int)
 |[],k=>by simp[A1m];omega
 |x :: l,k=>by
  have:=A4t L E s l (k+1);unfold A1m;split
  ·simp only[A0K];omega
  ·simp only[A0K];omega
theorem E1g{L:List Tok}{E:Int}{s:Rd}{n m e:Int}:(C9 L E s n m e).i=s.i:=by unfold C9 N0;split<;>(try split)<;>rfl
abbrev tkB(a:Tok):Blk:=⟨0,true,[I64 a.kind,.str a.text,I64 a.value,I64 a.pos]⟩
abbrev C8u:Blk:=⟨0,true,[I64 0,I64 0,.str [],.snil,I64 0]⟩
theorem c_primary(L:List Tok)(E:Int)(s:Rd)(H:Hp)(cc t:Nat)(ht:H t=some (rdR L E s))(htc:t<cc)(hi:s.i<=9999999999)(ho:0<=s.ops/\s.ops<=100):AC Tryz.prog 298 [.ptr t 0] H cc (fun v H' c'=>v=(J7 L E s).1.v/\H'=H.upd t (rdR L E (J7 L E s).2)):=by
 refine AC.bodyT A2 rfl (A0D rfl) fun hfr=>?_;repeat' (apply wr<;>try simp only[go_sem,seval])
 refine AC.call (c_peek L E s _ _ t (by rw[hnO];exact ht) (by omega)) ?_;rintro v H' c1 ⟨rfl,rfl⟩ hc;have ne0:=W3 t cc c1 (c1+1) (by omega);simp only[go_sem,seval,h_same,A5];repeat' (apply wr<;>try simp only[go_sem,seval])
 have ham:=c_amongO L E s ((H.upd cc ⟨0,true,[I64 0,I64 0,.str [],.snil,I64 0]⟩).upd c1 ⟨0,true,[I64 (B8 L E s).kind,.str (B8 L E s).text,I64 (B8 L E s).value,I64 (B8 L E s).pos]⟩) (c1+1+1) t (c1+1) (by rw[hnO,hnO];exact hfr _ (by omega)) (by rw[hnO,hnO];exact ht) (by omega) S7 (by decide);refine AC.call ham ?_;rintro v H' c2 ⟨rfl,rfl⟩ hc2;have hpr:J7 L E s=J7 L E s:=rfl
 conv at hpr=>rhs;unfold J7
 have hkr : -1<=C0 L E s S7/\C0 L E s S7<7:=A4t L E s S7 0;generalize C0 L E s S7=k at hpr hkr;have hk0 : -1<=k/\k<7:=hkr;have hw:IntKind.i64.wrap (s.ops+1)=s.ops+1:=w6z (by omega);have tail:∀ c3,c2<=c3->¬(k<0/\K2 L E s 3=false/\K2 L E s 1=false)->IW Tryz.prog 78 (pz Tryz.prog 298 (.i (.o (.o (.o .h))))) ⟨tm [(0,.ptr t 0),(2,.ptr cc 0),(3,.ptr c1 0),(4,I64 k),(22,.bool false)],(H.upd cc C8u).upd c1 (tkB (B8 L E s)),c3⟩ (rt [.cell 2 5 true] fun v H' c' => ∃ v2 H2,GL H' [v] H2 [v2]/\v2=(J7 L E s).1.v/\H2=H.upd t (rdR L E (J7 L E s).2)):=by
  intro c3 hc3 hcd;rw[if_neg hcd]at hpr;dsimp only at hpr;repeat' (apply wr<;>try simp only[go_sem,seval,ht,hw,ne0,h_same])
  refine AC.call (c_limit L E { s with ops:=s.ops+1 } _ _ t h_same (by omega) _ _ _) ?_;rintro v H' c4 ⟨rfl,rfl⟩ hc4;have hi2:(C9 L E { s with ops:=s.ops+1 } (s.ops+1) 32 9).i=s.i:=E1g;generalize C9 L E { s with ops:=s.ops+1 } (s.ops+1) 32 9=s2 at *;simp only[go_sem,seval,A5];repeat' (apply wr<;>try simp only[go_sem,seval])
  refine AC.call (c_rdok L E s2 _ _ t h_same (by omega)) ?_;rintro v H' c5 ⟨rfl,rfl⟩ hc5;have hG:∀ (b5:Blk) (j:Nat),j<cc->(((H.upd cc b5).upd c1 (tkB (B8 L E s))).upd t (rdR L E s2)) j=(H.upd t (rdR L E s2)) j:=fun b5 j hj=>by simp[Hp.upd,show ¬j=cc by omega,show ¬j=c1 by omega]
  cases h2:okR s2 with
  |false =>
   rw[if_pos h2]at hpr;rw[hpr];simp only[go_sem,seval];repeat' (apply wr<;>try simp only[go_sem,seval,ne0,h_same])
   rw[I1 (v:=.agg [I64 0,I64 0,.str [],.snil,I64 0]) (rv5 rfl h_same)];refine⟨_,_,A9z (cc:=cc) (D8 hfr htc) (fun j hj=>?_),rfl,rfl⟩;simp[Hp.upd,show ¬j=cc by omega,show ¬j=c1 by omega]
  |true =>
   rw[if_neg (by simp[h2])]at hpr;have hw2:IntKind.i64.wrap ((s2.i:Int)+1)=((s2.i+1:Nat):Int):=by rw[w6z (by omega)];omega
   simp only[go_sem,seval];by_cases hk1:0<=k
   ·rw[if_pos hk1]at hpr;have hd1:decide (k≥0)=true:=by simpa using hk1
    have ne0:=A2a t cc c1 c5 (c5+7) (by omega);by_cases h4:4<=k
    ·rw[if_pos h4]at hpr;rw[hpr];rcases (show k=4\/k=5\/k=6 by omega) with rfl|rfl|rfl
     all_goals
      repeat' (apply wr<;>try simp only[go_sem,seval,hw2,ne0,h_same,A5])
      refine AC.call (c_name L E (A7 s2) _ _ t (by repeat (first|exact h_same|rw[hnO])) (by omega) (by show s2.i+1<=10000000000;omega)) ?_;rintro v H' c6 ⟨rfl,rfl⟩ hc6;simp only[go_sem,seval,ne0,h_same];repeat' (apply wr<;>try simp only[go_sem,seval,ne0,h_same])
      rw[I1 (rv5 rfl h_same)];refine⟨_,_,A9z (cc:=cc) (D8 hfr htc) (fun j hj=>?_),rfl,rfl⟩;simp[Hp.upd,show ¬j=cc by omega,show ¬j=c1 by omega,show ¬j=c5 by omega,show ¬j=c5+7 by omega];try (split<;>rfl)
    ·rw[if_neg h4]at hpr;rw[hpr];rcases (show k=0\/k=1\/k=2\/k=3 by omega) with rfl|rfl|rfl|rfl
     all_goals
      repeat' (apply wr<;>try simp only[go_sem,seval,hw2,ne0,h_same,A5])
      rw[I1 (rv5 rfl h_same)];refine⟨_,_,A9z (cc:=cc) (D8 hfr htc) (fun j hj=>?_),rfl,rfl⟩;simp[Hp.upd,show ¬j=cc by omega,show ¬j=c1 by omega,show ¬j=c5 by omega,show ¬j=c5+7 by omega];rfl
   ·rw[if_neg hk1]at hpr;have hd1:decide (k≥0)=false:=by simpa using hk1
    by_cases h3:(B8 L E s).kind=3
    ·rw[if_pos h3]at hpr;rw[hpr];have hd3:((B8 L E s).kind == 3)=true:=by simpa using h3
     repeat' (apply wr<;>try simp only[go_sem,seval,hw2,hd1,hd3,ne0,h_same,A5])
     rw[I1 (v:=.agg [I64 1,I64 (B8 L E s).value,.str [],.snil,I64 (B8 L E s).pos]) (rv5 rfl h_same)];refine⟨_,_,A9z (cc:=cc) (D8 hfr htc) (fun j hj=>?_),rfl,rfl⟩;simp[Hp.upd,show ¬j=cc by omega,show ¬j=c1 by omega];rfl
    ·rw[if_neg h3]at hpr;rw[hpr];have hd3:((B8 L E s).kind == 3)=false:=by simpa using h3
     repeat' (apply wr<;>try simp only[go_sem,seval,hw2,hd1,hd3,ne0,h_same,A5])
     rw[I1 (v:=.agg [I64 2,I64 0,.str (B8 L E s).text,.snil,I64 (B8 L E s).pos]) (rv5 rfl h_same)];refine⟨_,_,A9z (cc:=cc) (D8 hfr htc) (fun j hj=>?_),rfl,rfl⟩;simp[Hp.upd,show ¬j=cc by omega,show ¬j=c1 by omega];rfl
 have hGt:∀ b5:Blk,((H.upd cc b5).upd c1 (tkB (B8 L E s))) t=some (rdR L E s):=fun b5=>by rw[hnO,hnO];exact ht
 by_cases hk1:k<0
 ·have hd:decide (k<0)=true:=by simpa using hk1
  simp only[go_sem,seval];repeat' (apply wr<;>try simp only[go_sem,seval,hd])
  refine AC.call (c_isKind L E s _ _ t (hGt _) (by omega) 3) ?_;rintro v H' c3 ⟨rfl,rfl⟩ hc3;cases h3:K2 L E s 3 with
  |true =>
   simp only[go_sem,seval];repeat' ((with_reducible first|refine H9 (p:=IW _ _ (pz Tryz.prog 298 (.i (.o (.o (.o .h))))) _ _) ?_|refine wr ?_|fail)<;>try simp only[go_sem,seval])
   exact tail _ (by omega) (by simp[h3])
  |false =>
   simp only[go_sem,seval];repeat' (apply wr<;>try simp only[go_sem,seval,h3])
   refine AC.call (c_isKind L E s _ _ t (hGt _) (by omega) 1) ?_;rintro v H' c4 ⟨rfl,rfl⟩ hc4;cases h1:K2 L E s 1 with
   |true =>
    simp only[go_sem,seval];repeat' ((with_reducible first|refine H9 (p:=IW _ _ (pz Tryz.prog 298 (.i (.o (.o (.o .h))))) _ _) ?_|refine wr ?_|fail)<;>try simp only[go_sem,seval])
    exact tail _ (by omega) (by simp[h1])
   |false =>
    rw[if_pos ⟨hk1,h3,h1⟩]at hpr;rw[hpr];simp only[go_sem,seval];repeat' (apply wr<;>try simp only[go_sem,seval])
    refine AC.call (c_syntax L E s _ _ t (hGt _) (by omega)) ?_;rintro v H' c5 ⟨rfl,rfl⟩ hc5;simp only[go_sem,seval];repeat' (apply wr<;>try simp only[go_sem,seval,ne0,h_same])
    rw[I1 (rv5 rfl h_same)];refine⟨_,_,A9z (cc:=cc) (D8 hfr htc) (fun j hj=>?_),rfl,rfl⟩;simp[Hp.upd,show ¬j=cc by omega,show ¬j=c1 by omega]
 ·have hd:decide (k<0)=false:=by simpa using hk1
  simp only[go_sem,seval];repeat' ((with_reducible first|refine H9 (p:=IW _ _ (pz Tryz.prog 298 (.i (.o (.o (.o .h))))) _ _) ?_|refine wr ?_|fail)<;>try simp only[go_sem,seval,hd])
  exact tail _ (by omega) fun h=>hk1 h.1
theorem c_level(k:Int):PC Tryz.prog 239 [I64 k] (I64 (B6 k)):=by
 refine PC.go A2 ?_;repeat' ((with_reducible first|refine wr ?_|refine wb2 ?_ ?_<;>(intro hb;try simp only[hb])|fail)<;>try simp only[go_sem,seval])
 all_goals
  refine A3 (congrArg I64 ?_);simp only[A1Y,beq_eq_false_iff_ne,A0I,A2C]at *;unfold B6;repeat' split
  all_goals omega
theorem c_signs31:PC Tryz.prog 238 [] (A3w D9):=by
 refine PC.ofT A2 rfl (A0D rfl) rfl (K0 _) ?_;repeat' (apply wr<;>try simp only[go_sem,seval])
 exact O4 (xs:=D9.map DV.str) (u:=1) h_same rfl rfl (Q5 _) ⟨[],rfl⟩
theorem c_decls31:PC Tryz.prog 126 [] (A3w E5):=by
 refine PC.ofT A2 rfl (A0D rfl) rfl (K0 _) ?_;repeat' (apply wr<;>try simp only[go_sem,seval])
 exact O4 (xs:=E5.map DV.str) (u:=1) h_same rfl rfl (Q5 _) ⟨[],rfl⟩
theorem c_trigs31:PC Tryz.prog 141 [] (A3w E9):=by
 refine PC.ofT A2 rfl (A0D rfl) rfl (K0 _) ?_;repeat' (apply wr<;>try simp only[go_sem,seval])
 exact O4 (xs:=E9.map DV.str) (u:=1) h_same rfl rfl (Q5 _) ⟨[],rfl⟩
theorem c_stmts31:PC Tryz.prog 265 [] (A3w B9):=by
 refine PC.ofT A2 rfl (A0D rfl) rfl (K0 _) ?_;repeat' (apply wr<;>try simp only[go_sem,seval])
 exact O4 (xs:=B9.map DV.str) (u:=1) h_same rfl rfl (Q5 _) ⟨[],rfl⟩
theorem D4g{K H':Hp}{cc b:Nat}{a b' c e:DV}(l:List Ex)(hK:∀ i,cc<=i->K i=none)(hb0:cc<=b)(hb:H' b=some ⟨5,true,cellsL (l.map Ex.v)⟩)(h:∀ j,j<cc->H' j=K j):
  GL H' [.agg [a,b',c,.slc b 0 l.length,e]] K [.agg [a,b',c,G9 l,e]] :=
 GL.frzS (id:=b) hb rfl (fun j=>by
  by_cases hj:j<cc
  ·exact .inr ⟨by omega,(h j hj).symm⟩
  ·exact .inl (hK j (by omega))) (.cons _ _ _ _ (.agg _ _ (.cons _ _ _ _ (.same _) (.cons _ _ _ _ (.same _) (.cons _ _ _ _ (.same _) (.cons _ _ _ _ (P0 (u:=5) (by simp) (A5x l) ⟨[],by simp⟩) (.cons _ _ _ _ (.same _) .nil)))))) .nil)
theorem A5y(e:Ex):cellsL ([e].map Ex.v)=[I64 e.kind,I64 e.value,.str e.name,G9 e.args,I64 e.pos]:=by
 rw[A0Q,Ex.v_w];rfl
theorem C8r(e x:Ex):cellsL ([e,x].map Ex.v)=[I64 e.kind,I64 e.value,.str e.name,G9 e.args,I64 e.pos,I64 x.kind,I64 x.value,.str x.name,G9 x.args,I64 x.pos]:=by
 rw[A0Q,A0Q,Ex.v_w,Ex.v_w];rfl
abbrev RdC(L:List Tok)(E:Int)(f:Nat)(vs:List DV)(s:Rd)(r:DV × Rd):Prop :=
 ∀ (H:Hp) (cc t:Nat),H t=some (rdR L E s)->t<cc->AC Tryz.prog f (.ptr t 0 :: vs) H cc (fun v H' c'=>v=r.1/\H'=H.upd t (rdR L E r.2))
theorem c_unary(L:List Tok)(E:Int)(hL:L.length<=1000000000)(f:Nat)
  (ib:∀ n s r,1<=n->n<=6->L5 L E f n s=some r->RI L s->RdC L E 161 [I64 n] s (r.1.v,r.2))
  (iu:∀ s r,Y9 L E f s=some r->RI L s->RdC L E 237 [] s (r.1.v,r.2))
  (s:Rd) (r:Ex × Rd) (h:Y9 L E (f+1) s=some r) (hR:RI L s):RdC L E 237 [] s (r.1.v,r.2):=by
 intro H cc t ht htc;have hri:=hR.i;have hro:=hR.o0;have hro1:=hR.o1;have hp0:=hR.p0;have hp1:=hR.p1;refine AC.bodyT A2 rfl (A0D rfl) fun hfr=>?_;repeat' (apply wr<;>try simp only[go_sem,seval])
 refine AC.call (c_peek L E s _ _ t (by rw[hnO];exact ht) (by omega)) ?_;rintro v H' c1 ⟨rfl,rfl⟩ hc;have ne0:=W3 t cc c1 (c1+1) (by omega);simp only[go_sem,seval,h_same,A5];repeat' (apply wr<;>try simp only[go_sem,seval])
 have ham:=c_amongO L E s ((H.upd cc C8u).upd c1 (tkB (B8 L E s))) (c1+1+1) t (c1+1) (by rw[hnO,hnO];exact hfr _ (by omega)) (by rw[hnO,hnO];exact ht) (by omega) Q2 (by decide);refine AC.call ham ?_;rintro v H' c2 ⟨rfl,rfl⟩ hc2;unfold Y9 at h;dsimp only at h;have hkr : -1<=C0 L E s Q2/\C0 L E s Q2<3:=A4t L E s Q2 0;have hnn:0<=C0 L E s Q2->s.i<L.length:=fun h=>(H8 h).2.1;generalize C0 L E s Q2=k at h hkr hnn;have hGt:((H.upd cc C8u).upd c1 (tkB (B8 L E s))) t=some (rdR L E s):=by rw[hnO,hnO];exact ht
 by_cases hk:k<0
 ·rw[if_pos hk]at h;cases h;have hd:decide (k<0)=true:=by simpa using hk
  simp only[go_sem,seval];repeat' (apply wr<;>try simp only[go_sem,seval,hd])
  refine AC.call (c_primary L E s _ _ t hGt (by omega) (by omega) (by omega)) ?_;rintro v H' c3 ⟨rfl,rfl⟩ hc3;simp only[go_sem,seval,ne0,h_same,Ex.v_w];repeat' (apply wr<;>try simp only[go_sem,seval])
  rw[I1 (rv5 rfl h_same)];refine⟨_,_,S3 (cc:=cc) (D8 hfr htc) (fun j hj=>?_),rfl,rfl⟩;simp[Hp.upd,show ¬j=cc by omega,show ¬j=c1 by omega]
 ·rw[if_neg hk]at h;have hd:decide (k<0)=false:=by simpa using hk
  have hw:IntKind.i64.wrap (s.par+1)=s.par+1:=w6z (by omega);have hw2:IntKind.i64.wrap ((s.i:Int)+1)=((s.i+1:Nat):Int):=by rw[w6z (by omega)];omega
  have hw3:IntKind.i64.wrap (10+k)=10+k:=w6z (by omega);simp only[go_sem,seval];repeat' (apply wr<;>try simp only[go_sem,seval,ne0,hd,ht,hw])
  refine AC.call (c_limit L E s _ _ t hGt (by omega) _ _ _) ?_;rintro v H' c3 ⟨rfl,rfl⟩ hc3;simp only[go_sem,seval];repeat' (apply wr<;>try simp only[go_sem,seval])
  refine AC.call (c_rdok L E _ _ _ t h_same (by omega)) ?_;rintro v H' c4 ⟨rfl,rfl⟩ hc4;cases h2:okR (C9 L E s (s.par+1) 16 50) with
  |false =>
   rw[if_pos h2]at h;cases h;simp only[go_sem,seval];repeat' (apply wr<;>try simp only[go_sem,seval,ne0,h_same])
   rw[I1 (rv5 rfl h_same)];refine⟨_,_,A9z (cc:=cc) (D8 hfr htc) (fun j hj=>?_),rfl,rfl⟩;simp[Hp.upd,show ¬j=cc by omega,show ¬j=c1 by omega]
  |true =>
   rw[if_neg (by simp[h2])]at h;obtain⟨h3,h4,h5⟩:=H3 (by decide) h2;rw[h5]at h h2 ⊢;simp only[go_sem,seval];have ne0:=W3 t cc c1 c4 (by omega);have k2:RI L { s with i:=s.i+1,par:=s.par+1 }:=⟨hnn (by omega),hro,hro1,hR.o2,by show 0<=s.par+1;omega,h4⟩;by_cases hk2:k=2
   ·subst hk2;rw[if_pos rfl]at h;cases hb:L5 L E f 1 { s with i:=s.i+1,par:=s.par+1 } with
    |none=>rw[hb]at h;cases h
    |some q =>
     obtain⟨e,s3⟩:=q;rw[hb]at h;dsimp only at h;obtain⟨a1,a2⟩:=(RI.all f).1 _ _ _ hb k2;obtain⟨b1,b2⟩:=a1.exp (E:=E) (x:=[41]);have hi3:=a1.i;dsimp only at a2 b2 hi3;repeat' (apply wr<;>try simp only[go_sem,seval,hw,hw2,h_same,A5])
     refine AC.call (ib 1 _ (e,s3) (by decide) (by decide) hb k2 _ _ t (by rw[hnO,h_same]) (by omega)) ?_;rintro v H' c5 ⟨rfl,rfl⟩ hc5;dsimp only;simp only[go_sem,seval,ne0,h_same,Ex.v_w];repeat' (apply wr<;>try simp only[go_sem,seval])
     refine AC.call (c_expect L E s3 _ _ t (by repeat (first|exact h_same|rw[hnO])) (by omega) (by omega) _) ?_;rintro v H' c6 ⟨rfl,rfl⟩ hc6;obtain⟨s4,hs4⟩:∃ s4,s4=E1 L E s3 [41]:=⟨_,rfl⟩;rw[<- hs4]at h b1 b2 ⊢;have hw5:IntKind.i64.wrap (s4.par-1)=s4.par-1:=w6z (by omega);cases h;simp only[go_sem,seval];repeat' (apply wr<;>try simp only[go_sem,seval,hw5,ne0,h_same,A5])
     rw[I1 (rv5 rfl h_same)];refine⟨_,_,S3 (cc:=cc) (D8 hfr htc) (fun j hj=>?_),rfl,rfl⟩;simp[Hp.upd,show ¬j=cc by omega,show ¬j=c1 by omega,show ¬j=c4 by omega];try (split<;>rfl)
   ·rw[if_neg hk2]at h;have hd2:(k == 2)=false:=by simpa using hk2
    cases hb:Y9 L E f { s with i:=s.i+1,par:=s.par+1 } with
    |none=>rw[hb]at h;cases h
    |some q =>
     obtain⟨e,s3⟩:=q;rw[hb]at h;dsimp only at h;obtain⟨a1,a2⟩:=(RI.all f).2.2 _ _ hb k2;dsimp only at a2;repeat' (apply wr<;>try simp only[go_sem,seval,hw,hw2,hw3,hd2,ne0,h_same,A5])
     refine AC.call (iu _ (e,s3) hb k2 _ _ t (by rw[hnO,h_same]) (by omega)) ?_;rintro v H' c5 ⟨rfl,rfl⟩ hc5;have hw5:IntKind.i64.wrap (s3.par-1)=s3.par-1:=w6z (by omega);cases h;have ne0:=A2a t cc c1 c4 (c4+1+4) (by omega);simp only[go_sem,seval,ne0,h_same,Ex.v_w];repeat' (apply wr<;>try simp only[go_sem,seval,ne0,h_same,A5])
     and_intros
     all_goals try (first|rw[hw3]|((repeat rw[hnO]);exact hfr _ (by omega)))
     repeat' (apply wr<;>try simp only[go_sem,seval,hw5,ne0,h_same])
     rw[I1 (rv5 rfl h_same)];refine⟨_,_,D4g (cc:=cc) (b:=c4+1+4) [e] (D8 hfr htc) (by omega) ?_ (fun j hj=>?_),rfl,rfl⟩
     ·rw[A5y];dsimp only
      repeat (first|exact h_same|rw[hnO])
     simp[Hp.upd,show ¬j=cc by omega,show ¬j=c1 by omega,show ¬j=c4 by omega,show ¬j=c4+1+4 by omega];try (split<;>rfl)
abbrev exB(e:Ex):Blk:=⟨0,true,[I64 e.kind,I64 e.value,.str e.name,G9 e.args,I64 e.pos]⟩
theorem c_binary(L:List Tok)(E:Int)(hL:L.length<=1000000000)(f:Nat)
  (ib:∀ g,g<=f->∀ n s r,1<=n->n<=6->L5 L E g n s=some r->RI L s->RdC L E 161 [I64 n] s (r.1.v,r.2))
  (iu:∀ s r,Y9 L E f s=some r->RI L s->RdC L E 237 [] s (r.1.v,r.2))
  (n:Int) (s:Rd) (r:Ex × Rd) (hn1:1<=n) (hn6:n<=6) (h:L5 L E (f+1) n s=some r) (hR:RI L s):RdC L E 161 [I64 n] s (r.1.v,r.2):=by
 intro H cc t ht htc;refine AC.bodyT A2 rfl (A0D rfl) fun hfr=>?_;unfold L5 at h;have ne0:=A0m t cc (by omega);by_cases h5:5<n
 ·rw[if_pos h5]at h;have hd:decide (n>5)=true:=by simpa using h5
  repeat' (apply wr<;>try simp only[go_sem,seval,hd])
  refine AC.call (iu _ _ h hR _ _ t (by rw[hnO];exact ht) (by omega)) ?_;rintro v H' c1 ⟨rfl,rfl⟩ hc1;dsimp only;simp only[go_sem,seval,ne0,h_same,Ex.v_w];repeat' (apply wr<;>try simp only[go_sem,seval])
  rw[I1 (rv5 rfl h_same)];refine⟨_,_,S3 (cc:=cc) (D8 hfr htc) (fun j hj=>?_),rfl,rfl⟩;simp[Hp.upd,show ¬j=cc by omega]
 rw[if_neg h5]at h;have hd:decide (n>5)=false:=by simpa using h5
 have hw:IntKind.i64.wrap (n+1)=n+1:=w6z (by omega);cases hb:L5 L E f (n+1) s with
 |none=>rw[hb]at h;cases h
 |some q =>
  obtain⟨e,s1⟩:=q;rw[hb]at h;dsimp only at h;obtain⟨a1,a2⟩:=(RI.all f).1 _ _ _ hb hR;dsimp only at a1;repeat' (apply wr<;>try simp only[go_sem,seval,hd,hw])
  refine AC.call (ib f (A0E _) (n+1) _ _ (by omega) (by omega) hb hR _ _ t (by rw[hnO];exact ht) (by omega)) ?_;rintro v H' c1 ⟨rfl,rfl⟩ hc1;dsimp only;have ne0:=R9 t cc c1 (by omega);simp only[go_sem,seval,h_same,A5,Ex.v_w];repeat' (apply wr<;>try simp only[go_sem,seval])
  refine D2i (fun _:Nat × Ex × Rd=>[(0,.ptr t 0),(1,I64 n),(4,.ptr cc 0),(5,.ptr c1 0)]) (fun q=>((H.upd cc C8u).upd t (rdR L E q.2.2)).upd c1 (exB q.2.1))
   (fun q c=>c1+1<=c/\q.1<=f/\U1 L E q.1 n q.2.1 q.2.2=some r/\RI L q.2.2) (fun q=>q.1) (f,e,s1) (fun b=>by simp[C1,tm,Tm.upd]) (by simp[C1,tm,Tm.upd]) (Sub.refl _) ⟨A0E _,A0E _,h,a1⟩ ?_
  clear h hb a1 a2 s1 e;rintro⟨g,e,s1⟩ c ⟨hc,hg,hv,k1⟩;dsimp only at hc hg hv k1 ⊢;have hri:=k1.i;cases g with
  |zero=>simp[U1]at hv
  |succ g =>
  unfold U1 at hv;dsimp only at hv;have hTt:∀ b:Blk,(((H.upd cc C8u).upd t (rdR L E s1)).upd c1 b) t=some (rdR L E s1):=fun b=>by rw[hnO,h_same]
  repeat' ((with_reducible first|apply wr|refine cpc c_signs31 ?_|fail)<;>try simp only[go_sem,seval])
  refine AC.call (c_among L E s1 _ _ t (hTt _) (by omega) D9 (by decide)) ?_;rintro v H' c2 ⟨rfl,rfl⟩ hc2;have hkr : -1<=C0 L E s1 D9/\C0 L E s1 D9<13:=A4t L E s1 D9 0;have hnn:0<=C0 L E s1 D9->s1.i<L.length:=fun h=>(H8 h).2.1;generalize C0 L E s1 D9=k at hv hkr hnn;have hwk:IntKind.i64.wrap (12+k)=12+k:=w6z (by omega);by_cases hk:k<0
  ·rw[if_pos (.inl hk)]at hv;cases hv;have hdk:decide (k<0)=true:=by simpa using hk
   simp only[go_sem,seval];repeat' (apply wr<;>try simp only[go_sem,seval,ne0,hdk,h_same])
   rw[I1 (rv5 rfl h_same)];refine⟨_,_,S3 (cc:=cc) (D8 hfr htc) (fun j hj=>?_),rfl,rfl⟩;simp[Hp.upd,show ¬j=cc by omega,show ¬j=c1 by omega]
  have hdk:decide (k<0)=false:=by simpa using hk
  by_cases hl:B6 (12+k)=n
  ·rw[if_neg (by omega)]at hv;have hdl:(B6 (12+k) != n)=false:=by simp[hl]
   simp only[go_sem,seval];repeat' ((with_reducible first|refine wr ?_|refine cpc (c_level _) ?_|fail)<;>try simp only[go_sem,seval,hdk,hwk,hdl])
   cases hb:L5 L E g (n+1) (A7 s1) with
   |none=>rw[hb]at hv;cases hv
   |some q =>
    obtain⟨x,s2⟩:=q;rw[hb]at hv;dsimp only at hv;have k2:=k1.nxt (hnn (by omega));obtain⟨b1,b2⟩:=(RI.all g).1 _ _ _ hb k2;dsimp only at b1;have hw2:IntKind.i64.wrap ((s1.i:Int)+1)=((s1.i+1:Nat):Int):=by rw[w6z (by omega)];omega
    refine AC.call (c_peek L E s1 _ _ t (hTt _) (by omega)) ?_;rintro v H' c3 ⟨rfl,rfl⟩ hc3;have ne0:=A2a t cc c1 c3 (c3+7) (by omega);simp only[go_sem,seval];repeat' (apply wr<;>try simp only[go_sem,seval,hw2,hwk,hw,ne0,h_same])
    refine AC.call (ib g (by omega) (n+1) (A7 s1) (x,s2) (by omega) (by omega) hb k2 _ _ t (by repeat (first|exact h_same|rw[hnO])) (by omega)) ?_;rintro v H' c4 ⟨rfl,rfl⟩ hc4;dsimp only;simp only[go_sem,seval,ne0,h_same,A5,Ex.v_w];repeat' (apply wr<;>try simp only[go_sem,seval,ne0,h_same,A5])
    and_intros
    all_goals try (first|rw[hwk]|((repeat rw[hnO]);exact hfr _ (by omega)))
    by_cases h3:n=3
    ·rw[if_pos h3]at hv;cases hv;have hd3:(n == 3)=true:=by simpa using h3
     repeat' (apply wr<;>try simp only[go_sem,seval,hd3,ne0,h_same])
     rw[I1 (rv5 rfl h_same)];refine⟨_,_,D4g (cc:=cc) (b:=c3+7) [e,x] (D8 hfr htc) (by omega) ?_ (fun j hj=>?_),rfl,rfl⟩
     ·rw[C8r];dsimp only
      repeat (first|exact h_same|rw[hnO])
     simp[Hp.upd,show ¬j=cc by omega,show ¬j=c1 by omega,show ¬j=c3+7 by omega];try (split<;>rfl)
    ·rw[if_neg h3]at hv;have hd3:(n == 3)=false:=by simpa using h3
     repeat' (apply wr<;>try simp only[go_sem,seval,hd3])
     refine⟨(g,.mk (12+k) 0 [] [e,x] (B8 L E s1).pos,s2),?_,inv ⟨by omega,by simp only;omega,hv,b1⟩,by simp only;omega⟩;refine GL.frzT (id:=c3+7) (b:=⟨5,true,cellsL ([e,x].map Ex.v)⟩) ?_ rfl (fun j=>?_) (FzL.refl _)
     ·rw[C8r]
      repeat (first|exact h_same|rw[hnO])
     by_cases j1:j=c1
     ·subst j1;refine .inr ⟨by omega,.inr ⟨_,_,h_same,h_same,rfl,rfl,.cons _ _ _ _ (.same _) (.cons _ _ _ _ (.same _) (.cons _ _ _ _ (.same _) (.cons _ _ _ _ (P0 (u:=5) (xs:=[e,x].map Ex.v) (by simp) (A5x _) ⟨[],by simp⟩) (.cons _ _ _ _ (.same _) .nil)))),by simp[DV.one]⟩⟩
     ·by_cases j2:j=c3+7
      ·subst j2;left
       repeat rw[hnO]
       exact hfr _ (by omega)
      ·refine .inr ⟨j2,.inl ?_⟩;simp[Hp.upd,j1,j2];try (split<;>rfl)
  ·rw[if_pos (.inr hl)]at hv;cases hv;have hdl:(B6 (12+k) != n)=true:=by simpa using hl
   simp only[go_sem,seval];repeat' ((with_reducible first|refine wr ?_|refine cpc (c_level _) ?_|fail)<;>try simp only[go_sem,seval,ne0,hdk,hwk,hdl,h_same])
   rw[I1 (rv5 rfl h_same)];refine⟨_,_,S3 (cc:=cc) (D8 hfr htc) (fun j hj=>?_),rfl,rfl⟩;simp[Hp.upd,show ¬j=cc by omega,show ¬j=c1 by omega]
theorem c_bu(L:List Tok)(E:Int)(hL:L.length<=1000000000):∀ f:Nat,(∀ n s r,1<=n->n<=6->L5 L E f n s=some r->RI L s->RdC L E 161 [I64 n] s (r.1.v,r.2))/\(∀ s r,Y9 L E f s=some r->RI L s->RdC L E 237 [] s (r.1.v,r.2)):=by
 intro f
 induction f using Nat.strongRecOn with
 |_ f ih =>
  cases f with
  |zero=>exact⟨fun n s r _ _ h=>by simp[L5]at h,fun s r h=>by simp[Y9]at h⟩
  |succ f =>
   exact⟨fun n s r h1 h2 h hR=>c_binary L E hL f (fun g hg=>(ih g (by omega)).1) (ih f (by omega)).2 n s r h1 h2 h hR,
    fun s r h hR=>c_unary L E hL f (ih f (by omega)).1 (ih f (by omega)).2 s r h hR⟩
theorem c_expression(L:List Tok)(E:Int)(hL:L.length<=1000000000)(f:Nat)(s:Rd)(r:Ex × Rd)(h:R4 L E f s=some r)(hi:s.i<=L.length):RdC L E 83 [] s (r.1.v,r.2):=by
 intro H cc t ht htc;refine AC.bodyT A2 rfl (A0D rfl) fun hfr=>?_;have ne0:=A0m t cc (by omega);repeat' (apply wr<;>try simp only[go_sem,seval,ht,ne0,h_same,A5])
 refine AC.call ((c_bu L E hL f).1 1 { s with ops:=0,par:=0 } r (by decide) (by decide) h ⟨hi,A3G 0,(by decide:(0:Int)<=33),fun _=>(by decide:(0:Int)<=32),A3G 0,(by decide:(0:Int)<=16)⟩ _ _ t (by exact h_same) (by omega)) ?_;rintro v H' c1 ⟨rfl,rfl⟩ hc1;dsimp only;simp only[go_sem,seval,ne0,h_same,A5,Ex.v_w];repeat' (apply wr<;>try simp only[go_sem,seval])
 rw[I1 (rv5 rfl h_same)];refine⟨_,_,S3 (cc:=cc) (D8 hfr htc) (fun j hj=>?_),rfl,rfl⟩;simp[Hp.upd,show ¬j=cc by omega];try (split<;>rfl)
abbrev x318:XT Tryz.prog 318:=mkF
instance t318:FT Tryz.prog 318 x318.d:=x318.ft
theorem C8n{K H':Hp}{cc b:Nat}(l:List Pb.St)(hK:∀ i,cc<=i->K i=none)(hb0:cc<=b)(hb:H' b=some ⟨7,true,cellsL (l.map Pb.St.v)⟩)(h:∀ j,j<cc->H' j=K j):
  GL H' [.slc b 0 l.length] K [D3 l] :=
 GL.frzS (id:=b) hb rfl (fun j=>by
  by_cases hj:j<cc
  ·exact .inr ⟨by omega,(h j hj).symm⟩
  ·exact .inl (hK j (by omega))) (.cons _ _ _ _ (P0 (u:=7) (by simp) (A8j l) ⟨[],by simp⟩) .nil)
theorem C5s(e:Pb.St):cellsL ([e].map Pb.St.v)=[I64 e.kind,.str e.name,.str e.text,G9 e.args,D3 e.thn,D3 e.els,I64 e.pos]:=by
 rw[A0Q,Pb.St.v_w];rfl
theorem c_other(L:List Tok)(E:Int)(hL:L.length<=1000000000)(f:Nat)
  (is:∀ d s r,0<=d->d<=100->V8 L E f d s=some r->s.i<=L.length->RdC L E 266 [I64 d] s (r.1.v,r.2))
  (ib:∀ d s r,0<=d->d<=100->P9 L E f d s=some r->s.i<=L.length->RdC L E 196 [I64 d] s (D3 r.1,r.2))
  (d:Int) (s:Rd) (r:List Pb.St × Rd) (hd0:0<=d) (hd:d<=99) (h:V5 L E (f+1) d s=some r) (hi:s.i<=L.length):RdC L E 318 [I64 d] s (D3 r.1,r.2):=by
 intro H cc t ht htc;refine AC.bodyT A2 rfl (A0D rfl) fun hfr=>?_;unfold V5 at h;have hw:IntKind.i64.wrap (d+1)=d+1:=w6z (by omega);repeat' (apply wr<;>try simp only[go_sem,seval])
 refine AC.call (c_is L E s _ _ t ht (by omega) _) ?_;rintro v H' c1 ⟨rfl,rfl⟩ hc1;cases hq:isR L E s [105,102] with
 |true =>
  rw[if_pos hq]at h;cases hs:V8 L E f (d+1) s with
  |none=>rw[hs]at h;cases h
  |some q =>
   obtain⟨x,s1⟩:=q;rw[hs]at h;cases h;simp only[go_sem,seval];repeat' (apply wr<;>try simp only[go_sem,seval,hw])
   refine AC.call (is (d+1) s (x,s1) (by omega) (by omega) hs hi _ _ t ht (by omega)) ?_;rintro v H' c2 ⟨rfl,rfl⟩ hc2;dsimp only;simp only[go_sem,seval,Pb.St.v_w];repeat' (apply wr<;>try simp only[go_sem,seval])
   exact⟨_,_,C8n (cc:=cc) [x] (D8 hfr htc) (by omega) (by rw[C5s];exact h_same) (fun j hj=>by rw[hnO]),rfl,rfl⟩
 |false =>
  rw[if_neg (by simp[hq])]at h;simp only[go_sem,seval];repeat' (apply wr<;>try simp only[go_sem,seval,hw])
  refine AC.call (ib (d+1) s r (by omega) (by omega) h hi _ _ t ht (by omega)) ?_;rintro v H' c2 ⟨rfl,rfl⟩ hc2;simp only[go_sem,seval];repeat' (apply wr<;>try simp only[go_sem,seval])
  exact⟨_,_,GL.refl _ _,rfl,rfl⟩
theorem B6i{K H':Hp}{cc:Nat}{o:Option Nat}(l:List Pb.St)(hK:∀ i,cc<=i->K i=none)(ho:∀ i,o=some i->cc<=i)(hno:o=none->l=[])(hb:∀ i,o=some i->H' i=some ⟨7,true,cellsL (l.map Pb.St.v)⟩)(h:∀ j,j<cc->H' j=K j):
  GL H' [todoV o l.length] K [D3 l]:=by
 cases o with
 |none =>
  obtain rfl:=hno rfl;exact (S3 hK h).trans (GL.view fun ρ vs hA=>N6 (fun v h=>h.snil_lst) vs hA)
 |some b=>exact C8n l hK (ho b rfl) (hb b rfl) h
theorem c_block(L:List Tok)(E:Int)(hL:L.length<=1000000000)(f:Nat)
  (is:∀ g,g<=f->∀ d s r,0<=d->d<=100->V8 L E g d s=some r->s.i<=L.length->RdC L E 266 [I64 d] s (r.1.v,r.2))
  (d:Int) (s:Rd) (r:List Pb.St × Rd) (hd0:0<=d) (hd:d<=100) (h:P9 L E (f+1) d s=some r) (hi:s.i<=L.length):RdC L E 196 [I64 d] s (D3 r.1,r.2):=by
 intro H cc t ht htc;refine AC.bodyT A2 rfl (A0D rfl) fun hfr=>?_;unfold P9 at h;repeat' (apply wr<;>try simp only[go_sem,seval])
 refine AC.call (c_expect L E s _ _ t ht (by omega) (by omega) _) ?_;rintro v H' c1 ⟨rfl,rfl⟩ hc1;simp only[go_sem,seval];repeat' (apply wr<;>try simp only[go_sem,seval])
 refine A9 (fun q:Nat × Option Nat × List Pb.St × Rd=>[(0,.ptr t 0),(1,I64 d),(5,todoV q.2.1 q.2.2.1.length)]) (fun q=>optH (H.upd t (rdR L E q.2.2.2)) q.2.1 ⟨7,true,cellsL (q.2.2.1.map Pb.St.v)⟩)
  (fun q c=>cc<=c/\q.1<=f/\q.2.2.2.i<=L.length/\(q.2.1=none->q.2.2.1=[])/\(∀ i,q.2.1=some i->cc<=i/\i<c)/\q.2.2.1.length<=65/\(okR q.2.2.2=true->q.2.2.1.length<=64)/\V7 L E q.1 d q.2.2.1 q.2.2.2=some r) (fun q=>q.1) (f,none,[],E1 L E s [123])
  (by simp[C1,tm,Tm.upd,todoV]) (Sub.refl _) ⟨hc1,A0E _,K1 hi,fun _=>rfl,(fun i hi=>by cases hi),by simp,fun _=>by simp,h⟩ ?_
 clear h hi;rintro⟨g,o,l,u⟩ c ⟨hc,hg,hi,hno,ho,hl1,hl2,hv⟩;dsimp only at hc hg hi hno ho hl1 hl2 hv ⊢;have hHt:optH (H.upd t (rdR L E u)) o ⟨7,true,cellsL (l.map Pb.St.v)⟩ t=some (rdR L E u):=by rw[B7 (fun i hi=>by have:=ho i hi;omega),h_same]
 have hfin:∀ (z:Rd) (j:Nat),j<cc->((optH (H.upd t (rdR L E u)) o ⟨7,true,cellsL (l.map Pb.St.v)⟩).upd t (rdR L E z)) j=(H.upd t (rdR L E z)) j:=fun z j hj=>by
  by_cases ej:j=t
  ·subst ej;rw[h_same,h_same]
  ·rw[h_ne ej,h_ne ej,B7 (fun i hi=>by have:=ho i hi;omega),h_ne ej]
 have hbo:∀ (z:Rd) (i:Nat),o=some i->((optH (H.upd t (rdR L E u)) o ⟨7,true,cellsL (l.map Pb.St.v)⟩).upd t (rdR L E z)) i=some ⟨7,true,cellsL (l.map Pb.St.v)⟩:=fun z i hi=>by
  have:=ho i hi;rw[hnO];subst hi;exact h_same
 cases g with
 |zero=>simp[V7]at hv
 |succ g =>
 unfold V7 at hv;repeat' (apply wr<;>try simp only[go_sem,seval])
 refine AC.call (c_rdok L E u _ _ t hHt (by omega)) ?_;rintro v H' c2 ⟨rfl,rfl⟩ hc2;cases hok:okR u with
 |false =>
  rw[if_neg (by simp[hok])]at hv;cases hv;simp only[go_sem,seval];repeat' (apply wr<;>try simp only[go_sem,seval])
  refine AC.call (c_expect L E u _ _ t hHt (by omega) (by omega) _) ?_;rintro v H' c3 ⟨rfl,rfl⟩ hc3;simp only[go_sem,seval];repeat' (apply wr<;>try simp only[go_sem,seval])
  exact⟨_,_,B6i (cc:=cc) l (D8 hfr htc) (fun i hi=>(ho i hi).1) hno (hbo _) (hfin _),rfl,rfl⟩
 |true =>
  simp only[go_sem,seval];repeat' (apply wr<;>try simp only[go_sem,seval,hok])
  refine AC.call (c_is L E u _ _ t hHt (by omega) _) ?_;rintro v H' c3 ⟨rfl,rfl⟩ hc3;cases hq:isR L E u [125] with
  |true =>
   rw[if_neg (by simp[hq])]at hv;cases hv;simp only[go_sem,seval];repeat' (apply wr<;>try simp only[go_sem,seval])
   refine AC.call (c_expect L E u _ _ t hHt (by omega) (by omega) _) ?_;rintro v H' c4 ⟨rfl,rfl⟩ hc4;simp only[go_sem,seval];repeat' (apply wr<;>try simp only[go_sem,seval])
   exact⟨_,_,B6i (cc:=cc) l (D8 hfr htc) (fun i hi=>(ho i hi).1) hno (hbo _) (hfin _),rfl,rfl⟩
  |false =>
   rw[if_pos ⟨hok,hq⟩]at hv;simp only[go_sem,seval];repeat' ((with_reducible first|apply wr|refine cpc c_stmts31 ?_|fail)<;>try simp only[go_sem,seval])
   refine AC.call (c_among L E u _ _ t hHt (by omega) B9 (by decide)) ?_;rintro v H' c4 ⟨rfl,rfl⟩ hc4;generalize C0 L E u B9=k at hv;have hlen:A5r (todoV o l.length)=some (I64 l.length):=by
    cases o with
    |none=>rw[hno rfl];rfl
    |some b=>rfl
   have hwl:IntKind.i64.wrap ((l.length:Int)+1)=(l.length:Int)+1:=w6z (by omega);by_cases hsy:k<0/\K2 L E u 1=false
   ·rw[if_pos hsy]at hv;cases hv;have hdk:decide (k<0)=true:=by simpa using hsy.1
    have h1:=hsy.2;simp only[go_sem,seval,hdk];repeat' (apply wr<;>try simp only[go_sem,seval,hdk])
    refine AC.call (c_isKind L E u _ _ t hHt (by omega) 1) ?_;rintro v H' c5 ⟨rfl,rfl⟩ hc5;simp only[go_sem,seval,h1];repeat' (apply wr<;>try simp only[go_sem,seval])
    refine AC.call (c_syntax L E u _ _ t hHt (by omega)) ?_;rintro v H' c6 ⟨rfl,rfl⟩ hc6;simp only[go_sem,seval];repeat' (apply wr<;>try simp only[go_sem,seval])
    exact⟨_,_,(S3 (cc:=cc) (D8 hfr htc) (hfin _)).trans (GL.view fun ρ vs hA=>N6 (fun v h=>h.snil_lst) vs hA),rfl,rfl⟩
   rw[if_neg hsy]at hv;cases hs:V8 L E g d (C9 L E u ((l.length:Int)+1) 64 9) with
   |none=>rw[hs]at hv;cases hv
   |some q =>
   obtain⟨x,s1⟩:=q;rw[hs]at hv;dsimp only at hv;have hix:=(II.all g).2.2.1 _ _ _ hs (by rw[G8];exact hi);have hnok:=D5u hs;have hll:=hl2 hok;have hlk:okR s1=true->l.length+1<=64:=fun h=>by
    cases hz:okR (C9 L E u ((l.length:Int)+1) 64 9) with
    |false=>rw[hnok hz]at h;cases h
    |true=>have:=(H3 (by decide) hz).2.1;omega
   rcases (show ¬ k<0\/(k<0/\K2 L E u 1=true) by
    by_cases hk:k<0
    ·exact .inr ⟨hk,by cases h1:K2 L E u 1 with|true=>rfl|false=>exact absurd ⟨hk,h1⟩ hsy⟩
    ·exact .inl hk) with hk|⟨hk,h1⟩
   case' inl =>
    have hdk:decide (k<0)=false:=by simpa using hk
    simp only[go_sem,seval,hdk];repeat' ((with_reducible first|refine H9 (p:=IW _ _ (pz Tryz.prog 196 (.i (.i (.o (.i .h))))) _ _) ?_|refine wr ?_|fail)<;>try simp only[go_sem,seval])
    obtain⟨c5,hc5,e5⟩:∃ c5,c4<=c5/\c5=c4:=⟨c4,A0E _,rfl⟩;rw[<- e5];clear e5 hdk hk
   case' inr =>
    have hdk:decide (k<0)=true:=by simpa using hk
    simp only[go_sem,seval,hdk];repeat' (apply wr<;>try simp only[go_sem,seval,hdk])
    refine AC.call (c_isKind L E u _ _ t hHt (by omega) 1) ?_;rintro v H' c5 ⟨rfl,rfl⟩ hc5;simp only[go_sem,seval,h1];repeat' ((with_reducible first|refine H9 (p:=IW _ _ (pz Tryz.prog 196 (.i (.i (.o (.i .h))))) _ _) ?_|refine wr ?_|fail)<;>try simp only[go_sem,seval])
    clear hdk hk h1
   all_goals
    unfold B1f;repeat' (apply wr<;>try simp only[go_sem,seval,hlen,hwl])
    refine AC.call (c_limit L E u _ _ t hHt (by omega) _ _ _) ?_;rintro v H' c6 ⟨rfl,rfl⟩ hc6;simp only[go_sem,seval];repeat' (apply wr<;>try simp only[go_sem,seval])
    refine AC.call (is g (by omega) d _ (x,s1) hd0 hd hs (by rw[G8];exact hi) _ _ t h_same (by omega)) ?_;rintro v H' c7 ⟨rfl,rfl⟩ hc7;dsimp only;have ne0:=R9 t c7 (c7+1) (by omega);simp only[go_sem,seval,A5,Pb.St.v_w];repeat' (apply wr<;>try simp only[go_sem,seval,ne0])
    refine F4 (D5 (cs:=cellsL (l.map Pb.St.v)) (fun e=>by rw[hno e];exact⟨rfl,rfl⟩) (fun i hi=>?_) (by rw[C2 (u:=7) (A8j _)];simp) (by omega) (by omega) (by omega)) ?_
    ·have:=ho i hi;rw[hnO];exact hbo _ i hi
    simp only[go_sem,seval];repeat' (apply wr<;>try simp only[go_sem,seval,ne0])
    refine⟨(g,some (c7+1),l++[x],s1),by simp only[A0A,A0N];rfl,?_,inv ⟨by omega,by simp only;omega,hix,(fun h=>by cases h),(fun i hi=>by cases hi;omega),by simp only[A0A,A0N];omega,(fun h=>by have:=hlk h;simp only[A0A,A0N];omega),hv⟩,by simp only;omega⟩;intro jj b hj;simp only[optH]at hj;by_cases e1:jj=c7+1
    ·subst e1;rw[h_same]at hj ⊢;rw[<- hj,A0T,C4,C5s]
    ·rw[h_ne e1]at hj ⊢;by_cases e2:jj=t
     ·subst e2;rw[h_same]at hj;rw[B0 (fun i hi=>by have:=ho i hi;omega),hnO,h_same];exact hj
     ·rw[h_ne e2]at hj;have hjc:jj<cc:=Classical.byContradiction fun h=>by rw[hfr jj (by omega)]at hj;cases hj
      rw[B0 (fun i hi=>by have:=ho i hi;omega),hnO,h_ne e2,B7 (fun i hi=>by have:=ho i hi;omega),h_ne e2];exact hj
end Go.Proofs.YtkkjpohaffjecaaGreatDoor
set_option maxHeartbeats 8000000
namespace Go.Proofs.YtkkjpohaffjecaaGreatDoor
open Go.Eng (IC IOper DReg IFn L2)
open Go.Sym Go.Pb
def NlR(a b:DV):Prop:=b=a\/(a=.snil/\b=.lst [])
theorem NlR.v{ρ : Ren}{v:Value}{a b:DV}(h:NlR a b)(k:VRel ρ a v):VRel ρ b v:=by
 rcases h with rfl|⟨rfl,rfl⟩
 ·exact k
 ·exact k.snil_lst
theorem D9v{ρ : Ren}{v:Value}{a b c d e f g d' e' f':DV}(hd:NlR d d')(he:NlR e e')(hf:NlR f f')(h:VRel ρ (.agg [a,b,c,d,e,f,g]) v):VRel ρ (.agg [a,b,c,d',e',f',g]) v:=by
 obtain⟨bb,rfl,k1,k2⟩:=h.agg_inv;refine .agg _ _ k1 fun j x y hx hy=>?_
 match j with
 |0=>cases hx;exact k2 0 _ y rfl hy
 |1=>cases hx;exact k2 1 _ y rfl hy
 |2=>cases hx;exact k2 2 _ y rfl hy
 |3=>cases hx;exact hd.v (k2 3 _ y rfl hy)
 |4=>cases hx;exact he.v (k2 4 _ y rfl hy)
 |5=>cases hx;exact hf.v (k2 5 _ y rfl hy)
 |6=>cases hx;exact k2 6 _ y rfl hy
 |_+7=>cases hx
theorem C8m{K H':Hp}{cc:Nat}{a b c d e f g d' e' f':DV}(hd:NlR d d')(he:NlR e e')(hf:NlR f f')(hK:∀ i,cc<=i->K i=none)(h:∀ j,j<cc->H' j=K j):GL H' [.agg [a,b,c,d,e,f,g]] K [.agg [a,b,c,d',e',f',g]] :=
 (S3 hK h).trans (GL.view fun ρ vs hA=>N6 (fun v h=>D9v hd he hf h) vs hA)
theorem A2f{K H':Hp}{cc i:Nat}{a b c e f g e' f':DV}(l:List Ex)(he:NlR e e')(hf:NlR f f')(hK:∀ i,cc<=i->K i=none)(hi0:cc<=i)(hb:H' i=some ⟨5,true,cellsL (l.map Ex.v)⟩)(h:∀ j,j<cc->H' j=K j):GL H' [.agg [a,b,c,.slc i 0 l.length,e,f,g]] K [.agg [a,b,c,G9 l,e',f',g]] :=
 (GL.frzS (id:=i) hb rfl (fun j=>by
  by_cases hj:j<cc
  ·exact .inr ⟨by omega,(h j hj).symm⟩
  ·exact .inl (hK j (by omega))) (.cons _ _ _ _ (.agg _ _ (.cons _ _ _ _ (.same _) (.cons _ _ _ _ (.same _) (.cons _ _ _ _ (.same _) (.cons _ _ _ _ (P0 (u:=5) (by simp) (A5x l) ⟨[],by simp⟩) (.cons _ _ _ _ (.same _) (.cons _ _ _ _ (.same _) (.cons _ _ _ _ (.same _) .nil)))))))) .nil)).trans (GL.view fun ρ vs hA=>N6 (fun v h=>D9v (.inl rfl) he hf h) vs hA)
theorem rv7{s:Sym.St}{x i u:Nat}{a b c d e f g:DV}{o:Bool}(h:s.T x=.ptr i 0)(hb:s.H i=some ⟨u,o,[a,b,c,d,e,f,g]⟩):A4g s [.cell x 7 true]=some (.agg [a,b,c,d,e,f,g]):=by
 simp only[A4g,A4i,h,ldv,hb];rfl
theorem c_statement(L:List Tok)(E:Int)(hL:L.length<=1000000000)(f:Nat)
  (ib:∀ d s r,0<=d->d<=100->P9 L E f d s=some r->s.i<=L.length->RdC L E 196 [I64 d] s (D3 r.1,r.2))
  (io:∀ d s r,0<=d->d<=99->V5 L E f d s=some r->s.i<=L.length->RdC L E 318 [I64 d] s (D3 r.1,r.2))
  (d:Int) (s0:Rd) (r:Pb.St × Rd) (hd0:0<=d) (hd:d<=100) (h:V8 L E (f+1) d s0=some r) (hi:s0.i<=L.length):RdC L E 266 [I64 d] s0 (r.1.v,r.2):=by
 intro H cc t ht htc;refine AC.bodyT A2 rfl (A0D rfl) fun hfr=>?_;unfold V8 at h;dsimp only at h;repeat' (apply wr<;>try simp only[go_sem,seval])
 refine AC.call (c_limit L E s0 _ _ t (by rw[hnO];exact ht) (by omega) _ _ _) ?_;rintro v H' c1 ⟨rfl,rfl⟩ hc1;have his:(C9 L E s0 d 8 50).i<=L.length:=by rw[G8];exact hi
 generalize hsq:C9 L E s0 d 8 50=s at *;have ne0:=A0m t cc (by omega);simp only[go_sem,seval];repeat' (apply wr<;>try simp only[go_sem,seval])
 refine AC.call (c_rdok L E s _ _ t h_same (by omega)) ?_;rintro v H' c2 ⟨rfl,rfl⟩ hc2;cases hok:okR s with
 |false =>
  rw[if_pos hok]at h;cases h;simp only[go_sem,seval];repeat' (apply wr<;>try simp only[go_sem,seval,ne0,h_same])
  rw[I1 (rv7 rfl h_same)];refine⟨_,_,C8m (cc:=cc) (.inr ⟨rfl,rfl⟩) (.inr ⟨rfl,rfl⟩) (.inr ⟨rfl,rfl⟩) (D8 hfr htc) (fun j hj=>?_),rfl,rfl⟩;simp[Hp.upd,show ¬j=cc by omega]
 |true =>
  rw[if_neg (by simp[hok])]at h;have hd8:d<=8:=by rw[<- hsq]at hok;exact (H3 (by decide) hok).2.1
  simp only[go_sem,seval];repeat' (apply wr<;>try simp only[go_sem,seval])
  refine AC.call (c_peek L E s _ _ t h_same (by omega)) ?_;rintro v H' c3 ⟨rfl,rfl⟩ hc3;have ne0:=R9 t cc c3 (by omega);simp only[go_sem,seval];repeat' ((with_reducible first|apply wr|refine cpc c_stmts31 ?_|fail)<;>try simp only[go_sem,seval,A5])
  refine AC.call (c_among L E s _ _ t (by rw[hnO];exact h_same) (by omega) B9 (by decide)) ?_;rintro v H' c4 ⟨rfl,rfl⟩ hc4;have hkr : -1<=C0 L E s B9/\C0 L E s B9<18:=A4t L E s B9 0;have hnn:0<=C0 L E s B9->s.i<L.length:=fun h=>(H8 h).2.1;generalize C0 L E s B9=k at h hkr hnn;generalize (B8 L E s).pos=p at h ⊢;have hti:=M5 (E:=E) (x:=1) (by decide) his;by_cases hk:k<0
  ·rw[if_pos hk]at h;have hdk:decide (k<0)=true:=by simpa using hk
   cases hz5:R4 L E f (E1 L E (A8 L E s 1).2 [61]) with
   |none=>rw[hz5]at h;cases h
   |some qhz5 =>
    obtain⟨e,s1⟩:=qhz5;rw[hz5]at h;dsimp only at h;cases h;simp only[go_sem,seval];repeat' (apply wr<;>try simp only[go_sem,seval,hdk])
    refine AC.call (c_name L E s _ _ t (by repeat (first|exact h_same|rw[hnO]|rw[G4 (by omega)])) (by omega) (by have:=his;omega)) ?_;rintro v H' c6 ⟨rfl,rfl⟩ hc6;try dsimp only
    simp only[go_sem,seval,ne0,h_same,A5];repeat' (apply wr<;>try simp only[go_sem,seval])
    refine AC.call (c_expect L E (A8 L E s 1).2 _ _ t (by repeat (first|exact h_same|rw[hnO]|rw[G4 (by omega)])) (by omega) (by have:=hti;omega) _) ?_;rintro v H' c7 ⟨rfl,rfl⟩ hc7;try dsimp only
    simp only[go_sem,seval];repeat' (apply wr<;>try simp only[go_sem,seval])
    refine AC.call (c_expression L E hL f (E1 L E (A8 L E s 1).2 [61]) (e,s1) hz5 (K1 hti) _ _ t (by repeat (first|exact h_same|rw[hnO]|rw[G4 (by omega)])) (by omega)) ?_;rintro v H' c8 ⟨rfl,rfl⟩ hc8;have ne0:=W3 t cc c3 c8 (by omega);try dsimp only
    simp only[go_sem,seval,Ex.v_w,ne0,h_same,A5];repeat' (apply wr<;>try simp only[go_sem,seval])
    have h1i:=R3 hz5 (K1 hti);dsimp only at h1i;refine AC.call (c_expect L E s1 _ _ t (by repeat (first|exact h_same|rw[hnO]|rw[G4 (by omega)])) (by omega) (by have:=h1i;omega) _) ?_;rintro v H' c9 ⟨rfl,rfl⟩ hc9;try dsimp only
    simp only[go_sem,seval];repeat' (apply wr<;>try simp only[go_sem,seval,ne0,h_same])
    rw[I1 (rv7 rfl h_same)];refine⟨_,_,A2f (cc:=cc) (i:=c8) [e] (.inr ⟨rfl,rfl⟩) (.inr ⟨rfl,rfl⟩) (D8 hfr htc) (by omega) ?_ (fun j hj=>?_),(by first|rfl|(rw[Pb.St.v_w];done)|(rw[Pb.St.v_w];rfl)),rfl⟩
    ·rw[A5y];dsimp only
     repeat (first|exact h_same|rw[hnO]|rw[G4 (by omega)])
    simp[Hp.upd,show ¬j=cc by omega,show ¬j=c3 by omega,show ¬j=c8 by omega];try (split<;>rfl)
  rw[if_neg hk]at h;have hdk:decide (k<0)=false:=by simpa using hk
  have hw2:IntKind.i64.wrap ((s.i:Int)+1)=((s.i+1:Nat):Int):=by rw[w6z (by omega)];omega
  have hwk:IntKind.i64.wrap (2+k)=2+k:=w6z (by omega);have hwd:IntKind.i64.wrap (d+1)=d+1:=w6z (by omega);have hn:(A7 s).i<=L.length:=hnn (by omega);simp only[go_sem,seval];have u2:IntKind.i64.wrap 2=2:=w6z (by omega);have u3:IntKind.i64.wrap 3=3:=w6z (by omega);have u4:IntKind.i64.wrap 4=4:=w6z (by omega);have u8:IntKind.i64.wrap 8=8:=w6z (by omega);have u9:IntKind.i64.wrap 9=9:=w6z (by omega);have u10:IntKind.i64.wrap 10=10:=w6z (by omega);have u18:IntKind.i64.wrap 18=18:=w6z (by omega);have u19:IntKind.i64.wrap 19=19:=w6z (by omega);by_cases hb:k=0\/k=1
  ·rw[if_pos hb]at h;cases hz10:R4 L E f (A7 s) with
   |none=>rw[hz10]at h;cases h
   |some qhz10 =>
    obtain⟨e,s2⟩:=qhz10;rw[hz10]at h;dsimp only at h;cases hz11:P9 L E f (d+1) s2 with
    |none=>rw[hz11]at h;cases h
    |some qhz11 =>
     obtain⟨tt,s3⟩:=qhz11;rw[hz11]at h;dsimp only at h;have h2i:=R3 hz10 hn;dsimp only at h2i;have h3i:=(II.all f).1 _ _ _ hz11 h2i;dsimp only at h3i;have hw3:IntKind.i64.wrap ((s3.i:Int)+1)=((s3.i+1:Nat):Int):=by rw[w6z (by omega)];omega
     rcases hb with rfl|rfl
     ·repeat' (apply wr<;>try simp only[go_sem,seval,hw2,u2,ne0,h_same])
      refine AC.call (c_expression L E hL f (A7 s) (e,s2) hz10 (hn) _ _ t (by repeat (first|exact h_same|rw[hnO]|rw[G4 (by omega)])) (by omega)) ?_;rintro v H' c12 ⟨rfl,rfl⟩ hc12;have ne0:=W3 t cc c3 c12 (by omega);try dsimp only
      simp only[go_sem,seval,Ex.v_w,ne0,h_same];repeat' (apply wr<;>try simp only[go_sem,seval])
      try simp only[hwd]
      refine AC.call (ib (d+1) s2 (tt,s3) (by omega) (by omega) hz11 h2i _ _ t (by repeat (first|exact h_same|rw[hnO]|rw[G4 (by omega)])) (by omega)) ?_;rintro v H' c13 ⟨rfl,rfl⟩ hc13;try dsimp only
      simp only[go_sem,seval,ne0,h_same];repeat' (apply wr<;>try simp only[go_sem,seval,h_same])
      refine AC.call (c_is L E s3 _ _ t (by repeat (first|exact h_same|rw[hnO]|rw[G4 (by omega)])) (by omega) _) ?_;rintro v H' c14 ⟨rfl,rfl⟩ hc14;cases hq:isR L E s3 [101,108,115,101] with
      |true =>
       rw[if_pos ⟨rfl,hq⟩]at h;cases hz15:V5 L E f d (A7 s3) with
       |none=>rw[hz15]at h;cases h
       |some qhz15 =>
        obtain⟨oo,s4⟩:=qhz15;rw[hz15]at h;dsimp only at h;cases h;simp only[go_sem,seval];repeat' (apply wr<;>try simp only[go_sem,seval,hw3,ne0,h_same])
        refine AC.call (io d (A7 s3) (oo,s4) hd0 (by omega) hz15 (A2c hq).2 _ _ t (by repeat (first|exact h_same|rw[hnO]|rw[G4 (by omega)])) (by omega)) ?_;rintro v H' c16 ⟨rfl,rfl⟩ hc16;try dsimp only
        simp only[go_sem,seval,ne0,h_same,A5];repeat' (apply wr<;>try simp only[go_sem,seval,ne0,h_same])
        rw[I1 (rv7 rfl h_same)];refine⟨_,_,A2f (cc:=cc) (i:=c12) [e] (.inl rfl) (.inl rfl) (D8 hfr htc) (by omega) ?_ (fun j hj=>?_),(by first|rfl|(rw[Pb.St.v_w];done)|(rw[Pb.St.v_w];rfl)),rfl⟩
        ·rw[A5y];dsimp only
         repeat (first|exact h_same|rw[hnO]|rw[G4 (by omega)])
        simp[Hp.upd,show ¬j=cc by omega,show ¬j=c3 by omega,show ¬j=c12 by omega];try (split<;>rfl)
      |false =>
       rw[if_neg (by simp[hq])]at h;cases h;simp only[go_sem,seval];repeat' (apply wr<;>try simp only[go_sem,seval,ne0,h_same])
       rw[I1 (rv7 rfl h_same)];refine⟨_,_,A2f (cc:=cc) (i:=c12) [e] (.inl rfl) (.inr ⟨rfl,rfl⟩) (D8 hfr htc) (by omega) ?_ (fun j hj=>?_),(by first|rfl|(rw[Pb.St.v_w];done)|(rw[Pb.St.v_w];rfl)),rfl⟩
       ·rw[A5y];dsimp only
        repeat (first|exact h_same|rw[hnO]|rw[G4 (by omega)])
       simp[Hp.upd,show ¬j=cc by omega,show ¬j=c3 by omega,show ¬j=c12 by omega];try (split<;>rfl)
     ·repeat' (apply wr<;>try simp only[go_sem,seval,hw2,u3,ne0,h_same])
      refine AC.call (c_expression L E hL f (A7 s) (e,s2) hz10 (hn) _ _ t (by repeat (first|exact h_same|rw[hnO]|rw[G4 (by omega)])) (by omega)) ?_;rintro v H' c17 ⟨rfl,rfl⟩ hc17;have ne0:=W3 t cc c3 c17 (by omega);try dsimp only
      simp only[go_sem,seval,Ex.v_w,ne0,h_same];repeat' (apply wr<;>try simp only[go_sem,seval])
      try simp only[hwd]
      refine AC.call (ib (d+1) s2 (tt,s3) (by omega) (by omega) hz11 h2i _ _ t (by repeat (first|exact h_same|rw[hnO]|rw[G4 (by omega)])) (by omega)) ?_;rintro v H' c18 ⟨rfl,rfl⟩ hc18;try dsimp only
      simp only[go_sem,seval,ne0,h_same];repeat' (apply wr<;>try simp only[go_sem,seval,ne0,h_same])
      rw[if_neg (by simp)]at h;cases h;rw[I1 (rv7 rfl h_same)];refine⟨_,_,A2f (cc:=cc) (i:=c17) [e] (.inl rfl) (.inr ⟨rfl,rfl⟩) (D8 hfr htc) (by omega) ?_ (fun j hj=>?_),(by first|rfl|(rw[Pb.St.v_w];done)|(rw[Pb.St.v_w];rfl)),rfl⟩
      ·rw[A5y];dsimp only
       repeat (first|exact h_same|rw[hnO]|rw[G4 (by omega)])
      simp[Hp.upd,show ¬j=cc by omega,show ¬j=c3 by omega,show ¬j=c17 by omega];try (split<;>rfl)
  rw[if_neg hb]at h;unfold N1 at h;dsimp only at h;by_cases k2:k=2
  ·subst k2;rw[if_pos (by decide)]at h;cases hz19:R4 L E f (A7 s) with
   |none=>rw[hz19]at h;cases h
   |some qhz19 =>
    obtain⟨e,s1⟩:=qhz19;rw[hz19]at h;dsimp only at h;cases h;have h1i:=R3 hz19 hn;dsimp only at h1i;repeat' (apply wr<;>try simp only[go_sem,seval,hw2,u4,ne0,h_same])
    refine AC.call (c_expression L E hL f (A7 s) (e,s1) hz19 (hn) _ _ t (by repeat (first|exact h_same|rw[hnO]|rw[G4 (by omega)])) (by omega)) ?_;rintro v H' c20 ⟨rfl,rfl⟩ hc20;have ne0:=W3 t cc c3 c20 (by omega);try dsimp only
    simp only[go_sem,seval,Ex.v_w,ne0,h_same];repeat' (apply wr<;>try simp only[go_sem,seval])
    refine AC.call (c_expect L E s1 _ _ t (by repeat (first|exact h_same|rw[hnO]|rw[G4 (by omega)])) (by omega) (by have:=h1i;omega) _) ?_;rintro v H' c21 ⟨rfl,rfl⟩ hc21;try dsimp only
    simp only[go_sem,seval];repeat' (apply wr<;>try simp only[go_sem,seval,ne0,h_same])
    rw[I1 (rv7 rfl h_same)];refine⟨_,_,A2f (cc:=cc) (i:=c20) [e] (.inr ⟨rfl,rfl⟩) (.inr ⟨rfl,rfl⟩) (D8 hfr htc) (by omega) ?_ (fun j hj=>?_),(by first|rfl|(rw[Pb.St.v_w];done)|(rw[Pb.St.v_w];rfl)),rfl⟩
    ·rw[A5y];dsimp only
     repeat (first|exact h_same|rw[hnO]|rw[G4 (by omega)])
    simp[Hp.upd,show ¬j=cc by omega,show ¬j=c3 by omega,show ¬j=c20 by omega];try (split<;>rfl)
  rw[if_neg (by omega)]at h;by_cases k16:k=16
  ·subst k16;rw[if_pos (by decide)]at h;have h4i:=M5 (E:=E) (x:=4) (by decide) hn;cases hz22:R4 L E f (E1 L E (A8 L E (A7 s) 4).2 [44]) with
   |none=>rw[hz22]at h;cases h
   |some qhz22 =>
    obtain⟨e,s1⟩:=qhz22;rw[hz22]at h;dsimp only at h;cases h;have h1i:=R3 hz22 (K1 h4i);dsimp only at h1i;repeat' (apply wr<;>try simp only[go_sem,seval,hw2,u18,ne0,h_same])
    refine AC.call (c_take L E (A7 s) _ _ t (by repeat (first|exact h_same|rw[hnO]|rw[G4 (by omega)])) (by omega) (by omega) 4) ?_;rintro v H' c23 ⟨rfl,rfl⟩ hc23;try dsimp only
    simp only[go_sem,seval,ne0,h_same];repeat' (apply wr<;>try simp only[go_sem,seval])
    refine AC.call (c_expect L E (A8 L E (A7 s) 4).2 _ _ t (by repeat (first|exact h_same|rw[hnO]|rw[G4 (by omega)])) (by omega) (by have:=h4i;omega) _) ?_;rintro v H' c24 ⟨rfl,rfl⟩ hc24;try dsimp only
    simp only[go_sem,seval];repeat' (apply wr<;>try simp only[go_sem,seval])
    refine AC.call (c_expression L E hL f (E1 L E (A8 L E (A7 s) 4).2 [44]) (e,s1) hz22 (K1 h4i) _ _ t (by repeat (first|exact h_same|rw[hnO]|rw[G4 (by omega)])) (by omega)) ?_;rintro v H' c25 ⟨rfl,rfl⟩ hc25;have ne0:=W3 t cc c3 c25 (by omega);try dsimp only
    simp only[go_sem,seval,Ex.v_w,ne0,h_same,A5];repeat' (apply wr<;>try simp only[go_sem,seval])
    refine AC.call (c_expect L E s1 _ _ t (by repeat (first|exact h_same|rw[hnO]|rw[G4 (by omega)])) (by omega) (by have:=h1i;omega) _) ?_;rintro v H' c26 ⟨rfl,rfl⟩ hc26;try dsimp only
    simp only[go_sem,seval];repeat' (apply wr<;>try simp only[go_sem,seval,ne0,h_same])
    rw[I1 (rv7 rfl h_same)];refine⟨_,_,A2f (cc:=cc) (i:=c25) [e] (.inr ⟨rfl,rfl⟩) (.inr ⟨rfl,rfl⟩) (D8 hfr htc) (by omega) ?_ (fun j hj=>?_),(by first|rfl|(rw[Pb.St.v_w];done)|(rw[Pb.St.v_w];rfl)),rfl⟩
    ·rw[A5y];dsimp only
     repeat (first|exact h_same|rw[hnO]|rw[G4 (by omega)])
    simp[Hp.upd,show ¬j=cc by omega,show ¬j=c3 by omega,show ¬j=c25 by omega];try (split<;>rfl)
  rw[if_neg (by omega)]at h;by_cases k17:k=17
  ·subst k17;rw[if_pos (by decide)]at h;cases h;repeat' (apply wr<;>try simp only[go_sem,seval,hw2,u19,ne0,h_same])
   refine AC.call (c_expect L E (A7 s) _ _ t (by repeat (first|exact h_same|rw[hnO]|rw[G4 (by omega)])) (by omega) (by have:=hn;omega) _) ?_;rintro v H' c27 ⟨rfl,rfl⟩ hc27;try dsimp only
   simp only[go_sem,seval];repeat' (apply wr<;>try simp only[go_sem,seval,ne0,h_same])
   rw[I1 (rv7 rfl h_same)];refine⟨_,_,C8m (cc:=cc) (.inr ⟨rfl,rfl⟩) (.inr ⟨rfl,rfl⟩) (.inr ⟨rfl,rfl⟩) (D8 hfr htc) (fun j hj=>?_),(by first|rfl|(rw[Pb.St.v_w];done)|(rw[Pb.St.v_w];rfl)),rfl⟩;simp[Hp.upd,show ¬j=cc by omega,show ¬j=c3 by omega];try (split<;>rfl)
  rw[if_neg (by omega)]at h;have hti2:=M5 (E:=E) (x:=1) (by decide) hn;by_cases k7:k=7
  ·subst k7;rw[if_pos (by omega)]at h;cases hz28:R4 L E f (A8 L E (A7 s) 1).2 with
   |none=>rw[hz28]at h;cases h
   |some qhz28 =>
    obtain⟨e,s1⟩:=qhz28;rw[hz28]at h;dsimp only at h;rw[if_pos (by decide)]at h;have h1i:=R3 hz28 hti2;dsimp only at h1i;cases hz29:R4 L E f (E1 L E s1 [44]) with
    |none=>rw[hz29]at h;cases h
    |some qhz29 =>
     obtain⟨e2,s2⟩:=qhz29;rw[hz29]at h;dsimp only at h;cases h;have h2i:=R3 hz29 (K1 h1i);dsimp only at h2i;repeat' (apply wr<;>try simp only[go_sem,seval,hw2,u9,ne0,h_same])
     refine AC.call (c_name L E (A7 s) _ _ t (by repeat (first|exact h_same|rw[hnO]|rw[G4 (by omega)])) (by omega) (by have:=hn;omega)) ?_;rintro v H' c30 ⟨rfl,rfl⟩ hc30;try dsimp only
     simp only[go_sem,seval,ne0,h_same];repeat' (apply wr<;>try simp only[go_sem,seval,h_same])
     refine AC.call (c_expression L E hL f (A8 L E (A7 s) 1).2 (e,s1) hz28 (hti2) _ _ t (by repeat (first|exact h_same|rw[hnO]|rw[G4 (by omega)])) (by omega)) ?_;rintro v H' c31 ⟨rfl,rfl⟩ hc31;have ne0:=W3 t cc c3 c31 (by omega);try dsimp only
     simp only[go_sem,seval,Ex.v_w,ne0,h_same];repeat' (apply wr<;>try simp only[go_sem,seval,h_same])
     refine AC.call (c_expect L E s1 _ _ t (by repeat (first|exact h_same|rw[hnO]|rw[G4 (by omega)])) (by omega) (by have:=h1i;omega) _) ?_;rintro v H' c32 ⟨rfl,rfl⟩ hc32;try dsimp only
     simp only[go_sem,seval];repeat' (apply wr<;>try simp only[go_sem,seval,ne0,h_same])
     have hgx:=K1 (E:=E) (x:=[44]) h1i;refine AC.call (c_expression L E hL f (E1 L E s1 [44]) (e2,s2) hz29 (K1 h1i) _ _ t (by repeat (first|exact h_same|rw[hnO]|rw[G4 (by omega)])) (by omega)) ?_;rintro v H' c33 ⟨rfl,rfl⟩ hc33;have ne0:=A2a t cc c3 c31 (c32+4) (by omega);try dsimp only
     simp only[go_sem,seval,Ex.v_w,ne0,h_same,A5];repeat' (apply wr<;>try simp only[go_sem,seval,ne0,h_same,A5])
     refine⟨?_,?_⟩
     ·and_intros
      all_goals ((repeat rw[hnO]);exact hfr _ (by omega))
     have ne0:=A5k t cc c3 c31 (c32+4) c33 (by omega);try simp only[go_sem,seval,delO,G4,A8o,ne0,h_same,A5]
     repeat' (apply wr<;>try simp only[go_sem,seval,delO,G4,A8o,ne0,h_same,A5])
     refine A0c (A1l (by rfl) (by omega) (by omega)) ?_;try simp only[go_sem,seval,G4,ne0,h_same]
     repeat' (apply wr<;>try simp only[go_sem,seval])
     refine AC.call (c_expect L E s2 _ _ t (by repeat (first|exact h_same|rw[hnO]|rw[G4 (by omega)])) (by omega) (by have:=h2i;omega) _) ?_;rintro v H' c34 ⟨rfl,rfl⟩ hc34;try dsimp only
     simp only[go_sem,seval];repeat' (apply wr<;>try simp only[go_sem,seval,ne0,h_same])
     rw[I1 (rv7 rfl h_same)];refine⟨_,_,A2f (cc:=cc) (i:=c33) [e,e2] (.inr ⟨rfl,rfl⟩) (.inr ⟨rfl,rfl⟩) (D8 hfr htc) (by omega) ?_ (fun j hj=>?_),(by first|rfl|(rw[Pb.St.v_w];done)|(rw[Pb.St.v_w];rfl)),rfl⟩
     ·rw[C8r];dsimp only
      repeat (first|exact h_same|rw[hnO]|rw[G4 (by omega)])
     simp[Hp.upd,Hp.del,show ¬j=cc by omega,show ¬j=c3 by omega,show ¬j=c31 by omega,show ¬j=c32+4 by omega,show ¬j=c33 by omega];try (split<;>rfl)
  by_cases k68:k=6\/k=8
  ·rw[if_pos (by omega)]at h;cases hz35:R4 L E f (A8 L E (A7 s) 1).2 with
   |none=>rw[hz35]at h;cases h
   |some qhz35 =>
    obtain⟨e,s1⟩:=qhz35;rw[hz35]at h;dsimp only at h;rw[if_neg (by omega)]at h;cases h;have h1i:=R3 hz35 hti2;dsimp only at h1i;rcases k68 with rfl|rfl
    all_goals
     repeat' (apply wr<;>try simp only[go_sem,seval,hw2,u8,u10,ne0,h_same])
     refine AC.call (c_name L E (A7 s) _ _ t (by repeat (first|exact h_same|rw[hnO]|rw[G4 (by omega)])) (by omega) (by have:=hn;omega)) ?_;rintro v H' c36 ⟨rfl,rfl⟩ hc36;try dsimp only
     simp only[go_sem,seval,ne0,h_same];repeat' (apply wr<;>try simp only[go_sem,seval,h_same])
     refine AC.call (c_expression L E hL f (A8 L E (A7 s) 1).2 (e,s1) hz35 (hti2) _ _ t (by repeat (first|exact h_same|rw[hnO]|rw[G4 (by omega)])) (by omega)) ?_;rintro v H' c37 ⟨rfl,rfl⟩ hc37;have ne0:=W3 t cc c3 c37 (by omega);try dsimp only
     simp only[go_sem,seval,Ex.v_w,ne0,h_same];repeat' (apply wr<;>try simp only[go_sem,seval,h_same])
     refine AC.call (c_expect L E s1 _ _ t (by repeat (first|exact h_same|rw[hnO]|rw[G4 (by omega)])) (by omega) (by have:=h1i;omega) _) ?_;rintro v H' c38 ⟨rfl,rfl⟩ hc38;try dsimp only
     simp only[go_sem,seval];repeat' (apply wr<;>try simp only[go_sem,seval,ne0,h_same])
     rw[I1 (rv7 rfl h_same)];refine⟨_,_,A2f (cc:=cc) (i:=c37) [e] (.inr ⟨rfl,rfl⟩) (.inr ⟨rfl,rfl⟩) (D8 hfr htc) (by omega) ?_ (fun j hj=>?_),(by first|rfl|(rw[Pb.St.v_w];done)|(rw[Pb.St.v_w];rfl)),rfl⟩
     ·rw[A5y];dsimp only
      repeat (first|exact h_same|rw[hnO]|rw[G4 (by omega)])
     simp[Hp.upd,show ¬j=cc by omega,show ¬j=c3 by omega,show ¬j=c37 by omega];try (split<;>rfl)
  rw[if_neg (by omega)]at h;cases h;have e2:(2+k == 2)=false:=by simp;omega
  have e3:(2+k == 3)=false:=by simp;omega
  have e4:(2+k == 4)=false:=by simp;omega
  have e18:(2+k == 18)=false:=by simp;omega
  have e19:(2+k == 19)=false:=by simp;omega
  have e8:(2+k == 8)=false:=by simp;omega
  have e9:(2+k == 9)=false:=by simp;omega
  have e10:(2+k == 10)=false:=by simp;omega
  repeat' (apply wr<;>try simp only[go_sem,seval,hdk,hw2,hwk,e2,e3,e4,e18,e19,ne0,h_same])
  refine AC.call (c_name L E (A7 s) _ _ t (by repeat (first|exact h_same|rw[hnO]|rw[G4 (by omega)])) (by omega) (by have:=hn;omega)) ?_;rintro v H' c39 ⟨rfl,rfl⟩ hc39;try dsimp only
  simp only[go_sem,seval,ne0,h_same];repeat' (apply wr<;>try simp only[go_sem,seval,e8,e9,e10,h_same])
  refine AC.call (c_expect L E (A8 L E (A7 s) 1).2 _ _ t (by repeat (first|exact h_same|rw[hnO]|rw[G4 (by omega)])) (by omega) (by have:=hti2;omega) _) ?_;rintro v H' c40 ⟨rfl,rfl⟩ hc40;try dsimp only
  simp only[go_sem,seval];repeat' (apply wr<;>try simp only[go_sem,seval,ne0,h_same])
  rw[I1 (rv7 rfl h_same)];refine⟨_,_,C8m (cc:=cc) (.inr ⟨rfl,rfl⟩) (.inr ⟨rfl,rfl⟩) (.inr ⟨rfl,rfl⟩) (D8 hfr htc) (fun j hj=>?_),(by first|rfl|(rw[Pb.St.v_w];done)|(rw[Pb.St.v_w];rfl)),rfl⟩;simp[Hp.upd,show ¬j=cc by omega,show ¬j=c3 by omega];try (split<;>rfl)
end Go.Proofs.YtkkjpohaffjecaaGreatDoor
set_option maxHeartbeats 4000000
namespace Go.Proofs.YtkkjpohaffjecaaGreatDoor
open Go.Eng (IC IOper DReg IFn L2)
open Go.Sym Go.Pb
theorem c_stm(L:List Tok)(E:Int)(hL:L.length<=1000000000):∀ f:Nat,
  (∀ d s r,0<=d->d<=100->V8 L E f d s=some r->s.i<=L.length->RdC L E 266 [I64 d] s (r.1.v,r.2)) /\
  (∀ d s r,0<=d->d<=100->P9 L E f d s=some r->s.i<=L.length->RdC L E 196 [I64 d] s (D3 r.1,r.2)) /\
  (∀ d s r,0<=d->d<=99->V5 L E f d s=some r->s.i<=L.length->RdC L E 318 [I64 d] s (D3 r.1,r.2)):=by
 intro f
 induction f using Nat.strongRecOn with
 |_ f ih =>
  cases f with
  |zero=>exact⟨fun d s r _ _ h=>by simp[V8]at h,fun d s r _ _ h=>by simp[P9]at h,fun d s r _ _ h=>by simp[V5]at h⟩
  |succ f =>
   have i0:=ih f (by omega);exact⟨fun d s r h1 h2 h hi=>c_statement L E hL f i0.2.1 i0.2.2 d s r h1 h2 h hi,
    fun d s r h1 h2 h hi=>c_block L E hL f (fun g hg=>(ih g (by omega)).1) d s r h1 h2 h hi,
    fun d s r h1 h2 h hi=>c_other L E hL f i0.1 i0.2.1 d s r h1 h2 h hi⟩
theorem c_declaration(L:List Tok)(E:Int)(s:Rd)(H:Hp)(cc t:Nat)(ht:H t=some (rdR L E s))(htc:t<cc)(hL:L.length<=1000000000)(hv:∀ x∈L,0<=x.value/\x.value<=9223372036854775807)(k:Int)(hk0:0<=k)(hk:k<8)(hi:s.i<L.length):AC Tryz.prog 128 [.ptr t 0,I64 k] H cc (fun v H' c'=>v=(T2 L E k s).1.v/\H'=H.upd t (rdR L E (T2 L E k s).2)):=by
 refine AC.bodyT A2 rfl (A0D rfl) fun hfr=>?_;have hwk:IntKind.i64.wrap (1+k)=1+k:=w6z (by omega);have hw:IntKind.i64.wrap ((s.i:Int)+1)=((s.i+1:Nat):Int):=by rw[w6z (by omega)];omega
 have hn:(A7 s).i<=L.length:=hi;have hti:=M5 (E:=E) (x:=1) (by decide) hn;repeat' (apply wr<;>try simp only[go_sem,seval])
 refine AC.call (c_peek L E s _ _ t (by rw[hnO];exact ht) (by omega)) ?_;rintro v H' c1 ⟨rfl,rfl⟩ hc1;have ne0:=R9 t cc c1 (by omega);simp only[go_sem,seval,hwk];repeat' (apply wr<;>try simp only[go_sem,seval,ht,hw,ne0,A5])
 refine AC.call (c_name L E (A7 s) _ _ t (by repeat (first|exact h_same|rw[hnO])) (by omega) (by omega)) ?_;rintro v H' c2 ⟨rfl,rfl⟩ hc2;have hval:∀ z,0<=(A8 L E z 3).1.value/\(A8 L E z 3).1.value<=9223372036854775807:=fun z=>by
  unfold A8;split
  ·exact⟨A3G 0,(by decide:(0:Int)<=9223372036854775807)⟩
  ·show 0<=(B8 L E z).value/\(B8 L E z).value<=9223372036854775807;unfold B8;rw[A1M];cases hg:L[z.i]? with
   |none=>exact⟨A3G 0,(by decide:(0:Int)<=9223372036854775807)⟩
   |some x=>exact hv x (A0U hg)
 obtain⟨D,hD⟩:∃ D,D=T2 L E k s:=⟨_,rfl⟩;rw[<- hD];unfold T2 at hD;dsimp only at hD;generalize (B8 L E s).pos=p at hD ⊢;generalize (A8 L E (A7 s) 1).1.text=n at hD ⊢;generalize (A8 L E (A7 s) 1).2=s2 at hD hti ⊢;by_cases h6:k+1<=6
 ·rw[if_pos h6]at hD;have hd6:decide (1+k<=6)=true:=by simp;omega
  have hw2:IntKind.i64.wrap ((s2.i:Int)+1)=((s2.i+1:Nat):Int):=by rw[w6z (by omega)];omega
  by_cases h5:k=5
  ·subst h5;simp only[go_sem,seval,ne0,h_same,A5];repeat' (apply wr<;>try simp only[go_sem,seval,h_same])
   refine AC.call (c_is L E s2 _ _ t (by repeat (first|exact h_same|rw[hnO])) (by omega) _) ?_;rintro v H' c3 ⟨rfl,rfl⟩ hc3;cases hq:isR L E s2 [45] with
   |true =>
    rw[hq]at hD;have hn2:(A7 s2).i<=L.length:=(A2c hq).2;have hv2:=hval (A7 s2);have hneg:IntKind.i64.wrap (0-(A8 L E (A7 s2) 3).1.value) = -(A8 L E (A7 s2) 3).1.value:=by rw[w6z (by omega)];omega
    simp only[go_sem,seval];repeat' (apply wr<;>try simp only[go_sem,seval,hw2,ne0,h_same])
    have h4i:=M5 (E:=E) (x:=3) (by decide) hn2;subst hD;refine AC.call (c_take L E (A7 s2) _ _ t (by repeat (first|exact h_same|rw[hnO])) (by omega) (by omega) 3) ?_;rintro v H' c4 ⟨rfl,rfl⟩ hc4;try dsimp only
    simp only[go_sem,seval,ne0,h_same,A5];repeat' (apply wr<;>try simp only[go_sem,seval,hneg,h_same,A5])
    refine AC.call (c_expect L E (A8 L E (A7 s2) 3).2 _ _ t (by repeat (first|exact h_same|rw[hnO])) (by omega) (by omega) _) ?_;rintro v H' c9 ⟨rfl,rfl⟩ hc9;simp only[go_sem,seval];repeat' (apply wr<;>try simp only[go_sem,seval,ne0,h_same])
    rw[I1 (rv4 rfl h_same)];refine⟨_,_,S3 (cc:=cc) (D8 hfr htc) (fun j hj=>?_),rfl,rfl⟩;simp[Hp.upd,show ¬j=cc by omega,show ¬j=c1 by omega];try (split<;>rfl)
   |false =>
    rw[hq]at hD;simp only[go_sem,seval];repeat' (apply wr<;>try simp only[go_sem,seval])
    have h4i:=M5 (E:=E) (x:=3) (by decide) hti;subst hD;refine AC.call (c_take L E s2 _ _ t (by repeat (first|exact h_same|rw[hnO])) (by omega) (by omega) 3) ?_;rintro v H' c4 ⟨rfl,rfl⟩ hc4;try dsimp only
    simp only[go_sem,seval,ne0,h_same];repeat' (apply wr<;>try simp only[go_sem,seval])
    refine AC.call (c_expect L E (A8 L E s2 3).2 _ _ t (by repeat (first|exact h_same|rw[hnO])) (by omega) (by omega) _) ?_;rintro v H' c9 ⟨rfl,rfl⟩ hc9;simp only[go_sem,seval];repeat' (apply wr<;>try simp only[go_sem,seval,ne0,h_same])
    rw[I1 (rv4 rfl h_same)];refine⟨_,_,S3 (cc:=cc) (D8 hfr htc) (fun j hj=>?_),rfl,rfl⟩;simp[Hp.upd,show ¬j=cc by omega,show ¬j=c1 by omega];try (split<;>rfl)
  ·have hd5:(1+k == 6)=false:=by simp;omega
   have hm:(k+1 == 6)=false:=by simp;omega
   rw[hm]at hD;simp only[go_sem,seval,ne0,h_same,A5];repeat' (apply wr<;>try simp only[go_sem,seval,hd6,hd5,h_same])
   have h4i:=M5 (E:=E) (x:=3) (by decide) hti;subst hD;refine AC.call (c_take L E s2 _ _ t (by repeat (first|exact h_same|rw[hnO])) (by omega) (by omega) 3) ?_;rintro v H' c4 ⟨rfl,rfl⟩ hc4;try dsimp only
   simp only[go_sem,seval,ne0,h_same];repeat' (apply wr<;>try simp only[go_sem,seval])
   refine AC.call (c_expect L E (A8 L E s2 3).2 _ _ t (by repeat (first|exact h_same|rw[hnO])) (by omega) (by omega) _) ?_;rintro v H' c9 ⟨rfl,rfl⟩ hc9;simp only[go_sem,seval];repeat' (apply wr<;>try simp only[go_sem,seval,ne0,h_same])
   rw[I1 (rv4 rfl h_same)];refine⟨_,_,S3 (cc:=cc) (D8 hfr htc) (fun j hj=>?_),rfl,rfl⟩;simp[Hp.upd,show ¬j=cc by omega,show ¬j=c1 by omega];try (split<;>rfl)
 ·rw[if_neg h6]at hD;have hd6:decide (1+k<=6)=false:=by simp;omega
  subst hD;simp only[go_sem,seval,ne0,h_same,A5];repeat' (apply wr<;>try simp only[go_sem,seval,hd6,h_same])
  refine AC.call (c_expect L E s2 _ _ t (by repeat (first|exact h_same|rw[hnO])) (by omega) (by omega) _) ?_;rintro v H' c3 ⟨rfl,rfl⟩ hc3;simp only[go_sem,seval];repeat' (apply wr<;>try simp only[go_sem,seval,ne0,h_same])
  rw[I1 (rv4 rfl h_same)];refine⟨_,_,S3 (cc:=cc) (D8 hfr htc) (fun j hj=>?_),rfl,rfl⟩;simp[Hp.upd,show ¬j=cc by omega,show ¬j=c1 by omega];try (split<;>rfl)
theorem E4c{ρ : Ren}{v:Value}{a b e:DV}(h:VRel ρ (.agg [a,b,.snil,e]) v):VRel ρ (.agg [a,b,.lst [],e]) v:=by
 obtain⟨bb,rfl,k1,k2⟩:=h.agg_inv;refine .agg _ _ k1 fun j x y hx hy=>?_
 match j with
 |0=>cases hx;exact k2 0 _ y rfl hy
 |1=>cases hx;exact k2 1 _ y rfl hy
 |2=>cases hx;exact (k2 2 _ y rfl hy).snil_lst
 |3=>cases hx;exact k2 3 _ y rfl hy
 |_+4=>cases hx
theorem D4f{K H':Hp}{cc:Nat}{o:Option Nat}{a b e:DV}(l:List Hd)(hK:∀ i,cc<=i->K i=none)(ho:∀ i,o=some i->cc<=i)(hno:o=none->l=[])(hb:∀ i,o=some i->H' i=some ⟨4,true,cellsL (l.map Hd.v)⟩)(h:∀ j,j<cc->H' j=K j):
  GL H' [.agg [a,b,todoV o l.length,e]] K [.agg [a,b,K8 l,e]]:=by
 cases o with
 |none =>
  obtain rfl:=hno rfl;exact (S3 hK h).trans (GL.view fun ρ vs hA=>N6 (fun v h=>E4c h) vs hA)
 |some i =>
  have:=ho i rfl;exact GL.frzS (id:=i) (hb i rfl) rfl (fun j=>by
   by_cases hj:j<cc
   ·exact .inr ⟨by omega,(h j hj).symm⟩
   ·exact .inl (hK j (by omega))) (.cons _ _ _ _ (.agg _ _ (.cons _ _ _ _ (.same _) (.cons _ _ _ _ (.same _) (.cons _ _ _ _ (P0 (u:=4) (by simp) (A3d l) ⟨[],by simp⟩) (.cons _ _ _ _ (.same _) .nil))))) .nil)
theorem c_mode(L:List Tok)(E:Int)(hL:L.length<=1000000000)(f:Nat)(s:Rd)(r:Md × Rd)(h:A5l L E f s=some r)(hi:s.i<=L.length):RdC L E 130 [] s (r.1.v,r.2):=by
 intro H cc t ht htc;refine AC.bodyT A2 rfl (A0D rfl) fun hfr=>?_;unfold A5l at h;dsimp only at h;have i1:=K1 (E:=E) (x:=[109,111,100,101]) hi;generalize hs1:E1 L E s [109,111,100,101]=s1 at h i1;have i2:=M5 (E:=E) (x:=1) (by decide) i1;have i3:=M5 (E:=E) (x:=3) (by decide) i2;have i4:=K1 (E:=E) (x:=[123]) i3;repeat' (apply wr<;>try simp only[go_sem,seval])
 refine AC.call (c_peek L E s _ _ t (by rw[hnO];exact ht) (by omega)) ?_;rintro v H' c1 ⟨rfl,rfl⟩ hc1;have ne0:=R9 t cc c1 (by omega);simp only[go_sem,seval];repeat' (apply wr<;>try simp only[go_sem,seval,A5])
 refine AC.call (c_expect L E s _ _ t (by repeat (first|exact ht|rw[hnO])) (by omega) (by omega) _) ?_;rintro v H' c2 ⟨rfl,rfl⟩ hc2;rw[hs1];simp only[go_sem,seval];repeat' (apply wr<;>try simp only[go_sem,seval])
 refine AC.call (c_name L E s1 _ _ t (by repeat (first|exact h_same|rw[hnO])) (by omega) (by omega)) ?_;rintro v H' c3 ⟨rfl,rfl⟩ hc3;generalize (A8 L E s1 1).1.text=n at h ⊢;generalize (A8 L E s1 1).2=s2 at h i2 i3 i4 ⊢;simp only[go_sem,seval,ne0,h_same,A5];repeat' (apply wr<;>try simp only[go_sem,seval])
 refine AC.call (c_take L E s2 _ _ t (by repeat (first|exact h_same|rw[hnO])) (by omega) (by omega) 3) ?_;rintro v H' c4 ⟨rfl,rfl⟩ hc4;try dsimp only
 simp only[go_sem,seval,ne0,h_same];repeat' (apply wr<;>try simp only[go_sem,seval])
 refine AC.call (c_expect L E (A8 L E s2 3).2 _ _ t (by repeat (first|exact h_same|rw[hnO])) (by omega) (by omega) _) ?_;rintro v H' c5 ⟨rfl,rfl⟩ hc5;generalize (A8 L E s2 3).1.value=z at h ⊢;generalize E1 L E (A8 L E s2 3).2 [123]=s3 at h i4 ⊢;generalize (B8 L E s).pos=p at h ⊢;cases hm:Z0 L E f [] s3 with
 |none=>rw[hm]at h;cases h
 |some q =>
  obtain⟨hl,s4⟩:=q;rw[hm]at h;dsimp only at h;cases h;simp only[go_sem,seval];repeat' (apply wr<;>try simp only[go_sem,seval])
  refine A9 (fun _:Nat × Option Nat × List Hd × Rd=>[(0,.ptr t 0),(2,.ptr cc 0),(3,.ptr c1 0)]) (fun q=>optH (((H.upd cc ⟨0,true,[.str [],I64 0,.snil,I64 0]⟩).upd c1 ⟨0,true,[.str n,I64 z,todoV q.2.1 q.2.2.1.length,I64 p]⟩).upd t (rdR L E q.2.2.2)) q.2.1 ⟨4,true,cellsL (q.2.2.1.map Hd.v)⟩)
   (fun q c=>c1+1<=c/\q.1<=f/\q.2.2.2.i<=L.length/\(q.2.1=none->q.2.2.1=[])/\(∀ i,q.2.1=some i->c1<i/\i<c)/\q.2.2.1.length<=32/\Z0 L E q.1 q.2.2.1 q.2.2.2=some (hl,s4)) (fun q=>q.1) (f,none,[],s3)
   (by simp[C1,tm,Tm.upd]) (fun j b hj=>?_) ⟨by omega,A0E _,i4,fun _=>rfl,(fun i hi=>by cases hi),by simp,hm⟩ ?_
  ·simp only[optH,B2w]at hj;by_cases e1:j=t
   ·subst e1;rw[h_same]at hj ⊢;exact hj
   ·rw[h_ne e1]at hj ⊢;by_cases e2:j=c1
    ·subst e2;rw[h_same]at hj ⊢;exact hj
    ·rw[h_ne e2]at hj ⊢;simp only[h_ne e1,h_ne e2];exact hj
  clear hm i1 i2 i3 i4;rintro⟨g,o,l,u⟩ c ⟨hc,hg,hi5,hno,ho,hl1,hv⟩;dsimp only at hc hg hi5 hno ho hl1 hv ⊢;cases g with
  |zero=>simp[Z0]at hv
  |succ g =>
  unfold Z0 at hv;dsimp only at hv;have hHt:optH (((H.upd cc ⟨0,true,[.str [],I64 0,.snil,I64 0]⟩).upd c1 ⟨0,true,[.str n,I64 z,todoV o l.length,I64 p]⟩).upd t (rdR L E u)) o ⟨4,true,cellsL (l.map Hd.v)⟩ t=some (rdR L E u):=by rw[B7 (fun i hi=>by have:=ho i hi;omega),h_same]
  repeat' (apply wr<;>try simp only[go_sem,seval])
  refine AC.call (c_rdok L E u _ _ t hHt (by omega)) ?_;rintro v H' c6 ⟨rfl,rfl⟩ hc6;have hbx:(optH (((H.upd cc ⟨0,true,[.str [],I64 0,.snil,I64 0]⟩).upd c1 ⟨0,true,[.str n,I64 z,todoV o l.length,I64 p]⟩).upd t (rdR L E u)) o ⟨4,true,cellsL (l.map Hd.v)⟩) c1=some ⟨0,true,[.str n,I64 z,todoV o l.length,I64 p]⟩:=by rw[B7 (fun i hi=>by have:=ho i hi;omega),hnO,h_same]
  have hbo:∀ i:Nat,o=some i->(optH (((H.upd cc ⟨0,true,[.str [],I64 0,.snil,I64 0]⟩).upd c1 ⟨0,true,[.str n,I64 z,todoV o l.length,I64 p]⟩).upd t (rdR L E u)) o ⟨4,true,cellsL (l.map Hd.v)⟩) i=some ⟨4,true,cellsL (l.map Hd.v)⟩:=fun i hi=>by subst hi;exact h_same
  have hbj:∀ j:Nat,j<cc->¬ j=t->(optH (((H.upd cc ⟨0,true,[.str [],I64 0,.snil,I64 0]⟩).upd c1 ⟨0,true,[.str n,I64 z,todoV o l.length,I64 p]⟩).upd t (rdR L E u)) o ⟨4,true,cellsL (l.map Hd.v)⟩) j=H j:=fun j h1 h2=>by rw[B7 (fun i hi=>by have:=ho i hi;omega),h_ne h2,hnO,hnO]
  have hb0:(optH (((H.upd cc ⟨0,true,[.str [],I64 0,.snil,I64 0]⟩).upd c1 ⟨0,true,[.str n,I64 z,todoV o l.length,I64 p]⟩).upd t (rdR L E u)) o ⟨4,true,cellsL (l.map Hd.v)⟩) cc=some ⟨0,true,[.str [],I64 0,.snil,I64 0]⟩:=by rw[B7 (fun i hi=>by have:=ho i hi;omega),hnO,hnO,h_same]
  have hT:(todoV o l.length).one=true:=by cases o<;>rfl
  generalize hHH:optH (((H.upd cc ⟨0,true,[.str [],I64 0,.snil,I64 0]⟩).upd c1 ⟨0,true,[.str n,I64 z,todoV o l.length,I64 p]⟩).upd t (rdR L E u)) o ⟨4,true,cellsL (l.map Hd.v)⟩=HH at hHt hbx hbo hbj hb0 ⊢;have fin:∀ (u2:Rd) (e:DV) (x:Blk) (q1 q2:DV),GL ((HH.upd t (rdR L E u2)).upd cc x) [.agg [q1,q2,todoV o l.length,e]] (H.upd t (rdR L E u2)) [.agg [q1,q2,K8 l,e]]:=fun u2 e x q1 q2 =>
   D4f (cc:=cc) l (D8 hfr htc) (fun i hi=>by have:=ho i hi;omega) hno (fun i hi=>by have:=ho i hi;rw[hnO,hnO];exact hbo i hi) (fun j hj=>by
    rw[hnO];by_cases e1:j=t
    ·subst e1;rw[h_same,h_same]
    ·rw[h_ne e1,h_ne e1,hbj j hj e1])
  cases hok:okR u with
  |false =>
   rw[if_neg (by simp[hok])]at hv;have e1:l=hl:=congrArg Prod.fst (Option.some.inj hv);have e2:E1 L E u [125]=s4:=congrArg Prod.snd (Option.some.inj hv);subst e1 e2;simp only[go_sem,seval];repeat' (apply wr<;>try simp only[go_sem,seval])
   refine AC.call (c_expect L E u _ _ t hHt (by omega) (by omega) _) ?_;rintro v H' c7 ⟨rfl,rfl⟩ hc7;simp only[go_sem,seval];repeat' (apply wr<;>try simp only[go_sem,seval,ne0,hbx,hb0])
   refine F4 (A6e (by rfl) (by decide) (by clear hHH;cases o<;>rfl)) ?_;simp only[go_sem,seval];repeat' (apply wr<;>try simp only[go_sem,seval])
   rw[I1 (rv4 rfl h_same)];exact⟨_,_,fin _ _ _ _ _,rfl,rfl⟩
  |true =>
   simp only[go_sem,seval];repeat' (apply wr<;>try simp only[go_sem,seval,hok])
   refine AC.call (c_is L E u _ _ t hHt (by omega) _) ?_;rintro v H' c7 ⟨rfl,rfl⟩ hc7;cases hq:isR L E u [125] with
   |true =>
    rw[if_neg (by simp[hq])]at hv;have e1:l=hl:=congrArg Prod.fst (Option.some.inj hv);have e2:E1 L E u [125]=s4:=congrArg Prod.snd (Option.some.inj hv);subst e1 e2;simp only[go_sem,seval];repeat' (apply wr<;>try simp only[go_sem,seval])
    refine AC.call (c_expect L E u _ _ t hHt (by omega) (by omega) _) ?_;rintro v H' c8 ⟨rfl,rfl⟩ hc8;simp only[go_sem,seval];repeat' (apply wr<;>try simp only[go_sem,seval,ne0,hbx,hb0])
    refine F4 (A6e (by rfl) (by decide) (by clear hHH;cases o<;>rfl)) ?_;simp only[go_sem,seval];repeat' (apply wr<;>try simp only[go_sem,seval])
    rw[I1 (rv4 rfl h_same)];exact⟨_,_,fin _ _ _ _ _,rfl,rfl⟩
   |false =>
    rw[if_pos ⟨hok,hq⟩]at hv;simp only[go_sem,seval];repeat' (apply wr<;>try simp only[go_sem,seval])
    refine AC.call (c_is L E u _ _ t hHt (by omega) _) ?_;rintro v H' c8 ⟨rfl,rfl⟩ hc8;cases hon:isR L E u [111,110] with
    |false =>
     rw[if_pos hon]at hv;have e1:l=hl:=congrArg Prod.fst (Option.some.inj hv);have e2:Q1 L E u=s4:=congrArg Prod.snd (Option.some.inj hv);subst e1 e2;simp only[go_sem,seval];repeat' (apply wr<;>try simp only[go_sem,seval])
     refine AC.call (c_syntax L E u _ _ t hHt (by omega)) ?_;rintro v H' c9 ⟨rfl,rfl⟩ hc9;simp only[go_sem,seval];repeat' (apply wr<;>try simp only[go_sem,seval,ne0,hbx,hb0])
     refine F4 (A6e (by rfl) (by decide) (by clear hHH;cases o<;>rfl)) ?_;simp only[go_sem,seval];repeat' (apply wr<;>try simp only[go_sem,seval])
     rw[I1 (rv4 rfl h_same)];exact⟨_,_,fin _ _ _ _ _,rfl,rfl⟩
    |true =>
     rw[if_neg (by simp[hon])]at hv;have hlen:A5r (todoV o l.length)=some (I64 l.length):=by
      cases o with
      |none=>rw[hno rfl];rfl
      |some b=>rfl
     have hwl:IntKind.i64.wrap ((l.length:Int)+1)=(l.length:Int)+1:=w6z (by omega);simp only[go_sem,seval];repeat' (apply wr<;>try simp only[go_sem,seval,hbx,hlen,hwl])
     refine AC.call (c_limit L E u _ _ t hHt (by omega) _ _ _) ?_;rintro v H' c9 ⟨rfl,rfl⟩ hc9;have j1:(C9 L E u ((l.length:Int)+1) 32 9).i<=L.length:=by rw[G8];exact hi5
     generalize hlq:C9 L E u ((l.length:Int)+1) 32 9=u1 at hv j1 ⊢;have j2:=K1 (E:=E) (x:=[111,110]) j1;simp only[go_sem,seval];repeat' (apply wr<;>try simp only[go_sem,seval])
     refine AC.call (c_peek L E u1 _ _ t h_same (by omega)) ?_;rintro v H' c10 ⟨rfl,rfl⟩ hc10;have ne0:=W3 t cc c1 c10 (by omega);simp only[go_sem,seval];repeat' (apply wr<;>try simp only[go_sem,seval,A5])
     refine AC.call (c_expect L E u1 _ _ t (by repeat (first|exact h_same|rw[hnO])) (by omega) (by omega) _) ?_;rintro v H' c11 ⟨rfl,rfl⟩ hc11;generalize hu2:E1 L E u1 [111,110]=u2 at hv j2 ⊢;simp only[go_sem,seval];repeat' ((with_reducible first|apply wr|refine cpc c_trigs31 ?_|fail)<;>try simp only[go_sem,seval])
     refine AC.call (c_among L E u2 _ _ t (by repeat (first|exact h_same|rw[hnO])) (by omega) E9 (by decide)) ?_;rintro v H' c12 ⟨rfl,rfl⟩ hc12;have hkr : -1<=C0 L E u2 E9/\C0 L E u2 E9<6:=A4t L E u2 E9 0;have hnn:0<=C0 L E u2 E9->okR u2=true/\u2.i<L.length:=fun h=>⟨(H8 h).1,(H8 h).2.1⟩;generalize C0 L E u2 E9=k at hv hkr hnn;by_cases hk:k<0
     ·rw[if_pos hk]at hv;have e1:l=hl:=congrArg Prod.fst (Option.some.inj hv);have e2:Q1 L E u2=s4:=congrArg Prod.snd (Option.some.inj hv);subst e1 e2;have hdk:decide (k<0)=true:=by simpa using hk
      simp only[go_sem,seval];repeat' (apply wr<;>try simp only[go_sem,seval,hdk])
      refine AC.call (c_syntax L E u2 _ _ t (by repeat (first|exact h_same|rw[hnO])) (by omega)) ?_;rintro v H' c13 ⟨rfl,rfl⟩ hc13;simp only[go_sem,seval];repeat' (apply wr<;>try simp only[go_sem,seval,ne0,hbx,hb0])
      refine F4 (A6e (by rfl) (by decide) (by clear hHH;cases o<;>rfl)) ?_;simp only[go_sem,seval];repeat' (apply wr<;>try simp only[go_sem,seval])
      rw[I1 (rv4 rfl h_same)];refine⟨_,_,D4f (cc:=cc) l (D8 hfr htc) (fun i hi=>by have:=ho i hi;omega) hno (fun i hi=>?_) (fun j hj=>?_),rfl,rfl⟩
      ·have:=ho i hi;dsimp only
       repeat rw[hnO]
       exact hbo i hi
      ·by_cases e1:j=t
       ·subst e1;dsimp only;rw[hnO,h_same,h_same]
       ·dsimp only
        repeat rw[hnO]
        exact hbj j hj e1
     rw[if_neg hk]at hv;have hdk:decide (k<0)=false:=by simpa using hk
     obtain⟨hok2,hi2⟩:=hnn (by omega);have hw2:IntKind.i64.wrap ((u2.i:Int)+1)=((u2.i+1:Nat):Int):=by rw[w6z (by omega)];omega
     have hwk:IntKind.i64.wrap (1+k)=1+k:=w6z (by omega);have hn2:(A7 u2).i<=L.length:=hi2;have ht2:=M5 (E:=E) (x:=1) (by decide) hn2;have hl32:l.length+1<=32:=by
      have hok1:okR u1=true:=by
       cases hz:okR u1 with
       |true=>rfl
       |false =>
        have:E1 L E u1 [111,110]=Q1 L E u1:=by unfold E1 isR;rw[hz];rfl
        rw[<- hu2,this,A6l]at hok2;cases hok2
      have:=(H3 (L:=L) (E:=E) (s:=u) (n:=(l.length:Int)+1) (m:=32) (e:=9) (by decide) (by rw[hlq];exact hok1)).2.1;omega
     simp only[go_sem,seval];by_cases hk2:2<=k
     ·rw[if_pos hk2,if_pos hk2]at hv;have hd2:decide (k≥2)=true:=by simpa using hk2
      repeat' (apply wr<;>try simp only[go_sem,seval,hdk,hd2,hw2,hwk,ne0,h_same,A5])
      refine AC.call (c_name L E (A7 u2) _ _ t (by repeat (first|exact h_same|rw[hnO])) (by omega) (by omega)) ?_;rintro v H' c14 ⟨rfl,rfl⟩ hc14;simp only[go_sem,seval,ne0,h_same];repeat' (apply wr<;>try simp only[go_sem,seval])
      cases hb:P9 L E g 1 (A8 L E (A7 u2) 1).2 with
      |none=>rw[hb]at hv;cases hv
      |some qb =>
       obtain⟨bd,s6⟩:=qb;rw[hb]at hv;dsimp only at hv;have j6:=(II.all g).1 _ _ _ hb ht2;refine AC.call ((c_stm L E hL g).2.1 1 (A8 L E (A7 u2) 1).2 (bd,s6) (by decide) (by decide) hb ht2 _ _ t (by repeat (first|exact h_same|rw[hnO])) (by omega)) ?_;rintro v H' c15 ⟨rfl,rfl⟩ hc15;try dsimp only
       have ne0:=A2a t cc c1 c10 c15 (by omega);simp only[go_sem,seval,ne0,h_same];repeat' (apply wr<;>try simp only[go_sem,seval,ne0,h_same,hbx])
       have hl4:(cellsL (l.map Hd.v)).length=l.length * 4:=C2 (u:=4) (A3d _) |>.trans (by simp);refine F4 (D5 (cs:=cellsL (l.map Hd.v)) (fun e=>by rw[hno e];exact⟨rfl,rfl⟩) (fun i hi=>?_) hl4 (by omega) (by omega) (by omega)) ?_
       ·have:=ho i hi
        repeat rw[hnO]
        exact hbo i hi
       have hdx:∀ X:Hp,delO X o c1=X c1:=fun X=>B0 (fun i hi=>by have:=ho i hi;omega);have ne0:=A5k t cc c1 c10 c15 (c15+1) (by omega);simp only[go_sem,seval,ne0,hdx,hbx];repeat' (apply wr<;>try simp only[go_sem,seval,ne0,h_same,A5,hdx,hbx])
       refine⟨(g,some (c15+1),l++[⟨1+k,(A8 L E (A7 u2) 1).1.text,bd,(B8 L E u1).pos⟩],s6),?_,inv ⟨by omega,by simp only;omega,j6,(fun h=>by cases h),(fun i hi=>by cases hi;omega),by simp only[A0A,A0N];omega,hv⟩,by simp only;omega⟩;intro j b hj;simp only[optH,A6k,A0A,A0N,A0T,C4]at hj;by_cases e1:j=c15+1
       ·subst e1;rw[h_same]at hj;rw[hnO,h_same, <- hj];rfl
       rw[h_ne e1]at hj;by_cases e2:j=t
       ·subst e2;rw[h_same]at hj;rw[hnO,hnO,B0 (fun i hi=>by have:=ho i hi;omega),hnO,hnO,h_same];exact hj
       rw[h_ne e2]at hj;by_cases e3:j=c1
       ·subst e3;rw[h_same]at hj ⊢;exact hj
       rw[h_ne e3]at hj ⊢;by_cases e4:j=cc
       ·subst e4;rw[h_same]at hj;rw[hnO,B0 (fun i hi=>by have:=ho i hi;omega)]
        repeat rw[hnO]
        rw[hb0];exact hj
       ·rw[h_ne e4]at hj;have hjc:j<cc:=Classical.byContradiction fun h=>by rw[hfr j (by omega)]at hj;cases hj
        rw[hnO,B0 (fun i hi=>by have:=ho i hi;omega)]
        repeat rw[hnO]
        rw[hbj j hjc e2];exact hj
     ·rw[if_neg hk2,if_neg hk2]at hv;have hd2:decide (k≥2)=false:=by simpa using hk2
      repeat' (apply wr<;>try simp only[go_sem,seval,hdk,hd2,hw2,hwk,ne0,h_same,A5])
      cases hb:P9 L E g 1 (A7 u2) with
      |none=>rw[hb]at hv;cases hv
      |some qb =>
       obtain⟨bd,s6⟩:=qb;rw[hb]at hv;dsimp only at hv;have j6:=(II.all g).1 _ _ _ hb hn2;refine AC.call ((c_stm L E hL g).2.1 1 (A7 u2) (bd,s6) (by decide) (by decide) hb hn2 _ _ t (by repeat (first|exact h_same|rw[hnO])) (by omega)) ?_;rintro v H' c15 ⟨rfl,rfl⟩ hc15;try dsimp only
       have ne0:=A2a t cc c1 c10 c15 (by omega);simp only[go_sem,seval,ne0,h_same];repeat' (apply wr<;>try simp only[go_sem,seval,ne0,h_same,hbx])
       have hl4:(cellsL (l.map Hd.v)).length=l.length * 4:=C2 (u:=4) (A3d _) |>.trans (by simp);refine F4 (D5 (cs:=cellsL (l.map Hd.v)) (fun e=>by rw[hno e];exact⟨rfl,rfl⟩) (fun i hi=>?_) hl4 (by omega) (by omega) (by omega)) ?_
       ·have:=ho i hi
        repeat rw[hnO]
        exact hbo i hi
       have hdx:∀ X:Hp,delO X o c1=X c1:=fun X=>B0 (fun i hi=>by have:=ho i hi;omega);have ne0:=A5k t cc c1 c10 c15 (c15+1) (by omega);simp only[go_sem,seval,ne0,hdx,hbx];repeat' (apply wr<;>try simp only[go_sem,seval,ne0,h_same,A5,hdx,hbx])
       refine⟨(g,some (c15+1),l++[⟨1+k,[],bd,(B8 L E u1).pos⟩],s6),?_,inv ⟨by omega,by simp only;omega,j6,(fun h=>by cases h),(fun i hi=>by cases hi;omega),by simp only[A0A,A0N];omega,hv⟩,by simp only;omega⟩;intro j b hj;simp only[optH,A6k,A0A,A0N,A0T,C4]at hj;by_cases e1:j=c15+1
       ·subst e1;rw[h_same]at hj;rw[hnO,h_same, <- hj];rfl
       rw[h_ne e1]at hj;by_cases e2:j=t
       ·subst e2;rw[h_same]at hj;rw[hnO,hnO,B0 (fun i hi=>by have:=ho i hi;omega),hnO,hnO,h_same];exact hj
       rw[h_ne e2]at hj;by_cases e3:j=c1
       ·subst e3;rw[h_same]at hj ⊢;exact hj
       rw[h_ne e3]at hj ⊢;by_cases e4:j=cc
       ·subst e4;rw[h_same]at hj;rw[hnO,B0 (fun i hi=>by have:=ho i hi;omega)]
        repeat rw[hnO]
        rw[hb0];exact hj
       ·rw[h_ne e4]at hj;have hjc:j<cc:=Classical.byContradiction fun h=>by rw[hfr j (by omega)]at hj;cases hj
        rw[hnO,B0 (fun i hi=>by have:=ho i hi;omega)]
        repeat rw[hnO]
        rw[hbj j hjc e2];exact hj
theorem E4b{ρ : Ren}{v:Value}{a:DV}(h:VRel ρ (.agg [a,.snil]) v):VRel ρ (.agg [a,.lst []]) v:=by
 obtain⟨bb,rfl,k1,k2⟩:=h.agg_inv;refine .agg _ _ k1 fun j x y hx hy=>?_
 match j with
 |0=>cases hx;exact k2 0 _ y rfl hy
 |1=>cases hx;exact (k2 1 _ y rfl hy).snil_lst
 |_+2=>cases hx
theorem D4e{K H':Hp}{cc:Nat}{o:Option Nat}{a:DV}(l:List Md)(hK:∀ i,cc<=i->K i=none)(ho:∀ i,o=some i->cc<=i)(hno:o=none->l=[])(hb:∀ i,o=some i->H' i=some ⟨4,true,cellsL (l.map Md.v)⟩)(h:∀ j,j<cc->H' j=K j):
  GL H' [.agg [a,todoV o l.length]] K [.agg [a,C7 l]]:=by
 cases o with
 |none =>
  obtain rfl:=hno rfl;exact (S3 hK h).trans (GL.view fun ρ vs hA=>N6 (fun v h=>E4b h) vs hA)
 |some i =>
  have:=ho i rfl;exact GL.frzS (id:=i) (hb i rfl) rfl (fun j=>by
   by_cases hj:j<cc
   ·exact .inr ⟨by omega,(h j hj).symm⟩
   ·exact .inl (hK j (by omega))) (.cons _ _ _ _ (.agg _ _ (.cons _ _ _ _ (.same _) (.cons _ _ _ _ (P0 (u:=4) (by simp) (A8m l) ⟨[],by simp⟩) .nil))) .nil)
theorem rv2{s:Sym.St}{x i u:Nat}{a b:DV}{o:Bool}(h:s.T x=.ptr i 0)(hb:s.H i=some ⟨u,o,[a,b]⟩):A4g s [.cell x 2 true]=some (.agg [a,b]):=by
 simp only[A4g,A4i,h,ldv,hb];rfl
theorem c_rules(L:List Tok)(E:Int)(hL:L.length<=1000000000)(hv:∀ x∈L,0<=x.value/\x.value<=9223372036854775807)(f:Nat)(s:Rd)(r:Ru × Rd)(h:A9d L E f s=some r)(hi:s.i<=L.length):RdC L E 59 [] s (r.1.v,r.2):=by
 intro H cc t ht htc;refine AC.bodyT A2 rfl (A0D rfl) fun hfr=>?_;unfold A9d at h;cases hd:W0 L E f [] s with
 |none=>rw[hd]at h;cases h
 |some q =>
 obtain⟨dl,s1⟩:=q;rw[hd]at h;dsimp only at h;cases hm:V1 L E f [] s1 with
 |none=>rw[hm]at h;cases h
 |some q =>
 obtain⟨ml,s2⟩:=q;rw[hm]at h;cases h;have ne0:=R9 t cc (cc+1) (by omega);repeat' ((with_reducible first|apply wr|refine cpc c_decls31 ?_|fail)<;>try simp only[go_sem,seval])
 refine AC.call (c_among L E s _ _ t (by repeat (first|exact ht|rw[hnO])) (by omega) E5 (by decide)) ?_;rintro v H' c1 ⟨rfl,rfl⟩ hc1;simp only[go_sem,seval];repeat' (apply wr<;>try simp only[go_sem,seval])
 refine A9 (fun q:Nat × Option Nat × List Dc × Rd=>[(0,.ptr t 0),(2,.ptr cc 0),(3,.ptr (cc+1) 0),(4,I64 (C0 L E q.2.2.2 E5))]) (fun q=>optH (((H.upd cc ⟨0,true,[.snil,.snil]⟩).upd t (rdR L E q.2.2.2)).upd (cc+1) ⟨0,true,[todoV q.2.1 q.2.2.1.length,.snil]⟩) q.2.1 ⟨4,true,cellsL (q.2.2.1.map Dc.v)⟩)
  (fun q c=>cc+2<=c/\q.1<=f/\q.2.2.2.i<=L.length/\(q.2.1=none->q.2.2.1=[])/\(∀ i,q.2.1=some i->cc+1<i/\i<c)/\q.2.2.1.length<=128/\W0 L E q.1 q.2.2.1 q.2.2.2=some (dl,s1)) (fun q=>q.1) (f,none,[],s)
  (by simp[C1,tm,Tm.upd]) (fun j b hj=>?_) ⟨by omega,A0E _,hi,fun _=>rfl,(fun i hi=>by cases hi),by simp,hd⟩ ?_
 ·simp only[optH,B2w]at hj;by_cases e1:j=cc+1
  ·subst e1;rw[h_same]at hj ⊢;exact hj
  ·rw[h_ne e1]at hj ⊢;by_cases e2:j=t
   ·subst e2;rw[h_same]at hj;rw[hnO,ht];exact hj
   ·rw[h_ne e2]at hj;exact hj
 clear hd;rintro⟨g,o,l,u⟩ c ⟨hc,hg,hi5,hno,ho,hl1,hv0⟩;dsimp only at hc hg hi5 hno ho hl1 hv0 ⊢;cases g with
 |zero=>simp[W0]at hv0
 |succ g =>
 unfold W0 at hv0;dsimp only at hv0;have hkr : -1<=C0 L E u E5/\C0 L E u E5<8:=A4t L E u E5 0;have hw:IntKind.i64.wrap ((l.length:Int)+1)=(l.length:Int)+1:=w6z (by omega);have hlen:A5r (todoV o l.length)=some (I64 l.length):=by
  cases o with
  |none=>rw[hno rfl];rfl
  |some b=>rfl
 by_cases hk:C0 L E u E5<0
 ·rw[if_pos hk]at hv0;have hdk:decide (C0 L E u E5≥0)=false:=by simp;omega
  have e1:l=dl:=congrArg Prod.fst (Option.some.inj hv0);have e2:u=s1:=congrArg Prod.snd (Option.some.inj hv0);subst e1 e2;repeat' (apply wr<;>try simp only[go_sem,seval,hdk])
  clear hdk hkr hk hv0;refine IW.keep [0,2,3] [.ptr t 0,.ptr cc 0,.ptr (cc+1) 0] (g_fin (Hb:=(H.upd cc ⟨0,true,[.snil,.snil]⟩).upd t (rdR L E u)) (ci:=cc+1) (u:=4) (pre:=[]) (suf:=[.snil]) (xs:=l.map Dc.v) (by simp[DV.one]) (fun h=>by rw[hno h];rfl) (fun i hi=>by have:=ho i hi;exact⟨by omega,by rw[hnO,hnO];exact hfr i (by omega)⟩) (by simp) (A3i _)) ?_;refine A9 (fun q:Nat × Option Nat × List Md × Rd=>[(0,.ptr t 0),(2,.ptr cc 0),(3,.ptr (cc+1) 0)]) (fun q=>optH (((H.upd cc ⟨0,true,[.snil,.snil]⟩).upd t (rdR L E q.2.2.2)).upd (cc+1) ⟨0,true,[C3 l,todoV q.2.1 q.2.2.1.length]⟩) q.2.1 ⟨4,true,cellsL (q.2.2.1.map Md.v)⟩)
   (fun q c=>cc+2<=c/\q.1<=f/\q.2.2.2.i<=L.length/\(q.2.1=none->q.2.2.1=[])/\(∀ i,q.2.1=some i->cc+1<i/\i<c)/\q.2.2.1.length<=16/\V1 L E q.1 q.2.2.1 q.2.2.2=some (ml,s2)) (fun q=>q.1) (f,none,[],u)
   (by simp[C1,tm,Tm.upd]) (fun j b hj=>hj) ⟨by omega,A0E _,hi5,fun _=>rfl,(fun i hi=>by cases hi),by simp,hm⟩ ?_
  clear hm hlen hw;clear hno ho hl1 hi5;rintro⟨g,o,m,u⟩ c ⟨hc,hg,hi5,hno,ho,hl1,hv⟩;dsimp only at hc hg hi5 hno ho hl1 hv ⊢;cases g with
  |zero=>simp[V1]at hv
  |succ g =>
  unfold V1 at hv;dsimp only at hv;have hw:IntKind.i64.wrap ((m.length:Int)+1)=(m.length:Int)+1:=w6z (by omega);have hlen:A5r (todoV o m.length)=some (I64 m.length):=by
   cases o with
   |none=>rw[hno rfl];rfl
   |some b=>rfl
  have hHt:optH (((H.upd cc ⟨0,true,[.snil,.snil]⟩).upd t (rdR L E u)).upd (cc+1) ⟨0,true,[C3 l,todoV o m.length]⟩) o ⟨4,true,cellsL (m.map Md.v)⟩ t=some (rdR L E u):=by rw[B7 (fun i hi=>by have:=ho i hi;omega),hnO,h_same]
  have hbx:optH (((H.upd cc ⟨0,true,[.snil,.snil]⟩).upd t (rdR L E u)).upd (cc+1) ⟨0,true,[C3 l,todoV o m.length]⟩) o ⟨4,true,cellsL (m.map Md.v)⟩ (cc+1)=some ⟨0,true,[C3 l,todoV o m.length]⟩:=by rw[B7 (fun i hi=>by have:=ho i hi;omega),h_same]
  have hbo:∀ i:Nat,o=some i->optH (((H.upd cc ⟨0,true,[.snil,.snil]⟩).upd t (rdR L E u)).upd (cc+1) ⟨0,true,[C3 l,todoV o m.length]⟩) o ⟨4,true,cellsL (m.map Md.v)⟩ i=some ⟨4,true,cellsL (m.map Md.v)⟩:=fun i hi=>by subst hi;exact h_same
  have hbj:∀ j:Nat,j<cc->¬ j=t->optH (((H.upd cc ⟨0,true,[.snil,.snil]⟩).upd t (rdR L E u)).upd (cc+1) ⟨0,true,[C3 l,todoV o m.length]⟩) o ⟨4,true,cellsL (m.map Md.v)⟩ j=H j:=fun j h1 h2=>by rw[B7 (fun i hi=>by have:=ho i hi;omega),hnO,h_ne h2,hnO]
  have hb0:optH (((H.upd cc ⟨0,true,[.snil,.snil]⟩).upd t (rdR L E u)).upd (cc+1) ⟨0,true,[C3 l,todoV o m.length]⟩) o ⟨4,true,cellsL (m.map Md.v)⟩ cc=some ⟨0,true,[.snil,.snil]⟩:=by rw[B7 (fun i hi=>by have:=ho i hi;omega),hnO,hnO,h_same]
  have hbn:∀ j:Nat,c<=j->optH (((H.upd cc ⟨0,true,[.snil,.snil]⟩).upd t (rdR L E u)).upd (cc+1) ⟨0,true,[C3 l,todoV o m.length]⟩) o ⟨4,true,cellsL (m.map Md.v)⟩ j=none:=fun j h1=>by rw[B7 (fun i hi=>by have:=ho i hi;omega),hnO,hnO,hnO];exact hfr j (by omega)
  have hT:(todoV o m.length).one=true:=by cases o<;>rfl
  generalize hHH:optH (((H.upd cc ⟨0,true,[.snil,.snil]⟩).upd t (rdR L E u)).upd (cc+1) ⟨0,true,[C3 l,todoV o m.length]⟩) o ⟨4,true,cellsL (m.map Md.v)⟩=HH at hHt hbx hbo hbj hb0 hbn ⊢;have fin:∀ (u2:Rd) (x:Blk),GL ((HH.upd t (rdR L E u2)).upd cc x) [.agg [C3 l,todoV o m.length]] (H.upd t (rdR L E u2)) [.agg [C3 l,C7 m]]:=fun u2 x =>
   D4e (cc:=cc) m (D8 hfr htc) (fun i hi=>by have:=ho i hi;omega) hno (fun i hi=>by have:=ho i hi;rw[hnO,hnO];exact hbo i hi) (fun j hj=>by
    rw[hnO];by_cases e1:j=t
    ·subst e1;rw[h_same,h_same]
    ·rw[h_ne e1,h_ne e1,hbj j hj e1])
  have fin0:∀ (x:Blk),GL (HH.upd cc x) [.agg [C3 l,todoV o m.length]] (H.upd t (rdR L E u)) [.agg [C3 l,C7 m]]:=fun x=>by
   have h1:=fin u x
   rwa [upd_same hHt]at h1
  repeat' (apply wr<;>try simp only[go_sem,seval])
  refine AC.call (c_rdok L E u _ _ t hHt (by omega)) ?_;rintro v H' c2 ⟨rfl,rfl⟩ hc2;cases hok:okR u with
  |false =>
   rw[if_neg (by simp[hok])]at hv;have e1:m=ml:=congrArg Prod.fst (Option.some.inj hv);have e2:u=s2:=congrArg Prod.snd (Option.some.inj hv);subst e1 e2;have ne0:=R9 t cc (cc+1) (by omega);simp only[go_sem,seval];repeat' (apply wr<;>try simp only[go_sem,seval,hbx])
   rw[hb0];refine F4 (A6e (by rfl) (by decide) (by clear hHH;cases o<;>rfl)) ?_;simp only[go_sem,seval];repeat' (apply wr<;>try simp only[go_sem,seval])
   rw[I1 (rv2 rfl h_same)];exact⟨_,_,fin0 _,rfl,rfl⟩
  |true =>
   by_cases hlt:u.i<L.length
   ·rw[if_pos ⟨hok,hlt⟩]at hv;have hdl:decide ((u.i:Int)<(L.length:Int))=true:=by simpa using hlt
    simp only[go_sem,seval,hHt,hdl];repeat' (apply wr<;>try simp only[go_sem,seval])
    refine AC.call (c_is L E u _ _ t hHt (by omega) _) ?_;rintro v H' c3 ⟨rfl,rfl⟩ hc3;cases hmo:isR L E u [109,111,100,101] with
    |false =>
     rw[if_pos hmo]at hv;have e1:m=ml:=congrArg Prod.fst (Option.some.inj hv);have e2:Q1 L E u=s2:=congrArg Prod.snd (Option.some.inj hv);subst e1 e2;have ne0:=R9 t cc (cc+1) (by omega);simp only[go_sem,seval];repeat' (apply wr<;>try simp only[go_sem,seval])
     refine AC.call (c_syntax L E u _ _ t hHt (by omega)) ?_;rintro v H' c4 ⟨rfl,rfl⟩ hc4;simp only[go_sem,seval];repeat' (apply wr<;>try simp only[go_sem,seval,ne0,hbx,hb0])
     refine F4 (A6e (by rfl) (by decide) (by clear hHH;cases o<;>rfl)) ?_;simp only[go_sem,seval];repeat' (apply wr<;>try simp only[go_sem,seval])
     rw[I1 (rv2 rfl h_same)];exact⟨_,_,fin _ _,rfl,rfl⟩
    |true =>
     rw[if_neg (by rw[hmo];decide)]at hv;simp only[go_sem,seval];repeat' (apply wr<;>try simp only[go_sem,seval,hbx,hlen,hw])
     refine AC.call (c_limit L E u _ _ t hHt (by omega) _ _ _) ?_;rintro v H' c4 ⟨rfl,rfl⟩ hc4;have j1:(C9 L E u ((m.length:Int)+1) 16 9).i=u.i:=G8;have j2:=fun h=>H3 (L:=L) (E:=E) (s:=u) (n:=(m.length:Int)+1) (m:=16) (e:=9) (by decide) h;generalize C9 L E u ((m.length:Int)+1) 16 9=u1 at hv j1 j2 ⊢;simp only[go_sem,seval];repeat' (apply wr<;>try simp only[go_sem,seval])
     refine AC.call (c_rdok L E u1 _ _ t h_same (by omega)) ?_;rintro v H' c5 ⟨rfl,rfl⟩ hc5;cases hok1:okR u1 with
     |false =>
      rw[if_neg (by rw[hok1];decide)]at hv;simp only[go_sem,seval];repeat' (apply wr<;>try simp only[go_sem,seval])
      refine⟨(g,o,m,u1),?_,inv ⟨by omega,by simp only;omega,by rw[j1];exact hi5,hno,(fun i hi=>by have:=ho i hi;omega),hl1,hv⟩,by simp only;omega⟩;intro j b hj;by_cases e2:j=t
      ·subst e2;rw[B7 (fun i hi=>by have:=ho i hi;omega),hnO,h_same]at hj;rw[h_same];exact hj
      ·rw[h_ne e2, <- hHH];cases o with
       |none =>
        simp only[optH]at hj ⊢;by_cases e1:j=cc+1
        ·subst e1;rw[h_same]at hj ⊢;exact hj
        ·rw[h_ne e1,h_ne e2]at hj ⊢;exact hj
       |some i =>
        simp only[optH]at hj ⊢;by_cases e0:j=i
        ·subst e0;rw[h_same]at hj ⊢;exact hj
        rw[h_ne e0]at hj ⊢;by_cases e1:j=cc+1
        ·subst e1;rw[h_same]at hj ⊢;exact hj
        ·rw[h_ne e1,h_ne e2]at hj ⊢;exact hj
     |true =>
      rw[if_pos hok1]at hv;obtain⟨-,j3,rfl⟩:=j2 hok1;cases hmd:A5l L E g u1 with
      |none=>rw[hmd]at hv;cases hv
      |some qm =>
       obtain⟨md,u2⟩:=qm;rw[hmd]at hv;dsimp only at hv;have j6:=D3w hmd hi5;have ne0:=R9 t cc (cc+1) (by omega);simp only[go_sem,seval];repeat' (apply wr<;>try simp only[go_sem,seval,ne0,hbx])
       refine AC.call (c_mode L E hL g u1 (md,u2) hmd hi5 _ _ t h_same (by omega)) ?_;rintro v H' c6 ⟨rfl,rfl⟩ hc6;dsimp only;have ne0:=A2a t cc (cc+1) c6 (c6+1) (by omega);simp only[go_sem,seval,ne0,h_same,A5,hbx];repeat' (apply wr<;>try simp only[go_sem,seval,ne0,h_same,A5,hbx])
       refine⟨⟨by rw[hnO];exact hbn _ (by omega),by rw[hnO];exact hbn _ (by omega)⟩,?_⟩;have hl4:(cellsL (m.map Md.v)).length=m.length * 4:=C2 (u:=4) (A8m _) |>.trans (by simp);repeat' (apply wr<;>try simp only[go_sem,seval,ne0,h_same,A5,hbx])
       rw[D5 (cs:=cellsL (m.map Md.v)) (fun e=>by rw[hno e];exact⟨rfl,rfl⟩) (fun i hi=>by have:=ho i hi;rw[hnO,hnO];exact hbo i hi) hl4 (by omega) (by omega) (by omega)];have hdx:∀ X:Hp,delO X o (cc+1)=X (cc+1):=fun X=>B0 (fun i hi=>by have:=ho i hi;omega);have ne0:=A2a t cc (cc+1) (c5+4) c6 (by omega);simp only[go_sem,seval,ne0,hdx,hbx];repeat' (apply wr<;>try simp only[go_sem,seval,ne0,h_same,A5,hdx,hbx])
       refine⟨(g,some c6,m++[md],u2),?_,inv ⟨by omega,by simp only;omega,j6,(fun h=>by cases h),(fun i hi=>by cases hi;omega),by simp only[A0A,A0N];omega,hv⟩,by simp only;omega⟩;intro j b hj;simp only[optH,A6k,A0A,A0N,A0T,C4]at hj;by_cases e1:j=cc+1
       ·subst e1;by_cases e3:cc+1=c6
        ·omega
        rw[h_ne e3,h_same]at hj;rw[h_same];exact hj
       rw[h_ne e1];by_cases e0:j=c6
       ·subst e0;rw[h_same]at hj;rw[h_same, <- hj];rfl
       rw[h_ne e0]at hj ⊢;rw[h_ne e1]at hj;by_cases e2:j=t
       ·subst e2;rw[h_same]at hj;rw[B0 (fun i hi=>by have:=ho i hi;omega),hnO,h_same];exact hj
       rw[h_ne e2]at hj;by_cases e4:j=cc
       ·subst e4;rw[h_same]at hj;rw[B0 (fun i hi=>by have:=ho i hi;omega)]
        repeat rw[hnO]
        rw[hb0];exact hj
       ·rw[h_ne e4]at hj;have hjc:j<cc:=Classical.byContradiction fun h=>by rw[hfr j (by omega)]at hj;cases hj
        rw[B0 (fun i hi=>by have:=ho i hi;omega)]
        repeat rw[hnO]
        rw[hbj j hjc e2];exact hj
   ·rw[if_neg (by simp[hlt])]at hv;have hdl:decide ((u.i:Int)<(L.length:Int))=false:=by simpa using hlt
    have e1:m=ml:=congrArg Prod.fst (Option.some.inj hv);have e2:u=s2:=congrArg Prod.snd (Option.some.inj hv);subst e1 e2;have ne0:=R9 t cc (cc+1) (by omega);simp only[go_sem,seval,hHt,hdl];repeat' (apply wr<;>try simp only[go_sem,seval,hbx])
    rw[hb0];refine F4 (A6e (by rfl) (by decide) (by clear hHH;cases o<;>rfl)) ?_;simp only[go_sem,seval];repeat' (apply wr<;>try simp only[go_sem,seval])
    rw[I1 (rv2 rfl h_same)];exact⟨_,_,fin0 _,rfl,rfl⟩
 ·rw[if_neg hk]at hv0;have hdk:decide (C0 L E u E5≥0)=true:=by simp;omega
  have hHt:optH (((H.upd cc ⟨0,true,[.snil,.snil]⟩).upd t (rdR L E u)).upd (cc+1) ⟨0,true,[todoV o l.length,.snil]⟩) o ⟨4,true,cellsL (l.map Dc.v)⟩ t=some (rdR L E u):=by rw[B7 (fun i hi=>by have:=ho i hi;omega),hnO,h_same]
  have hbx:optH (((H.upd cc ⟨0,true,[.snil,.snil]⟩).upd t (rdR L E u)).upd (cc+1) ⟨0,true,[todoV o l.length,.snil]⟩) o ⟨4,true,cellsL (l.map Dc.v)⟩ (cc+1)=some ⟨0,true,[todoV o l.length,.snil]⟩:=by rw[B7 (fun i hi=>by have:=ho i hi;omega),h_same]
  have hbo:∀ i:Nat,o=some i->optH (((H.upd cc ⟨0,true,[.snil,.snil]⟩).upd t (rdR L E u)).upd (cc+1) ⟨0,true,[todoV o l.length,.snil]⟩) o ⟨4,true,cellsL (l.map Dc.v)⟩ i=some ⟨4,true,cellsL (l.map Dc.v)⟩:=fun i hi=>by subst hi;exact h_same
  have hbj:∀ j:Nat,j<cc->¬ j=t->optH (((H.upd cc ⟨0,true,[.snil,.snil]⟩).upd t (rdR L E u)).upd (cc+1) ⟨0,true,[todoV o l.length,.snil]⟩) o ⟨4,true,cellsL (l.map Dc.v)⟩ j=H j:=fun j h1 h2=>by rw[B7 (fun i hi=>by have:=ho i hi;omega),hnO,h_ne h2,hnO]
  have hb0:optH (((H.upd cc ⟨0,true,[.snil,.snil]⟩).upd t (rdR L E u)).upd (cc+1) ⟨0,true,[todoV o l.length,.snil]⟩) o ⟨4,true,cellsL (l.map Dc.v)⟩ cc=some ⟨0,true,[.snil,.snil]⟩:=by rw[B7 (fun i hi=>by have:=ho i hi;omega),hnO,hnO,h_same]
  have hbn:∀ j:Nat,c<=j->optH (((H.upd cc ⟨0,true,[.snil,.snil]⟩).upd t (rdR L E u)).upd (cc+1) ⟨0,true,[todoV o l.length,.snil]⟩) o ⟨4,true,cellsL (l.map Dc.v)⟩ j=none:=fun j h1=>by rw[B7 (fun i hi=>by have:=ho i hi;omega),hnO,hnO,hnO];exact hfr j (by omega)
  obtain⟨hok0,hi0, -⟩:=H8 (show 0<=C0 L E u E5 by omega);generalize hHH:optH (((H.upd cc ⟨0,true,[.snil,.snil]⟩).upd t (rdR L E u)).upd (cc+1) ⟨0,true,[todoV o l.length,.snil]⟩) o ⟨4,true,cellsL (l.map Dc.v)⟩=HH at hHt hbx hbo hbj hb0 hbn ⊢;generalize hkk:C0 L E u E5=k at hv0 hk hdk hkr ⊢;repeat' (apply wr<;>try simp only[go_sem,seval,hdk,hbx,hlen,hw])
  refine AC.call (c_limit L E u _ _ t hHt (by omega) _ _ _) ?_;rintro v H' c2 ⟨rfl,rfl⟩ hc2;have j1:(C9 L E u ((l.length:Int)+1) 128 9).i=u.i:=G8;have j2:=fun h=>H3 (L:=L) (E:=E) (s:=u) (n:=(l.length:Int)+1) (m:=128) (e:=9) (by decide) h;generalize C9 L E u ((l.length:Int)+1) 128 9=u1 at hv0 j1 j2 ⊢;simp only[go_sem,seval];repeat' (apply wr<;>try simp only[go_sem,seval])
  refine AC.call (c_rdok L E u1 _ _ t h_same (by omega)) ?_;rintro v H' c3 ⟨rfl,rfl⟩ hc3;cases hok:okR u1 with
  |false =>
   rw[if_neg (by rw[hok];decide)]at hv0;simp only[go_sem,seval];repeat' ((with_reducible first|apply wr|refine cpc c_decls31 ?_|fail)<;>try simp only[go_sem,seval])
   refine AC.call (c_among L E u1 _ _ t h_same (by omega) E5 (by decide)) ?_;rintro v H' c4 ⟨rfl,rfl⟩ hc4;simp only[go_sem,seval];repeat' (apply wr<;>try simp only[go_sem,seval])
   refine⟨(g,o,l,u1),by simp[],?_,inv ⟨by omega,by simp only;omega,by rw[j1];exact hi5,hno,(fun i hi=>by have:=ho i hi;omega),hl1,hv0⟩,by simp only;omega⟩;intro j b hj;by_cases e2:j=t
   ·subst e2;rw[B7 (fun i hi=>by have:=ho i hi;omega),hnO,h_same]at hj;rw[h_same];exact hj
   ·rw[h_ne e2, <- hHH];cases o with
    |none =>
     simp only[optH]at hj ⊢;by_cases e1:j=cc+1
     ·subst e1;rw[h_same]at hj ⊢;exact hj
     ·rw[h_ne e1,h_ne e2]at hj ⊢;exact hj
    |some i =>
     simp only[optH]at hj ⊢;by_cases e0:j=i
     ·subst e0;rw[h_same]at hj ⊢;exact hj
     rw[h_ne e0]at hj ⊢;by_cases e1:j=cc+1
     ·subst e1;rw[h_same]at hj ⊢;exact hj
     ·rw[h_ne e1,h_ne e2]at hj ⊢;exact hj
  |true =>
   rw[if_pos hok]at hv0;obtain⟨-,j3,rfl⟩:=j2 hok;simp only[go_sem,seval];have ne0:=R9 t cc (cc+1) (by omega);repeat' (apply wr<;>try simp only[go_sem,seval,ne0,hbx])
   refine AC.call (c_declaration L E u1 _ _ t h_same (by omega) hL hv k (by omega) (by omega) (by omega)) ?_;rintro v H' c4 ⟨rfl,rfl⟩ hc4;have ne0:=A2a t cc (cc+1) c4 (c4+1) (by omega);simp only[go_sem,seval,ne0,h_same,A5,hbx];repeat' (apply wr<;>try simp only[go_sem,seval,ne0,h_same,A5,hbx])
   refine⟨⟨by rw[hnO];exact hbn _ (by omega),by rw[hnO];exact hbn _ (by omega)⟩,?_⟩;have hl4:(cellsL (l.map Dc.v)).length=l.length * 4:=C2 (u:=4) (A3i _) |>.trans (by simp);repeat' (apply wr<;>try simp only[go_sem,seval,ne0,h_same,A5,hbx])
   rw[D5 (cs:=cellsL (l.map Dc.v)) (fun e=>by rw[hno e];exact⟨rfl,rfl⟩) (fun i hi=>by have:=ho i hi;rw[hnO,hnO];exact hbo i hi) hl4 (by omega) (by omega) (by omega)];have hdx:∀ X:Hp,delO X o (cc+1)=X (cc+1):=fun X=>B0 (fun i hi=>by have:=ho i hi;omega);have ne0:=A2a t cc (cc+1) (c3+5) c4 (by omega);simp only[go_sem,seval,ne0,hdx,hbx];repeat' ((with_reducible first|apply wr|refine cpc c_decls31 ?_|fail)<;>try simp only[go_sem,seval])
   refine AC.call (c_among L E (T2 L E k u1).2 _ _ t (by rw[hnO,hnO,B0 (fun i hi=>by have:=ho i hi;omega),hnO,h_same]) (by omega) E5 (by decide)) ?_;rintro v H' c5 ⟨rfl,rfl⟩ hc5;simp only[go_sem,seval];repeat' (apply wr<;>try simp only[go_sem,seval])
   refine⟨(g,some c4,l++[(T2 L E k u1).1],(T2 L E k u1).2),by simp[],?_,inv ⟨by omega,by simp only;omega,D4l (by omega),(fun h=>by cases h),(fun i hi=>by cases hi;omega),by simp only[A0A,A0N];omega,hv0⟩,by simp only;omega⟩;intro j b hj;simp only[optH,A6k,A0A,A0N,A0T,C4]at hj;by_cases e1:j=cc+1
   ·subst e1;by_cases e3:cc+1=c4
    ·omega
    rw[h_ne e3,h_same]at hj;rw[h_same];exact hj
   rw[h_ne e1];by_cases e0:j=c4
   ·subst e0;rw[h_same]at hj;rw[h_same, <- hj];rfl
   rw[h_ne e0]at hj ⊢;rw[h_ne e1]at hj;by_cases e2:j=t
   ·subst e2;rw[h_same]at hj;rw[B0 (fun i hi=>by have:=ho i hi;omega),hnO,h_same];exact hj
   rw[h_ne e2]at hj;by_cases e4:j=cc
   ·subst e4;rw[h_same]at hj;rw[B0 (fun i hi=>by have:=ho i hi;omega)]
    repeat rw[hnO]
    rw[hb0];exact hj
   ·rw[h_ne e4]at hj;have hjc:j<cc:=Classical.byContradiction fun h=>by rw[hfr j (by omega)]at hj;cases hj
    rw[B0 (fun i hi=>by have:=ho i hi;omega)]
    repeat rw[hnO]
    rw[hbj j hjc e2];exact hj
theorem c_letter(c:UInt8):PC Tryz.prog 198 [.int .u8 c.toNat] (.bool (ltB c)):=by
 refine PC.go A2 ?_;repeat' ((with_reducible first|refine wr ?_|refine wb2 ?_ ?_<;>(intro hb;try simp only[hb])|fail)<;>try simp only[go_sem,seval])
 all_goals (refine A3 (congrArg DV.bool ?_);rw[A2G];simp_all[ltB]<;>omega)
theorem c_digit(c:UInt8):PC Tryz.prog 267 [.int .u8 c.toNat] (.bool (dgB c)):=by
 refine PC.go A2 ?_;repeat' ((with_reducible first|refine wr ?_|refine wb2 ?_ ?_<;>(intro hb;try simp only[hb])|fail)<;>try simp only[go_sem,seval])
 all_goals (refine A3 (congrArg DV.bool ?_);rw[A2G];simp_all[dgB]<;>omega)
theorem c_letterR(c:UInt8):PC Tryz.prog 187 [.int .u8 c.toNat] (.bool (ltB c)):=by
 refine PC.go A2 ?_;repeat' ((with_reducible first|refine wr ?_|refine wb2 ?_ ?_<;>(intro hb;try simp only[hb])|fail)<;>try simp only[go_sem,seval])
 all_goals (refine A3 (congrArg DV.bool ?_);rw[A2G];simp_all[ltB]<;>omega)
theorem c_digitR(c:UInt8):PC Tryz.prog 189 [.int .u8 c.toNat] (.bool (dgB c)):=by
 refine PC.go A2 ?_;repeat' ((with_reducible first|refine wr ?_|refine wb2 ?_ ?_<;>(intro hb;try simp only[hb])|fail)<;>try simp only[go_sem,seval])
 all_goals (refine A3 (congrArg DV.bool ?_);rw[A2G];simp_all[dgB]<;>omega)
theorem c_part(c:UInt8):PC Tryz.prog 200 [.int .u8 c.toNat] (.bool (ptB c)):=by
 refine PC.go A2 ?_;repeat' ((with_reducible first|refine wr ?_|refine cpc (c_letter c) ?_|refine cpc (c_digit c) ?_|refine wb2 ?_ ?_<;>(intro hb;try simp only[hb])|fail)<;>try simp only[go_sem,seval])
 all_goals (refine A3 (congrArg DV.bool ?_);rw[A2G];simp_all[ptB]<;>omega)
theorem c_span{p:UInt8->Bool}{f:Nat}{a cs:List DV}(s:List UInt8)(hs:s.length<=9223372036854775807)(na:DV.nlL a=true)(ncs:DV.nlL cs=true)(hf:∀ x∈s,PC Tryz.prog f (a++[.int .u8 x.toNat]++cs) (.bool (p x))):
  PC Tryz.prog 199 [.str s,.func f a cs] (I64 (A1u p s)):=by
 refine PC.ofT A2 rfl (A0D rfl) (by simp[DV.nlL,DV.nl,na,ncs]) rfl ?_;repeat' (apply wr<;>try simp only[go_sem,seval])
 refine A9 (fun k:Nat=>[(0,.str s),(1,.func f a cs),(5,I64 k)]) (fun _=>nil) (fun k _=>k<=s.length/\k<=A1u p s) (fun k=>s.length-k) 0 (by simp[C1,tm,Tm.upd]) (Sub.nil _) (by simp) ?_;rintro k c ⟨hk,he⟩;by_cases hlt:k<s.length
 ·have hd:=dtz hlt;have hg:=A0B hlt;have hw:=w64 (n:=(k:Int)+1);have hst:=B3e hg he;have hc:=hf s[k] (A0L hlt);repeat' ((with_reducible first|refine wr ?_|refine cpc hc ?_|refine wb2 ?_ ?_<;>(intro hb;try simp only[hb])|fail)<;>try simp only[go_sem,seval,hd,hg,hw])
  ·exact⟨k+1,rfl,Sub.refl _,inv ⟨by omega,hst.1 hb⟩,by omega⟩
  ·refine A3 ?_;rw[hst.2 hb]
 ·have hd:=dfz hlt;repeat' (apply wr<;>try simp only[go_sem,seval,hd])
  refine A3 ?_;rw[C5w (by omega) he]
theorem c_spanPt(s:List UInt8)(hs:s.length<=9223372036854775807):PC Tryz.prog 199 [.str s,.func 200 [] []] (I64 (A1u ptB s)) :=
 c_span s hs rfl rfl fun x _=>c_part x
end Go.Proofs.YtkkjpohaffjecaaGreatDoor
end
