/-
  HELPERS of the claim: part 4 of its texts.
-/
import Derived.Test.YtkkjpohaffjecaaGreatDoorCmyc
import Derived.ReadAgain
import Derived.ChangeBears
import Derived.Deep.Slices
import Derived.Below
import Derived.OpenShut
import Derived.Lib.LaidTab
import Derived.Lib.ParseIntB
import Derived.Lib.Bytealg
import Derived.KernelRfl
noncomputable section
set_option linter.unusedVariables false
set_option linter.unusedSectionVars false
set_option linter.unusedSimpArgs false
namespace Go.Sym
variable [Go.Sym.Tab]
open Go.RowKit Go.Pb Go.Deep
section
variable {H:Type} {enc:TypeId × Value->H} {P:Program} {T:TypeId->Prop} {W W':World} {hT:TabOk W}
theorem arg_kept(K:Kids P T)(hz:∀ t e,T t->P.underlying t=some (.slice e)->0<P.cellsOf e)(hb:Below W.heap.size W W'){sp:Nat->Bool}:
  ∀ {ts:List TypeId} {vs:List Value} {ds:List (DataW H)} {ps:List MemPlace},(∀ t∈ts,T t)->DataW.TrodAll enc P W 0 (fun _=>true) true ts vs ds ps->(∀ p∈ps,sp p.block=true)->DataW.TrodAll enc P W' 0 sp true ts vs ds ps
 |[],[],[],_,_,h,_=>h
 |t :: ts,v :: vs,d :: ds,ps,hT,⟨p,q,h1,h2,e⟩,hs=>by
  have hlt:=h1;refine⟨p,q,?_,arg_kept K hz hb (fun t ht=>hT t (A0Y.2 (Or.inr ht))) h2 (fun x hx=>hs x (by rw[e];exact A3R _ hx)),e⟩;have h3:=h1.respare K hz (hT _ (A0Y.2 (Or.inl rfl))) (spare':=sp) (fun x hx=>hs x (by rw[e];exact A3I _ hx));obtain⟨n,hn⟩:=h3;obtain⟨m,hm⟩:=h1;exact⟨n,DataW.trod_carry n _ _ _ hn fun x hx=>hb.same (DataW.trod_lt m _ _ _ hm x hx)⟩
end
end Go.Sym
namespace Go.Pb
variable [Go.Sym.Tab]
open Go.Sym
abbrev Sm(n:Int):Prop := -4611686018427387904<=n/\n<=4611686018427387903
structure Bnd (c:Prg):Prop where
 ins:∀ i∈c.instrs,Sm i.op/\Sm i.A
 ent:∀ e∈c.entries,Sm e.mode/\Sm e.trigger/\Sm e.index/\Sm e.pos
 pri:∀ n∈c.prios,Sm n
 var:∀ n∈c.vars,Sm n
 tim:Sm c.timers
 evt:Sm c.events
 str:∀ s∈c.strings,s.length<=32
theorem Z3{n lo hi:Int}(h:inM n lo hi=true)(h1 : -4611686018427387904<=lo)(h2:hi<=4611686018427387903):Sm n:=by
 simp only[inM,A0F,A0I]at h;omega
theorem E0x{op:Int}(h:(D0 op).2.2 ≠ -1):1<=op/\op<=31:=by
 by_cases h2:1<=op/\op<=31
 ·omega
 ·exfalso;apply h;have h101:¬op=1:=by omega
  have h102:¬op=2:=by omega
  have h103:¬op=3:=by omega
  have h104:¬op=4:=by omega
  have h105:¬op=5:=by omega
  have h106:¬op=6:=by omega
  have h107:¬op=7:=by omega
  have h108:¬op=8:=by omega
  have h109:¬op=9:=by omega
  have h110:¬op=10:=by omega
  have h111:¬op=11:=by omega
  have h112:¬op=12:=by omega
  have h113:¬op=13:=by omega
  have h114:¬op=14:=by omega
  have h115:¬op=15:=by omega
  have h116:¬op=16:=by omega
  have h117:¬op=17:=by omega
  have h118:¬op=18:=by omega
  have h119:¬op=19:=by omega
  have h120:¬op=20:=by omega
  have h121:¬op=21:=by omega
  have h122:¬op=22:=by omega
  have h123:¬op=23:=by omega
  have h124:¬op=24:=by omega
  have h125:¬op=25:=by omega
  have h126:¬op=26:=by omega
  have h127:¬op=27:=by omega
  have h128:¬op=28:=by omega
  have h129:¬op=29:=by omega
  have h130:¬op=30:=by omega
  have h131:¬op=31:=by omega
  have e:D0 op=(0,0, -1):=by
   unfold D0
   grind
  rw[e]
theorem Lim.dims{c:Prg}(h:M9 c=true):c.instrs.length<=4000/\c.strings.length<=200/\c.entries.length<=512/\c.prios.length<=16/\c.vars.length<=128/\0<=c.timers/\c.timers<=128/\0<=c.events/\c.events<=128:=by
 simp only[M9,inM,A0F,A0I]at h;omega
theorem D2c{c:Prg}(hL:M9 c=true){k a:Int}(hJ:k≠7)(h:F9 c k a=true):Sm a:=by
 obtain⟨d1,d2,d3,d4,d5,d6,d7,d8,d9⟩:=Lim.dims hL;by_cases e0:k=0
 ·subst e0;have h':decide (a=0)=true:=h;simp only[A0I]at h';exact⟨by omega,by omega⟩
 by_cases e1:k=1
 ·subst e1;exact Z3 (lo:=(-2147483647)) (hi:=2147483647) h (by omega) (by omega)
 by_cases e2:k=2
 ·subst e2;exact Z3 (lo:=0) (hi:=(c.vars.length-1)) h (by omega) (by omega)
 by_cases e3:k=3
 ·subst e3;exact Z3 (lo:=0) (hi:=63) h (by omega) (by omega)
 by_cases e9:k=9
 ·subst e9;exact Z3 (lo:=0) (hi:=63) h (by omega) (by omega)
 by_cases e4:k=4
 ·subst e4;exact Z3 (lo:=0) (hi:=(c.prios.length-1)) h (by omega) (by omega)
 by_cases e5:k=5
 ·subst e5;exact Z3 (lo:=0) (hi:=(c.timers-1)) h (by omega) (by omega)
 by_cases e6:k=6
 ·subst e6;exact Z3 (lo:=12) (hi:=24) h (by omega) (by omega)
 by_cases e8:k=8
 ·subst e8;exact Z3 (lo:=0) (hi:=31) h (by omega) (by omega)
 by_cases e10:k=10
 ·subst e10;exact Z3 (lo:=0) (hi:=(c.events-1)) h (by omega) (by omega)
 by_cases e11:k=11
 ·subst e11;exact Z3 (lo:=0) (hi:=(c.strings.length-1)) h (by omega) (by omega)
 have:F9 c k a=false:=by
  unfold F9;rw[if_neg e0,if_neg e1,if_neg e2,if_neg e3,if_neg e9,if_neg e4,if_neg e5,if_neg e6,if_neg hJ,if_neg e8,if_neg e10,if_neg e11]
 grind
theorem Bnd.of{c:Prg}(hL:M9 c=true)(hp:X3 c=true)(hj:I5 c=true):Bnd c:=by
 obtain⟨d1,d2,d3,d4,d5,d6,d7,d8,d9⟩:=Lim.dims hL;simp only[X3,A0F,A0R]at hp;obtain⟨⟨⟨⟨p1,p2⟩,p3⟩,p4⟩,p5⟩:=hp;refine⟨fun i hi=>?_,fun e he=>?_,fun n hn=>Z3 (p2 n hn) (by omega) (by omega),fun n hn=>Z3 (p3 n hn) (by omega) (by omega),⟨by omega,by omega⟩,⟨by omega,by omega⟩,fun s hs=>?_⟩
 ·have h:=p5 i hi;have h7:=C1s hj i hi;have hk:(D0 i.op).2.2 ≠ -1:=by
   intro e;rw[D2,e]at h;trivial
  obtain⟨o1,o2⟩:=E0x hk;refine⟨⟨by omega,by omega⟩,?_⟩;by_cases hJ:(D0 i.op).2.2=7
  ·have hop:i.op=12\/i.op=13\/i.op=14:=by
    have:=A5t i.op;rw[hJ]at this;simpa[isJ] using this
   omega
  ·exact D2c hL hJ h
 ·have h:=p4 e he;have h7:=C9j hj e he;simp only[A2i,A0F]at h;obtain⟨h1,h2⟩:=h;refine⟨Z3 h1 (by omega) (by omega),?_,?_,⟨by omega,by omega⟩⟩
  ·grind
  ·repeat' split at h2
   all_goals first
    |exact Z3 h2 (by omega) (by omega)
    |(simp only[A0I]at h2;exact⟨by omega,by omega⟩)
    |cases h2
 ·have h:=p1 s hs;simp only[O3,A0F,A0I]at h;omega
theorem C2w{c:Prg}(h0:J4 c=0):M9 c=true/\X3 c=true/\I5 c=true/\P2 c.entries=true/\∃ h,hR c=some h:=by
 unfold J4 at h0;split at h0
 ·omega
 split at h0
 ·omega
 split at h0
 ·omega
 split at h0
 ·omega
 split at h0
 ·omega
 ·rename_i h1 h2 h3 h4 h5;refine⟨by grind,by grind,by grind,by grind,?_⟩;cases hh:hR c with
  |none=>grind
  |some h=>simp
end Go.Pb
namespace Go.Sym
variable [Go.Sym.Tab]
open Go.RowKit Go.Pb Go.Deep
theorem A9r:∀ {xs:List DV} {d:DV},d∈cellsL xs->∃ y∈xs,d∈y.cells
 |[],d,h=>by cases h
 |x :: r,d,h=>by
  rcases A0X.1 h with h|h
  ·exact⟨x,A0H,h⟩
  ·obtain⟨y,h1,h2⟩:=A9r h;exact⟨y,A0G _ h1,h2⟩
section
variable {H:Type} {enc:TypeId × Value->H} {P:Program} {W W':World} {hT:TabOk W}
end
end Go.Sym
namespace Go.Pb
variable [Go.Sym.Tab]
open Go.Sym
structure Tok where
 kind:Int
 text:List UInt8
 value:Int
 pos:Int
deriving DecidableEq
abbrev Tok.v(t:Tok):DV:=.agg [I64 t.kind,.str t.text,I64 t.value,I64 t.pos]
abbrev E3(l:List Tok):DV:=.lst (l.map Tok.v)
theorem F0(l:List Tok):∀ x∈l.map Tok.v,x.cells.length=4:=by
 intro x hx;obtain⟨y, -,rfl⟩:=A1A.1 hx;rfl
@[simp]theorem N2(l:List Tok):DV.nlL (l.map Tok.v)=true:=L8 (fun _=>rfl) l
def ltB(c:UInt8):Bool:=(decide (97<=c.toNat) && decide (c.toNat<=122)) || (decide (65<=c.toNat) && decide (c.toNat<=90))
def dgB(c:UInt8):Bool:=decide (48<=c.toNat) && decide (c.toNat<=57)
def ptB(c:UInt8):Bool:=ltB c || dgB c || decide (c.toNat=95)
def A1u(p:UInt8->Bool):List UInt8->Nat
 |[]=>0
 |c :: r=>if p c=true then A1u p r+1 else 0
theorem B3d(p:UInt8->Bool):∀ s:List UInt8,A1u p s<=s.length
 |[]=>A0E _
 |c :: r=>by
  have:=B3d p r;simp only[A1u,A0K];split<;>omega
theorem B3e{p:UInt8->Bool}:∀ {s:List UInt8} {k:Nat} {c:UInt8},s[k]? = some c->k<=A1u p s->(p c=true->k+1<=A1u p s)/\(p c=false->A1u p s=k)
 |[],k,c,h,_=>by cases h
 |x :: r,0,c,h,_=>by
  cases h;simp only[A1u];exact⟨fun h=>by rw[if_pos h];omega,fun h=>by rw[if_neg (by rw[h];simp)]⟩
 |x :: r,k+1,c,h,hk=>by
  simp only[A1u]at hk ⊢;split at hk
  ·rename_i hx;rw[if_pos hx];have:=B3e (p:=p) (s:=r) (k:=k) (c:=c) (by simpa using h) (by omega);exact⟨fun h=>by have:=this.1 h;omega,fun h=>by have:=this.2 h;omega⟩
  ·omega
theorem C5w{p:UInt8->Bool}{s:List UInt8}{k:Nat}(h:s.length<=k)(hk:k<=A1u p s):A1u p s=k:=by
 have:=B3d p s;omega
def w8(l:List Nat):List UInt8:=l.map UInt8.ofNat
def F3:List (List UInt8):=[w8 [115,119,105,116,99,104],w8 [99,111,105,108],w8 [108,97,109,112],w8 [115,111,117,110,100],w8 [115,104,111,119],w8 [118,97,114],w8 [116,105,109,101,114],w8 [101,118,101,110,116],w8 [109,111,100,101],w8 [111,110],w8 [115,116,97,114,116],w8 [115,116,111,112],w8 [99,108,111,115,101],w8 [111,112,101,110],w8 [105,102],w8 [101,108,115,101],w8 [114,101,112,101,97,116],w8 [115,99,111,114,101],w8 [102,105,114,101],w8 [104,111,108,100],w8 [114,101,108,101,97,115,101],w8 [108,105,103,104,116],w8 [98,108,105,110,107],w8 [98,101,103,105,110],w8 [101,110,100],w8 [112,111,115,116],w8 [112,108,97,121],w8 [114,117,110],w8 [104,97,108,116],w8 [116,101,120,116],w8 [99,111,110,115,117,109,101],w8 [99,108,111,115,101,100],w8 [97,99,116,105,118,101],w8 [108,101,102,116],w8 [112,108,97,121,101,114],w8 [98,97,108,108],w8 [116,114,117,101],w8 [102,97,108,115,101]]
def O7(s:List UInt8):Bool:=F3.contains s
def D6(s:List UInt8):Bool:=decide (1<=s.length) && decide (s.length<=12) && (match s with|c :: _=>ltB c |[]=>false) && decide (A1u ptB s=s.length) && !O7 s
def A9j(s:List UInt8):Nat:=s.foldl (fun n c=>10 * n+(c.toNat-48)) 0
end Go.Pb
namespace Go.Sym
variable [Go.Sym.Tab]
open Go.RowKit Go.Pb Go.Deep Go.ChangeShapes
theorem B4u{P:Program}{w:World}{n:String}{g:Nat}{cs:Array Value}(e1:P.globalNamed n=some g)(e3:w.var? P n=some cs):B4v w g=some cs:=by
 unfold World.var? at e3;rw[e1,Option.bind_some]at e3;unfold B4v;split at e3
 ·rename_i r ty fr hh;cases e3;rw[hh]
 ·cases e3
theorem A9u{P:Program}{w:World}{n:String}{d:DataW Unit}:∀ {l:List (String × DataW Unit)} {ps:List MemPlace},DataW.LaidVars P w l ps->(n,d)∈l ->
  ∃ g t cs fuel p,P.globalNamed n=some g/\(P.globals[g]?).map (·.type)=some t/\w.var? P n=some cs/\DataW.trod (fun _=>()) P w 0 (fun _=>true) false fuel t cs.toList=some (d,p)
 |[],ps,_,hm=>by cases hm
 |(n',d') :: l,ps,h,hm=>by
  obtain⟨g,t,cs,fuel,p,q,h1,h2,h3,h4,h5, -⟩:=h;rcases A0Y.1 hm with e|hm
  ·cases e;exact⟨g,t,cs,fuel,p,h1,h2,h3,h4⟩
  ·exact A9u h5 hm
theorem laid_tab{P:Program}{w:World}{n:String}{d:DataW Unit}{l:List (String × DataW Unit)}{g t e m:Nat}{k:IntKind}{zs:List Int}(h:laidMet P l w)(hm:(n,d)∈l)(hg:P.globalNamed n=some g)
  (ht:(P.globals[g]?).map (·.type)=some t) (hu:P.underlying t=some (.array m e)) (he:P.underlying e=some (.int k)) (hce:P.cellsOf e=1) (hct:P.cellsOf t=m) (hd:d=Lib.tabData k zs) :
  ∃ r,B4v w g=some r/\r=(zs.map fun z=>Value.int k z).toArray:=by
 obtain⟨ps,h1, -⟩:=h;obtain⟨g',t',cs,fuel,p,e1,e2,e3,e4⟩:=A9u h1 hm;rw[hg]at e1;cases e1;rw[ht]at e2;cases e2;rw[hd]at e4;have hc:=Lib.cells_of_tab hu he hce hct e4;exact⟨cs,B4u hg e3,Array.toList_inj.1 (hc.trans (by simp))⟩
theorem B4s{P:Program}{w:World}{fuel:Nat}{t:TypeId}{ms}{cs:List Value}{nm:String}{d:DataW Unit}{p:List MemPlace}(hu:P.underlying t=some (.interface ms))
  (h:DataW.trod (fun _=>()) P w 0 (fun _=>true) false fuel t cs=some (.iface nm d,p)):∃ te pe,cs=[.iface te pe]:=by
 cases fuel with
 |zero=>simp[DataW.trod]at h
 |succ fuel =>
  simp only[DataW.trod,hu]at h;split at h<;>first|exact⟨_,_,rfl⟩|(simp_all;done)
theorem laid_err{P:Program}{w:World}{n:String}{nm:String}{d:DataW Unit}{l:List (String × DataW Unit)}{g t:Nat}{ms}(h:laidMet P l w)(hm:(n,DataW.iface nm d)∈l)(hg:P.globalNamed n=some g)
  (ht:(P.globals[g]?).map (·.type)=some t) (hu:P.underlying t=some (.interface ms)):∃ r,B4v w g=some r/\∃ te pe,r = #[.iface te pe]:=by
 obtain⟨ps,h1, -⟩:=h;obtain⟨g',t',cs,fuel,p,e1,e2,e3,e4⟩:=A9u h1 hm;rw[hg]at e1;cases e1;rw[ht]at e2;cases e2;obtain⟨te,pe,e5⟩:=B4s hu e4;exact⟨cs,B4u hg e3,te,pe,Array.toList_inj.1 e5⟩
section
variable {H:Type} {enc:TypeId × Value->H} {P:Program} {W W':World} {hT:TabOk W}
end
def A3u(ρ : Ren)(ds:List DV)(cs:List Value):Prop:=ds.length=cs.length/\∀ (j:Nat) d v,ds[j]? = some d->cs[j]? = some v->VRel ρ d v
theorem A3u.app{ρ : Ren}{a b:List DV}{x y:List Value}(h:A3u ρ a x)(k:A3u ρ b y):A3u ρ (a++b) (x++y):=by
 refine⟨by rw[A0A,A0A,h.1,k.1],fun j d v hd hv=>?_⟩;by_cases hj:j<a.length
 ·rw[A2E hj]at hd;rw[A2E (by rw[<- h.1];exact hj)]at hv;exact h.2 j d v hd hv
 ·rw[A1S (by omega)]at hd;rw[A1S (by rw[<- h.1];omega), <- h.1]at hv;exact k.2 _ d v hd hv
theorem A3u.one{ρ : Ren}{d:DV}{v:Value}(h:VRel ρ d v):A3u ρ [d] [v]:=⟨rfl,fun j d' v' hd hv=>by
 match j with
 |0=>cases hd;cases hv;exact h
 |_+1=>cases hd⟩
theorem A3u.agg{ρ : Ren}{ds:List DV}{cs:Array Value}(h:A3u ρ ds cs.toList):VRel ρ (.agg ds) (.agg cs) :=
 .agg _ _ (by rw[h.1];simp) (fun i x y hx hy=>h.2 i x y hx (by simpa using hy))
section
variable {H:Type} {enc:TypeId × Value->H} {P:Program} {W W':World} {hT:TabOk W}
end
section
variable {H:Type} {enc:TypeId × Value->H} {P:Program} {W W':World} {hT:TabOk W}
structure Bulky (B:DataW H->Nat):Prop where
 pos:∀ d,1<=B d
 str:∀ l,B (.lit (.string l))=l.length+1
 slc:∀ xs ys,(xs.map B).sum+1<=B (.slice xs ys)
 agg:∀ xs,B (.agg xs)=(xs.map B).sum+1
def ReadsB(enc:TypeId × Value->H)(P:Program)(W:World)(hT:TabOk W)(B:DataW H->Nat)(t:TypeId)(N:Nat){α : Type}(G : α -> DV)(sz : α -> Nat):Prop :=
 ∀ (n:Nat) (cs:List Value) (x:DataW H × List MemPlace),DataW.trod enc P W 0 (fun _=>true) true n t cs=some x->B x.1<=N->∃ a : α,sz a<=B x.1/\A3u (topR W hT) (G a).cells cs
theorem D6d{B:DataW H->Nat}(hB:Bulky B){t:TypeId}{N:Nat}(ht:P.underlying t=some (.int .i64)):ReadsB enc P W hT B t N I64 (fun _=>1):=by
 intro n cs x h _;obtain⟨k,rfl, -,w⟩:=DataW.trod_int ht h;exact⟨k,hB.pos _,.one (.int _ _)⟩
theorem D6c{B:DataW H->Nat}(hB:Bulky B){t:TypeId}{N:Nat}(ht:P.underlying t=some .string):ReadsB enc P W hT B t N DV.str (fun s=>s.length+1):=by
 intro n cs x h _;obtain⟨s,rfl,rfl,w⟩:=DataW.trod_string ht h;refine⟨s.data.toList,?_,.one (.str _)⟩;rw[hB.str];exact A0E _
theorem A5d{f g:Nat->Nat}:∀ {n:Nat},(∀ i,i<n->f i<=g i)->((List.range n).map f).sum<=((List.range n).map g).sum
 |0,_=>A0E _
 |n+1,h=>by
  have:=A5d (f:=f) (g:=g) (n:=n) fun i hi=>h i (by omega);have:=h n (by omega);simp only[List.range_succ,A0T,A4I,A0Q,List.map_nil,A1R,A2U];omega
theorem A5s{g:Nat->Nat}:∀ {n i:Nat},i<n->g i<=((List.range n).map g).sum
 |0,i,h=>by omega
 |n+1,i,h=>by
  simp only[List.range_succ,A0T,A4I,A0Q,List.map_nil,A1R,A2U];by_cases hi:i<n
  ·have:=A5s (g:=g) hi;omega
  ·obtain rfl:i=n:=by omega
   omega
theorem A1z{B:DataW H->Nat}(hB:Bulky B){α : Type}{t e:TypeId}{u N:Nat}{G : α -> DV}{sz : α -> Nat}(hu0:0<u)(ht:P.underlying t=some (.slice e))(hc:P.cellsOf e=u)
  (hF:∀ a,(G a).cells.length=u) (h1:∀ a, ∀ d∈(G a).cells,d.one=true)
  (elem:ReadsB enc P W hT B e N G sz):ReadsB enc P W hT B t (N+1) (fun l:List α => .lst (l.map G)) (fun l=>(l.map sz).sum):=by
 intro n cs x hn hx;rcases open_slice ht hn with ⟨h1',h2'⟩|⟨a,len,cap,m,n',D,Pl,g1,g2,g3,g4,g5,g6,g7⟩
 ·subst h1';exact⟨[],A0O _,.one .lnil0⟩
 subst g1;simp only[if_true]at g5;have hD:((List.range len).map fun i=>B (D i)).sum+1<=B x.1:=by
  rw[g6];have:=hB.slc ((List.range len).map D) ((List.range (m-len)).map fun j=>D (len+j));rw[A2V]at this;exact this
 by_cases hl0:len=0
 ·subst hl0;exact⟨[],A0O _,.one (.lnil a cap)⟩
 rw[hc]at g7;have E:∀ i,i<len->∃ (cs:List Value) (y : α),sz y<=B (D i)/\cs.length=u/\(∀ j,j<u->W.cell? ((a.add (i * u)).add j)=cs[j]?)/\∀ (j:Nat) d,(G y).cells[j]? = some d->∃ v,cs[j]? = some v/\VRel (topR W hT) d v:=by
  intro i hi;obtain⟨cs,q1,q2⟩:=g7 i (by omega);obtain⟨-,q3,q4⟩:=World.cells?_some q1;have hDi:B (D i)<=N:=by
   have:=A5s (g:=fun i=>B (D i)) hi;omega
  obtain⟨y,q5,q6⟩:=elem n' cs _ q2 hDi;refine⟨cs,y,q5,q3,q4,fun j d hd=>?_⟩;have hj:=(A0J.1 hd).1;rw[q6.1]at hj;exact⟨cs[j],A0B hj,q6.2 j d _ hd (A0B hj)⟩
 obtain⟨cs0,y0, -,z1,z2, -⟩:=E 0 (by omega);obtain⟨v0,hv0⟩:∃ v0,cs0[0]? = some v0:=⟨_,A0B (by omega)⟩;have hcell:=z2 0 hu0;rw[hv0,Nat.zero_mul]at hcell;have hadd0:∀ b:Addr,b.add 0=b:=fun b=>by simp[Addr.add]
 rw[hadd0,hadd0]at hcell;obtain⟨b,off,spot⟩:=a;have hspot:spot=none:=by
  simp only[World.cell?]at hcell;split at hcell
  ·split at hcell
   ·cases hcell
   ·rename_i h;cases spot with
    |none=>rfl
    |some s=>simp at h
  ·cases hcell
 subst hspot;have hrow:∃ row ty fr,W.heap[b]? = some (.cells row ty fr):=by
  simp only[World.cell?]at hcell;split at hcell
  ·rename_i row ty fr h;exact⟨row,ty,fr,h⟩
  ·cases hcell
 obtain⟨row,ty,fr,hb⟩:=hrow;have hadd:∀ o i,(⟨b,o,none⟩:Addr).add i=⟨b,o+i,none⟩:=by
  intro o i;unfold Addr.add;split
  ·rename_i h0;subst h0;rfl
  ·rfl
 have E2:∀ i, ∃ y : α,i<len->sz y<=B (D i)/\∀ (j:Nat) d,(G y).cells[j]? = some d->∃ v,row[off+i * u+j]? = some v/\VRel (topR W hT) d v:=by
  intro i;by_cases hi:i<len
  ·obtain⟨cs,y,q1,q2,q3,q4⟩:=E i hi;refine⟨y,fun _=>⟨q1,fun j d hd=>?_⟩⟩;have hj:j<u:=by have:=(A0J.1 hd).1;rw[hF]at this;exact this
   obtain⟨v,e1,e2⟩:=q4 j d hd;have e3:=q3 j hj;rw[hadd,hadd,e1]at e3;simp only[World.cell?,hb]at e3;exact⟨v,e3,e2⟩
  ·exact⟨y0,fun h=>absurd h hi⟩
 obtain⟨K,hK⟩:∃ K:Nat -> α, ∀ i,i<len->sz (K i)<=B (D i)/\∀ (j:Nat) d,(G (K i)).cells[j]? = some d->∃ v,row[off+i * u+j]? = some v/\VRel (topR W hT) d v :=
  ⟨fun i=>Classical.choose (E2 i),fun i hi=>Classical.choose_spec (E2 i) hi⟩
 have hU:∀ y∈((List.range len).map K).map G,y.cells.length=u:=fun y hy=>by obtain⟨z, -,rfl⟩:=A1A.1 hy;exact hF z
 have hlen:(((List.range len).map K).map G).length=len:=by simp
 have hcl:(cellsL (((List.range len).map K).map G)).length=len * u:=by rw[C2 hU,hlen]
 have hget:∀ i j,i<len->j<u->(cellsL (((List.range len).map K).map G))[i * u+j]? = (G (K i)).cells[j]? := by
  intro i j hi hj;have e1:(((List.range len).map K).map G)[i]? = some (G (K i)):=by simp[hi]
  have e2:=A7u hU e1;rw[<- e2,A1X,if_pos hj,A2J]
 refine⟨(List.range len).map K,?_,.one ?_⟩
 ·dsimp only;rw[A2V];have:=A5d (f:=sz∘K) (g:=fun i=>B (D i)) (n:=len) fun i hi=>(hK i hi).1;omega
 ·refine .lst _ len u b off cap row (B7q hb) hlen.symm g3 g4 hU ?_ ?_ ?_
  ·rw[hcl];obtain⟨k,rfl⟩:∃ k,len=k+1:=⟨len-1,by omega⟩;obtain⟨d,hd⟩:∃ d,(G (K k)).cells[u-1]? = some d:=⟨_,A0B (by rw[hF];omega)⟩;obtain⟨v,e1, -⟩:=(hK k (by omega)).2 _ _ hd;have:=(A0V.1 e1).1;rw[Nat.succ_mul];omega
  ·intro d hd;obtain⟨y,hy,hd2⟩:=A9r hd;obtain⟨z, -,rfl⟩:=A1A.1 hy;exact h1 z d hd2
  ·intro k d v hd hv;have hk:k<len * u:=by have:=(A0J.1 hd).1;rw[hcl]at this;exact this
   have hi:k / u<len:=Nat.div_lt_of_lt_mul (by rw[Nat.mul_comm];exact hk);have hj:=Nat.mod_lt k hu0;have hkk:k / u * u+k % u=k:=by rw[Nat.mul_comm];exact Nat.div_add_mod k u
   have e1:=hget (k / u) (k % u) hi hj;rw[hkk,hd]at e1;obtain⟨v2,e2,e3⟩:=(hK (k / u) hi).2 _ _ e1.symm;rw[A2S,hkk,hv]at e2;cases e2;exact e3
theorem A3u.cons{ρ : Ren}{d:DV}{v:Value}{ds:List DV}{vs:List Value}(h:VRel ρ d v)(k:A3u ρ ds vs):A3u ρ (d :: ds) (v :: vs):=A3u.app (A3u.one h) k
theorem A3u.nil{ρ : Ren}:A3u ρ [] []:=⟨rfl,fun j d v hd=>by cases hd⟩
theorem A0k{B:DataW H->Nat}(hB:Bulky B){t:TypeId}{fs:Array Field}{k:Nat}(ht:P.underlying t=some (.struct fs))(hk:fs.size=k)
  (ho:∀ (j:Nat) f,fs[j]? = some f->f.offset=j/\P.cellsOf f.type=1) (hc:P.cellsOf t=k) {n:Nat} {cs:List Value} {x:DataW H × List MemPlace} (h:DataW.trod enc P W 0 (fun _=>true) true n t cs=some x) :
  ∃ (m:Nat) (ys:List (Value × DataW H × List MemPlace)),cs=ys.map (·.1)/\ys.length=k/\B x.1=(ys.map fun y=>B y.2.1).sum+1 /\
   ∀ (j:Nat) f y,fs[j]? = some f->ys[j]? = some y->DataW.trod enc P W 0 (fun _=>true) true m f.type [y.1]=some y.2:=by
 obtain⟨xs,m, -,hx,hl,h3,h4⟩:=DataW.trod_struct ht h;rw[hc]at hl;have h3':xs.length=k:=h3.trans hk;refine⟨m,cs.zip xs,?_,?_,?_,?_⟩
 ·rw[List.map_fst_zip (by omega)]
 ·rw[List.length_zip];omega
 ·rw[hx,hB.agg];have e:(cs.zip xs).map (fun y=>B y.2.1)=(xs.map (·.1)).map B:=by
   have:((cs.zip xs).map (·.2))=xs:=List.map_snd_zip (by omega);rw[A2V, <- this,A2V,this];rfl
  rw[e]
 ·intro j f y hf hy;obtain⟨e1,e2⟩:=ho j f hf;have e3:=h4 j f hf;rw[e1,e2]at e3;obtain⟨g1,g2⟩:=List.getElem?_zip_eq_some.1 hy;have hj:=(A0J.1 g1).1;have e4:(cs.drop j).take 1=[y.1]:=by
   rw[A1C hj,A1D,A1I];have:=(A0J.1 g1).2;rw[this]
  rw[e4,g2]at e3;exact e3
theorem ReadsB.arg1{B:DataW H->Nat}{α : Type}{t:TypeId}{N:Nat}{G : α -> DV}{sz : α -> Nat}{v:Value}{d:DataW H}{ps:List MemPlace}(h:ReadsB enc P W hT B t N G sz)(hb:B d<=N)(hd:DataW.Trod enc P W 0 (fun _=>true) true t v d ps)(hv:∃ cs:Array Value,v=.agg cs)(hG:∀ a, ∃ ds,G a=.agg ds):
  ∃ a,sz a<=B d/\VRel (topR W hT) (G a) v:=by
 obtain⟨cs,rfl⟩:=hv;obtain⟨n,hn⟩:=hd;obtain⟨a,r,q⟩:=h _ _ _ hn hb;refine⟨a,r,?_⟩;obtain⟨ds,hds⟩:=hG a;rw[hds]at q ⊢;exact q.agg
end
open Go.Eng (IC)
def B1f(p:Prop):Prop:=p
theorem H9{p:Prop}(h:B1f p):p:=h
theorem IW.stage{P:Program}{N:Nat}{x:IC}{T:Tm}{H:Hp}{c:Nat}{Q:Exit->St->Prop}{L:List (Nat × DV)}(hT:C1 L T)(h:IW P N x ⟨tm L,H,c⟩ Q):B1f (IW P N x ⟨T,H,c⟩ Q):=IW.weaken (B9z hT) (Sub.refl _) h
open Go.Eng (Opd FOp AOp EOp IOp IOper DReg IC RV IFn trC A7w L2 I0)
def pre:IC->List IC
 |.seq x y=>.seq x y :: (pre x++pre y)
 |.cond o x y=>.cond o x y :: (pre x++pre y)
 |.blk i x=>.blk i x :: pre x
 |.loop x=>.loop x :: pre x
 |x=>[x]
def szC:IC->Nat
 |.seq x y=>szC x+szC y+1
 |.cond o x y=>szC x+szC y+1
 |.blk i x=>szC x+1
 |.loop x=>szC x+1
 |x=>1
theorem C6q(t:IC):(pre t).length=szC t:=by
 induction t<;>simp_all[pre,szC]
def B8u(k:Nat):List Nat->List Nat
 |[]=>[k]
 |a :: l=>match Nat.blt k a with
  |true=>k :: a :: l
  |false=>match Nat.beq k a with
   |true=>a :: l
   |false=>a :: B8u k l
def C2x:List Nat->List Nat->List Nat
 |[],m=>m
 |a :: l,m=>B8u a (C2x l m)
def rmS(k:Nat):List Nat->List Nat
 |[]=>[]
 |a :: l=>match Nat.beq k a with
  |true=>l
  |false=>a :: rmS k l
def opS:Opd->List Nat
 |.t n=>[n]
 |_=>[]
def B3k:List IOper->List Nat->List Nat
 |[],out=>out
 |o :: r,out=>C2x o.sees (match o.dst with
  |some d=>rmS d (B3k r out)
  |none=>B3k r out)
def slR:List RV->List Nat
 |[]=>[]
 |.tmp t :: r=>B8u t (slR r)
 |.cell a _ _ :: r=>B8u a (slR r)
def upE(ex:Nat->List Nat)(i:Nat)(L:List Nat)(j:Nat):List Nat:=match Nat.beq i j with
 |true=>L
 |false=>ex j
def rgS:Eng.Rg->List Nat->List Nat
 |.bad,_=>[]
 |.r1 io m it,out=>B3k io (B8u m (rmS it out))
 |.r2 it n io,out=>B8u it (rmS n (B3k io out))
 |.r3 it e io,out=>B8u it (rmS e (B3k io out))
def lvC(rl:List Nat):IC->List Nat->(Nat->List Nat)->List Nat
 |.skip,out,_=>out
 |.exit i,_,ex=>ex i
 |.ret,_,_=>rl
 |.bad,_,_=>[]
 |.rg r,out,_=>rgS r out
 |.reg r,out,_=>B3k r out
 |.drw _ d,out,_=>B3k d.ops out
 |.seq x y,out,ex=>lvC rl x (lvC rl y out ex) ex
 |.cond o x y,out,ex=>C2x (opS o) (C2x (lvC rl x out ex) (lvC rl y out ex))
 |.blk i x,out,ex=>lvC rl x out (upE ex i out)
 |.loop x,_,ex=>lvC rl x [] ex
def chC(h:Nat->IC)(k:Nat):IC->IC
 |.skip=>.skip
 |.exit i=>.exit i
 |.ret=>.ret
 |.bad=>.bad
 |.rg r=>.rg r
 |.loop _=>.loop (h (k+1))
 |_=>h k
def D1q:Nat->List (Nat × Option (List Nat))->List IOper->Nat
 |k,(_,some []) :: p,⟨_,.pur _,_⟩ :: r=>2 ^ k+D1q (k+1) p r
 |k,_ :: p,_ :: r=>D1q (k+1) p r
 |_,_,_=>0
def eqO:Option (List Nat)->Option (List Nat)->Bool
 |none,none=>true
 |some [],some []=>true
 |_,_=>false
def eqP:List (Nat × Option (List Nat))->List (Nat × Option (List Nat))->Bool
 |[],[]=>true
 |(a,x) :: p,(b,y) :: q=>Nat.beq a b && eqO x y && eqP p q
 |_,_=>false
theorem D8t{x y:Option (List Nat)}(h:eqO x y=true):x=y:=by
 unfold eqO at h;grind
theorem C9h:∀ {p q:List (Nat × Option (List Nat))},eqP p q=true->p=q
 |[],[],_=>rfl
 |(a,x) :: p,(b,y) :: q,h=>by
  simp only[eqP,A0F]at h;rw[Nat.eq_of_beq_eq_true h.1.1,D8t h.1.2,C9h h.2]
 |[],_ :: _,h=>by trivial
 |_ :: _,[],h=>by trivial
def asM(r:List IOper)(p:List (Nat × Option (List Nat)))(m:Nat):Option Nat:=match eqP (B0v m 0 r) p with
 |true=>some m
 |false=>none
inductive PD where
 |S (r:List IOper) (y:IC) (L:List Nat)
 |E (r:List IOper) (L:List Nat)
 |P (r:List IOper) (y:IC) (e n:Nat) (L:List Nat)
 |F (r:List IOper) (e n:Nat) (L:List Nat)
 |D (r:List IOper) (y:IC) (p:List (Nat × Option (List Nat))) (n:Nat) (L:List Nat)
 |G (r:List IOper) (p:List (Nat × Option (List Nat))) (n:Nat) (L:List Nat)
 |C (x y z:IC) (o:Opd) (L:List Nat)
 |K (x z:IC) (o:Opd) (L:List Nat)
 |B (x y:IC) (i:Nat) (L:List Nat)
 |J (x:IC) (i:Nat) (L:List Nat)
 |Q (x y:IC) (L:List Nat)
 |X (x:IC)
def PD.ic:PD->IC
 |.S r y _=>.seq (.reg r) y
 |.E r _=>.reg r
 |.P r y e n _=>.seq (.drw n (dQ r e)) y
 |.F r e n _=>.drw n (dQ r e)
 |.D r y p n _=>.seq (.drw n ⟨r,[],p⟩) y
 |.G r p n _=>.drw n ⟨r,[],p⟩
 |.C x y z o _=>.seq (.cond o x z) y
 |.K x z o _=>.cond o x z
 |.B x y i _=>.seq (.blk i x) y
 |.J x i _=>.blk i x
 |.Q x y _=>.seq x y
 |.X x=>x
def fuC(h:Nat->IC)(k:Nat)(x y:IC)(L:List Nat):PD:=match x with
 |.reg r=>.S r y L
 |.drw n ⟨r,[],p⟩=>match asM r p (D1q 0 p r) with
  |some m=>.P r y m n L
  |none=>.D r y p n L
 |.cond o a b=>.C (chC h (k+1) a) y (chC h (k+1+szC a) b) o L
 |.blk i a=>.B (chC h (k+1) a) y i L
 |x=>.Q (chC h k x) y L
def C3h(h:Nat->IC)(k:Nat)(x:IC)(L:List Nat):PD:=match x with
 |.reg r=>.E r L
 |.drw n ⟨r,[],p⟩=>match asM r p (D1q 0 p r) with
  |some m=>.F r m n L
  |none=>.G r p n L
 |.cond o a b=>.K (chC h (k+1) a) (chC h (k+1+szC a) b) o L
 |.blk i a=>.J (chC h (k+1) a) i L
 |x=>.X x
def E6f:IC->Bool
 |.reg _=>true
 |.drw _ _=>true
 |.cond _ _ _=>true
 |.blk _ _=>true
 |_=>false
def tlC(b:Bool)(l:List (Nat × PD)):List (Nat × PD):=match b with
 |true=>l.tail
 |false=>l
def flC(h:Nat->IC)(rl:List Nat):IC->Nat->List Nat->(Nat->List Nat)->List Nat × List (Nat × PD)
 |.skip,_,out,_=>(out,[])
 |.exit i,_,_,ex=>(ex i,[])
 |.ret,_,_,_=>(rl,[])
 |.bad,_,_,_=>([],[])
 |.rg r,_,out,_=>(rgS r out,[])
 |.reg r,k,out,_=>match B3k r out with
  |L=>(L,[(k,C3h h k (.reg r) L)])
 |.drw n d,k,out,_=>match B3k d.ops out with
  |L=>(L,[(k,C3h h k (.drw n d) L)])
 |.seq x y,k,out,ex=>match flC h rl y (k+1+szC x) out ex with
  |(Ly,ly)=>match flC h rl x (k+1) Ly ex with
   |(Lx,lx)=>(Lx,(k,fuC h (k+1) x (chC h (k+1+szC x) y) Lx) :: (tlC (E6f x) lx++ly))
 |.cond o x y,k,out,ex=>match flC h rl x (k+1) out ex with
  |(Lx,lx)=>match flC h rl y (k+1+szC x) out ex with
   |(Ly,ly)=>match C2x (opS o) (C2x Lx Ly) with
    |L=>(L,(k,C3h h k (.cond o x y) L) :: (lx++ly))
 |.blk i x,k,out,ex=>match flC h rl x (k+1) out (upE ex i out) with
  |(L,l)=>(L,(k,C3h h k (.blk i x) L) :: l)
 |.loop x,k,_,ex=>match lvC rl x [] ex with
  |L=>(L,(flC h rl x (k+1) L ex).2)
def Num(h:Nat->IC)(k:Nat)(t:IC):Prop:=∀ j x,(pre t)[j]? = some x->h (k+j)=x
section
variable {h:Nat->IC} {k:Nat} {x y t:IC}
theorem Num.self(n:Num h k t):h k=t:=by
 have:=n 0 t (by cases t<;>simp[pre]);omega
theorem Num.sub{l:List IC}{i:Nat}(n:Num h k t)(e:∀ j x,(pre y)[j]? = some x->(pre t)[i+j]? = some x):Num h (k+i) y:=fun j x hx=>by
 rw[A2S];exact n (i+j) x (e j x hx)
theorem E7n{a:IC}{l r:List IC}(j:Nat)(z:IC)(hz:l[j]? = some z):(a :: (l++r))[1+j]? = some z:=by
 grind
theorem D3q{a:IC}{l r:List IC}{n:Nat}(hn:l.length=n)(j:Nat)(z:IC)(hz:r[j]? = some z):(a :: (l++r))[1+n+j]? = some z:=by
 grind
theorem Num.s1(n:Num h k (.seq x y)):Num h (k+1) x:=n.sub (l:=[]) fun j z hz=>by rw[pre];grind
theorem Num.s2(n:Num h k (.seq x y)):Num h (k+1+szC x) y:=by
 rw[A2S];exact n.sub (l:=[]) fun j z hz=>by rw[pre];exact D3q (C6q x) j z hz
theorem Num.c1{o:Opd}(n:Num h k (.cond o x y)):Num h (k+1) x:=n.sub (l:=[]) fun j z hz=>by rw[pre];grind
theorem Num.c2{o:Opd}(n:Num h k (.cond o x y)):Num h (k+1+szC x) y:=by
 rw[A2S];exact n.sub (l:=[]) fun j z hz=>by rw[pre];exact D3q (C6q x) j z hz
theorem Num.b1{i:Nat}(n:Num h k (.blk i x)):Num h (k+1) x:=n.sub (l:=[]) fun j z hz=>by rw[pre,Nat.add_comm,A2L,hz]
theorem Num.l1(n:Num h k (.loop x)):Num h (k+1) x:=n.sub (l:=[]) fun j z hz=>by rw[pre,Nat.add_comm,A2L,hz]
theorem A6a(n:Num h k t):chC h k t=t:=by
 cases t<;>simp only[chC]<;>first|rfl|exact n.self|rw[n.l1.self]
theorem D0c{r:List IOper}{p:List (Nat × Option (List Nat))}{m m':Nat}(e:asM r p m=some m'):B0v m' 0 r=p:=by
 unfold asM at e;split at e<;>cases e;rename_i q;exact C9h q
theorem B3m{L:List Nat}(n:Num h k x):(C3h h k x L).ic=x:=by
 unfold C3h;split
 ·rfl
 ·split
  ·rename_i m e;simp only[PD.ic,dQ,D0c e]
  ·rfl
 ·simp only[PD.ic,A6a n.c1,A6a n.c2]
 ·simp only[PD.ic,A6a n.b1]
 rfl
theorem E2i{L:List Nat}(n:Num h k x):(fuC h k x y L).ic=.seq x y:=by
 unfold fuC;split
 ·rfl
 ·split
  ·rename_i m e;simp only[PD.ic,dQ,D0c e]
  rfl
 ·simp only[PD.ic,A6a n.c1,A6a n.c2]
 ·simp only[PD.ic,A6a n.b1]
 ·simp only[PD.ic,A6a n]
theorem D5r{b:Bool}{l:List (Nat × PD)}{e:Nat × PD}(hm:e∈tlC b l):e∈l:=by
 unfold tlC at hm;split at hm
 ·exact List.mem_of_mem_tail hm
 omega
theorem E2l(rl:List Nat):∀ (t:IC) (k:Nat) (out:List Nat) (ex:Nat->List Nat),Num h k t->∀ e∈(flC h rl t k out ex).2,h e.1=e.2.ic:=by
 intro t
 induction t with
 |skip=>intro k out ex n e he;trivial
 |exit i=>intro k out ex n e he;trivial
 |ret=>intro k out ex n e he;trivial
 |bad=>intro k out ex n e he;trivial
 |rg r=>intro k out ex n e he;trivial
 |reg r=>intro k out ex n e he;simp only[flC,A1K]at he;subst he;simp only[B3m n];exact n.self
 |drw m d=>intro k out ex n e he;simp only[flC,A1K]at he;subst he;simp only[B3m n];exact n.self
 |seq x y ihx ihy =>
  intro k out ex n e he;simp only[flC,A0Y,A0X]at he;rcases he with rfl|he|he
  ·simp only[E2i n.s1,A6a n.s2];exact n.self
  ·exact ihx _ _ _ n.s1 e (D5r he)
  ·exact ihy _ _ _ n.s2 e he
 |cond o x y ihx ihy =>
  intro k out ex n e he;simp only[flC,A0Y,A0X]at he;rcases he with rfl|he|he
  ·simp only[B3m n];exact n.self
  ·exact ihx _ _ _ n.c1 e he
  ·exact ihy _ _ _ n.c2 e he
 |blk i x ih =>
  intro k out ex n e he;simp only[flC,A0Y]at he;rcases he with rfl|he
  ·simp only[B3m n];exact n.self
  ·exact ih _ _ _ n.b1 e he
 |loop x ih =>
  intro k out ex n e he;simp only[flC]at he;exact ih _ _ _ n.l1 e he
end
inductive Ps where
 |h
 |o (p:Ps)
 |i (p:Ps)
def Ps.n:Ps->Nat
 |.h=>1
 |.o p=>2 * p.n
 |.i p=>2 * p.n+1
def Ps.s:Ps->Ps
 |.h=>.o .h
 |.o p=>.i p
 |.i p=>.o p.s
theorem Ps.s_n:∀ p:Ps,p.s.n=p.n+1
 |.h=>rfl
 |.o p=>rfl
 |.i p=>by simp only[Ps.s,Ps.n,Ps.s_n p];rfl
def Ps.of:Nat->Ps
 |0=>.h
 |k+1=>(Ps.of k).s
theorem Ps.of_n:∀ k:Nat,(Ps.of k).n=k+1
 |0=>rfl
 |k+1=>by rw[Ps.of,Ps.s_n,Ps.of_n k]
def Ps.frc:Ps->(Ps->IC)->IC
 |.h,K=>K .h
 |.o p,K=>Ps.frc p fun q=>K (.o q)
 |.i p,K=>Ps.frc p fun q=>K (.i q)
theorem Ps.frc_eq:∀ (p:Ps) (K:Ps->IC),p.frc K=K p
 |.h,K=>rfl
 |.o p,K=>by rw[Ps.frc,Ps.frc_eq p]
 |.i p,K=>by rw[Ps.frc,Ps.frc_eq p]
def hk(h:Ps->IC)(k:Nat):IC:=(Ps.of k).frc h
inductive Tr where
 |e
 |d (x:Option PD) (l r:Tr)
def Tr.get:Tr->Ps->Option PD
 |.e,_=>none
 |.d x _ _,.h=>x
 |.d _ l _,.o p=>l.get p
 |.d _ _ r,.i p=>r.get p
def Tr.put(y:PD):Ps->Tr->Tr
 |.h,.e=>.d (some y) .e .e
 |.o p,.e=>.d none (Tr.put y p .e) .e
 |.i p,.e=>.d none .e (Tr.put y p .e)
 |.h,.d _ l r=>.d (some y) l r
 |.o p,.d x l r=>.d x (Tr.put y p l) r
 |.i p,.d x l r=>.d x l (Tr.put y p r)
theorem Tr.get_put(y:PD):∀ (p:Ps) (t:Tr) (q:Ps) (z:PD),(Tr.put y p t).get q=some z->(q=p/\z=y)\/t.get q=some z:=by
 intro p
 induction p with
 |h=>intro t q z h;cases t<;>cases q<;>simp_all[Tr.put,Tr.get]
 |o p ih =>
  intro t q z h;cases t<;>cases q<;>simp only[Tr.put,Tr.get]at h ⊢ <;> first|exact .inr h|(cases h;done)|skip
  ·rcases ih _ _ _ h with ⟨rfl,rfl⟩|h
   ·exact .inl ⟨rfl,rfl⟩
   ·cases h
  grind
 |i p ih =>
  intro t q z h;cases t<;>cases q<;>simp only[Tr.put,Tr.get]at h ⊢ <;> first|exact .inr h|(cases h;done)|skip
  ·rcases ih _ _ _ h with ⟨rfl,rfl⟩|h
   ·exact .inl ⟨rfl,rfl⟩
   ·cases h
  grind
def D7o:List (Nat × PD)->Tr->Tr
 |[],t=>t
 |e :: l,t=>D7o l (Tr.put e.2 (Ps.of e.1) t)
theorem B5t:∀ (l:List (Nat × PD)) (t:Tr) (q:Ps) (z:PD),(D7o l t).get q=some z->(∃ k,q=Ps.of k/\(k,z)∈l)\/t.get q=some z
 |[],t,q,z,h=>.inr h
 |e :: l,t,q,z,h=>by
  rcases B5t l _ q z h with ⟨k,h1,h2⟩|h
  ·grind
  ·rcases Tr.get_put _ _ _ _ _ h with ⟨rfl,rfl⟩|h
   ·exact .inl ⟨e.1,rfl,A0H⟩
   grind
def pz(P:Program)(f:Nat)(p:Ps):IC:=match (P.funcs[f]?).bind (A7w P) with
 |some i=>(pre i.body).getD (p.n-1) .bad
 |none=>.bad
theorem C6h{P:Program}{f:Nat}{i:IFn}(h:L2 P f i):Num (hk (pz P f)) 0 i.body:=fun j x hx=>by
 rw[hk,Ps.frc_eq];unfold pz;unfold L2 at h;rw[h];simp only[A1J,A1M,Ps.of_n,A4B,hx,A3W]
inductive TD where
 |mk (n:Nat) (rs:List RV) (top:IC) (l:Tr)
 |no
def TD.l:TD->Tr
 |.mk _ _ _ l=>l
 |.no=>.e
def mkT(h:Ps->IC)(i:IFn):TD:=.mk i.n i.res (chC (hk h) 0 i.body) (D7o (flC (hk h) (slR i.res) i.body 0 (slR i.res) (fun _=>[])).2 .e)
structure XT (P:Program) (f:Nat) where
 d:(Ps->IC)->TD
 i:IFn
 hi:L2 P f i
 hd:∀ h,mkT h i=d h
class FT (P:Program) (f:Nat) (D:outParam ((Ps->IC)->TD)):Prop where
 of:∃ i,L2 P f i/\∀ h,mkT h i=D h
theorem XT.ft{P:Program}{f:Nat}(x:XT P f):FT P f x.d:=⟨⟨x.i,x.hi,x.hd⟩⟩
theorem u8n(n:Nat):UInt8.ofBitVec (BitVec.ofNat 8 n)=UInt8.ofNat n:=rfl
abbrev mkF{P:Program}{f:Nat}{i:IFn}{d:(Ps->IC)->TD}(hi:L2 P f i:=by unfold L2;conv=>lhs;reduce;simp only[seval,u8n])(hd:∀ h,mkT h i=d h:=by intro h;conv=>lhs;cbv):XT P f:=⟨d,i,hi,hd⟩
class LkI (t:Tr) (p:Ps) (x:outParam PD):Prop where
 get:t.get p=some x
instance lkTh {x:PD} {l r:Tr}:LkI (.d (some x) l r) .h x:=⟨rfl⟩
instance lkTo {x:PD} {y:Option PD} {l r:Tr} {p:Ps} [k:LkI l p x]:LkI (.d y l r) (.o p) x:=⟨k.get⟩
instance lkTi {x:PD} {y:Option PD} {l r:Tr} {p:Ps} [k:LkI r p x]:LkI (.d y l r) (.i p) x:=⟨k.get⟩
class WDp (P:Program) (N:Nat) (u:PD) (r:outParam Rl):Prop where
 out:∀ {Q:Exit->St->Prop} {T:Tm} {H:Hp} {c:Nat},r P N Q T H c->IW P N u.ic ⟨T,H,c⟩ Q
section
variable {P:Program} {N n i e:Nat} {x y z:IC} {r:List IOper} {p:List (Nat × Option (List Nat))} {L:List Nat} {o:Opd}
instance dS:WDp P N (.S r y L) (rS r y L):=⟨mkS⟩
instance dE:WDp P N (.E r L) (rE r L):=⟨mkE⟩
instance dP:WDp P N (.P r y e n L) (rP r y n L):=⟨mkP (d:=dQ r e) (Y4 e r 0)⟩
instance dF:WDp P N (.F r e n L) (rPE r n L):=⟨E4w (d:=dQ r e) (Y4 e r 0)⟩
instance dD:WDp P N (.D r y p n L) (rD r p y n L):=⟨mkD (d:=⟨r,[],p⟩)⟩
instance dG:WDp P N (.G r p n L) (rDE r p n L):=⟨E4x (d:=⟨r,[],p⟩)⟩
instance dC:WDp P N (.C x y z o L) (rC o x z y L):=⟨mkC⟩
instance dK:WDp P N (.K x z o L) (rCE o x z L):=⟨E4y⟩
instance dB:WDp P N (.B x y i L) (rB i x y L):=⟨mkB⟩
instance dJ:WDp P N (.J x i L) (rBE i x L):=⟨E4z⟩
instance dQQ:WDp P N (.Q x y L) (rQ x y L):=⟨mkQ⟩
end
class LkD (t:TD) (p:Ps) (x:outParam PD):Prop where
 get:t.l.get p=some x
instance lkTd {n:Nat} {rs:List RV} {top:IC} {x:PD} {l:Tr} {p:Ps} [k:LkI l p x]:LkD (.mk n rs top l) p x:=⟨k.get⟩
section
variable {P:Program} {f:Nat} {D:(Ps->IC)->TD} [F:FT P f D]
theorem wz{p:Ps}{x:PD}(e:(D (pz P f)).l.get p=some x):pz P f p=x.ic:=by
 obtain⟨i,hi,hd⟩:=F.of;rw[<- hd]at e;simp only[mkT,TD.l]at e;rcases B5t _ _ _ _ e with ⟨k,rfl,h⟩|h
 ·have:=E2l (slR i.res) i.body 0 (slR i.res) (fun _=>[]) (C6h hi) _ h;rw[hk,Ps.frc_eq]at this;exact this
 trivial
instance wZ {N:Nat} {p:Ps} {x:PD} {w:Rl} [g:LkD (D (pz P f)) p x] [k:WDp P N x w]:WR P N (pz P f p) w:=⟨fun h=>by rw[wz g.get];exact k.out h⟩
theorem FT.eqs{n:Nat}{rs:List RV}{top:IC}{l:Tr}(e:D (pz P f)=.mk n rs top l):L2 P f ⟨n,top,rs⟩:=by
 obtain⟨i,hi,hd⟩:=F.of;rw[<- hd]at e;simp only[mkT,A6a (C6h hi),TD.mk.injEq]at e;rw[<- e.1, <- e.2.1, <- e.2.2.1];omega
theorem PC.ofT(hm:P.follows .mixedOrders=true){n:Nat}{rs:List RV}{top:IC}{l:Tr}(e:D (pz P f)=.mk n rs top l){args:List DV}(hn:args.length<=n){r:DV}(na:DV.nlL args=true)(nr:r.nl=true)
  (h:IW P n top ⟨A4s args,nil,0⟩ (rt rs fun v H' _ => ∃ H2,GL H' [v] H2 [r])):PC P f args r :=
 PC.of hm (i:=⟨n,top,rs⟩) (FT.eqs e) hn na nr h
theorem PC.go(hm:P.follows .mixedOrders=true){n:Nat}{rs:List RV}{top:IC}{l:Tr}{args:List DV}{r:DV}(h:IW P n top ⟨A4s args,nil,0⟩ (rt rs fun v H' _ => ∃ H2,GL H' [v] H2 [r]))(e:D (pz P f)=.mk n rs top l:=by rfl)(hn:args.length<=n:=by exact A0D rfl)(na:DV.nlL args=true:=by first|(simp[DV.nlL,DV.nl];done)|rfl)(nr:r.nl=true:=by first|rfl|simp[DV.nlL,DV.nl]):PC P f args r:=PC.ofT hm e hn na nr h
theorem AC.bodyT(hm:P.follows .mixedOrders=true){n:Nat}{rs:List RV}{top:IC}{l:Tr}(e:D (pz P f)=.mk n rs top l){args:List DV}(hn:args.length<=n){H:Hp}{c:Nat}{Q:DV->Hp->Nat->Prop}
  (h:(∀ id,c<=id->H id=none)->IW P n top ⟨A4s args,H,c⟩ (rt rs fun v H' c' => ∃ v2 H2,GL H' [v] H2 [v2]/\Q v2 H2 c')):AC P f args H c Q :=
 AC.body hm (i:=⟨n,top,rs⟩) (FT.eqs e) hn h
end
end Go.Sym
namespace Go.Pb
variable [Go.Sym.Tab]
open Go.Sym
def B3p(n:Nat)(s:List UInt8):Nat:=s.foldl (fun n c=>10 * n+(c.toNat-48)) n
theorem C0z:∀ (s:List UInt8) (n:Nat),n<=B3p n s
 |[],n=>A0E _
 |c :: r,n=>by
  have:=C0z r (10 * n+(c.toNat-48));simp only[B3p,List.foldl_cons]at this ⊢;omega
theorem C3k(c:UInt8)(r:List UInt8)(n:Nat):B3p n (c :: r)=B3p (10 * n+(c.toNat-48)) r:=by simp only[B3p,List.foldl_cons]
theorem C6j{M acc d v w:Nat}(hM:M=18446744073709551615)(hd:d<=9)(hv:10 * acc+d<=v)(hw:w=1844674407370955162):
  (w<=acc->M<v)/\(M<acc * 10+d->M<v):=by
 subst hM hw;omega
theorem C6k(M acc:Nat)(c:UInt8)(r:List UInt8):Lib.parseUintM M acc (c :: r) =
  if 48<=c.toNat/\c.toNat<=57 then
   if 1844674407370955162<=acc then .range
   else if M<acc * 10+(c.toNat-48) then .range
   else Lib.parseUintM M (acc * 10+(c.toNat-48)) r
  else .syntax:=by rw[Lib.parseUintM]
theorem pum{M:Nat}(hM:M=18446744073709551615):∀ (l:List UInt8) (acc:Nat),(∀ c∈l,dgB c=true)->acc<=M ->
  Lib.parseUintM M acc l=if B3p acc l<=M then .ok (B3p acc l) else .range:=by
 intro l
 induction l with
 |nil =>
  intro acc h ha;rw[if_pos (show B3p acc []<=M from ha),Lib.parseUintM];rfl
 |cons c r ih =>
  intro acc h ha;have hc:=h c A0H;simp only[dgB,A0F,A0I]at hc;have hg:=C0z r (10 * acc+(c.toNat-48));rw[C6k,if_pos hc,C3k];generalize hK:(1844674407370955162:Nat)=K;obtain⟨s1,s2⟩:=C6j hM (show c.toNat-48<=9 by omega) hg hK.symm;by_cases h1:K<=acc
  ·rw[if_pos h1,if_neg (Nat.not_le.2 (s1 h1))]
  ·rw[if_neg h1];by_cases h2:M<acc * 10+(c.toNat-48)
   ·rw[if_pos h2,if_neg (Nat.not_le.2 (s2 h2))]
   ·rw[if_neg h2,Nat.mul_comm acc 10];rw[Nat.mul_comm acc 10]at h2;exact ih _ (fun d hd=>h d (A0G _ hd)) (Nat.not_lt.1 h2)
theorem pib{l:List UInt8}(h:∀ c∈l,dgB c=true)(h0:l≠[]):
  Lib.parseIntB 64 l=if A9j l<=9223372036854775807 then .ok (A9j l:Int) else .range:=by
 cases l with
 |nil=>exact absurd rfl h0
 |cons c r =>
  have hc:=h c A0H;simp only[dgB,A0F,A0I]at hc;have e1:¬ c.toNat=43:=by omega
  have e2:¬ c.toNat=45:=by omega
  have hp:=pum (M:=2 ^ 64-1) (by decide) (c :: r) 0 h (A0O _);have hv:B3p 0 (c :: r)=A9j (c :: r):=rfl;rw[hv]at hp;unfold Lib.parseIntB;simp only[e1,e2,or_self,if_false,not_false_eq_true,true_and,false_and];unfold Lib.parseUintB;rw[if_neg (by simp),hp];by_cases g1:A9j (c :: r)<=2 ^ 64-1
  ·rw[if_pos g1];by_cases g2:A9j (c :: r)<=9223372036854775807
   ·simp only[g2,if_true];rw[if_neg (by omega)]
   ·simp only[g2,if_false];rw[if_pos (by omega)]
  ·rw[if_neg g1];have g2:¬ A9j (c :: r)<=9223372036854775807:=by omega
   simp only[g2,if_false]
def X8(l:List Ins):List DV:=cellsL (l.map Ins.v)
theorem A2e(a b:List Ins):X8 (a++b)=X8 a++X8 b:=by simp[X8,C4]
theorem A9x(i:Ins):X8 [i]=[I64 i.op,I64 i.A]:=by simp[X8,cellsL,DV.cells]
theorem A2d(l:List Ins):(X8 l).length=l.length * 2:=by
 unfold X8;rw[C2 (u:=2)]
 ·simp
 ·intro x hx;obtain⟨y, -,rfl⟩:=A1A.1 hx;rfl
theorem B2k(l:List Ent):(cellsL (l.map Ent.v)).length=l.length * 4:=by
 rw[C2 (u:=4)]
 ·simp
 ·intro x hx;obtain⟨y, -,rfl⟩:=A1A.1 hx;rfl
theorem Q5(l:List (List UInt8)):∀ x∈l.map DV.str,x.cells.length=1:=by
 intro x hx;obtain⟨y, -,rfl⟩:=A1A.1 hx;rfl
theorem O6{α : Type}{l:List α}(h:l=[]):l.length=0:=by rw[h];rfl
def delO(H:Hp):Option Nat->Hp
 |none=>H
 |some i=>H.del i
theorem O0{o:Option Nat}{n:Nat}(h:o=none->n=0):A5r (todoV o n)=some (I64 (n:Int)):=by
 cases o with
 |none=>rw[h rfl];rfl
 |some i=>rfl
theorem D5{H:Hp}{c sz bytes n m:Nat}{o:Option Nat}{cs src:List DV}(hn:o=none->n=0/\cs=[])(hb:∀ i,o=some i->H i=some ⟨sz,true,cs⟩)(hl:cs.length=n * sz)(hm:1<=m)(h2:(n+m) * bytes<=140737488355328)(h3:n+m<=9223372036854775807):
  B0w H c sz bytes (todoV o n) m src=some (.slc c 0 (n+m),(delO H o).upd c ⟨sz,true,cs++src⟩,c+1):=by
 cases o with
 |none =>
  obtain⟨rfl,rfl⟩:=hn rfl;rw[B2w,A2x (by omega) (by simpa using h2) (by omega)];simp[delO]
 |some i=>rw[A6k,C6g,hb i rfl,A1l hl h2 h3];rfl
theorem B0{H:Hp}{o:Option Nat}{j:Nat}(h:∀ i,o=some i->¬ j=i):delO H o j=H j:=by
 cases o with
 |none=>rfl
 |some i=>exact G4 (h i rfl)
theorem B7{H:Hp}{o:Option Nat}{b:Blk}{j:Nat}(h:∀ i,o=some i->¬ j=i):optH H o b j=H j:=by
 cases o with
 |none=>rfl
 |some i=>exact h_ne (h i rfl)
section
variable {l:List UInt8} {k p:Nat} {S P V:DV} {I:List Ins} {E:List Ent} {o1 o2:Option Nat} {cc:Nat}
end
theorem E7g{a b:Nat}(h:((a:Int) != (b:Int))=true):a≠b:=fun e=>by rw[e]at h;simp at h
theorem A2w{X:Hp}{id:Nat}{b b':Blk}(h:b=b'):Sub (optH Sym.nil (some id) b) (X.upd id b'):=by
 intro j q hj;simp only[optH]at hj;by_cases e:j=id
 ·subst e;rw[h_same]at hj ⊢;rw[<- h];exact hj
 ·rw[h_ne e]at hj;cases hj
theorem A4m{X:Hp}{o:Option Nat}{b:Blk}{i:Nat}(hi:o=some i):optH X o b i=some b:=by subst hi;exact h_same
inductive Ex where
 |mk (kind value:Int) (name:List UInt8) (args:List Ex) (pos:Int)
def Ex.kind:Ex->Int |.mk k _ _ _ _=>k
def Ex.value:Ex->Int |.mk _ v _ _ _=>v
def Ex.name:Ex->List UInt8 |.mk _ _ n _ _=>n
def Ex.args:Ex->List Ex |.mk _ _ _ a _=>a
def Ex.pos:Ex->Int |.mk _ _ _ _ p=>p
mutual
def Ex.v:Ex->DV
 |.mk k v n a p=>.agg [I64 k,I64 v,.str n,.lst (Ex.vs a),I64 p]
def Ex.vs:List Ex->List DV
 |[]=>[]
 |e :: l=>Ex.v e :: Ex.vs l
end
theorem Ex.vs_map:∀ l:List Ex,Ex.vs l=l.map Ex.v
 |[]=>rfl
 |e :: l=>by rw[Ex.vs,Ex.vs_map l];rfl
abbrev G9(l:List Ex):DV:=.lst (l.map Ex.v)
abbrev Ex.w(e:Ex):DV:=.agg [I64 e.kind,I64 e.value,.str e.name,G9 e.args,I64 e.pos]
theorem Ex.v_w(e:Ex):e.v=e.w:=by
 cases e with|mk k v n a p=>rw[Ex.v,Ex.vs_map];rfl
theorem A5x(l:List Ex):∀ x∈l.map Ex.v,x.cells.length=5:=fun x hx=>by
 obtain⟨y, -,rfl⟩:=A1A.1 hx;rw[Ex.v_w];rfl
mutual
@[simp]theorem Ex.nl:∀ e:Ex,e.v.nl=true
 |.mk k v n a p=>by
  have:=Ex.nls a;rw[Ex.v];simp only[DV.nl,DV.nlL,this,A3H]
theorem Ex.nls:∀ l:List Ex,DV.nlL (Ex.vs l)=true
 |[]=>rfl
 |e :: l=>by rw[Ex.vs,DV.nlL,Ex.nl e,Ex.nls l];rfl
end
@[simp]theorem A1f(l:List Ex):DV.nlL (l.map Ex.v)=true:=by rw[<- Ex.vs_map];exact Ex.nls l
def Ex0:Ex:=.mk 0 0 [] [] 0
inductive St where
 |mk (kind:Int) (name text:List UInt8) (args:List Ex) (thn els:List St) (pos:Int)
def St.kind:St->Int |.mk k _ _ _ _ _ _=>k
def St.name:St->List UInt8 |.mk _ n _ _ _ _ _=>n
def St.text:St->List UInt8 |.mk _ _ t _ _ _ _=>t
def St.args:St->List Ex |.mk _ _ _ a _ _ _=>a
def St.thn:St->List St |.mk _ _ _ _ t _ _=>t
def St.els:St->List St |.mk _ _ _ _ _ e _=>e
def St.pos:St->Int |.mk _ _ _ _ _ _ p=>p
mutual
def St.v:St->DV
 |.mk k n t a x y p=>.agg [I64 k,.str n,.str t,G9 a,.lst (St.vs x),.lst (St.vs y),I64 p]
def St.vs:List St->List DV
 |[]=>[]
 |e :: l=>St.v e :: St.vs l
end
theorem St.vs_map:∀ l:List St,St.vs l=l.map St.v
 |[]=>rfl
 |e :: l=>by rw[St.vs,St.vs_map l];rfl
abbrev D3(l:List St):DV:=.lst (l.map St.v)
abbrev St.w(s:St):DV:=.agg [I64 s.kind,.str s.name,.str s.text,G9 s.args,D3 s.thn,D3 s.els,I64 s.pos]
theorem St.v_w(s:St):s.v=s.w:=by
 cases s with|mk k n t a x y p=>rw[St.v,St.vs_map,St.vs_map];rfl
theorem A8j(l:List St):∀ x∈l.map St.v,x.cells.length=7:=fun x hx=>by
 obtain⟨y, -,rfl⟩:=A1A.1 hx;rw[St.v_w];rfl
mutual
@[simp]theorem St.nl:∀ e:St,e.v.nl=true
 |.mk k n t a x y p=>by
  have h1:=A1f a;have h2:=St.nls x;have h3:=St.nls y;rw[St.v];simp only[DV.nl,DV.nlL,h1,h2,h3,A3H]
theorem St.nls:∀ l:List St,DV.nlL (St.vs l)=true
 |[]=>rfl
 |e :: l=>by rw[St.vs,DV.nlL,St.nl e,St.nls l];rfl
end
@[simp]theorem W1(l:List St):DV.nlL (l.map St.v)=true:=by rw[<- St.vs_map];exact St.nls l
def St0:St:=.mk 0 [] [] [] [] [] 0
structure Dc where
 kind:Int
 name:List UInt8
 value:Int
 pos:Int
deriving DecidableEq
abbrev Dc.v(d:Dc):DV:=.agg [I64 d.kind,.str d.name,I64 d.value,I64 d.pos]
abbrev C3(l:List Dc):DV:=.lst (l.map Dc.v)
structure Hd where
 trig:Int
 name:List UInt8
 body:List St
 pos:Int
abbrev Hd.v(h:Hd):DV:=.agg [I64 h.trig,.str h.name,D3 h.body,I64 h.pos]
abbrev K8(l:List Hd):DV:=.lst (l.map Hd.v)
structure Md where
 name:List UInt8
 prio:Int
 hds:List Hd
 pos:Int
abbrev Md.v(m:Md):DV:=.agg [.str m.name,I64 m.prio,K8 m.hds,I64 m.pos]
abbrev C7(l:List Md):DV:=.lst (l.map Md.v)
structure Ru where
 decls:List Dc
 modes:List Md
abbrev Ru.v(r:Ru):DV:=.agg [C3 r.decls,C7 r.modes]
theorem A3i(l:List Dc):∀ x∈l.map Dc.v,x.cells.length=4:=fun x hx=>by obtain⟨y, -,rfl⟩:=A1A.1 hx;rfl
theorem A3d(l:List Hd):∀ x∈l.map Hd.v,x.cells.length=4:=fun x hx=>by obtain⟨y, -,rfl⟩:=A1A.1 hx;rfl
theorem A8m(l:List Md):∀ x∈l.map Md.v,x.cells.length=4:=fun x hx=>by obtain⟨y, -,rfl⟩:=A1A.1 hx;rfl
@[simp]theorem K4(l:List Dc):DV.nlL (l.map Dc.v)=true:=L8 (fun _=>rfl) l
@[simp]theorem B3q(l:List Hd):DV.nlL (l.map Hd.v)=true:=L8 (fun h=>by simp[DV.nl,DV.nlL,W1]) l
@[simp]theorem K3(l:List Md):DV.nlL (l.map Md.v)=true:=L8 (fun h=>by simp[DV.nl,DV.nlL,B3q]) l
theorem Ru.nl(r:Ru):r.v.nl=true:=by simp[DV.nl,DV.nlL,K4,K3]
structure Rd where
 i:Nat
 e:Int
 pos:Int
 ops:Int
 par:Int
section
variable (L:List Tok) (E:Int)
abbrev csR(s:Rd):List DV:=[E3 L,I64 E,I64 s.i,I64 s.e,I64 s.pos,I64 s.ops,I64 s.par]
abbrev rdR(s:Rd):Blk:=⟨0,true,csR L E s⟩
def okR(s:Rd):Bool:=s.e == 0
def N0(s:Rd)(p e:Int):Rd:=if okR s=true then { s with e:=e,pos:=p } else s
def B8(s:Rd):Tok:=L.getD s.i ⟨0,[],0,E⟩
def isR(s:Rd)(t:List UInt8):Bool:=okR s && ((B8 L E s).kind == 5 || (B8 L E s).kind == 2) && (B8 L E s).text == t
def K2(s:Rd)(k:Int):Bool:=okR s && (B8 L E s).kind == k
def Q1(s:Rd):Rd:=N0 s (B8 L E s).pos 4
def C9(s:Rd)(n most e:Int):Rd:=if most<n then N0 s (B8 L E s).pos e else s
def A7(s:Rd):Rd:={ s with i:=s.i+1 }
def E1(s:Rd)(t:List UInt8):Rd:=if isR L E s t=false then Q1 L E s else A7 s
def W9:Tok:=⟨0,[],0,0⟩
def A8(s:Rd)(k:Int):Tok × Rd:=if K2 L E s k=false then (W9,Q1 L E s) else (B8 L E s,A7 s)
def A1m(s:Rd):Nat->List (List UInt8)->Int
 |_,[] => -1
 |k,t :: l=>if isR L E s t=true then (k:Int) else A1m s (k+1) l
def C0(s:Rd)(l:List (List UInt8)):Int:=A1m L E s 0 l
end
def E5:List (List UInt8):=[[115,119,105,116,99,104],[99,111,105,108],[108,97,109,112],[115,111,117,110,100],[115,104,111,119],[118,97,114],[116,105,109,101,114],[101,118,101,110,116]]
def E9:List (List UInt8):=[[115,116,97,114,116],[115,116,111,112],[99,108,111,115,101],[111,112,101,110],[116,105,109,101,114],[101,118,101,110,116]]
def B9:List (List UInt8):=[[105,102],[114,101,112,101,97,116],[115,99,111,114,101],[102,105,114,101],[104,111,108,100],[114,101,108,101,97,115,101],[108,105,103,104,116],[98,108,105,110,107],[115,116,97,114,116],[115,116,111,112],[98,101,103,105,110],[101,110,100],[112,111,115,116],[112,108,97,121],[114,117,110],[104,97,108,116],[116,101,120,116],[99,111,110,115,117,109,101]]
def D9:List (List UInt8):=[[42],[47],[37],[43],[45],[60],[60,61],[62],[62,61],[61,61],[33,61],[38,38],[124,124]]
def B6(k:Int):Int:=if k=24 then 1 else if k=23 then 2 else if 17<=k/\k<=22 then 3 else if k=15\/k=16 then 4 else if 12<=k/\k<=14 then 5 else if k=10\/k=11 then 6 else 7
section
variable (L:List Tok) (E:Int)
def A6r:List Int:=[3,4,8,9,5,6,7]
def S7:List (List UInt8):=[[116,114,117,101],[102,97,108,115,101],[112,108,97,121,101,114],[98,97,108,108],[99,108,111,115,101,100],[97,99,116,105,118,101],[108,101,102,116]]
def Q2:List (List UInt8):=[[45],[33],[40]]
def J7(s:Rd):Ex × Rd :=
 let t:=B8 L E s
 let k:=C0 L E s S7
 if k<0/\K2 L E s 3=false/\K2 L E s 1=false then (Ex0,Q1 L E s)
 else
  let s1:Rd:={ s with ops:=s.ops+1 }
  let s2:=C9 L E s1 s1.ops 32 9
  if okR s2=false then (Ex0,s2)
  else
   let s3:=A7 s2
   if 0<=k then
    if 4<=k then (.mk (A6r.getD k.toNat 0) 0 (A8 L E s3 1).1.text [] t.pos,(A8 L E s3 1).2)
    else (.mk (A6r.getD k.toNat 0) 0 [] [] t.pos,s3)
   else if t.kind=3 then (.mk 1 t.value [] [] t.pos,s3)
   else (.mk 2 0 t.text [] t.pos,s3)
mutual
def L5:Nat->Int->Rd->Option (Ex × Rd)
 |0,_,_=>none
 |f+1,n,s=>if 5<n then Y9 f s else
  match L5 f (n+1) s with
  |none=>none
  |some (e,s)=>U1 f n e s
def U1:Nat->Int->Ex->Rd->Option (Ex × Rd)
 |0,_,_,_=>none
 |f+1,n,e,s =>
  let k:=C0 L E s D9
  if k<0\/B6 (12+k)≠n then some (e,s) else
  match L5 f (n+1) (A7 s) with
  |none=>none
  |some (x,s1) =>
   let y:=Ex.mk (12+k) 0 [] [e,x] (B8 L E s).pos
   if n=3 then some (y,s1) else U1 f n y s1
def Y9:Nat->Rd->Option (Ex × Rd)
 |0,_=>none
 |f+1,s =>
  let t:=B8 L E s
  let k:=C0 L E s Q2
  if k<0 then some (J7 L E s) else
  let s1:=C9 L E s (s.par+1) 16 50
  if okR s1=false then some (Ex0,s1) else
  let s2:Rd:={ s1 with i:=s1.i+1,par:=s1.par+1 }
  if k=2 then
   match L5 f 1 s2 with
   |none=>none
   |some (e,s3)=>let s4:=E1 L E s3 [41];some (e, { s4 with par:=s4.par-1 })
  else
   match Y9 f s2 with
   |none=>none
   |some (e,s3)=>some (.mk (10+k) 0 [] [e] t.pos, { s3 with par:=s3.par-1 })
end
def R4(f:Nat)(s:Rd):Option (Ex × Rd):=L5 L E f 1 { s with ops:=0,par:=0 }
def N1(f:Nat)(k p:Int)(s:Rd):Option (St × Rd) :=
 if k=4 then
  match R4 L E f s with
  |none=>none
  |some (e,s1)=>some (.mk k [] [] [e] [] [] p,E1 L E s1 [59])
 else if k=18 then
  match R4 L E f (E1 L E (A8 L E s 4).2 [44]) with
  |none=>none
  |some (e,s1)=>some (.mk k [] (A8 L E s 4).1.text [e] [] [] p,E1 L E s1 [59])
 else if k=19 then some (.mk k [] [] [] [] [] p,E1 L E s [59])
 else
  let n:=(A8 L E s 1).1.text
  let s0:=(A8 L E s 1).2
  if k=8\/k=9\/k=10 then
   match R4 L E f s0 with
   |none=>none
   |some (e,s1) =>
    if k=9 then
     match R4 L E f (E1 L E s1 [44]) with
     |none=>none
     |some (e2,s2)=>some (.mk k n [] [e,e2] [] [] p,E1 L E s2 [59])
    else some (.mk k n [] [e] [] [] p,E1 L E s1 [59])
  else some (.mk k n [] [] [] [] p,E1 L E s0 [59])
mutual
def P9:Nat->Int->Rd->Option (List St × Rd)
 |0,_,_=>none
 |f+1,d,s=>V7 f d [] (E1 L E s [123])
def V7:Nat->Int->List St->Rd->Option (List St × Rd)
 |0,_,_,_=>none
 |f+1,d,l,s =>
  if okR s=true/\isR L E s [125]=false then
   if C0 L E s B9<0/\K2 L E s 1=false then some ([],Q1 L E s) else
   match V8 f d (C9 L E s ((l.length:Int)+1) 64 9) with
   |none=>none
   |some (x,s1)=>V7 f d (l++[x]) s1
  else some (l,E1 L E s [125])
def V8:Nat->Int->Rd->Option (St × Rd)
 |0,_,_=>none
 |f+1,d,s0 =>
  let s:=C9 L E s0 d 8 50
  if okR s=false then some (St0,s) else
  let p:=(B8 L E s).pos
  let k:=C0 L E s B9
  if k<0 then
   match R4 L E f (E1 L E (A8 L E s 1).2 [61]) with
   |none=>none
   |some (e,s1)=>some (.mk 1 (A8 L E s 1).1.text [] [e] [] [] p,E1 L E s1 [59])
  else
   let s1:=A7 s
   if k=0\/k=1 then
    match R4 L E f s1 with
    |none=>none
    |some (e,s2) =>
     match P9 f (d+1) s2 with
     |none=>none
     |some (t,s3) =>
      if k=0/\isR L E s3 [101,108,115,101]=true then
       match V5 f d (A7 s3) with
       |none=>none
       |some (o,s4)=>some (.mk 2 [] [] [e] t o p,s4)
      else some (.mk (2+k) [] [] [e] t [] p,s3)
   else N1 L E f (2+k) p s1
def V5:Nat->Int->Rd->Option (List St × Rd)
 |0,_,_=>none
 |f+1,d,s =>
  if isR L E s [105,102]=true then
   match V8 f (d+1) s with
   |none=>none
   |some (x,s1)=>some ([x],s1)
  else P9 f (d+1) s
end
def T2(k:Int)(s:Rd):Dc × Rd :=
 let p:=(B8 L E s).pos
 let s1:=A7 s
 let n:=(A8 L E s1 1).1.text
 let s2:=(A8 L E s1 1).2
 if k+1<=6 then
  let m:=k+1 == 6 && isR L E s2 [45]
  let s3:=if m=true then A7 s2 else s2
  let v:=(A8 L E s3 3).1.value
  (⟨1+k,n,if m=true then -v else v,p⟩,E1 L E (A8 L E s3 3).2 [59])
 else (⟨1+k,n,0,p⟩,E1 L E s2 [59])
def Z0:Nat->List Hd->Rd->Option (List Hd × Rd)
 |0,_,_=>none
 |f+1,l,s =>
  if okR s=true/\isR L E s [125]=false then
   if isR L E s [111,110]=false then some (l,Q1 L E s) else
   let s1:=C9 L E s ((l.length:Int)+1) 32 9
   let p:=(B8 L E s1).pos
   let s2:=E1 L E s1 [111,110]
   let k:=C0 L E s2 E9
   if k<0 then some (l,Q1 L E s2) else
   let s3:=A7 s2
   let n:=if 2<=k then (A8 L E s3 1).1.text else []
   let s4:=if 2<=k then (A8 L E s3 1).2 else s3
   match P9 L E f 1 s4 with
   |none=>none
   |some (b,s5)=>Z0 f (l++[⟨1+k,n,b,p⟩]) s5
  else some (l,E1 L E s [125])
def A5l(f:Nat)(s:Rd):Option (Md × Rd) :=
 let p:=(B8 L E s).pos
 let s1:=E1 L E s [109,111,100,101]
 let n:=(A8 L E s1 1).1.text
 let s2:=(A8 L E s1 1).2
 let v:=(A8 L E s2 3).1.value
 match Z0 L E f [] (E1 L E (A8 L E s2 3).2 [123]) with
 |none=>none
 |some (l,s3)=>some (⟨n,v,l,p⟩,s3)
def W0:Nat->List Dc->Rd->Option (List Dc × Rd)
 |0,_,_=>none
 |f+1,l,s =>
  let k:=C0 L E s E5
  if k<0 then some (l,s) else
  let s1:=C9 L E s ((l.length:Int)+1) 128 9
  if okR s1=true then W0 f (l++[(T2 L E k s1).1]) (T2 L E k s1).2 else W0 f l s1
def V1:Nat->List Md->Rd->Option (List Md × Rd)
 |0,_,_=>none
 |f+1,l,s =>
  if okR s=true/\s.i<L.length then
   if isR L E s [109,111,100,101]=false then some (l,Q1 L E s) else
   let s1:=C9 L E s ((l.length:Int)+1) 16 9
   if okR s1=true then
    match A5l L E f s1 with
    |none=>none
    |some (m,s2)=>V1 f (l++[m]) s2
   else V1 f l s1
  else some (l,s)
def A9d(f:Nat)(s:Rd):Option (Ru × Rd) :=
 match W0 L E f [] s with
 |none=>none
 |some (d,s1) =>
  match V1 L E f [] s1 with
  |none=>none
  |some (m,s2)=>some (⟨d,m⟩,s2)
end
end Go.Pb
namespace Go.Sym
variable [Go.Sym.Tab]
open Go.Eng (KKey)
inductive Mz (id:Nat) (r:DV):DV->DV->Prop where
 |same (d:DV):Mz id r d d
 |mid:Mz id r (.mid id) r
 |agg (a a':List DV) (hl:a.length=a'.length) (h:∀ (i:Nat) x y,a[i]? = some x->a'[i]? = some y->Mz id r x y):Mz id r (.agg a) (.agg a')
 |tup (a a':List DV) (hl:a.length=a'.length) (h:∀ (i:Nat) x y,a[i]? = some x->a'[i]? = some y->Mz id r x y):Mz id r (.tup a) (.tup a')
theorem Mz.rel{ρ ρ':Ren}{id:Nat}{r:DV}(hl : ρ.le ρ')(hr:∀ v,VRel ρ (.mid id) v->VRel ρ' r v){d d':DV}(h:Mz id r d d'):∀ v,VRel ρ d v->VRel ρ' d' v:=by
 induction h with
 |same d=>exact fun v hv=>hv.mono hl
 |mid=>omega
 |agg a a' hl' _ ih =>
  intro v hv;obtain⟨b,rfl,h1,h2⟩:=hv.agg_inv;refine .agg _ _ (hl'▸h1) fun i x y hx hy=>?_
  grind
 |tup a a' hl' _ ih =>
  intro v hv;obtain⟨b,rfl,h1,h2⟩:=hv.tup_inv;refine .tup _ _ (hl'▸h1) fun i x y hx hy=>?_
  grind
theorem GL.frzm{H H':Hp}{ds ds':List DV}{id u:Nat}{kd:KKey}{ks vs:List DV}(hb:H id=some ⟨u,true,[.mpc kd ks vs]⟩)(hH:∀ j,H' j=none\/(j≠id/\H' j=H j))
  (hl:ds.length=ds'.length) (hd:∀ (i:Nat) x y,ds[i]? = some x->ds'[i]? = some y->Mz id (.mp kd ks vs) x y):GL H ds H' ds':=by
 refine⟨fun j hj=>?_,fun ρ w a2 hR hA=>?_⟩
 ·grind
 have back:∀ j bj,H' j=some bj->j≠id/\H j=some bj:=by
  grind
 obtain⟨t,ht,hB⟩:=hR.blk id _ hb;rcases hB with ⟨hm,c,e,fr, -, -, -, -,g5, -⟩|⟨hm, -,hs,es,cl,kd',ks',vs',g1,g2,g3,g6⟩
 ·have:=(g5 0 _ rfl).1
  trivial
 cases g2;have hnone : ρ.fm t.block=none:=by
  cases hf : ρ.fm t.block with
  |none=>rfl
  |some es'=>exact absurd rfl ((hR.frm _ _ hf).2 id _ t hb rfl ht)
 obtain⟨ρ2,hρ⟩:∃ ρ2:Ren, ρ2=⟨ρ.nm, ρ.fz, ρ.tab,fun k=>if k=t.block then some es else ρ.fm k⟩:=⟨_,rfl⟩;have n1 : ρ2.nm = ρ.nm:=by grind
 have n2 : ρ2.fz = ρ.fz:=by grind
 have n3:∀ k r, ρ2.fm k=some r->(k=t.block/\r=es) \/ ρ.fm k=some r:=by
  intro k r hk;rw[hρ]at hk
  grind
 have n4 : ρ2.fm t.block=some es:=by simp_all
 have hle : ρ.le ρ2:=⟨fun i x h=>by grind,fun b r h=>by grind,fun b r h=>by
  rw[hρ]
  grind⟩
 have hval:∀ v,VRel ρ (.mid id) v->VRel ρ2 (.mp kd ks vs) v:=by
  intro v hv;obtain⟨t',ht', -,rfl⟩:=hv.mid_inv;rw[ht]at ht';cases ht';obtain⟨a1,a2,a3,a4,a5⟩:=g3;exact .mp kd ks vs t.block es n4 a1 a2 a3 (fun i x e hx he=>(a4 i x e hx he).mono hle) (fun i x e hx he=>(a5 i x e hx he).mono hle)
 refine⟨ρ2,n1,⟨fun j bj hj=>?_,fun i j bi bj ti tj hi hj hij h1 h2 ho=>?_,fun k r hk=>?_,fun j bj tj hj ho hjt=>?_,fun k r hk=>?_⟩,⟨hl▸hA.1,fun i x y hx hy=>?_⟩,?_⟩
 ·rw[n1];obtain⟨-,h1⟩:=back j bj hj;obtain⟨tj,q1,q2⟩:=hR.blk j bj h1;exact⟨tj,q1,q2.mono hle⟩
 ·rw[n1]at h1 h2;exact hR.sep i j bi bj ti tj (back i bi hi).2 (back j bj hj).2 hij h1 h2 ho
 ·rw[n2]at hk;exact hR.frz k r hk
 ·rw[n1]at hjt;rw[n2];exact hR.dis j bj tj (back j bj hj).2 ho hjt
 ·rcases n3 k r hk with ⟨rfl,rfl⟩|h1
  ·refine⟨⟨cl,g1,g6⟩,fun j bj tj hj ho hjt=>?_⟩;rw[n1]at hjt;obtain⟨hne,h2⟩:=back j bj hj;exact hR.sep j id bj _ tj t h2 hb hne hjt ht ho
  ·refine⟨(hR.frm k r h1).1,fun j bj tj hj ho hjt=>?_⟩;rw[n1]at hjt;exact (hR.frm k r h1).2 j bj tj (back j bj hj).2 ho hjt
 ·have hi:i<ds.length:=by grind
  exact (hd i ds[i] x (A0B hi) hx).rel hle hval y (hA.2 i _ y (A0B hi) hy)
 ·refine⟨hle,rfl,rfl,rfl,A0E _,fun _ _ _=>rfl,fun j bj tj hj hjt=>?_,fun k r hk=>.inl (by rw[<- n2];exact hk),fun k r hk=>?_⟩
  ·rw[n1]at hjt;exact .inr ⟨j,bj,tj,(back j bj hj).2,fun h=>h,hjt,rfl⟩
  grind
theorem C6t{H:Hp}{id u:Nat}{kd:KKey}{ks vs:List DV}(hb:H id=some ⟨u,true,[.mpc kd ks vs]⟩):∃ H2,GL H [.mid id] H2 [.mp kd ks vs] :=
 ⟨nil,GL.frzm hb (fun j=>.inl rfl) rfl (fun i x y hx hy=>by
  match i with
  |0=>cases hx;cases hy;exact .mid
  |_+1=>grind)⟩
theorem A6x{a b:List UInt8}:A9v (.str a) (.str b)=(a == b):=id rfl
theorem A6v{s:List UInt8}:∀ (l:List (List UInt8)) (i:Nat),(E4 (.str s) (l.map DV.str) i).isSome=l.contains s
 |[],i=>rfl
 |x :: r,i=>by
  simp only[A0Q,E4,A6x,List.contains_cons];cases h:s == x with
  |true=>simp
  |false=>simp[A6v r (i+1)]
theorem A9o{s:List UInt8}{l:List (List UInt8)}(h:l.contains s=false)(i:Nat):E4 (.str s) (l.map DV.str) i=none:=by
 have:=A6v (s:=s) l i
 simp_all
theorem B8m{s:List UInt8}{l:List (List UInt8)}(h:l.contains s=true)(i:Nat):∃ j,E4 (.str s) (l.map DV.str) i=some j:=by
 have:=A6v (s:=s) l i;rw[h]at this;cases hm:E4 (.str s) (l.map DV.str) i with
 |none=>grind
 |some j=>simp
theorem A9p{k:DV}:∀ {ks:List DV} {i j:Nat},E4 k ks i=some j->i<=j/\j<i+ks.length
 |[],i,j,h=>by cases h
 |x :: r,i,j,h=>by
  simp only[E4]at h;split at h
  ·grind
  ·have:=A9p h
   grind
open Go.Eng (I0)
open Go.RowKit
variable {P:Program}
theorem PC.of_callsF{f:Nat}{args:List DV}{r:DV}(hc:I0 P f=true)(na:DV.nlL args=true)(nr:r.nl=true)
  (h:∀ (ρ : Ren) (w:World) (vs:Array Value),(∀ b r, ρ.fz b=some r->∃ e fr,w.heap[b]? = some (.cells r e fr))->F7 ρ args vs ->
   Calls P f vs w fun e w' => ∃ v' b row ty fr,e=.returned v'/\w.heap.size<=b/\w'.heap[b]? = some (.cells row ty fr)/\(∀ ρ':Ren, ρ'.fz b=some row->VRel ρ' r v')/\Below w.heap.size w w'):PC P f args r:=by
 refine⟨na,nr,hc,fun ρ w vs hR hf hA=>?_⟩;refine (h ρ w vs hR.frz hA).mono ?_;rintro e w' ⟨v',b,row,ty,fr,rfl,hb,hrow,hv,b1,b2,b3,b4,b5⟩;have hnone : ρ.fz b=none:=by
  cases hz : ρ.fz b with
  |none=>rfl
  |some r=>have:=hR.flt hz;omega
 have hfz:(ρ.frz b row hnone).fz b=some row:=by simp[Ren.frz]
 refine⟨r,v',nil,0, ρ.frz b row hnone,rfl,rfl,hv _ hfz,⟨fun id b h=>(by cases h),fun i j bi bj ti tj h=>(by cases h),fun k r' hk=>?_,fun id b t h=>(by cases h),fun k r' hk=>⟨?_,fun id b t h=>(by cases h)⟩⟩,hf,A0E _,fun id hid h=>absurd rfl h,fun _ _=>rfl,
  ⟨Ren.le_frz hnone,b1,b2,b3,b4,fun k hk _=>b5 k hk,fun id b t h1=>(by cases h1),fun k r' hk=>?_,fun k r h=>.inl h⟩⟩
 ·simp only[Ren.frz]at hk;split at hk
  ·rename_i hkb;cases hk;rw[hkb];exact⟨ty,fr,hrow⟩
  ·obtain⟨e,fr,h1⟩:=hR.frz k r' hk;exact⟨e,fr,by rw[b5 k (hR.flt hk)];exact h1⟩
 ·obtain⟨⟨cl,h1,hst⟩, -⟩:=hR.frm k r' hk;exact⟨cl,by rw[b5 k (A0V.1 h1).1];exact h1,hst⟩
 ·simp only[Ren.frz]at hk;split at hk
  ·rename_i hkb;subst hkb;exact .inr (.inl hb)
  ·exact .inl hk
theorem VRel.strs{ρ : Ren}{l:List (List UInt8)}{b n c:Nat}(h : ρ.fz b=some ((l.map fun s=>Value.string ⟨s.toArray⟩).toArray))(hn:n=l.length)(hc:n<=c)(hm:c<=maxLen):
  VRel ρ (.lst (l.map DV.str)) (.slice (some ⟨b,0,none⟩) n c):=by
 have hcl:cellsL (l.map DV.str)=l.map DV.str:=by
  clear h hn
  induction l with
  |nil=>rfl
  |cons x r ih =>
   have:cellsL ((x :: r).map DV.str)=[DV.str x]++cellsL (r.map DV.str):=rfl;rw[this,ih];rfl
 refine .lst _ n 1 b 0 c _ h (by simpa using hn) hc hm (fun x hx=>by obtain⟨y, -,rfl⟩:=A1A.1 hx;rfl) ?_ ?_ ?_
 ·rw[hcl];simp
 ·rw[hcl];intro d hd;obtain⟨y, -,rfl⟩:=A1A.1 hd;rfl
 ·rw[hcl];intro k d v hd hv;rw[A1N]at hd;obtain⟨s,hs,rfl⟩:=A0Z.1 hd;simp only[A1J,A2B,A1N,hs,A3P,Option.some.injEq]at hv;subst hv;exact .mkStr
end Go.Sym
namespace Go.Pb
variable [Go.Sym.Tab]
open Go.Sym
section
variable {L:List Tok} {E:Int}
theorem B3y{s:Rd}{p e:Int}(he:e≠0):okR (N0 s p e)=false:=by
 unfold N0;split
 ·simp[okR,he]
 grind
theorem A6l{s:Rd}:okR (Q1 L E s)=false:=B3y (by simp)
theorem H3{s:Rd}{n m e:Int}(he:e≠0)(h:okR (C9 L E s n m e)=true):okR s=true/\n<=m/\C9 L E s n m e=s:=by
 unfold C9 at h ⊢;split at h
 ·rw[B3y he]at h;cases h
 grind
theorem A2c{s:Rd}{t:List UInt8}(h:isR L E s t=true):okR s=true/\s.i<L.length:=by
 unfold isR at h;simp only[A0F,A1G,A1Y]at h;refine⟨h.1.1,?_⟩;by_cases hi:s.i<L.length
 ·omega
 ·have e:B8 L E s=⟨0,[],0,E⟩:=by unfold B8;rw[A1M,A2Z (by omega)];rfl
  grind
theorem I3{s:Rd}{k:Int}(h:K2 L E s k=true):okR s=true/\(B8 L E s).kind=k:=by
 unfold K2 at h
 grind
theorem J8{s:Rd}{k:Int}(hk:k≠0)(h:(B8 L E s).kind=k):B8 L E s∈L/\s.i<L.length:=by
 by_cases hi:s.i<L.length
 ·refine⟨?_,hi⟩;unfold B8
  grind
 ·exfalso;have e:B8 L E s=⟨0,[],0,E⟩:=by unfold B8;rw[A1M,A2Z (by omega)];rfl
  grind
theorem B3z{s:Rd}{t:List UInt8}(h:okR (E1 L E s t)=true):isR L E s t=true/\E1 L E s t=A7 s:=by
 unfold E1 at h ⊢;cases hi:isR L E s t with
 |false=>rw[hi]at h;simp only[if_true]at h;rw[A6l]at h;grind
 |true=>simp
theorem A5c{s:Rd}{k:Int}(h:okR (A8 L E s k).2=true):K2 L E s k=true/\A8 L E s k=(B8 L E s,A7 s):=by
 unfold A8 at h ⊢;cases hi:K2 L E s k with
 |false=>rw[hi]at h;simp only[if_true]at h;rw[A6l]at h;grind
 |true=>simp
theorem H8{s:Rd}:∀ {l:List (List UInt8)} {k:Nat},0<=A1m L E s k l->okR s=true/\s.i<L.length/\(k:Int)<=A1m L E s k l/\A1m L E s k l<(k+l.length:Nat)
 |[],k,h=>by trivial
 |t :: l,k,h=>by
  unfold A1m at h ⊢;cases hi:isR L E s t with
  |true =>
   rw[if_pos rfl];obtain⟨h1,h2⟩:=A2c hi
   grind
  |false =>
   rw[hi]at h;simp only[A1U,if_false]at h ⊢;obtain⟨h1,h2,h3,h4⟩:=H8 h
   grind
end
structure RI (L:List Tok) (s:Rd):Prop where
 i:s.i<=L.length
 o0:0<=s.ops
 o1:s.ops<=33
 o2:okR s=true->s.ops<=32
 p0:0<=s.par
 p1:s.par<=16
section
variable {L:List Tok} {E:Int}
theorem RI.fail{s:Rd}{p e:Int}(he:e≠0)(h:RI L s):RI L (N0 s p e)/\(N0 s p e).par=s.par:=by
 have hk:=B3y (s:=s) (p:=p) he;have e1:(N0 s p e).i=s.i:=by unfold N0;grind
 have e2:(N0 s p e).ops=s.ops:=by unfold N0;grind
 have e3:(N0 s p e).par=s.par:=by unfold N0;grind
 exact⟨⟨by rw[e1];exact h.i,by rw[e2];exact h.o0,by rw[e2];exact h.o1,(fun k=>by grind),by rw[e3];exact h.p0,by rw[e3];exact h.p1⟩,e3⟩
theorem RI.syn{s:Rd}(h:RI L s):RI L (Q1 L E s)/\(Q1 L E s).par=s.par:=h.fail (by simp)
theorem RI.lim{s:Rd}{n m e:Int}(he:e≠0)(h:RI L s):RI L (C9 L E s n m e)/\(C9 L E s n m e).par=s.par:=by
 unfold C9;split
 ·exact h.fail he
 grind
theorem RI.nxt{s:Rd}(h:RI L s)(hi:s.i<L.length):RI L (A7 s):=⟨hi,h.o0,h.o1,h.o2,h.p0,h.p1⟩
theorem RI.exp{s:Rd}{x:List UInt8}(h:RI L s):RI L (E1 L E s x)/\(E1 L E s x).par=s.par:=by
 unfold E1;cases k:isR L E s x with
 |false=>rw[if_pos rfl];exact h.syn
 |true=>rw[if_neg (by simp)];exact⟨h.nxt (A2c k).2,rfl⟩
theorem RI.take{s:Rd}{x:Int}(hx:x≠0)(h:RI L s):RI L (A8 L E s x).2/\(A8 L E s x).2.par=s.par:=by
 unfold A8;cases k:K2 L E s x with
 |false=>rw[if_pos rfl];exact h.syn
 |true=>rw[if_neg (by simp)];exact⟨h.nxt (J8 hx (I3 k).2).2,rfl⟩
theorem RI.prim{s:Rd}(h:RI L s):RI L (J7 L E s).2/\(J7 L E s).2.par=s.par:=by
 unfold J7;dsimp only;split
 ·exact h.syn
 ·rename_i hc;have hok:okR s=true/\s.i<L.length:=by
   by_cases hk:0<=C0 L E s S7
   ·obtain⟨h1,h2, -⟩:=H8 hk;grind
   ·cases h3:K2 L E s 3 with
    |true=>exact⟨(I3 h3).1,(J8 (by simp) (I3 h3).2).2⟩
    |false =>
     cases h1:K2 L E s 1 with
     |true=>exact⟨(I3 h1).1,(J8 (by simp) (I3 h1).2).2⟩
     |false=>grind
  have h32:=h.o2 hok.1;have ho:=h.o0;obtain⟨s2,hs2⟩:∃ s2,s2=C9 L E { s with ops:=s.ops+1 } (s.ops+1) 32 9:=⟨_,rfl⟩;rw[<- hs2];cases h2:okR s2 with
  |false =>
   rw[if_pos rfl];have e1:s2.i=s.i:=by rw[hs2];unfold C9 N0;grind
   have e2:s2.ops=s.ops+1:=by rw[hs2];unfold C9 N0;grind
   have e3:s2.par=s.par:=by rw[hs2];unfold C9 N0;grind
   refine⟨⟨?_,?_,?_,(fun k=>by rw[h2]at k;cases k),?_,?_⟩,e3⟩<;>dsimp only
   ·omega
   ·omega
   ·omega
   ·rw[e3];exact h.p0
   ·rw[e3];exact h.p1
  |true =>
   rw[if_neg (by simp)];rw[hs2]at h2;obtain⟨-,h4,h5⟩:=H3 (by simp) h2;rw[h5]at hs2;have h3:RI L (A7 s2):=by
    rw[hs2];exact⟨hok.2,by show 0<=s.ops+1;omega,by show s.ops+1<=33;omega,fun _=>h4,h.p0,h.p1⟩
   have hp:(A7 s2).par=s.par:=by rw[hs2];rfl
   repeat' split
   ·exact⟨(h3.take (by simp)).1,(h3.take (by simp)).2.trans hp⟩
   all_goals exact⟨h3,hp⟩
theorem RI.all:∀ f:Nat,(∀ n s r,L5 L E f n s=some r->RI L s->RI L r.2/\r.2.par=s.par)/\(∀ n e s r,U1 L E f n e s=some r->RI L s->RI L r.2/\r.2.par=s.par)/\(∀ s r,Y9 L E f s=some r->RI L s->RI L r.2/\r.2.par=s.par)
 |0=>⟨fun n s r h=>by trivial,fun n e s r h=>by trivial,fun s r h=>by trivial⟩
 |f+1=>by
  obtain⟨i1,i2,i3⟩:=RI.all f;refine⟨fun n s r h k=>?_,fun n e s r h k=>?_,fun s r h k=>?_⟩
  ·unfold L5 at h
   grind
  ·unfold U1 at h;dsimp only at h;split at h
   ·grind
   ·rename_i hk;have hk0:0<=C0 L E s D9:=Classical.byContradiction fun g=>hk (.inl (by omega));obtain⟨-,hi, -⟩:=H8 hk0;cases hb:L5 L E f (n+1) (A7 s) with
    |none=>grind
    |some q =>
     obtain⟨x,s1⟩:=q;rw[hb]at h;obtain⟨a1,a2⟩:=i1 _ _ _ hb (k.nxt hi);dsimp only at h;split at h
     ·cases h;trivial
     ·obtain⟨b1,b2⟩:=i2 _ _ _ _ h a1;exact⟨b1,b2.trans a2⟩
  ·unfold Y9 at h;dsimp only at h;split at h
   ·cases h;exact k.prim
   ·rename_i hk;have hk0:0<=C0 L E s Q2:=by omega
    obtain⟨-,hi, -⟩:=H8 hk0;split at h
    ·cases h;exact k.lim (by simp)
    ·rename_i hl;have hl:okR (C9 L E s (s.par+1) 16 50)=true:=by simpa using hl
     obtain⟨h1,h2,h3⟩:=H3 (by decide) hl;rw[h3]at h;have k2:RI L { s with i:=s.i+1,par:=s.par+1 }:=⟨hi,k.o0,k.o1,k.o2,by have:=k.p0;show 0<=s.par+1;omega,h2⟩;have fin:∀ z:Rd,RI L z->z.par=s.par+1->RI L { z with par:=z.par-1 }/\z.par-1=s.par:=fun z hz hp =>
      ⟨⟨hz.i,hz.o0,hz.o1,hz.o2,by have:=k.p0;show 0<=z.par-1;omega,by have:=k.p1;show z.par-1<=16;omega⟩,by omega⟩
     split at h
     ·cases hb:L5 L E f 1 { s with i:=s.i+1,par:=s.par+1 } with
      |none=>rw[hb]at h;cases h
      |some q =>
       obtain⟨e,s3⟩:=q;rw[hb]at h;cases h;obtain⟨a1,a2⟩:=i1 _ _ _ hb k2;obtain⟨b1,b2⟩:=a1.exp (E:=E) (x:=[41]);exact fin _ b1 (b2.trans a2)
     grind
theorem C8q{s:Rd}{p e:Int}:(N0 s p e).i=s.i:=by unfold N0;grind
theorem T7{s:Rd}:(Q1 L E s).i=s.i:=C8q
theorem G8{s:Rd}{n m e:Int}:(C9 L E s n m e).i=s.i:=by unfold C9;split;exact C8q;rfl
theorem K1{s:Rd}{x:List UInt8}(h:s.i<=L.length):(E1 L E s x).i<=L.length:=by
 unfold E1;cases k:isR L E s x with
 |false=>rw[if_pos rfl,T7];omega
 |true=>rw[if_neg (by simp)];exact (A2c k).2
theorem M5{s:Rd}{x:Int}(hx:x≠0)(h:s.i<=L.length):(A8 L E s x).2.i<=L.length:=by
 unfold A8;cases k:K2 L E s x with
 |false=>rw[if_pos rfl,T7];omega
 |true=>rw[if_neg (by simp)];exact (J8 hx (I3 k).2).2
theorem R3{f:Nat}{s:Rd}{r:Ex × Rd}(h:R4 L E f s=some r)(hi:s.i<=L.length):r.2.i<=L.length :=
 ((RI.all f).1 1 { s with ops:=0,par:=0 } r h ⟨hi,A3G 0,(by simp:(0:Int)<=33),fun _=>(by simp:(0:Int)<=32),A3G 0,(by simp:(0:Int)<=16)⟩).1.i
theorem D5s{f:Nat}{k p:Int}{s:Rd}{r:St × Rd}(h:N1 L E f k p s=some r)(hi:s.i<=L.length):r.2.i<=L.length:=by
 unfold N1 at h;dsimp only at h;split at h
 ·split at h
  ·grind
  ·rename_i he;cases h;exact K1 (R3 he hi)
 split at h
 ·split at h
  ·grind
  ·rename_i he;cases h;exact K1 (R3 he (K1 (M5 (by simp) hi)))
 split at h
 ·cases h;exact K1 hi
 have h0:=M5 (E:=E) (x:=1) (by simp) hi;split at h
 ·split at h
  ·grind
  ·rename_i he;split at h
   ·split at h
    ·grind
    ·rename_i he2;cases h;exact K1 (R3 he2 (K1 (R3 he h0)))
   ·cases h;exact K1 (R3 he h0)
 ·cases h;exact K1 h0
theorem D5u{f:Nat}{d:Int}{s:Rd}{r:St × Rd}(h:V8 L E f d s=some r)(ho:okR s=false):okR r.2=false:=by
 cases f with
 |zero=>trivial
 |succ f =>
  have hl:okR (C9 L E s d 8 50)=false:=by
   cases k:okR (C9 L E s d 8 50) with
   |false=>rfl
   |true=>rw[(H3 (by decide) k).1]at ho;cases ho
  unfold V8 at h
  grind
theorem II.all:∀ f:Nat,(∀ d s r,P9 L E f d s=some r->s.i<=L.length->r.2.i<=L.length)/\(∀ d l s r,V7 L E f d l s=some r->s.i<=L.length->r.2.i<=L.length)/\(∀ d s r,V8 L E f d s=some r->s.i<=L.length->r.2.i<=L.length)/\(∀ d s r,V5 L E f d s=some r->s.i<=L.length->r.2.i<=L.length)
 |0=>⟨fun d s r h=>by trivial,fun d l s r h=>by trivial,fun d s r h=>by trivial,fun d s r h=>by trivial⟩
 |f+1=>by
  obtain⟨i1,i2,i3,i4⟩:=II.all f;refine⟨fun d s r h k=>?_,fun d l s r h k=>?_,fun d s r h k=>?_,fun d s r h k=>?_⟩
  ·unfold P9 at h;exact i2 _ _ _ _ h (K1 k)
  ·unfold V7 at h;split at h
   ·split at h
    ·cases h;rw[T7];omega
    ·split at h
     ·grind
     ·rename_i he;exact i2 _ _ _ _ h (i3 _ _ _ he (by rw[G8];omega))
   ·cases h;exact K1 k
  ·unfold V8 at h;dsimp only at h;split at h
   ·cases h;rw[G8];omega
   ·split at h
    ·split at h
     ·grind
     ·rename_i he;cases h;exact K1 (R3 he (K1 (M5 (by simp) (by rw[G8];omega))))
    ·rename_i hk;have hn:(A7 (C9 L E s d 8 50)).i<=L.length:=(H8 (show 0<=C0 L E (C9 L E s d 8 50) B9 by omega)).2.1;split at h
     ·split at h
      ·grind
      ·rename_i he;split at h
       ·grind
       ·rename_i hb;have h3:=i1 _ _ _ hb (R3 he hn);split at h
        ·rename_i hc;split at h
         ·cases h
         ·rename_i ho;cases h;exact i4 _ _ _ ho (A2c hc.2).2
        grind
     ·exact D5s h hn
  ·unfold V5 at h
   grind
end
end Go.Pb
namespace Go.Sym
variable [Go.Sym.Tab]
variable {P:Program}
theorem AC.own{f:Nat}{args:List DV}{V:Nat->DV}{u:Nat}{cs:List DV}(h:AC P f args nil 0 (fun v H' _ => ∃ id,v=V id/\H'=nil.upd id ⟨u,true,cs⟩))(hn:DV.nlL args=true)(hcs:∀ d∈cs,d.nl=true)
  (hV:∀ (ρ ρ':Ren) (id id':Nat) (v:Value), ρ.nm id = ρ'.nm id'->((∀ b r, ρ.fz b=some r -> ρ'.fz b=some r)/\∀ b r, ρ.fm b=some r -> ρ'.fm b=some r)->VRel ρ (V id) v->VRel ρ' (V id') v) (H:Hp) (c:Nat) :
  AC P f args H c (fun v H' c'=>v=V c/\H'=H.upd c ⟨u,true,cs⟩/\c'=c+1):=by
 refine⟨h.1,fun ρ w vs hR hf hA=>?_⟩;refine (h.2 ⟨fun _=>none, ρ.fz, ρ.tab, ρ.fm⟩ w vs hR.nil (fun _ _=>rfl) (hA.nl (ρ := ρ) (ρ':=⟨fun _=>none, ρ.fz, ρ.tab, ρ.fm⟩) (fun _ _ h=>h) (fun _ _ h=>h) hn)).mono ?_;rintro e w' ⟨v,v',H1,c1, ρ1,rfl,⟨id,rfl,rfl⟩,d⟩;have hb:=d.ext.below (fun id b hb=>by cases hb);obtain⟨b1,b2,b3,b4,b5⟩:=hb;obtain⟨t,ht,hbr⟩:=d.rep.blk id _ h_same;have hsz:w.heap.size<=t.block:=by
  rcases d.ext.mine id _ t h_same ht with h1|⟨i,b0,t0,e1, -⟩
  ·exact h1
  trivial
 obtain⟨ρ2,hρ⟩:∃ ρ2:Ren, ρ2=⟨fun j=>if j=c then some t else ρ.nm j, ρ1.fz, ρ1.tab, ρ1.fm⟩:=⟨_,rfl⟩;have n1 : ρ2.nm c=some t:=by simp_all
 have n2:∀ {j},¬ j=c -> ρ2.nm j = ρ.nm j:=fun {j} hj=>by simp_all
 have n3 : ρ2.fz = ρ1.fz:=by grind
 have n4 : ρ2.fm = ρ1.fm:=by grind
 have hle : ρ.le ρ2:=⟨fun j x hj=>by
  grind,fun b r hb=>by rw[n3];exact d.ext.le.fz b r hb,fun b r hb=>by rw[n4];exact d.ext.le.fm b r hb⟩
 refine⟨V c,v',_,_, ρ2,rfl,⟨rfl,rfl,rfl⟩,hV ρ1 ρ2 id c v' (by grind) ⟨fun b r hb=>by grind,fun b r hb=>by grind⟩ d.val,?_,fun j hj=>by grind,by omega,
  fun j hj hne=>by rw[hnO]at hne;omega,fun j hj=>n2 (by omega),?_⟩
 ·refine⟨fun j b hb=>?_,fun i j bi bj ti tj hi hj hij h1 h2 ho=>?_,by rw[n3];exact d.rep.frz,fun j b t2 hb ho ht2=>?_,fun k es hk=>?_⟩
  ·by_cases e:j=c
   ·subst e;rw[h_same]at hb;cases hb;refine⟨t,n1,?_⟩;rcases hbr with ⟨gm,c0,e0,fr,g1,g2,g3,g4,g5,g6⟩|⟨-, -, -,es,cl,kd,ks,vs', -,g2, -⟩
    case inr =>
     simp only at g2;subst g2;have:=hcs _ A0H
     trivial
    refine .inl ⟨gm,c0,e0,fr,g1,g2,g3,g4,fun i x hx=>?_,g6⟩;obtain⟨q1,x',q2,q3⟩:=g5 i x hx;exact⟨q1,x',q2,q3.nl (ρ := ρ1) (ρ' := ρ2) (fun b r hb=>by grind) (fun b r hb=>by grind) (hcs x (A0U hx))⟩
   ·rw[h_ne e]at hb;obtain⟨t2,ht2,hb2⟩:=hR.blk j b hb;exact⟨t2,by grind,(hb2.mono hle).world (b5 _ hb2.lt)⟩
  ·by_cases e1:i=c
   ·subst e1;have e2:¬ j=i:=fun e=>hij e.symm;rw[h_ne e2]at hj;rw[n1]at h1;cases h1;rw[n2 e2]at h2;have:=(hR.blk j bj hj);obtain⟨t2,ht2,hb2⟩:=this;rw[h2]at ht2;cases ht2;have:=hb2.lt;omega
   ·rw[h_ne e1]at hi;rw[n2 e1]at h1;by_cases e2:j=c
    ·subst e2;rw[n1]at h2;cases h2;obtain⟨t2,ht2,hb2⟩:=hR.blk i bi hi;rw[h1]at ht2;cases ht2;have:=hb2.lt;omega
    ·rw[h_ne e2]at hj;rw[n2 e2]at h2;exact hR.sep i j bi bj ti tj hi hj hij h1 h2 ho
  ·rw[n3];by_cases e:j=c
   ·subst e;rw[h_same]at hb;cases hb;rw[n1]at ht2;cases ht2;exact d.rep.dis id _ t h_same rfl ht
   ·rw[h_ne e]at hb;rw[n2 e]at ht2;cases hf1 : ρ1.fz t2.block with
    |none=>rfl
    |some r =>
     rcases d.ext.fzn _ _ hf1 with h1|h1|⟨i,b0,t0,e1, -⟩
     ·rw[hR.dis j b t2 hb ho ht2]at h1;cases h1
     ·have:=(hR.lookb hb ht2).lt;omega
     trivial
  ·rw[n4]at hk;refine⟨(d.rep.frm k es hk).1,fun j b t2 hb ho ht2=>?_⟩;by_cases e:j=c
   ·subst e;rw[h_same]at hb;cases hb;rw[n1]at ht2;cases ht2;exact (d.rep.frm k es hk).2 id _ t h_same rfl ht
   ·rw[h_ne e]at hb;rw[n2 e]at ht2;rcases d.ext.fmn _ _ hk with h1|h1|⟨i,b0,t0,e1, -⟩
    ·exact (hR.frm k es h1).2 j b t2 hb ho ht2
    ·have:=(hR.lookb hb ht2).lt;omega
    trivial
 ·refine⟨hle,b1,b2,b3,b4,fun k hk _=>b5 k hk,fun j b t2 h1 h2=>?_,fun k r hk=>?_,fun k r hk=>?_⟩
  ·by_cases e:j=c
   ·grind
   ·rw[h_ne e]at h1
    grind
  ·rw[n3]at hk;rcases d.ext.fzn k r hk with h1|h1|⟨i,b0,t0,e1, -⟩
   ·exact .inl h1
   ·exact .inr (.inl h1)
   trivial
  ·rw[n4]at hk;rcases d.ext.fmn k r hk with h1|h1|⟨i,b0,t0,e1, -⟩
   ·exact .inl h1
   ·exact .inr (.inl h1)
   trivial
section
open Go.Eng (IC)
variable {N:Nat} {x:IC} {T:Tm} {H:Hp} {c:Nat} {Q:Exit->St->Prop}
theorem IW.gl{s:St}(h:IW P N x s (fun e s'=>Q e s'\/∃ (ks:List Nat) (ds':List DV) (H2:Hp),GL s'.H (ks.map s'.T) H2 ds'/\Q e ⟨tm (ks.zip ds'),H2,s'.c⟩)):IW P N x s Q:=by
 intro hm cd hc ρ a w hS;refine wp_mono (h hm cd hc ρ a w hS) fun e a' w' hq=>?_;obtain⟨ρ2,s2,q,hS2,hst⟩:=hq;rcases q with q|⟨ks,ds',H2,g,q⟩
 ·exact⟨ρ2,s2,q,hS2,hst⟩
 have hA:F7 ρ2 (ks.map s2.T) ((ks.map fun k=>a'.tmps.getD k undef)).toArray:=by
  refine⟨by simp,fun i x y hx hy=>?_⟩;simp only[A1N,A0Z,A2B]at hx hy;obtain⟨k,hk,rfl⟩:=hx;obtain⟨k',hk',rfl⟩:=hy;rw[hk]at hk';cases hk';exact hS2.tm k
 obtain⟨ρ1,e1,r1,a1,x1⟩:=g.2 ρ2 w' _ hS2.rep hA;refine⟨ρ1,⟨tm (ks.zip ds'),H2,s2.c⟩,q,⟨C5j fun i k d hk hd=>a1.2 i d _ hd (by grind),r1,by rw[e1];exact hS2.fresh,hS2.size,hS2.dfr⟩,?_⟩;exact⟨hst.up,fun id hid hne=>hst.dom id hid (g.1 id hne),fun id hid=>by rw[e1];exact hst.same id hid,hst.ext.trans x1⟩
theorem B4w:∀ {L:List (Nat × DV)} {T:Tm},C1 L T->(L.map Prod.fst).map T=L.map Prod.snd
 |[],_,_=>rfl
 |(k,v) :: r,T,⟨h1,h2⟩=>by simp only[A0Q,h1,B4w h2]
theorem D4t(L:List (Nat × DV)):(L.map Prod.fst).zip (L.map Prod.snd)=L:=by
 induction L with
 |nil=>rfl
 |cons a r ih=>grind
def lpG{σ : Type}(L : σ -> List (Nat × DV))(h : σ -> Hp)(I : σ -> Nat->Prop)(μ : σ -> Nat)(m:Nat)(Q:Exit->St->Prop):Exit->St->Prop
 |.normal,⟨T,H,c⟩ => ∃ b,C1 (L b) T/\GL H ((L b).map Prod.snd) (h b) ((L b).map Prod.snd)/\I b c /\ μ b<m
 |e,s=>Q e s
theorem D2i{σ : Type}(L : σ -> List (Nat × DV))(h : σ -> Hp)(I : σ -> Nat->Prop)(μ : σ -> Nat)(a : σ)(hL:∀ b,C1 (L b) (tm (L b)))(h0:C1 (L a) T)(hH:Sub (h a) H)(hI:I a c)
  (step:∀ a c,I a c->IW P N x ⟨tm (L a),h a,c⟩ (lpG L h I μ (μ a) Q)):IW P N (.loop x) ⟨T,H,c⟩ Q:=by
 refine A9 L h I μ a h0 hH hI fun a c hI=>IW.gl ((step a c hI).mono fun e s' q=>?_);obtain⟨T',H',c'⟩:=s';cases e with
 |normal =>
  obtain⟨b,q1,q2,q3,q4⟩:=q;refine .inr ⟨(L b).map Prod.fst,(L b).map Prod.snd,h b,by rw[B4w q1];omega,?_⟩;rw[D4t];exact⟨b,hL b,Sub.refl _,q3,q4⟩
 |_=>exact .inl q
theorem E1l{σ : Type}{L : σ -> List (Nat × DV)}{h : σ -> Hp}{I : σ -> Nat->Prop}{μ : σ -> Nat}{m:Nat}:lpG L h I μ m Q .normal ⟨T,H,c⟩ = ∃ b,C1 (L b) T/\GL H ((L b).map Prod.snd) (h b) ((L b).map Prod.snd)/\D3o I b c /\ μ b<m:=propext Iff.rfl
theorem E1k{σ : Type}{L : σ -> List (Nat × DV)}{h : σ -> Hp}{I : σ -> Nat->Prop}{μ : σ -> Nat}{m:Nat}:lpG L h I μ m Q .ret ⟨T,H,c⟩=Q .ret ⟨T,H,c⟩:=propext Iff.rfl
end
section
open Go.Eng (AOp)
variable {c0:Nat} {T:Tm} {H:Hp}
def agN(T:Tm)(H:Hp)(d n:Nat):Option (Option Nat × Blk)->Prop
 |some (k,b)=>T d=mkv n k/\H n=some b
 |none=>False
theorem E3r{j d:Nat}{f:AOp}:agK c0 j T H (some d) (.new f) (some true)=agN T H d (c0+j) (aev (ev T) f):=by
 simp only[agK,agN]
 grind
theorem E3s{d n:Nat}{k:Option Nat}{b:Blk}:agN T H d n (some (k,b))=(T d=mkv n k/\H n=some b):=propext Iff.rfl
end
attribute [go_sem] E3r E3s
attribute [go_sem] E1l E1k
end Go.Sym
namespace Go.Pb
variable [Go.Sym.Tab]
open Go.Sym
section
variable {L:List Tok} {E:Int}
theorem D4l{k:Int}{s:Rd}(hi:s.i<L.length):(T2 L E k s).2.i<=L.length:=by
 have hn:(A7 s).i<=L.length:=hi;have h2:=M5 (E:=E) (x:=1) (by decide) hn;unfold T2;dsimp only;split
 ·refine K1 (M5 (by decide) ?_);split
  ·rename_i hm;rw[A0F]at hm;exact (A2c hm.2).2
  ·exact h2
 ·exact K1 h2
theorem D3x:∀ (f:Nat) (l:List Hd) (s:Rd) (r:List Hd × Rd),Z0 L E f l s=some r->s.i<=L.length->r.2.i<=L.length
 |0,l,s,r,h,hi=>by simp[Z0]at h
 |f+1,l,s,r,h,hi=>by
  unfold Z0 at h;dsimp only at h;split at h
  ·split at h
   ·cases h;rw[T7];exact hi
   ·have h1:(C9 L E s ((l.length:Int)+1) 32 9).i<=L.length:=by rw[G8];exact hi
    have h2:=K1 (E:=E) (x:=[111,110]) h1;split at h
    ·cases h;rw[T7];exact h2
    ·rename_i hk;have h3:(A7 (E1 L E (C9 L E s ((l.length:Int)+1) 32 9) [111,110])).i<=L.length:=(H8 (show 0<=C0 L E (E1 L E (C9 L E s ((l.length:Int)+1) 32 9) [111,110]) E9 by omega)).2.1;split at h
     ·cases h
     ·rename_i hb;refine D3x f _ _ _ h ((II.all f).1 _ _ _ hb ?_);split
      ·exact M5 (by decide) h3
      ·exact h3
  ·cases h;exact K1 hi
theorem D3w{f:Nat}{s:Rd}{r:Md × Rd}(h:A5l L E f s=some r)(hi:s.i<=L.length):r.2.i<=L.length:=by
 unfold A5l at h;dsimp only at h;split at h
 ·cases h
 ·rename_i hm;cases h;exact D3x f _ _ _ hm (K1 (M5 (by decide) (M5 (by decide) (K1 hi))))
theorem C6c:∀ (f:Nat) (l:List Dc) (s:Rd) (r:List Dc × Rd),W0 L E f l s=some r->s.i<=L.length->r.2.i<=L.length
 |0,l,s,r,h,hi=>by simp[W0]at h
 |f+1,l,s,r,h,hi=>by
  unfold W0 at h;dsimp only at h;split at h
  ·cases h;exact hi
  ·rename_i hk;have hlt:=(H8 (show 0<=C0 L E s E5 by omega)).2.1;split at h
   ·exact C6c f _ _ _ h (D4l (by rw[G8];exact hlt))
   ·exact C6c f _ _ _ h (by rw[G8];exact hi)
theorem C6b:∀ (f:Nat) (l:List Md) (s:Rd) (r:List Md × Rd),V1 L E f l s=some r->s.i<=L.length->r.2.i<=L.length
 |0,l,s,r,h,hi=>by simp[V1]at h
 |f+1,l,s,r,h,hi=>by
  unfold V1 at h;dsimp only at h;split at h
  ·split at h
   ·cases h;rw[T7];exact hi
   ·split at h
    ·split at h
     ·cases h
     ·rename_i hm;exact C6b f _ _ _ h (D3w hm (by rw[G8];exact hi))
    ·exact C6b f _ _ _ h (by rw[G8];exact hi)
  ·cases h;exact hi
end
def T0:Tok:=⟨0,[],0,0⟩
theorem D4k{g:Bool}{a b d a' b' d':Int}{s t:List UInt8}:B0f g [0,2,0,0] (.agg [I64 a,.str s,I64 b,I64 d]) (.agg [I64 a',.str t,I64 b',I64 d'])=some (.bool (g != (a == a' && (s == t && (b == b' && d == d'))))):=by
 simp only[B0f,O2,A2m,if_true];cases h1:a == a'<;>cases h2:s == t<;>cases h3:b == b'<;>cases h4:d == d'<;>simp
def Evt{α : Type}(g:Nat->Option α)(r : α):Prop:=∃ N, ∀ f,N<=f->g f=some r
theorem Evt.one{α : Type}{g:Nat->Option α}{r : α}(h:∀ f,g (f+1)=some r):Evt g r :=
 ⟨1,fun f hf=>by obtain⟨k,rfl⟩:∃ k,f=k+1:=⟨f-1,by omega⟩;grind⟩
theorem Evt.ext{α β : Type}{g:Nat->Option α}{h:Nat->Option β}{r : α}{q : β}(hg:Evt g r)(e:∀ f,g f=some r->h (f+1)=some q):Evt h q:=by
 obtain⟨N,hg⟩:=hg;exact⟨N+1,fun f hf=>by obtain⟨k,rfl⟩:∃ k,f=k+1:=⟨f-1,by omega⟩;grind⟩
theorem Evt.map{α β : Type}{g:Nat->Option α}{h:Nat->Option β}{r : α}{q : β}(hg:Evt g r)(e:∀ f,g f=some r->h f=some q):Evt h q:=by
 obtain⟨N,hg⟩:=hg;exact⟨N,fun f hf=>e f (hg f hf)⟩
theorem Evt.and{α β : Type}{g:Nat->Option α}{h:Nat->Option β}{r : α}{q : β}(hg:Evt g r)(hh:Evt h q):Evt (fun f=>match g f,h f with|some a,some b=>some (a,b)|_,_=>none) (r,q):=by
 obtain⟨N,hg⟩:=hg;obtain⟨M,hh⟩:=hh;exact⟨max N M,fun f hf=>by grind⟩
theorem Evt.ext2{α β γ : Type}{g:Nat->Option α}{h:Nat->Option β}{k:Nat->Option γ}{r : α}{q : β}{w : γ}(hg:Evt g r)(hh:Evt h q)(e:∀ f,g f=some r->h f=some q->k (f+1)=some w):Evt k w:=by
 obtain⟨N,hg⟩:=hg;obtain⟨M,hh⟩:=hh;exact⟨max N M+1,fun f hf=>by obtain⟨j,rfl⟩:∃ j,f=j+1:=⟨f-1,by omega⟩;grind⟩
theorem Evt.map2{α β γ : Type}{g:Nat->Option α}{h:Nat->Option β}{k:Nat->Option γ}{r : α}{q : β}{w : γ}(hg:Evt g r)(hh:Evt h q)(e:∀ f,g f=some r->h f=some q->k f=some w):Evt k w:=by
 obtain⟨N,hg⟩:=hg;obtain⟨M,hh⟩:=hh;exact⟨max N M,fun f hf=>e f (hg f (by omega)) (hh f (by omega))⟩
theorem Evt.uniq{α : Type}{g:Nat->Option α}{r q : α}(h1:Evt g r)(h2:Evt g q):r=q:=by
 obtain⟨N,h1⟩:=h1;obtain⟨M,h2⟩:=h2;exact Option.some.inj ((h1 (max N M) (by omega)).symm.trans (h2 (max N M) (by omega)))
theorem Evt.get{α : Type}{g:Nat->Option α}{r : α}(h:Evt g r):∃ f,g f=some r:=by
 obtain⟨N,h⟩:=h;exact⟨N,h N (A0E _)⟩
section
variable {L:List Tok} {E:Int}
abbrev Bin(L:List Tok)(E n:Int)(s:Rd)(r:Ex × Rd):Prop:=Evt (fun f=>L5 L E f n s) r
abbrev Lop(L:List Tok)(E n:Int)(e:Ex)(s:Rd)(r:Ex × Rd):Prop:=Evt (fun f=>U1 L E f n e s) r
abbrev Un(L:List Tok)(E:Int)(s:Rd)(r:Ex × Rd):Prop:=Evt (fun f=>Y9 L E f s) r
theorem Bin.un{n:Int}{s:Rd}{r:Ex × Rd}(hn:5<n)(h:Un L E s r):Bin L E n s r :=
 h.ext fun f h=>by rw[L5,if_pos hn];omega
theorem Bin.go{n:Int}{s s1:Rd}{e:Ex}{r:Ex × Rd}(hn:n<=5)(h:Bin L E (n+1) s (e,s1))(h2:Lop L E n e s1 r):Bin L E n s r :=
 h.ext2 h2 fun f h h2=>by rw[L5,if_neg (by omega),h];omega
theorem Lop.stop{n:Int}{e:Ex}{s:Rd}(h:C0 L E s D9<0\/B6 (12+C0 L E s D9)≠n):Lop L E n e s (e,s) :=
 Evt.one fun f=>by rw[U1];grind
theorem Lop.three{n:Int}{e x:Ex}{s s1:Rd}(h0:0<=C0 L E s D9)(h1:B6 (12+C0 L E s D9)=n)(hn:n=3)(hb:Bin L E (n+1) (A7 s) (x,s1)):Lop L E n e s (.mk (12+C0 L E s D9) 0 [] [e,x] (B8 L E s).pos,s1) :=
 hb.ext fun f h=>by rw[U1];grind
theorem Lop.more{n:Int}{e x:Ex}{s s1:Rd}{r:Ex × Rd}(h0:0<=C0 L E s D9)(h1:B6 (12+C0 L E s D9)=n)(hn:n≠3)(hb:Bin L E (n+1) (A7 s) (x,s1))(hl:Lop L E n (.mk (12+C0 L E s D9) 0 [] [e,x] (B8 L E s).pos) s1 r):Lop L E n e s r :=
 hb.ext2 hl fun f h h2=>by rw[U1];grind
theorem Un.prim{s:Rd}(h:C0 L E s Q2<0):Un L E s (J7 L E s) :=
 Evt.one fun f=>by rw[Y9];grind
theorem Un.bad{s:Rd}(h:0<=C0 L E s Q2)(hl:okR (C9 L E s (s.par+1) 16 50)=false):Un L E s (Ex0,C9 L E s (s.par+1) 16 50) :=
 Evt.one fun f=>by rw[Y9];grind
theorem Un.par{s s3:Rd}{e:Ex}(h:C0 L E s Q2=2)(hl:okR (C9 L E s (s.par+1) 16 50)=true)(hb:Bin L E 1 { s with i:=s.i+1,par:=s.par+1 } (e,s3)):Un L E s (e, { E1 L E s3 [41] with par:=(E1 L E s3 [41]).par-1 }) :=
 hb.ext fun f hf=>by
  have e0:=(H3 (by decide) hl).2.2;rw[Y9];grind
theorem Un.pre{s s3:Rd}{e:Ex}(h0:0<=C0 L E s Q2)(h:C0 L E s Q2≠2)(hl:okR (C9 L E s (s.par+1) 16 50)=true)(hb:Un L E { s with i:=s.i+1,par:=s.par+1 } (e,s3)):Un L E s (.mk (10+C0 L E s Q2) 0 [] [e] (B8 L E s).pos, { s3 with par:=s3.par-1 }) :=
 hb.ext fun f hf=>by
  have e0:=(H3 (by decide) hl).2.2;rw[Y9];grind
theorem E8{s:Rd}{x:List UInt8}:s.i<=(E1 L E s x).i:=by
 unfold E1;cases k:isR L E s x with
 |false=>rw[if_pos rfl,T7];omega
 |true=>rw[if_neg (by simp)];exact A2Q _
theorem I9{s:Rd}{x:Int}:s.i<=(A8 L E s x).2.i:=by
 unfold A8;cases k:K2 L E s x with
 |false=>rw[if_pos rfl];show s.i<=(Q1 L E s).i;rw[T7];omega
 |true=>rw[if_neg (by simp)];exact A2Q _
theorem C0u{s:Rd}:s.i<=(J7 L E s).2.i:=by
 unfold J7;dsimp only;have h2:(C9 L E { s with ops:=s.ops+1 } (s.ops+1) 32 9).i=s.i:=G8;have h3:(A7 (C9 L E { s with ops:=s.ops+1 } (s.ops+1) 32 9)).i=s.i+1:=by show (C9 L E { s with ops:=s.ops+1 } (s.ops+1) 32 9).i+1=_;omega
 split
 ·show s.i<=(Q1 L E s).i;rw[T7];omega
 ·split
  ·grind
  ·have:=I9 (L:=L) (E:=E) (s:=A7 (C9 L E { s with ops:=s.ops+1 } (s.ops+1) 32 9)) (x:=1)
   grind
theorem ET.all:∀ (m:Nat),(∀ s:Rd,L.length-s.i<=m->∃ r,Un L E s r/\s.i<=r.2.i)/\(∀ (n:Int) e (s:Rd),n<=5->1<=n->L.length-s.i<=m->∃ r,Lop L E n e s r/\s.i<=r.2.i)/\(∀ (n:Int) (s:Rd),1<=n->L.length-s.i<=m->∃ r,Bin L E n s r/\s.i<=r.2.i):=by
 intro m
 induction m using Nat.strongRecOn with
 |_ m ih =>
  have A:∀ s:Rd,L.length-s.i<=m->∃ r,Un L E s r/\s.i<=r.2.i:=by
   intro s hs;by_cases hk:C0 L E s Q2<0
   ·exact⟨_,Un.prim hk,C0u⟩
   ·obtain⟨-,hi, -⟩:=H8 (show 0<=C0 L E s Q2 by omega);cases hl:okR (C9 L E s (s.par+1) 16 50) with
    |false=>exact⟨_,Un.bad (by omega) hl,by show s.i<=(C9 L E s (s.par+1) 16 50).i;rw[G8];omega⟩
    |true =>
     by_cases h2:C0 L E s Q2=2
     ·obtain⟨⟨e,s3⟩,hb,hge⟩:=(ih (m-1) (by omega)).2.2 1 { s with i:=s.i+1,par:=s.par+1 } (by decide) (by show L.length-(s.i+1)<=m-1;omega);refine⟨_,Un.par h2 hl hb,?_⟩;have h4:=E8 (L:=L) (E:=E) (s:=s3) (x:=[41])
      grind
     ·obtain⟨⟨e,s3⟩,hb,hge⟩:=(ih (m-1) (by omega)).1 { s with i:=s.i+1,par:=s.par+1 } (by show L.length-(s.i+1)<=m-1;omega);refine⟨_,Un.pre (by omega) h2 hl hb,?_⟩
      grind
  have B:∀ (n:Int) e (s:Rd),n<=5->1<=n->L.length-s.i<=m->∃ r,Lop L E n e s r/\s.i<=r.2.i:=by
   intro n e s h5 h1 hs;by_cases hk:C0 L E s D9<0\/B6 (12+C0 L E s D9)≠n
   ·exact⟨_,Lop.stop hk,A0E _⟩
   ·have h0:0<=C0 L E s D9:=by omega
    obtain⟨-,hi, -⟩:=H8 h0;obtain⟨⟨x,s1⟩,hb,hge⟩:=(ih (m-1) (by omega)).2.2 (n+1) (A7 s) (by omega) (by show L.length-(s.i+1)<=m-1;omega);have hge:s.i+1<=s1.i:=hge;by_cases h3:n=3
    ·exact⟨_,Lop.three h0 (by omega) h3 hb,by grind⟩
    ·obtain⟨r,hl,hg2⟩:=(ih (m-1) (by omega)).2.1 n (.mk (12+C0 L E s D9) 0 [] [e,x] (B8 L E s).pos) s1 h5 h1 (by omega);exact⟨_,Lop.more h0 (by omega) h3 hb hl,by omega⟩
  refine⟨A,B,?_⟩;have C:∀ (j:Nat) (n:Int) (s:Rd),6-n<=j->1<=n->L.length-s.i<=m->∃ r,Bin L E n s r/\s.i<=r.2.i:=by
   intro j
   induction j with
   |zero =>
    intro n s hj h1 hs;obtain⟨r,h,hg⟩:=A s hs;exact⟨r,Bin.un (by omega) h,hg⟩
   |succ j ihj =>
    intro n s hj h1 hs;by_cases h5:5<n
    ·grind
    ·obtain⟨⟨e,s1⟩,h,hg⟩:=ihj (n+1) s (by omega) (by omega) hs;have hg:s.i<=s1.i:=hg;obtain⟨r,h2,hg2⟩:=B n e s1 (by omega) h1 (by omega);exact⟨r,Bin.go (by omega) h h2,by omega⟩
  exact fun n s h1 hs=>C (6-n).toNat n s (by omega) h1 hs
abbrev Xpn(L:List Tok)(E:Int)(s:Rd)(r:Ex × Rd):Prop:=Evt (fun f=>R4 L E f s) r
theorem A2s(s:Rd):∃ r,Xpn L E s r/\s.i<=r.2.i:=by
 obtain⟨r,h,hg⟩:=(ET.all (L:=L) (E:=E) (L.length-s.i)).2.2 1 { s with ops:=0,par:=0 } (by simp) (A0E _);exact⟨r,h,hg⟩
theorem C5l(k p:Int)(s:Rd):∃ r,Evt (fun f=>N1 L E f k p s) r/\s.i<=r.2.i:=by
 by_cases h4:k=4
 ·obtain⟨⟨e,s1⟩,h,hg⟩:=A2s (L:=L) (E:=E) s;exact⟨_,h.map fun f h=>by unfold N1;rw[if_pos h4,h],A1E hg E8⟩
 by_cases h18:k=18
 ·obtain⟨⟨e,s1⟩,h,hg⟩:=A2s (L:=L) (E:=E) (E1 L E (A8 L E s 4).2 [44]);exact⟨_,h.map fun f h=>by unfold N1;rw[if_neg h4,if_pos h18,h],A1E (A1E I9 (A1E E8 hg)) E8⟩
 by_cases h19:k=19
 ·exact⟨_,Evt.one fun f=>by unfold N1;rw[if_neg h4,if_neg h18,if_pos h19],E8⟩
 by_cases h8:k=8\/k=9\/k=10
 ·obtain⟨⟨e,s1⟩,h,hg⟩:=A2s (L:=L) (E:=E) (A8 L E s 1).2;by_cases h9:k=9
  ·obtain⟨⟨e2,s2⟩,h2,hg2⟩:=A2s (L:=L) (E:=E) (E1 L E s1 [44]);exact⟨_,h.map2 h2 fun f h h2=>by unfold N1;rw[if_neg h4,if_neg h18,if_neg h19];dsimp only;rw[if_pos h8,h];dsimp only;rw[if_pos h9,h2],A1E (A1E I9 (A1E hg (A1E E8 hg2))) E8⟩
  ·exact⟨_,h.map fun f h=>by unfold N1;rw[if_neg h4,if_neg h18,if_neg h19];dsimp only;rw[if_pos h8,h];dsimp only;rw[if_neg h9],A1E (A1E I9 hg) E8⟩
 ·exact⟨_,Evt.one fun f=>by unfold N1;rw[if_neg h4,if_neg h18,if_neg h19];dsimp only;rw[if_neg h8],A1E I9 E8⟩
abbrev A8f(L:List Tok)(E d:Int)(s:Rd)(r:List St × Rd):Prop:=Evt (fun f=>P9 L E f d s) r
abbrev A0g(L:List Tok)(E d:Int)(l:List St)(s:Rd)(r:List St × Rd):Prop:=Evt (fun f=>V7 L E f d l s) r
abbrev R8(L:List Tok)(E d:Int)(s:Rd)(r:St × Rd):Prop:=Evt (fun f=>V8 L E f d s) r
abbrev A8d(L:List Tok)(E d:Int)(s:Rd)(r:List St × Rd):Prop:=Evt (fun f=>V5 L E f d s) r
theorem A8f.mk{d:Int}{s:Rd}{r:List St × Rd}(h:A0g L E d [] (E1 L E s [123]) r):A8f L E d s r :=
 h.ext fun f h=>by assumption
theorem A0g.stop{d:Int}{l:List St}{s:Rd}(h:¬ (okR s=true/\isR L E s [125]=false)):A0g L E d l s (l,E1 L E s [125]) :=
 Evt.one fun f=>by rw[V7,if_neg h]
theorem A0g.bad{d:Int}{l:List St}{s:Rd}(h:okR s=true/\isR L E s [125]=false)(h2:C0 L E s B9<0/\K2 L E s 1=false):A0g L E d l s ([],Q1 L E s) :=
 Evt.one fun f=>by rw[V7,if_pos h,if_pos h2]
theorem A0g.more{d:Int}{l:List St}{s s1:Rd}{x:St}{r:List St × Rd}(h:okR s=true/\isR L E s [125]=false)(h2:¬ (C0 L E s B9<0/\K2 L E s 1=false))(hx:R8 L E d (C9 L E s ((l.length:Int)+1) 64 9) (x,s1))(hl:A0g L E d (l++[x]) s1 r):A0g L E d l s r :=
 hx.ext2 hl fun f hx hl=>by rw[V7,if_pos h,if_neg h2,hx];omega
theorem R8.bad{d:Int}{s:Rd}(h:okR (C9 L E s d 8 50)=false):R8 L E d s (St0,C9 L E s d 8 50) :=
 Evt.one fun f=>by rw[V8];grind
theorem R8.set{d:Int}{s s1:Rd}{e:Ex}(h:okR (C9 L E s d 8 50)=true)(hk:C0 L E s B9<0)(he:Xpn L E (E1 L E (A8 L E s 1).2 [61]) (e,s1)):R8 L E d s (.mk 1 (A8 L E s 1).1.text [] [e] [] [] (B8 L E s).pos,E1 L E s1 [59]) :=
 he.ext fun f hf=>by
  have e0:=(H3 (by decide) h).2.2;rw[V8];grind
theorem R8.els{d:Int}{s s2 s3 s4:Rd}{e:Ex}{t o:List St}(h:okR (C9 L E s d 8 50)=true)(hk:C0 L E s B9=0)(he:Xpn L E (A7 s) (e,s2))(ht:A8f L E (d+1) s2 (t,s3))(hi:isR L E s3 [101,108,115,101]=true)(ho:A8d L E d (A7 s3) (o,s4)):R8 L E d s (.mk 2 [] [] [e] t o (B8 L E s).pos,s4) :=
 (he.and ht).ext2 ho fun f hf h2=>by
  have e0:=(H3 (by simp) h).2.2;cases h3:R4 L E f (A7 s) with
  |none=>grind
  |some q =>
   cases h4:P9 L E f (d+1) s2 with
   |none=>grind
   |some w =>
    rw[h3,h4]at hf;obtain⟨rfl,rfl⟩:=Prod.mk.inj (Option.some.inj hf);rw[V8];grind
theorem R8.blk{d:Int}{s s2 s3:Rd}{e:Ex}{t:List St}(h:okR (C9 L E s d 8 50)=true)(hk:C0 L E s B9=0\/C0 L E s B9=1)(he:Xpn L E (A7 s) (e,s2))(ht:A8f L E (d+1) s2 (t,s3))(hi:¬ (C0 L E s B9=0/\isR L E s3 [101,108,115,101]=true)):R8 L E d s (.mk (2+C0 L E s B9) [] [] [e] t [] (B8 L E s).pos,s3) :=
 he.ext2 ht fun f h3 h4=>by
  have e0:=(H3 (by decide) h).2.2;rw[V8];grind
theorem R8.tail{d:Int}{s:Rd}{r:St × Rd}(h:okR (C9 L E s d 8 50)=true)(hk:2<=C0 L E s B9)(he:Evt (fun f=>N1 L E f (2+C0 L E s B9) (B8 L E s).pos (A7 s)) r):R8 L E d s r :=
 he.ext fun f h3=>by
  have e0:=(H3 (by decide) h).2.2;rw[V8];grind
theorem A8d.iff{d:Int}{s s1:Rd}{x:St}(h:isR L E s [105,102]=true)(hs:R8 L E (d+1) s (x,s1)):A8d L E d s ([x],s1) :=
 hs.ext fun f hf=>by rw[V5,if_pos h,hf]
theorem A8d.blk{d:Int}{s:Rd}{r:List St × Rd}(h:isR L E s [105,102]=false)(hs:A8f L E (d+1) s r):A8d L E d s r :=
 hs.ext fun f hf=>by rw[V5,if_neg (by rw[h];decide)];omega
theorem ST.all:∀ (m:Nat),(∀ d (s:Rd),L.length-s.i<=m->∃ r,R8 L E d s r/\s.i<=r.2.i/\(okR (C9 L E s d 8 50)=true->(0<=C0 L E s B9\/K2 L E s 1=true)->s.i<r.2.i)) /\
  (∀ d l (s:Rd),L.length-s.i<=m->∃ r,A0g L E d l s r/\s.i<=r.2.i):=by
 intro m
 induction m using Nat.strongRecOn with
 |_ m ih =>
  have blk:∀ d (s:Rd),L.length-s.i<m->∃ r,A8f L E d s r/\s.i<=r.2.i:=by
   intro d s hs;have h0:=E8 (L:=L) (E:=E) (s:=s) (x:=[123]);obtain⟨r,h,hg⟩:=(ih _ hs).2 d [] (E1 L E s [123]) (by omega);exact⟨r,A8f.mk h,by omega⟩
  have oth:∀ d (s:Rd),L.length-s.i<m->∃ r,A8d L E d s r/\s.i<=r.2.i:=by
   intro d s hs;cases hi:isR L E s [105,102] with
   |true =>
    obtain⟨⟨x,s1⟩,h,hg, -⟩:=(ih _ hs).1 (d+1) s (A0E _);exact⟨_,A8d.iff hi h,hg⟩
   |false =>
    obtain⟨r,h,hg⟩:=blk (d+1) s hs;exact⟨r,A8d.blk hi h,hg⟩
  have A:∀ d (s:Rd),L.length-s.i<=m->∃ r,R8 L E d s r/\s.i<=r.2.i/\(okR (C9 L E s d 8 50)=true->(0<=C0 L E s B9\/K2 L E s 1=true)->s.i<r.2.i):=by
   intro d s hs;cases hl:okR (C9 L E s d 8 50) with
   |false=>exact⟨_,R8.bad hl,by show s.i<=(C9 L E s d 8 50).i;rw[G8];omega,fun h=>by grind⟩
   |true =>
    by_cases hk:C0 L E s B9<0
    ·obtain⟨⟨e,s1⟩,he,hg⟩:=A2s (L:=L) (E:=E) (E1 L E (A8 L E s 1).2 [61]);have hg:(E1 L E (A8 L E s 1).2 [61]).i<=s1.i:=hg;have h1:=E8 (L:=L) (E:=E) (s:=s1) (x:=[59]);have h2:=E8 (L:=L) (E:=E) (s:=(A8 L E s 1).2) (x:=[61]);have h3:=I9 (L:=L) (E:=E) (s:=s) (x:=1);refine⟨_,R8.set hl hk he,by show s.i<=(E1 L E s1 [59]).i;omega,fun _ hc=>?_⟩;have h4:K2 L E s 1=true:=hc.resolve_left (by omega);have h5:(A8 L E s 1).2.i=s.i+1:=by unfold A8;rw[if_neg (by rw[h4];decide)];rfl
     grind
    ·obtain⟨-,hi, -,hk18⟩:=H8 (show 0<=C0 L E s B9 by omega);by_cases h01:C0 L E s B9=0\/C0 L E s B9=1
     ·obtain⟨⟨e,s2⟩,he,hg⟩:=A2s (L:=L) (E:=E) (A7 s);have hg:s.i+1<=s2.i:=hg;obtain⟨⟨t,s3⟩,ht,hg3⟩:=blk (d+1) s2 (by omega);have hg3:s2.i<=s3.i:=hg3;by_cases hc:C0 L E s B9=0/\isR L E s3 [101,108,115,101]=true
      ·have hi3:=(A2c hc.2).2;obtain⟨⟨o,s4⟩,ho,hg4⟩:=oth d (A7 s3) (by show L.length-(s3.i+1)<m;omega);have hg4:s3.i+1<=s4.i:=hg4;exact⟨_,R8.els hl hc.1 he ht hc.2 ho,by grind,fun _ _=>by grind⟩
      ·exact⟨_,R8.blk hl h01 he ht hc,by grind,fun _ _=>by grind⟩
     ·obtain⟨r,hr,hg⟩:=C5l (L:=L) (E:=E) (2+C0 L E s B9) (B8 L E s).pos (A7 s);have hg:s.i+1<=r.2.i:=hg;exact⟨_,R8.tail hl (by omega) hr,by omega,fun _ _=>by omega⟩
  refine⟨A,fun d l s hs=>?_⟩;by_cases hc:okR s=true/\isR L E s [125]=false
  ·by_cases h2:C0 L E s B9<0/\K2 L E s 1=false
   ·exact⟨_,A0g.bad hc h2,by show s.i<=(Q1 L E s).i;rw[T7];omega⟩
   ·have hlt:s.i<L.length:=by
     by_cases hk:0<=C0 L E s B9
     ·exact (H8 hk).2.1
     ·cases h1:K2 L E s 1 with
      |false=>grind
      |true=>exact (J8 (by simp) (I3 h1).2).2
    cases hl:okR (C9 L E s ((l.length:Int)+1) 64 9) with
    |false =>
     have hb:okR (C9 L E (C9 L E s ((l.length:Int)+1) 64 9) d 8 50)=false:=by
      cases hz:okR (C9 L E (C9 L E s ((l.length:Int)+1) 64 9) d 8 50) with
      |false=>rfl
      |true=>rw[(H3 (by decide) hz).1]at hl;cases hl
     have hx:=R8.bad hb;refine⟨_,A0g.more hc h2 hx (A0g.stop (by rw[hb];simp)),?_⟩;have h1:=E8 (L:=L) (E:=E) (s:=C9 L E (C9 L E s ((l.length:Int)+1) 64 9) d 8 50) (x:=[125]);rw[G8,G8]at h1;omega
    |true =>
     have e0:=(H3 (by simp) hl).2.2;obtain⟨⟨x,s1⟩,hx,hg,hprog⟩:=A d s hs;have hg:s.i<=s1.i:=hg;cases hd:okR (C9 L E s d 8 50) with
     |false =>
      have hx:=R8.bad hd;refine⟨_,A0g.more hc h2 (by rw[e0];exact hx) (A0g.stop (by rw[hd];simp)),?_⟩;have h1:=E8 (L:=L) (E:=E) (s:=C9 L E s d 8 50) (x:=[125]);rw[G8]at h1;omega
     |true =>
      have hlt2:s.i<s1.i:=hprog hd (by
       grind)
      obtain⟨r,hr,hg2⟩:=(ih (L.length-s1.i) (by omega)).2 d (l++[x]) s1 (A0E _);exact⟨r,A0g.more hc h2 (by grind) hr,by omega⟩
  ·exact⟨_,A0g.stop hc,E8⟩
theorem D3e(d:Int)(s:Rd):∃ r,A8f L E d s r/\s.i<=r.2.i:=by
 obtain⟨r,h,hg⟩:=(ST.all (L:=L) (E:=E) _).2 d [] (E1 L E s [123]) (A0E _);exact⟨r,A8f.mk h,A1E E8 hg⟩
theorem D1t:∀ (m:Nat) (l:List Hd) (s:Rd),L.length-s.i<=m->∃ r,Evt (fun f=>Z0 L E f l s) r/\s.i<=r.2.i:=by
 intro m
 induction m using Nat.strongRecOn with
 |_ m ih =>
  intro l s hs;by_cases hc:okR s=true/\isR L E s [125]=false
  ·cases hon:isR L E s [111,110] with
   |false=>exact⟨_,Evt.one fun f=>by rw[Z0,if_pos hc,if_pos hon],by show s.i<=(Q1 L E s).i;rw[T7];omega⟩
   |true =>
    have hi:=(A2c hon).2;have h1:(C9 L E s ((l.length:Int)+1) 32 9).i=s.i:=G8;generalize hl:C9 L E s ((l.length:Int)+1) 32 9=s1 at h1;have h2:=E8 (L:=L) (E:=E) (s:=s1) (x:=[111,110]);generalize he:E1 L E s1 [111,110]=s2 at h2;by_cases hk:C0 L E s2 E9<0
    ·exact⟨_,Evt.one fun f=>by rw[Z0,if_pos hc,if_neg (by grind),hl];dsimp only;rw[he,if_pos hk],by show s.i<=(Q1 L E s2).i;rw[T7];omega⟩
    ·have hi2:=(H8 (show 0<=C0 L E s2 E9 by omega)).2.1;have h4:s2.i+1<=(if 2<=C0 L E s2 E9 then (A8 L E (A7 s2) 1).2 else A7 s2).i:=by
      split
      ·exact I9 (L:=L) (E:=E) (s:=A7 s2) (x:=1)
      ·exact A0E _
     obtain⟨⟨b,s5⟩,hb,hg⟩:=D3e (L:=L) (E:=E) 1 (if 2<=C0 L E s2 E9 then (A8 L E (A7 s2) 1).2 else A7 s2);have hg:(if 2<=C0 L E s2 E9 then (A8 L E (A7 s2) 1).2 else A7 s2).i<=s5.i:=hg;obtain⟨r,hr,hg2⟩:=ih (L.length-s5.i) (by omega) (l++[⟨1+C0 L E s2 E9,if 2<=C0 L E s2 E9 then (A8 L E (A7 s2) 1).1.text else [],b,(B8 L E s1).pos⟩]) s5 (A0E _);exact⟨r,hb.ext2 hr fun f hb hr=>by rw[Z0,if_pos hc,if_neg (by rw[hon];decide),hl];grind,by omega⟩
  ·exact⟨_,Evt.one fun f=>by rw[Z0,if_neg hc],E8⟩
theorem D1s(s:Rd):∃ r,Evt (fun f=>A5l L E f s) r/\s.i<=r.2.i/\(isR L E s [109,111,100,101]=true->s.i<r.2.i):=by
 obtain⟨⟨l,s3⟩,h,hg⟩:=D1t (L:=L) (E:=E) _ [] (E1 L E (A8 L E (A8 L E (E1 L E s [109,111,100,101]) 1).2 3).2 [123]) (A0E _);have hg:(E1 L E (A8 L E (A8 L E (E1 L E s [109,111,100,101]) 1).2 3).2 [123]).i<=s3.i:=hg;have h1:=E8 (L:=L) (E:=E) (s:=(A8 L E (A8 L E (E1 L E s [109,111,100,101]) 1).2 3).2) (x:=[123]);have h2:=I9 (L:=L) (E:=E) (s:=(A8 L E (E1 L E s [109,111,100,101]) 1).2) (x:=3);have h3:=I9 (L:=L) (E:=E) (s:=E1 L E s [109,111,100,101]) (x:=1);have h4:=E8 (L:=L) (E:=E) (s:=s) (x:=[109,111,100,101]);refine⟨_,h.map fun f h=>by unfold A5l;dsimp only;rw[h],by show s.i<=s3.i;omega,fun hi=>?_⟩;have h5:(E1 L E s [109,111,100,101]).i=s.i+1:=by unfold E1;rw[if_neg (by rw[hi];decide)];rfl
 grind
theorem C9p{k:Int}{s:Rd}:s.i+1<=(T2 L E k s).2.i:=by
 unfold T2;dsimp only;have h1:=I9 (L:=L) (E:=E) (s:=A7 s) (x:=1);have h0:(A7 s).i=s.i+1:=rfl;split
 ·generalize (A8 L E (A7 s) 1).2=s2 at h1 ⊢;have h3:s2.i<=(if (k+1 == 6 && isR L E s2 [45])=true then A7 s2 else s2).i:=by
   split
   ·exact A2Q _
   ·exact A0E _
  generalize (if (k+1 == 6 && isR L E s2 [45])=true then A7 s2 else s2)=s3 at h3 ⊢;have h4:=I9 (L:=L) (E:=E) (s:=s3) (x:=3);have h5:=E8 (L:=L) (E:=E) (s:=(A8 L E s3 3).2) (x:=[59])
  grind
 ·have h5:=E8 (L:=L) (E:=E) (s:=(A8 L E (A7 s) 1).2) (x:=[59])
  grind
theorem C2m{s:Rd}(h:okR s=false):∀ (l:List (List UInt8)) (k:Nat),A1m L E s k l = -1
 |[],k=>rfl
 |t :: l,k=>by rw[A1m,show isR L E s t=false by unfold isR;grind,if_neg (by simp),C2m h l]
theorem D1b:∀ (m:Nat) (l:List Dc) (s:Rd),L.length-s.i<=m->∃ r,Evt (fun f=>W0 L E f l s) r/\s.i<=r.2.i:=by
 intro m
 induction m using Nat.strongRecOn with
 |_ m ih =>
  intro l s hs;by_cases hk:C0 L E s E5<0
  ·exact⟨_,Evt.one fun f=>by rw[W0];dsimp only;rw[if_pos hk],A0E _⟩
  ·have hi:=(H8 (show 0<=C0 L E s E5 by omega)).2.1;have h1:(C9 L E s ((l.length:Int)+1) 128 9).i=s.i:=G8;cases hl:okR (C9 L E s ((l.length:Int)+1) 128 9) with
   |false =>
    have hz:C0 L E (C9 L E s ((l.length:Int)+1) 128 9) E5<0:=by
     show A1m L E _ 0 E5<0;rw[C2m hl];simp
    have h2:Evt (fun f=>W0 L E f l (C9 L E s ((l.length:Int)+1) 128 9)) (l,C9 L E s ((l.length:Int)+1) 128 9):=Evt.one fun f=>by rw[W0];grind
    exact⟨_,h2.ext fun f h=>by rw[W0];dsimp only;rw[if_neg hk,if_neg (by grind)];exact h,by grind⟩
   |true =>
    have h3:=C9p (L:=L) (E:=E) (k:=C0 L E s E5) (s:=C9 L E s ((l.length:Int)+1) 128 9);obtain⟨r,hr,hg⟩:=ih (L.length-(T2 L E (C0 L E s E5) (C9 L E s ((l.length:Int)+1) 128 9)).2.i) (by omega) (l++[(T2 L E (C0 L E s E5) (C9 L E s ((l.length:Int)+1) 128 9)).1]) _ (A0E _);exact⟨r,hr.ext fun f h=>by rw[W0];grind,by omega⟩
theorem D1a:∀ (m:Nat) (l:List Md) (s:Rd),L.length-s.i<=m->∃ r,Evt (fun f=>V1 L E f l s) r/\s.i<=r.2.i:=by
 intro m
 induction m using Nat.strongRecOn with
 |_ m ih =>
  intro l s hs;by_cases hc:okR s=true/\s.i<L.length
  ·cases hm:isR L E s [109,111,100,101] with
   |false=>exact⟨_,Evt.one fun f=>by rw[V1,if_pos hc,if_pos hm],by show s.i<=(Q1 L E s).i;rw[T7];omega⟩
   |true =>
    have h1:(C9 L E s ((l.length:Int)+1) 16 9).i=s.i:=G8;cases hl:okR (C9 L E s ((l.length:Int)+1) 16 9) with
    |false =>
     have h2:Evt (fun f=>V1 L E f l (C9 L E s ((l.length:Int)+1) 16 9)) (l,C9 L E s ((l.length:Int)+1) 16 9):=Evt.one fun f=>by rw[V1,if_neg (by grind)]
     exact⟨_,h2.ext fun f h=>by rw[V1,if_pos hc,if_neg (by grind)];dsimp only;rw[if_neg (by grind)];exact h,by grind⟩
    |true =>
     have e0:=(H3 (by simp) hl).2.2;obtain⟨⟨md,s2⟩,h2,hg,hlt⟩:=D1s (L:=L) (E:=E) s;have hlt:s.i<s2.i:=hlt hm;obtain⟨r,hr,hg2⟩:=ih (L.length-s2.i) (by omega) (l++[md]) s2 (A0E _);exact⟨r,h2.ext2 hr fun f h2 hr=>by rw[V1,if_pos hc,if_neg (by rw[hm];decide)];grind,by omega⟩
  ·exact⟨_,Evt.one fun f=>by rw[V1,if_neg hc],A0E _⟩
theorem C0g(s:Rd):∃ r,Evt (fun f=>A9d L E f s) r:=by
 obtain⟨⟨d,s1⟩,h1, -⟩:=D1b (L:=L) (E:=E) _ [] s (A0E _);obtain⟨⟨m,s2⟩,h2, -⟩:=D1a (L:=L) (E:=E) _ [] s1 (A0E _);exact⟨_,h1.map2 h2 fun f h1 h2=>by unfold A9d;rw[h1];dsimp only;rw[h2]⟩
end
def A1(s:List UInt8):Tok:=⟨if O7 s=true then 2 else if D6 s=true then 1 else 5,s,0,0⟩
def D4(s:List UInt8):List Tok:=if D6 s=false then [W9] else [⟨1,s,0,0⟩]
def U0(n:Int):List Tok:=if n<0\/2147483647<n then [W9] else [⟨3,[],n,0⟩]
def txB(c:UInt8):Bool:=decide (32<=c.toNat) && decide (c.toNat<=126)
def A1n(s:List UInt8):List Tok:=if s.all txB=false\/32<s.length then [W9] else [⟨4,s,0,0⟩]
def E6(q:Int × List Tok)(least:Int):List Tok:=if B6 q.1<least then [A1 [40]]++q.2++[A1 [41]] else q.2
def K9(k v:Int)(n:List UInt8)(as1:List (Int × List Tok)):List Tok :=
 let lv:=B6 k
 if k=1 then U0 v
 else if k=2 then D4 n
 else if k=3 then [A1 [116,114,117,101]]
 else if k=4 then [A1 [102,97,108,115,101]]
 else if k=8 then [A1 [112,108,97,121,101,114]]
 else if k=9 then [A1 [98,97,108,108]]
 else if k=5 then [A1 [99,108,111,115,101,100]]++D4 n
 else if k=6 then [A1 [97,99,116,105,118,101]]++D4 n
 else if k=7 then [A1 [108,101,102,116]]++D4 n
 else match as1 with
  |[q]=>if lv=6 then [A1 (if k=10 then [45] else [33])]++E6 q 6 else [W9]
  |[q,r]=>if lv<6 then E6 q (if lv=3 then 4 else lv)++[A1 (D9.getD (k-12).toNat [])]++E6 r (lv+1) else [W9]
  |_=>[W9]
mutual
def exT:Ex->List Tok
 |.mk k v n a p=>K9 k v n (B0c a)
def B0c:List Ex->List (Int × List Tok)
 |[]=>[]
 |e :: l=>(e.kind,exT e) :: B0c l
end
def agT(l:List Ex)(i:Nat):List Tok:=match l[i]? with
 |some e=>exT e
 |none=>[W9]
mutual
def stT:St->List Tok
 |.mk k n t a x y p =>
  if k=1 then D4 n++[A1 [61]]++agT a 0++[A1 [59]]
  else if k<2\/19<k then [W9]
  else
   let w:=A1 (B9.getD (k-2).toNat [])
   if k=2\/k=3 then
    let o:=[w]++agT a 0++([A1 [123]]++O9 x++[A1 [125]])
    match y with
    |[]=>o
    |[s]=>if s.kind=2 then o++[A1 [101,108,115,101]]++stT s else o++[A1 [101,108,115,101]]++([A1 [123]]++stT s++[A1 [125]])
    |s :: s2 :: r=>o++[A1 [101,108,115,101]]++([A1 [123]]++O9 (s :: s2 :: r)++[A1 [125]])
   else if k=4 then [w]++agT a 0++[A1 [59]]
   else if k=18 then [w]++A1n t++[A1 [44]]++agT a 0++[A1 [59]]
   else if k=8\/k=10 then [w]++D4 n++agT a 0++[A1 [59]]
   else if k=9 then [w]++D4 n++agT a 0++[A1 [44]]++agT a 1++[A1 [59]]
   else if k=19 then [w]++[A1 [59]]
   else [w]++D4 n++[A1 [59]]
def O9:List St->List Tok
 |[]=>[]
 |s :: l=>stT s++O9 l
end
def blT(l:List St):List Tok:=[A1 [123]]++O9 l++[A1 [125]]
def dcT(d:Dc):List Tok :=
 if d.kind<1\/8<d.kind then [W9]
 else
  let o:=[A1 (E5.getD (d.kind-1).toNat [])]++D4 d.name
  (if 6<d.kind then o
  else if d.value<0 /\ -2147483647<=d.value/\d.kind=6 then o++[A1 [45]]++U0 (-d.value)
  else o++U0 d.value)++[A1 [59]]
def hdT(h:Hd):List Tok:=[A1 [111,110],A1 (E9.getD (h.trig-1).toNat [])]++(if 2<h.trig then D4 h.name else [])++blT h.body
def U4(h:Hd):Bool:=decide (h.trig<1) || decide (6<h.trig)
def mdT(m:Md):List Tok:=[A1 [109,111,100,101]]++D4 m.name++U0 m.prio++[A1 [123]]++m.hds.flatMap hdT++[A1 [125]]
def ruT(r:Ru):List Tok:=if (r.modes.any fun m=>m.hds.any U4)=true then [W9] else r.decls.flatMap dcT++r.modes.flatMap mdT
mutual
def Ex.plain:Ex->Ex
 |.mk k v n a p=>.mk k v n (Ex.plains a) 0
def Ex.plains:List Ex->List Ex
 |[]=>[]
 |e :: l=>e.plain :: Ex.plains l
end
mutual
def St.plain:St->St
 |.mk k n t a x y p=>.mk k n t (Ex.plains a) (St.plains x) (St.plains y) 0
def St.plains:List St->List St
 |[]=>[]
 |e :: l=>e.plain :: St.plains l
end
def Dc.plain(d:Dc):Dc:={ d with pos:=0 }
def Hd.plain(h:Hd):Hd:=⟨h.trig,h.name,St.plains h.body,0⟩
def Md.plain(m:Md):Md:=⟨m.name,m.prio,m.hds.map Hd.plain,0⟩
def Ru.plain(r:Ru):Ru:=⟨r.decls.map Dc.plain,r.modes.map Md.plain⟩
theorem Ex.plains_map:∀ l:List Ex,Ex.plains l=l.map Ex.plain
 |[]=>rfl
 |e :: l=>by rw[Ex.plains,Ex.plains_map l];rfl
theorem St.plains_map:∀ l:List St,St.plains l=l.map St.plain
 |[]=>rfl
 |e :: l=>by rw[St.plains,St.plains_map l];rfl
mutual
def B1e(p:Bool):Ex->Ex->Bool
 |.mk k v n a q,.mk k' v' n' a' q'=>k == k' && (v == v' && (n == n' && ((p || q == q') && N4 p a a')))
def N4(p:Bool):List Ex->List Ex->Bool
 |[],[]=>true
 |e :: l,e' :: l'=>B1e p e e' && N4 p l l'
 |_,_=>false
end
mutual
def B7t:St->St->Bool
 |.mk k n t a x y q,.mk k' n' t' a' x' y' q'=>k == k' && (n == n' && (t == t' && (q == q' && (N4 false a a' && (M0 x x' && M0 y y')))))
def M0:List St->List St->Bool
 |[],[]=>true
 |e :: l,e' :: l'=>B7t e e' && M0 l l'
 |_,_=>false
end
mutual
theorem C8t:∀ a b:Ex,B1e false a b=true↔a=b
 |.mk k v n a q,.mk k' v' n' a' q'=>by
  have:=A7e a a';simp only[B1e,A0F,A1Y,Bool.false_or,this,Ex.mk.injEq];constructor
  ·rintro⟨h1,h2,h3,h4,h5⟩;exact⟨h1,h2,h3,h5,h4⟩
  ·rintro⟨h1,h2,h3,h4,h5⟩;exact⟨h1,h2,h3,h5,h4⟩
theorem A7e:∀ a b:List Ex,N4 false a b=true↔a=b
 |[],[]=>by simp[N4]
 |[],_ :: _=>by simp[N4]
 |_ :: _,[]=>by simp[N4]
 |e :: l,e' :: l'=>by
  have h1:=C8t e e';have h2:=A7e l l';simp only[N4,A0F,h1,h2,List.cons.injEq]
end
mutual
theorem C5u:∀ a b:St,B7t a b=true↔a=b
 |.mk k n t a x y q,.mk k' n' t' a' x' y' q'=>by
  have h1:=A7e a a';have h2:=A0j x x';have h3:=A0j y y';simp only[B7t,A0F,A1Y,h1,h2,h3,St.mk.injEq];constructor
  ·rintro⟨e1,e2,e3,e4,e5,e6,e7⟩;exact⟨e1,e2,e3,e5,e6,e7,e4⟩
  ·rintro⟨e1,e2,e3,e4,e5,e6,e7⟩;exact⟨e1,e2,e3,e7,e4,e5,e6⟩
theorem A0j:∀ a b:List St,M0 a b=true↔a=b
 |[],[]=>by simp[M0]
 |[],_ :: _=>by simp[M0]
 |_ :: _,[]=>by simp[M0]
 |e :: l,e' :: l'=>by
  have h1:=C5u e e';have h2:=A0j l l';simp only[M0,A0F,h1,h2,List.cons.injEq]
end
def I7(k:Int):Nat:=if B6 k=6 then 1 else if B6 k<6 then 2 else 0
def B5s(k:Int):Bool:=k == 5 || (k == 6 || k == 7)
def kOk(k:Int):Bool:=decide (B6 k<7) || (decide (1<=k) && decide (k<=24))
def A4n(k:Int)(n:List UInt8):Bool:=if k=2\/B5s k=true then D6 n else n == []
def A1x(k v:Int):Bool:=v == 0 || (k == 1 && (decide (0<v) && decide (v<=2147483647)))
def Y7(k q:Int)(i:Nat):Bool:=decide (B6 q<B6 k) || (B6 q == B6 k && (i == 1 || B6 k == 3))
mutual
def msM:Ex->Option (Nat × Nat)
 |.mk k v n a p =>
  if kOk k=false\/a.length≠I7 k\/A4n k n=false\/A1x k v=false then none
  else if I7 k=0 then some (1,0)
  else match msL k 0 a with
   |none=>none
   |some (o,d)=>some (o,if I7 k=1 then d+1 else d)
def msL(k:Int):Nat->List Ex->Option (Nat × Nat)
 |_,[]=>some (0,0)
 |i,e :: l=>match msM e with
  |none=>none
  |some (o,d)=>match msL k (i+1) l with
   |none=>none
   |some (o2,d2)=>some (o+o2,max (if Y7 k e.kind i=true then d+1 else d) d2)
end
def S4(e:Ex):Bool:=match msM e with
 |some (o,d)=>decide (o<=32) && decide (d<=16)
 |none=>false
structure Shp where
 name:Bool
 text:Bool
 args:Nat
 thn:Bool
 els:Bool
def J6(k:Int):Shp :=
 if k=1\/k=8\/k=10 then ⟨true,false,1,false,false⟩
 else if k=9 then ⟨true,false,2,false,false⟩
 else if k=2 then ⟨false,false,1,true,true⟩
 else if k=3 then ⟨false,false,1,true,false⟩
 else if k=4 then ⟨false,false,1,false,false⟩
 else if k=18 then ⟨false,true,1,false,false⟩
 else if k=19 then ⟨false,false,0,false,false⟩
 else ⟨true,false,0,false,false⟩
def S1(s:List UInt8):Bool:=s.all txB && decide (s.length<=32)
mutual
def N7:Nat->St->Bool
 |d,.mk k n t a x y p =>
  (decide (1<=k) && decide (k<=19)) && (a.length == (J6 k).args && a.all S4) &&
   ((if (J6 k).name=true then D6 n else n == []) && (if (J6 k).text=true then S1 t else t == [])) &&
   (((J6 k).thn || x.isEmpty) && ((J6 k).els || y.isEmpty)) &&
   ((decide (x.length<=64) && (x.isEmpty || decide (d+1<=8)) && F8 (d+1) x) && (decide (y.length<=64) && (y.isEmpty || decide (d+1<=8)) && F8 (d+1) y))
def F8:Nat->List St->Bool
 |_,[]=>true
 |d,s :: l=>N7 d s && F8 d l
end
def M4(l:List St)(d:Nat):Bool:=decide (l.length<=64) && (l.isEmpty || decide (d<=8)) && F8 d l
def Y8(d:Dc):Bool:=decide (1<=d.kind) && decide (d.kind<=8) && D6 d.name && decide ((if d.kind=6 then -2147483647 else 0)<=d.value) && decide (d.value<=(if d.kind=7\/d.kind=8 then 0 else 2147483647))
def A0x(h:Hd):Bool:=decide (1<=h.trig) && decide (h.trig<=6) && (if 3<=h.trig then D6 h.name else h.name == []) && M4 h.body 1
def Q0(m:Md):Bool:=D6 m.name && decide (0<=m.prio) && decide (m.prio<=2147483647) && decide (m.hds.length<=32) && m.hds.all A0x
def L1(r:Ru):Bool:=decide (r.decls.length<=128) && decide (r.modes.length<=16) && r.decls.all Y8 && r.modes.all Q0
def J3(t:Tok):Prop:=(t.kind=1->D6 t.text=true)/\(t.kind=3->0<=t.value/\t.value<=2147483647)/\(t.kind=4->S1 t.text=true)
def SE(n:Int)(s:Rd)(e:Ex)(s':Rd):Prop :=
 okR s=true/\s'.par=s.par/\∃ o d,msM e=some (o,d)/\s'.ops=s.ops+(o:Int)/\s'.ops<=32/\((n<=B6 e.kind/\s.par+(d:Int)<=16)\/s.par+(d:Int)+1<=16)
theorem W8(k:Int):1<=B6 k/\B6 k<=7:=by
 unfold B6;omega
theorem B3t{k:Int}(h:B6 k<7):10<=k/\k<=24:=by
 unfold B6 at h;omega
theorem D1w{k:Int}(h0:0<=k)(h1:k<13):B6 (12+k)<6:=by
 unfold B6;omega
theorem A5q{k:Int}(h:k=10\/k=11):B6 k=6:=by
 rcases h with rfl|rfl<;>rfl
theorem D7l{k:Int}{a b:Ex}{o1 d1 o2 d2:Nat}{p:Int}(hk:B6 k<6)(ha:msM a=some (o1,d1))(hb:msM b=some (o2,d2)):
  msM (.mk k 0 [] [a,b] p)=some (o1+o2,max (if Y7 k a.kind 0=true then d1+1 else d1) (if Y7 k b.kind 1=true then d2+1 else d2)):=by
 have hl:=B3t (k:=k) (by omega);have h1:kOk k=true:=by simp[kOk];omega
 have h2:I7 k=2:=by unfold I7;grind
 have h3:A4n k []=true:=by
  unfold A4n;rw[if_neg]
  ·rfl
  ·simp only[B5s,A1G,A1Y];omega
 have h4:A1x k 0=true:=by rfl
 unfold msM;rw[if_neg (by grind),h2,if_neg (by omega)];simp only[msL,ha,hb,A3B,A1J,Nat.max_zero,if_neg (show ¬ 2=1 by omega)]
theorem E1d{k:Int}{a:Ex}{o d:Nat}{p:Int}(hk:k=10\/k=11)(ha:msM a=some (o,d)):
  msM (.mk k 0 [] [a] p)=some (o,(if Y7 k a.kind 0=true then d+1 else d)+1):=by
 have hl:=A5q hk;have h1:kOk k=true:=by simp[kOk];omega
 have h2:I7 k=1:=by unfold I7;grind
 have h3:A4n k []=true:=by
  unfold A4n;rw[if_neg]
  ·rfl
  ·simp only[B5s,A1G,A1Y];omega
 have h4:A1x k 0=true:=by rfl
 unfold msM;rw[if_neg (by grind),h2,if_neg (by omega)];simp only[msL,ha,A3B,Nat.max_zero,if_true]
theorem D1r{k v:Int}{n:List UInt8}{p:Int}(hk:B6 k=7)(h1:kOk k=true)(h3:A4n k n=true)(h4:A1x k v=true):msM (.mk k v n [] p)=some (1,0):=by
 have h2:I7 k=0:=by unfold I7;rw[if_neg (by omega),if_neg (by omega)]
 unfold msM
 grind
section
variable {L:List Tok} {E:Int}
theorem I4{s:Rd}{t:List UInt8}(h:okR (E1 L E s t)=true):okR s=true:=(A2c (B3z h).1).1
theorem X5{s:Rd}{k:Int}(h:okR (A8 L E s k).2=true):okR s=true:=(I3 (A5c h).1).1
theorem C0t{s:Rd}(h:okR (J7 L E s).2=true):okR s=true:=by
 unfold J7 at h;dsimp only at h;split at h
 ·rw[A6l]at h;grind
 ·split at h
  ·grind
  ·rename_i h1;have h2:okR (C9 L E { s with ops:=s.ops+1 } (s.ops+1) 32 9)=true:=by grind
   exact (H3 (by simp) h2).1
theorem B8d(hG:∀ t∈L,J3 t){s s':Rd}{e:Ex}(h:J7 L E s=(e,s'))(hok:okR s'=true)(hp:s.par<=16):SE 7 s e s':=by
 have hs:okR s=true:=C0t (L:=L) (E:=E) (by grind);have leaf:∀ (k v:Int) (n:List UInt8) (p:Int),B6 k=7->kOk k=true->A4n k n=true->A1x k v=true->s.ops+1<=32->∀ s2:Rd,s2.par=s.par->s2.ops=s.ops+1->SE 7 s (.mk k v n [] p) s2:=by
  intro k v n p q1 q2 q3 q4 q6 s2 q7 q8;refine⟨hs,q7,1,0,D1r q1 q2 q3 q4,by omega,by omega,.inl ⟨?_,by omega⟩⟩;show 7<=B6 k;omega
 unfold J7 at h;dsimp only at h;split at h
 ·cases h;rw[A6l]at hok;grind
 rename_i hc;split at h
 ·grind
 rename_i h1;have h2:okR (C9 L E { s with ops:=s.ops+1 } (s.ops+1) 32 9)=true:=by grind
 obtain⟨-,h3,h4⟩:=H3 (by simp) h2;rw[h4]at h;split at h
 ·rename_i hk;obtain⟨-, -, -,hk7⟩:=H8 hk;have hk7:C0 L E s S7<7:=hk7;generalize C0 L E s S7=k at h hk hk7;split at h
  ·rename_i hk4;cases h;obtain⟨t1,t2⟩:=A5c hok;obtain⟨t3,t4⟩:=I3 t1;have hn:=(hG _ (J8 (by simp) t4).1).1 t4;rw[t2];have:k=4\/k=5\/k=6:=by omega
   rcases this with rfl|rfl|rfl
   ·exact leaf 5 _ _ _ (by rfl) (by rfl) hn (by rfl) h3 _ rfl rfl
   ·exact leaf 6 _ _ _ (by rfl) (by rfl) hn (by rfl) h3 _ rfl rfl
   ·exact leaf 7 _ _ _ (by rfl) (by rfl) hn (by rfl) h3 _ rfl rfl
  ·rename_i hk4;cases h;have:k=0\/k=1\/k=2\/k=3:=by omega
   rcases this with rfl|rfl|rfl|rfl
   all_goals exact leaf _ _ _ _ (by decide) (by decide) (by decide) (by decide) h3 _ rfl rfl
 ·rename_i hk;split at h
  ·rename_i hk3;cases h;have hn:=(hG _ (J8 (by decide) hk3).1).2.1 hk3;refine leaf 1 _ _ _ (by decide) (by decide) (by decide) ?_ h3 _ rfl rfl;simp only[A1x,A1G,A0F,A1Y,A0I]
   grind
  ·rename_i hk3;cases h;have h1k:K2 L E s 1=true:=by
    cases hz:K2 L E s 1 with
    |true=>rfl
    |false =>
     refine absurd ⟨by omega,?_,hz⟩ hc;cases hy:K2 L E s 3 with
     |false=>rfl
     |true=>exact absurd (I3 hy).2 hk3
   have hn:=(hG _ (J8 (by simp) (I3 h1k).2).1).1 (I3 h1k).2;exact leaf 2 _ _ _ (by rfl) (by rfl) hn (by rfl) h3 _ rfl rfl
theorem OB.all:∀ f:Nat,(∀ n s r,L5 L E f n s=some r->okR r.2=true->okR s=true)/\(∀ n e s r,U1 L E f n e s=some r->okR r.2=true->okR s=true)/\(∀ s r,Y9 L E f s=some r->okR r.2=true->okR s=true)
 |0=>⟨fun n s r h=>by trivial,fun n e s r h=>by trivial,fun s r h=>by trivial⟩
 |f+1=>by
  obtain⟨i1,i2,i3⟩:=OB.all f;refine⟨fun n s r h k=>?_,fun n e s r h k=>?_,fun s r h k=>?_⟩
  ·unfold L5 at h
   grind
  ·unfold U1 at h;dsimp only at h;split at h
   ·grind
   ·rename_i hk;exact (H8 (show 0<=C0 L E s D9 from Classical.byContradiction fun g=>hk (.inl (by omega)))).1
  ·unfold Y9 at h;dsimp only at h;split at h
   ·cases h;exact C0t k
   ·rename_i hk;exact (H8 (show 0<=C0 L E s Q2 by omega)).1
theorem SE.weak{m n:Int}{s s':Rd}{e:Ex}(hmn:n<=m)(h:SE m s e s'):SE n s e s':=by
 obtain⟨h1,h2,o,d,h3,h4,h5,h6⟩:=h;exact⟨h1,h2,o,d,h3,h4,h5,h6.imp (fun h=>⟨by omega,h.2⟩) id⟩
theorem SE.all(hG:∀ t∈L,J3 t):∀ f:Nat,(∀ n s r,1<=n->n<=6->L5 L E f n s=some r->okR r.2=true->s.par<=16->SE n s r.1 r.2) /\
  (∀ n m e s s0 r,1<=n->n<=5->(m=n+1\/m=n/\n≠3)->U1 L E f n e s=some r->okR r.2=true->SE m s0 e s->s0.par<=16->SE n s0 r.1 r.2) /\
  (∀ s r,Y9 L E f s=some r->okR r.2=true->s.par<=16->SE 6 s r.1 r.2)
 |0=>⟨fun n s r _ _ h=>by trivial,fun n m e s s0 r _ _ _ h=>by trivial,fun s r h=>by trivial⟩
 |f+1=>by
  obtain⟨i1,i2,i3⟩:=SE.all hG f;refine⟨fun n s r n1 n6 h k hp=>?_,fun n m e s s0 r n1 n5 hm h k he hp=>?_,fun s r h k hp=>?_⟩
  ·unfold L5 at h;split at h
   ·grind
   ·rename_i hn;split at h
    ·grind
    ·rename_i e s1 hb;have k1:=(OB.all f).2.1 _ _ _ _ h k;have h1:=i1 _ _ _ (by omega) (by omega) hb k1 hp
     grind
  ·unfold U1 at h;dsimp only at h;split at h
   ·cases h;exact he.weak (by omega)
   ·rename_i hk;have hk0:0<=C0 L E s D9:=Classical.byContradiction fun g=>hk (.inl (by omega));have hlv:B6 (12+C0 L E s D9)=n:=Classical.byContradiction fun g=>hk (.inr g);split at h
    ·grind
    ·rename_i x s1 hb;obtain⟨e1,e2,o1,d1,e3,e4,e5,e6⟩:=he;have step:okR s1=true->SE n s0 (.mk (12+C0 L E s D9) 0 [] [e,x] (B8 L E s).pos) s1:=by
      intro k1;obtain⟨x1,x2,o2,d2,x3,x4,x5,x6⟩:=i1 _ _ _ (by omega) (by omega) hb k1 (by show s.par<=16;omega);have x2':s1.par=s.par:=x2;have x4':s1.ops=s.ops+(o2:Int):=x4;have x6':((n+1<=B6 x.kind/\s.par+(d2:Int)<=16)\/s.par+(d2:Int)+1<=16):=x6;refine⟨e1,by omega,_,_,D7l (by omega) e3 x3,by omega,x5,.inl ⟨?_,?_⟩⟩
      ·show n<=B6 (12+C0 L E s D9);omega
      ·have w1:s0.par+((if Y7 (12+C0 L E s D9) e.kind 0=true then d1+1 else d1:Nat):Int)<=16:=by
        split
        ·rename_i hw;simp only[Y7,A1G,A0F,A0I,A1Y,hlv]at hw;omega
        omega
       have w2:s0.par+((if Y7 (12+C0 L E s D9) x.kind 1=true then d2+1 else d2:Nat):Int)<=16:=by
        split
        ·rename_i hw;simp only[Y7,A1G,A0F,A0I,A1Y,hlv]at hw;omega
        omega
       omega
     split at h
     ·grind
     ·rename_i hn3;have k1:=(OB.all f).2.1 _ _ _ _ h k
      grind
  ·unfold Y9 at h;dsimp only at h;split at h
   ·cases h;exact (B8d hG rfl k hp).weak (by simp)
   ·rename_i hk;obtain⟨hs,hi, -,hk3⟩:=H8 (show 0<=C0 L E s Q2 by omega);have hk3:C0 L E s Q2<3:=hk3;split at h
    ·grind
    rename_i hl;have hl:okR (C9 L E s (s.par+1) 16 50)=true:=by grind
    obtain⟨-,h2,h3⟩:=H3 (by simp) hl;rw[h3]at h;split at h
    ·split at h
     ·grind
     ·rename_i e s3 hb;cases h;have k3:okR (E1 L E s3 [41])=true:=k;obtain⟨-,x2⟩:=B3z k3;obtain⟨e1,e2,o,d,e3,e4,e5,e6⟩:=i1 1 _ _ (by simp) (by simp) hb (I4 k3) (show s.par+1<=16 from h2);have e2':s3.par=s.par+1:=e2;have e4':s3.ops=s.ops+(o:Int):=e4;have e6':((1<=B6 e.kind/\s.par+1+(d:Int)<=16)\/s.par+1+(d:Int)+1<=16):=e6;rw[x2];refine⟨hs,by show s3.par-1=s.par;omega,o,d,e3,e4',e5,.inr (by omega)⟩
    ·rename_i hk2;split at h
     ·grind
     ·rename_i e s3 hb;cases h;have k3:okR s3=true:=k;obtain⟨e1,e2,o,d,e3,e4,e5,e6⟩:=i3 _ _ hb k3 (show s.par+1<=16 from h2);have e2':s3.par=s.par+1:=e2;have e4':s3.ops=s.ops+(o:Int):=e4;have e6':((6<=B6 e.kind/\s.par+1+(d:Int)<=16)\/s.par+1+(d:Int)+1<=16):=e6;have hk10:10+C0 L E s Q2=10\/10+C0 L E s Q2=11:=by omega
      refine⟨hs,by grind,o,_,E1d hk10 e3,e4',e5,.inl ⟨?_,?_⟩⟩
      ·show 6<=B6 (10+C0 L E s Q2);rw[A5q hk10];simp
      ·split
       ·rename_i hw;simp only[Y7,A1G,A0F,A0I,A1Y,A5q hk10]at hw;omega
       omega
theorem N5(hG:∀ t∈L,J3 t){f:Nat}{s:Rd}{r:Ex × Rd}(h:R4 L E f s=some r)(hok:okR r.2=true):okR s=true/\S4 r.1=true:=by
 obtain⟨h1,h2,o,d,h3,h4,h5,h6⟩:=(SE.all hG f).1 1 _ _ (by decide) (by decide) h hok (by decide:(0:Int)<=16);refine⟨h1,?_⟩;have h4':r.2.ops=0+(o:Int):=h4;have h6':((1<=B6 r.1.kind/\0+(d:Int)<=16)\/0+(d:Int)+1<=16):=h6;unfold S4
 grind
end
section
variable {L:List Tok} {E:Int}
theorem P5(hG:∀ t∈L,J3 t){s:Rd}(h:okR (A8 L E s 1).2=true):D6 (A8 L E s 1).1.text=true:=by
 obtain⟨h1,h2⟩:=A5c h;rw[h2];exact (hG _ (J8 (by simp) (I3 h1).2).1).1 (I3 h1).2
theorem B4x(hG:∀ t∈L,J3 t){s:Rd}(h:okR (A8 L E s 3).2=true):0<=(A8 L E s 3).1.value/\(A8 L E s 3).1.value<=2147483647:=by
 obtain⟨h1,h2⟩:=A5c h;rw[h2];exact (hG _ (J8 (by simp) (I3 h1).2).1).2.1 (I3 h1).2
theorem C5k(hG:∀ t∈L,J3 t){s:Rd}(h:okR (A8 L E s 4).2=true):S1 (A8 L E s 4).1.text=true:=by
 obtain⟨h1,h2⟩:=A5c h;rw[h2];exact (hG _ (J8 (by simp) (I3 h1).2).1).2.2 (I3 h1).2
theorem A0w{d:Nat}{k p:Int}{n t:List UInt8}{a:List Ex}(h1:1<=k)(h2:k<=19)(h3:a.length=(J6 k).args)(h4:a.all S4=true)
  (h5:(if (J6 k).name=true then D6 n else n == [])=true) (h6:(if (J6 k).text=true then S1 t else t == [])=true):N7 d (.mk k n t a [] [] p)=true:=by
 unfold N7;simp only[A0F,A0I,A1Y];exact⟨⟨⟨⟨⟨h1,h2⟩,h3,h4⟩,h5,h6⟩,by simp⟩,by trivial⟩
theorem B7r(hG:∀ t∈L,J3 t){f:Nat}{k p:Int}{s:Rd}{r:St × Rd}(d:Nat)(hk4:4<=k)(hk:k<=19)(h:N1 L E f k p s=some r)(hok:okR r.2=true):okR s=true/\N7 d r.1=true:=by
 unfold N1 at h;dsimp only at h;split at h
 ·rename_i hk;subst hk;split at h
  ·grind
  ·rename_i e s1 he;cases h;obtain⟨h1,h2⟩:=N5 hG he (I4 hok);exact⟨h1,A0w (by simp) (by simp) rfl (by grind) rfl rfl⟩
 split at h
 ·rename_i hk;subst hk;split at h
  ·grind
  ·rename_i e s1 he;cases h;obtain⟨h1,h2⟩:=N5 hG he (I4 hok);have h3:=I4 h1;exact⟨X5 h3,A0w (by simp) (by simp) rfl (by grind) rfl (C5k hG h3)⟩
 split at h
 ·rename_i hk;subst hk;cases h;exact⟨I4 hok,A0w (by simp) (by simp) rfl rfl rfl rfl⟩
 rename_i n4 n18 n19;split at h
 ·rename_i hk;split at h
  ·grind
  ·rename_i e s1 he;split at h
   ·rename_i hk9;subst hk9;split at h
    ·grind
    ·rename_i e2 s2 he2;cases h;obtain⟨h1,h2⟩:=N5 hG he2 (I4 hok);obtain⟨h3,h4⟩:=N5 hG he (I4 h1);exact⟨X5 h3,A0w (by simp) (by simp) rfl (by grind) (P5 hG h3) rfl⟩
   ·rename_i hk9;cases h;obtain⟨h1,h2⟩:=N5 hG he (I4 hok);have:k=8\/k=10:=by omega
    rcases this with rfl|rfl
    all_goals exact⟨X5 h1,A0w (by decide) (by decide) rfl (by simp[h2]) (P5 hG h1) rfl⟩
 ·rename_i hk8;cases h;have h1:=I4 hok;have hs:J6 k=⟨true,false,0,false,false⟩:=by
   unfold J6
   grind
  exact⟨X5 h1,A0w (by omega) hk (by grind) rfl (by rw[hs];exact P5 hG h1) (by grind)⟩
theorem A8u{d:Nat}:∀ {l:List St} {x:St},F8 d (l++[x])=(F8 d l && N7 d x)
 |[],x=>by simp[F8]
 |a :: l,x=>by rw[List.cons_append,F8,F8,A8u,Bool.and_assoc]
theorem B4p{d:Nat}{k p:Int}{e:Ex}{t o:List St}(hk:k=2\/k=3)(he:S4 e=true)(ht:M4 t (d+1)=true)(ho:M4 o (d+1)=true)(h3:k=3->o=[]):N7 d (.mk k [] [] [e] t o p)=true:=by
 unfold M4 at ht ho;unfold N7;rcases hk with rfl|rfl
 ·simp only[J6]
  grind
 ·obtain rfl:=h3 rfl;simp only[J6]
  grind
theorem SS.all(hG:∀ t∈L,J3 t):∀ f:Nat,(∀ (d:Nat) s r,P9 L E f d s=some r->okR r.2=true->okR s=true/\M4 r.1 d=true) /\
  (∀ (d:Nat) l s r,V7 L E f d l s=some r->okR r.2=true->okR s=true/\(F8 d l=true->l.length<=64->(l=[]\/d<=8)->M4 r.1 d=true)) /\
  (∀ (d:Nat) s r,V8 L E f d s=some r->okR r.2=true->okR s=true/\d<=8/\N7 d r.1=true) /\
  (∀ (d:Nat) s r,V5 L E f d s=some r->okR r.2=true->okR s=true/\M4 r.1 (d+1)=true)
 |0=>⟨fun d s r h=>by trivial,fun d l s r h=>by trivial,fun d s r h=>by trivial,fun d s r h=>by trivial⟩
 |f+1=>by
  obtain⟨i1,i2,i3,i4⟩:=SS.all hG f;have hd1:∀ d:Nat,(d:Int)+1=((d+1:Nat):Int):=fun d=>by rfl
  refine⟨fun d s r h k=>?_,fun d l s r h k=>?_,fun d s r h k=>?_,fun d s r h k=>?_⟩
  ·unfold P9 at h;obtain⟨h1,h2⟩:=i2 _ _ _ _ h k;exact⟨I4 h1,h2 rfl (by simp) (.inl rfl)⟩
  ·unfold V7 at h;split at h
   ·rename_i hc;refine⟨hc.1,fun h1 h2 h3=>?_⟩;split at h
    ·cases h;rfl
    ·split at h
     ·grind
     ·rename_i x s1 he;obtain⟨h4,h5⟩:=i2 _ _ _ _ h k;obtain⟨h6,h7,h8⟩:=i3 _ _ _ he h4;obtain⟨-,h9, -⟩:=H3 (by simp) h6;exact h5 (by rw[A8u,h1,h8];rfl) (by grind) (.inr h7)
   ·cases h;refine⟨I4 k,fun h1 h2 h3=>?_⟩;unfold M4
    grind
  ·unfold V8 at h;dsimp only at h;split at h
   ·grind
   rename_i hl;have hl:okR (C9 L E s d 8 50)=true:=by grind
   obtain⟨hs,hd,hle⟩:=H3 (by simp) hl;rw[hle]at h;refine⟨hs,by omega,?_⟩;split at h
   ·split at h
    ·grind
    ·rename_i e s1 he;cases h;obtain⟨h1,h2⟩:=N5 hG he (I4 k);exact A0w (by simp) (by simp) rfl (by grind) (P5 hG (I4 h1)) rfl
   ·rename_i hk;obtain⟨-,hi, -,hk18⟩:=H8 (show 0<=C0 L E s B9 by omega);have hk18:C0 L E s B9<18:=hk18;generalize C0 L E s B9=q at h hk hk18;split at h
    ·rename_i hq;split at h
     ·grind
     ·rename_i e s2 he;split at h
      ·grind
      ·rename_i t s3 ht;rw[hd1]at ht;split at h
       ·rename_i hc;split at h
        ·grind
        ·rename_i o s4 ho;cases h;obtain⟨o1,o2⟩:=i4 _ _ _ ho k;obtain⟨t1,t2⟩:=i1 _ _ _ ht (show okR s3=true from o1);obtain⟨e1,e2⟩:=N5 hG he t1;exact B4p (.inl rfl) e2 t2 o2 (fun h=>absurd h (by simp))
       ·cases h;obtain⟨t1,t2⟩:=i1 _ _ _ ht k;obtain⟨e1,e2⟩:=N5 hG he t1;exact B4p (by omega) e2 t2 (by rfl) (fun _=>rfl)
    ·rename_i hq;exact (B7r hG d (by omega) (by omega) h k).2
  ·unfold V5 at h;rw[hd1]at h;split at h
   ·split at h
    ·grind
    ·rename_i x s1 he;cases h;obtain⟨h1,h2,h3⟩:=i3 _ _ _ he k;refine⟨h1,?_⟩;unfold M4;simp only[A0F,A1G,A0I];exact⟨⟨by simp,.inr h2⟩,by rw[F8,F8,h3];rfl⟩
   ·exact i1 _ _ _ h k
theorem C4m(hG:∀ t∈L,J3 t){k:Int}{s:Rd}(h0:0<=k)(h8:k<8)(h:okR (T2 L E k s).2=true):Y8 (T2 L E k s).1=true:=by
 have key:∀ d:Dc,1<=d.kind->d.kind<=8->D6 d.name=true->(if d.kind=6 then -2147483647 else 0)<=d.value->d.value<=(if d.kind=7\/d.kind=8 then 0 else 2147483647)->Y8 d=true:=by
  intro d a1 a2 a3 a4 a5;simp only[Y8,A0F,A0I]
  grind
 unfold T2 at h ⊢;dsimp only at h ⊢;split at h
 ·rename_i hk;rw[if_pos hk];have h1:=I4 h;obtain⟨n0,n1⟩:=B4x hG h1;have h2:=X5 h1;have h3:okR (A8 L E (A7 s) 1).2=true:=by
   split at h2
   ·exact h2
   ·exact h2
  refine key _ (by dsimp only;omega) (by dsimp only;omega) (P5 hG h3) ?_ ?_
  ·dsimp only;generalize (A8 L E (if (k+1 == 6 && isR L E (A8 L E (A7 s) 1).2 [45])=true then A7 (A8 L E (A7 s) 1).2 else (A8 L E (A7 s) 1).2) 3).1.value=w at n0 n1 ⊢;by_cases h6:k+1=6
   ·rw[if_pos (by omega)];split<;>omega
   ·rw[if_neg (by omega),if_neg (by simp[h6])];exact n0
  grind
 ·rename_i hk;rw[if_neg hk];have h3:=I4 h;refine key _ (by dsimp only;omega) (by dsimp only;omega) (P5 hG h3) ?_ ?_
  ·dsimp only;rw[if_neg (by omega)];decide
  grind
theorem B1u(hG:∀ t∈L,J3 t):∀ (f:Nat) (l:List Hd) (s:Rd) (r:List Hd × Rd),Z0 L E f l s=some r->okR r.2=true->okR s=true/\(l.length<=32->l.all A0x=true->r.1.length<=32/\r.1.all A0x=true)
 |0,l,s,r,h,_=>by trivial
 |f+1,l,s,r,h,k=>by
  unfold Z0 at h;dsimp only at h;split at h
  ·rename_i hc;refine⟨hc.1,fun h1 h2=>?_⟩;split at h
   ·grind
   split at h
   ·grind
   rename_i hk;obtain⟨hok2,hi2, -,hk6⟩:=H8 (show 0<=C0 L E (E1 L E (C9 L E s ((l.length:Int)+1) 32 9) [111,110]) E9 by omega);have hk6:C0 L E (E1 L E (C9 L E s ((l.length:Int)+1) 32 9) [111,110]) E9<6:=hk6;obtain⟨-,hll, -⟩:=H3 (by simp) (I4 hok2);generalize C0 L E (E1 L E (C9 L E s ((l.length:Int)+1) 32 9) [111,110]) E9=q at h hk hk6;split at h
   ·grind
   ·rename_i b s5 hb;obtain⟨m1,m2⟩:=B1u hG f _ _ _ h k;obtain⟨b1,b2⟩:=(SS.all hG f).1 1 _ _ hb m1;refine m2 (by simp only[A0A,A0N];omega) ?_;rw[A3Q,h2,A2N];simp only[A2T,List.all_nil,A3H,A0x,A0F,A0I];refine⟨⟨⟨by omega,by omega⟩,?_⟩,b2⟩;by_cases hq:2<=q
    ·rw[if_pos (by omega),if_pos hq];rw[if_pos hq]at b1;exact P5 hG b1
    grind
  ·cases h;exact⟨I4 k,fun h1 h2=>⟨h1,h2⟩⟩
theorem C3n(hG:∀ t∈L,J3 t){f:Nat}{s:Rd}{r:Md × Rd}(h:A5l L E f s=some r)(k:okR r.2=true):okR s=true/\Q0 r.1=true:=by
 unfold A5l at h;dsimp only at h;split at h
 ·grind
 ·rename_i l s3 hm;cases h;obtain⟨m1,m2⟩:=B1u hG _ _ _ _ hm k;obtain⟨m3,m4⟩:=m2 (by simp) rfl;have h1:=I4 m1;have h2:=X5 h1;obtain⟨n0,n1⟩:=B4x hG h1;refine⟨I4 (X5 h2),?_⟩;simp only[Q0,A0F,A0I];exact⟨⟨⟨⟨P5 hG h2,n0⟩,n1⟩,m3⟩,m4⟩
theorem A6p(hG:∀ t∈L,J3 t):∀ (f:Nat) (l:List Dc) (s:Rd) (r:List Dc × Rd),W0 L E f l s=some r->okR r.2=true->okR s=true/\(l.length<=128->l.all Y8=true->r.1.length<=128/\r.1.all Y8=true)
 |0,l,s,r,h,_=>by trivial
 |f+1,l,s,r,h,k=>by
  unfold W0 at h;dsimp only at h;split at h
  ·grind
  ·rename_i hk;obtain⟨hs,hi, -,hk8⟩:=H8 (show 0<=C0 L E s E5 by omega);have hk8:C0 L E s E5<8:=hk8;refine⟨hs,fun h1 h2=>?_⟩;split at h
   ·rename_i hl;obtain⟨-,hll,hle⟩:=H3 (by simp) hl;obtain⟨m1,m2⟩:=A6p hG f _ _ _ h k;exact m2 (by grind) (by rw[A3Q,h2,A2N,A2T,C4m hG (by omega) hk8 m1];rfl)
   ·rename_i hl;obtain⟨m1,m2⟩:=A6p hG f _ _ _ h k
    grind
theorem A6o(hG:∀ t∈L,J3 t):∀ (f:Nat) (l:List Md) (s:Rd) (r:List Md × Rd),V1 L E f l s=some r->okR r.2=true->okR s=true/\(l.length<=16->l.all Q0=true->r.1.length<=16/\r.1.all Q0=true)
 |0,l,s,r,h,_=>by trivial
 |f+1,l,s,r,h,k=>by
  unfold V1 at h;dsimp only at h;split at h
  ·rename_i hc;refine⟨hc.1,fun h1 h2=>?_⟩;split at h
   ·cases h;rw[A6l]at k;cases k
   split at h
   ·rename_i hl;split at h
    ·cases h
    ·rename_i m s2 hm;obtain⟨m1,m2⟩:=A6o hG f _ _ _ h k;obtain⟨q1,q2⟩:=C3n hG hm m1;obtain⟨-,hll,hle⟩:=H3 (by decide) hl;exact m2 (by simp only[A0A,A0N];omega) (by rw[A3Q,h2,A2N,A2T,q2];rfl)
   ·rename_i hl;obtain⟨m1,m2⟩:=A6o hG f _ _ _ h k;exact absurd m1 hl
  grind
theorem C3c(hG:∀ t∈L,J3 t){f:Nat}{s:Rd}{r:Ru × Rd}(h:A9d L E f s=some r)(k:okR r.2=true):L1 r.1=true:=by
 unfold A9d at h;split at h
 ·grind
 ·rename_i d s1 hd;split at h
  ·grind
  ·rename_i m s2 hm;cases h;obtain⟨m1,m2⟩:=A6o hG _ _ _ _ hm k;obtain⟨m3,m4⟩:=m2 (by simp) rfl;obtain⟨d1,d2⟩:=A6p hG _ _ _ _ hd m1;obtain⟨d3,d4⟩:=d2 (by simp) rfl;simp only[L1,A0F,A0I]
   grind
end
def rd0:Rd:=⟨0,0,0,0,0⟩
def A7y(L:List Tok)(E:Int):Ru × Rd:=Classical.choose (C0g (L:=L) (E:=E) rd0)
theorem B3f(L:List Tok)(E:Int):Evt (fun f=>A9d L E f rd0) (A7y L E):=Classical.choose_spec (C0g (L:=L) (E:=E) rd0)
mutual
def Ex.sz:Ex->Nat
 |.mk k v n a p=>1+n.length+Ex.szs a
def Ex.szs:List Ex->Nat
 |[]=>0
 |e :: l=>e.sz+Ex.szs l
end
mutual
def St.sz:St->Nat
 |.mk k n t a x y p=>1+n.length+t.length+Ex.szs a+St.szs x+St.szs y
def St.szs:List St->Nat
 |[]=>0
 |e :: l=>e.sz+St.szs l
end
def Dc.sz(d:Dc):Nat:=1+d.name.length
def Hd.sz(h:Hd):Nat:=1+h.name.length+St.szs h.body
def Md.sz(m:Md):Nat:=1+m.name.length+(m.hds.map Hd.sz).sum
def Ru.sz(r:Ru):Nat:=(r.decls.map Dc.sz).sum+(r.modes.map Md.sz).sum
theorem Ex.szs_map:∀ l:List Ex,Ex.szs l=(l.map Ex.sz).sum
 |[]=>rfl
 |e :: l=>by rw[Ex.szs,Ex.szs_map l];rfl
theorem St.szs_map:∀ l:List St,St.szs l=(l.map St.sz).sum
 |[]=>rfl
 |e :: l=>by rw[St.szs,St.szs_map l];rfl
theorem J5{α : Type}{f : α -> Nat}{x : α}:∀ {l:List α},x∈l->f x<=(l.map f).sum
 |a :: l,h=>by
  rw[A0Q,A1R];rcases A0Y.1 h with rfl|h
  ·omega
  ·have:=J5 (f:=f) h;omega
theorem I2{α : Type}{f : α -> Nat}:∀ {l:List α},(∀ x∈l,1<=f x)->l.length<=(l.map f).sum
 |[],h=>A0O _
 |a :: l,h=>by
  have:=I2 (f:=f) (l:=l) fun x hx=>h x (A0G _ hx);have:=h a A0H;rw[A0Q,A1R,A0K];omega
theorem Ex.sz_pos(e:Ex):1<=e.sz:=by cases e with|mk k v n a p=>rw[Ex.sz];omega
theorem St.sz_pos(e:St):1<=e.sz:=by cases e with|mk k n t a x y p=>rw[St.sz];omega
theorem Ex.sz_arg{e x:Ex}(h:x∈e.args):x.sz<e.sz:=by
 cases e with|mk k v n a p =>
 have:=J5 (f:=Ex.sz) h;rw[Ex.sz,Ex.szs_map];have h':(Ex.mk k v n a p).args=a:=rfl;rw[h']at this;omega
theorem Ex.sz_name(e:Ex):e.name.length<e.sz:=by
 cases e with|mk k v n a p=>rw[Ex.sz];show n.length<_;omega
theorem Ex.sz_args(e:Ex):e.args.length<e.sz:=by
 cases e with|mk k v n a p =>
 have:=I2 (f:=Ex.sz) (l:=a) fun x _=>x.sz_pos;rw[Ex.sz,Ex.szs_map];show a.length<_;omega
theorem St.sz_name(e:St):e.name.length<e.sz:=by
 cases e with|mk k n t a x y p=>rw[St.sz];show n.length<_;omega
theorem St.sz_text(e:St):e.text.length<e.sz:=by
 cases e with|mk k n t a x y p=>rw[St.sz];show t.length<_;omega
theorem St.sz_arg{e:St}{x:Ex}(h:x∈e.args):x.sz<e.sz:=by
 cases e with|mk k n t a u w p =>
 have:=J5 (f:=Ex.sz) h;have h':(St.mk k n t a u w p).args=a:=rfl;rw[h']at this;rw[St.sz,Ex.szs_map];omega
theorem St.sz_args(e:St):e.args.length<e.sz:=by
 cases e with|mk k n t a u w p =>
 have:=I2 (f:=Ex.sz) (l:=a) fun x _=>x.sz_pos;rw[St.sz,Ex.szs_map];show a.length<_;omega
theorem St.sz_thn(e:St):St.szs e.thn<e.sz:=by
 cases e with|mk k n t a u w p=>rw[St.sz];show St.szs u<_;omega
theorem St.sz_els(e:St):St.szs e.els<e.sz:=by
 cases e with|mk k n t a u w p=>rw[St.sz];show St.szs w<_;omega
theorem St.szs_len(l:List St):l.length<=St.szs l:=by rw[St.szs_map];exact I2 fun x _=>x.sz_pos
theorem St.szs_mem{l:List St}{x:St}(h:x∈l):x.sz<=St.szs l:=by rw[St.szs_map];exact J5 h
theorem Ex.szs_mem{l:List Ex}{x:Ex}(h:x∈l):x.sz<=Ex.szs l:=by rw[Ex.szs_map];exact J5 h
theorem Ex.szs_len(l:List Ex):l.length<=Ex.szs l:=by rw[Ex.szs_map];exact I2 fun x _=>x.sz_pos
theorem A0(s:List UInt8):(D4 s).length=1:=by unfold D4;split<;>rfl
theorem A6(n:Int):(U0 n).length=1:=by unfold U0;split<;>rfl
theorem A4(s:List UInt8):(A1n s).length=1:=by unfold A1n;split<;>rfl
theorem A3a(q:Int × List Tok)(n:Int):q.2.length<=(E6 q n).length/\(E6 q n).length<=q.2.length+2:=by
 unfold E6;split
 ·simp only[A0A,A0N];omega
 ·omega
theorem A5z:∀ l:List Ex,B0c l=l.map fun e=>(e.kind,exT e)
 |[]=>rfl
 |e :: l=>by rw[B0c,A5z l];rfl
set_option maxHeartbeats 2000000 in
theorem B9o{k v:Int}{n:List UInt8}{as1:List (Int × List Tok)}:1<=(K9 k v n as1).length/\(K9 k v n as1).length<=5+(as1.map fun q=>q.2.length).sum:=by
 unfold K9
 match as1 with
 |[] =>
  dsimp only;repeat' split
  all_goals simp only[A0A,A0N,A0,A6]
  all_goals omega
 |[q] =>
  have:=A3a q 6;dsimp only;repeat' split
  all_goals simp only[A0A,A0N,A0,A6,A0Q,List.map_nil,A1R,A2U]
  all_goals omega
 |[q,r] =>
  have h1:=A3a q (if B6 k=3 then 4 else B6 k);have h2:=A3a r (B6 k+1);dsimp only;generalize E6 q (if B6 k=3 then 4 else B6 k)=A at h1 ⊢;generalize E6 r (B6 k+1)=B at h2 ⊢;generalize A1 (D9.getD (k-12).toNat [])=W;generalize B6 k=lv;repeat' split
  all_goals simp only[A0A,A0N,A0,A6,A0Q,List.map_nil,A1R,A2U]
  all_goals omega
 |q :: r :: w :: l =>
  dsimp only;repeat' split
  all_goals simp only[A0A,A0N,A0,A6]
  all_goals omega
theorem A3f:∀ e:Ex,1<=(exT e).length/\(exT e).length<=5 * e.sz
 |.mk k v n a p=>by
  have ih:∀ x∈a,(exT x).length<=5 * x.sz:=fun x hx=>(A3f x).2;have h:=B9o (k:=k) (v:=v) (n:=n) (as1:=B0c a);rw[exT];refine⟨h.1,?_⟩;have h2:((B0c a).map fun q=>q.2.length).sum<=5 * Ex.szs a:=by
   rw[A5z,A2V,Ex.szs_map];clear h
   induction a with
   |nil=>simp
   |cons x l ihl =>
    have h1:=ih x A0H;have h2:=ihl fun y hy=>ih y (A0G _ hy);simp only[A0Q,A1R,Function.comp]at h2 ⊢;omega
  rw[Ex.sz];omega
theorem D0g(l:List Ex)(i:Nat):1<=(agT l i).length/\(agT l i).length<=1+5 * Ex.szs l:=by
 unfold agT;cases h:l[i]? with
 |none=>exact⟨A0E _,by show 1<=_;omega⟩
 |some e =>
  have h1:=A3f e;have h2:=Ex.szs_mem (A0U h);dsimp only;omega
mutual
theorem A8k:∀ s:St,1<=(stT s).length/\(stT s).length<=11 * s.sz
 |.mk k n t a x y p=>by
  have h0:=D0g a 0;have h1:=D0g a 1;have hx:=A5e x;have hy:∀ l,l=y->(O9 l).length<=11 * St.szs l:=fun l h=>by subst h;exact A5e l
  have hq:∀ q,y=[q]->(stT q).length<=11 * q.sz:=fun q h=>by subst h;exact (A8k q).2
  rw[St.sz];unfold stT;dsimp only;generalize agT a 0=A at h0 ⊢;generalize agT a 1=B at h1 ⊢;generalize O9 x=X at hx ⊢;generalize A1 (B9.getD (k-2).toNat [])=W
  match y,hy,hq with
  |[],hy,hq =>
   dsimp only;rw[St.szs];repeat' split
   all_goals simp only[A0A,A0N,A0,A4]
   all_goals omega
  |[q],hy,hq =>
   have hq:=hq q rfl;dsimp only;rw[St.szs,St.szs];generalize stT q=Q at hq ⊢;repeat' split
   all_goals simp only[A0A,A0N,A0,A4]
   all_goals omega
  |q :: q2 :: r,hy,hq =>
   have hy:=hy _ rfl;dsimp only;generalize O9 (q :: q2 :: r)=Y at hy ⊢;generalize St.szs (q :: q2 :: r)=z at hy ⊢;repeat' split
   all_goals simp only[A0A,A0N,A0,A4]
   all_goals omega
theorem A5e:∀ l:List St,(O9 l).length<=11 * St.szs l
 |[]=>A0O _
 |s :: l=>by
  have h1:=A8k s;have h2:=A5e l;rw[O9,St.szs,A0A];omega
end
theorem A8t(l:List St):1<=(blT l).length/\(blT l).length<=11 * St.szs l+2:=by
 have:=A5e l;unfold blT;simp only[A0A,A0N];omega
theorem C2g(d:Dc):1<=(dcT d).length/\(dcT d).length<=6:=by
 unfold dcT;dsimp only;generalize A1 (E5.getD (d.kind-1).toNat [])=W;repeat' split
 all_goals simp only[A0A,A0N,A0,A6]
 all_goals (first|omega|simp)
theorem D2m(h:Hd):1<=(hdT h).length/\(hdT h).length<=11 * h.sz:=by
 have:=A8t h.body;unfold hdT Hd.sz;generalize A1 (E9.getD (h.trig-1).toNat [])=W;split
 ·simp only[A0A,A0K,A1H,A0];omega
 ·simp only[A0A,A0K,A1H];omega
theorem A8q{α : Type}{f : α -> List Tok}{g : α -> Nat}{c:Nat}:∀ {l:List α},(∀ x∈l,(f x).length<=c * g x)->(l.flatMap f).length<=c * (l.map g).sum
 |[],_=>by simp
 |a :: l,h=>by
  have h1:=h a A0H;have h2:=A8q (l:=l) fun x hx=>h x (A0G _ hx);rw[A2A,A0A,A0Q,A1R,Nat.mul_add];omega
theorem D1v(m:Md):1<=(mdT m).length/\(mdT m).length<=11 * m.sz:=by
 have:=A8q (l:=m.hds) (f:=hdT) (g:=Hd.sz) (c:=11) fun x _=>(D2m x).2;unfold mdT Md.sz;simp only[A0A,A0N,A0,A6];omega
theorem D0z(r:Ru):(ruT r).length<=11 * r.sz+1/\(r.decls.flatMap dcT++r.modes.flatMap mdT).length<=11 * r.sz:=by
 have h1:=A8q (l:=r.decls) (f:=dcT) (g:=Dc.sz) (c:=11) fun x _=>by have:=C2g x;unfold Dc.sz;omega
 have h2:=A8q (l:=r.modes) (f:=mdT) (g:=Md.sz) (c:=11) fun x _=>(D1v x).2;have h3:(r.decls.flatMap dcT++r.modes.flatMap mdT).length<=11 * r.sz:=by
  unfold Ru.sz;rw[A0A];omega
 refine⟨?_,h3⟩;unfold ruT;split
 ·show 1<=_;omega
 ·omega
def C2q(t:Tok):Prop:=J3 t/\0<=t.value/\t.value<=2147483647
abbrev D7(l:List Tok):Prop:=∀ t∈l,C2q t
theorem A7r:C2q W9:=⟨⟨fun h=>by trivial,fun h=>by trivial,fun h=>by rfl⟩,by trivial,by trivial⟩
theorem S2(s:List UInt8):C2q (A1 s):=by
 refine⟨⟨fun h=>?_,fun h=>?_,fun h=>?_⟩,by simp[A1],by simp[A1]⟩;all_goals simp only[A1]at h ⊢
 all_goals (by_cases h1:O7 s=true)
 all_goals (by_cases h2:D6 s=true)
 all_goals (simp_all)
theorem A0q(s:List UInt8):D7 (D4 s):=by
 intro t ht;unfold D4 at ht;split at ht
 ·rw[A1K]at ht;subst ht;trivial
 ·rename_i h;rw[A1K]at ht;subst ht;exact⟨⟨fun _=>by grind,fun h=>by simp,fun h=>by grind⟩,by simp,by simp⟩
theorem C2b(n:Int):D7 (U0 n):=by
 intro t ht;unfold U0 at ht;split at ht
 ·rw[A1K]at ht;subst ht;trivial
 ·rename_i h;rw[A1K]at ht;subst ht;refine⟨⟨fun h=>by simp at h,fun _=>?_,fun h=>by simp at h⟩,?_,?_⟩<;>simp only<;>omega
theorem E1y(s:List UInt8):D7 (A1n s):=by
 intro t ht;unfold A1n at ht;split at ht
 ·rw[A1K]at ht;subst ht;trivial
 ·rename_i h;rw[A1K]at ht;subst ht;refine⟨⟨fun h=>by simp at h,fun h=>by simp at h,fun _=>?_⟩,by simp,by simp⟩;simp only[S1,A0F,A0I]
  grind
theorem D7.app{a b:List Tok}(ha:D7 a)(hb:D7 b):D7 (a++b):=fun t ht=>(A0X.1 ht).elim (ha t) (hb t)
theorem D7.one{t:Tok}(h:C2q t):D7 [t]:=fun x hx=>by grind
theorem D7.nil:D7 []:=fun x hx=>by grind
theorem D7.flat{α : Type}{f : α -> List Tok}{l:List α}(h:∀ x∈l,D7 (f x)):D7 (l.flatMap f):=fun t ht=>by
 grind
theorem C8l{q:Int × List Tok}(n:Int)(h:D7 q.2):D7 (E6 q n):=by
 unfold E6;split
 ·exact ((D7.one (S2 _)).app h).app (D7.one (S2 _))
 omega
theorem E1z{k v:Int}{n:List UInt8}{as1:List (Int × List Tok)}(h:∀ q∈as1,D7 q.2):D7 (K9 k v n as1):=by
 unfold K9;dsimp only;by_cases h1:k=1
 ·rw[if_pos h1];exact C2b _
 rw[if_neg h1];by_cases h2:k=2
 ·rw[if_pos h2];exact A0q _
 rw[if_neg h2];by_cases h3:k=3
 ·rw[if_pos h3];exact D7.one (S2 _)
 rw[if_neg h3];by_cases h4:k=4
 ·rw[if_pos h4];exact D7.one (S2 _)
 rw[if_neg h4];by_cases h8:k=8
 ·rw[if_pos h8];exact D7.one (S2 _)
 rw[if_neg h8];by_cases h9:k=9
 ·rw[if_pos h9];exact D7.one (S2 _)
 rw[if_neg h9];by_cases h5:k=5
 ·rw[if_pos h5];exact (D7.one (S2 _)).app (A0q _)
 rw[if_neg h5];by_cases h6:k=6
 ·rw[if_pos h6];exact (D7.one (S2 _)).app (A0q _)
 rw[if_neg h6];by_cases h7:k=7
 ·rw[if_pos h7];exact (D7.one (S2 _)).app (A0q _)
 rw[if_neg h7]
 match as1,h with
 |[],_=>exact D7.one A7r
 |[q],h =>
  dsimp only;split
  ·exact (D7.one (S2 _)).app (C8l _ (h q A0H))
  ·exact D7.one A7r
 |[q,r],h =>
  dsimp only;split
  ·exact ((C8l _ (h q A0H)).app (D7.one (S2 _))).app (C8l _ (h r (A0G _ A0H)))
  ·exact D7.one A7r
 |_ :: _ :: _ :: _,_=>exact D7.one A7r
theorem D4d:∀ e:Ex,D7 (exT e)
 |.mk k v n a p=>by
  have ih:∀ x∈a,D7 (exT x):=fun x hx=>D4d x;rw[exT,A5z];exact E1z fun q hq=>by
   grind
theorem A9y(l:List Ex)(i:Nat):D7 (agT l i):=by
 unfold agT;cases h:l[i]? with
 |none=>exact D7.one A7r
 |some e=>exact D4d e
mutual
theorem C8j:∀ s:St,D7 (stT s)
 |.mk k n t a x y p=>by
  have hx:=A8p x;have hy:∀ l,l=y->D7 (O9 l):=fun l h=>by subst h;exact A8p l
  have hq:∀ q,y=[q]->D7 (stT q):=fun q h=>by subst h;exact C8j q
  have w:∀ s,D7 [A1 s]:=fun s=>D7.one (S2 s);unfold stT;split
  ·exact (((A0q _).app (w _)).app (A9y _ _)).app (w _)
  split
  ·exact D7.one A7r
  dsimp only;split
  ·have ho:D7 ([A1 (B9.getD (k-2).toNat [])]++agT a 0++([A1 [123]]++O9 x++[A1 [125]])):=((w _).app (A9y _ _)).app (((w _).app hx).app (w _))
   match y,hy,hq with
   |[],_,_=>omega
   |[q],_,hq =>
    dsimp only;split
    ·exact (ho.app (w _)).app (hq q rfl)
    grind
   |q :: q2 :: r,hy,_=>grind
  split
  ·exact ((w _).app (A9y _ _)).app (w _)
  split
  ·exact ((((w _).app (E1y _)).app (w _)).app (A9y _ _)).app (w _)
  split
  ·exact (((w _).app (A0q _)).app (A9y _ _)).app (w _)
  split
  ·exact (((((w _).app (A0q _)).app (A9y _ _)).app (w _)).app (A9y _ _)).app (w _)
  split
  ·grind
  ·exact ((w _).app (A0q _)).app (w _)
theorem A8p:∀ l:List St,D7 (O9 l)
 |[]=>by rw[O9];grind
 |s :: l=>by rw[O9];exact (C8j s).app (A8p l)
end
theorem D8m(l:List St):D7 (blT l):=((D7.one (S2 _)).app (A8p l)).app (D7.one (S2 _))
theorem D8l(d:Dc):D7 (dcT d):=by
 have w:∀ s,D7 [A1 s]:=fun s=>D7.one (S2 s);unfold dcT;split
 ·exact D7.one A7r
 ·dsimp only;refine D7.app ?_ (w _);split
  ·exact (w _).app (A0q _)
  split
  ·exact (((w _).app (A0q _)).app (w _)).app (C2b _)
  ·exact ((w _).app (A0q _)).app (C2b _)
theorem D8k(h:Hd):D7 (hdT h):=by
 unfold hdT;refine D7.app (D7.app ?_ ?_) (D8m _)
 ·exact (D7.one (S2 _)).app (D7.one (S2 _))
 ·split
  ·exact A0q _
  grind
theorem D8j(m:Md):D7 (mdT m):=by
 have w:∀ s,D7 [A1 s]:=fun s=>D7.one (S2 s);unfold mdT;exact (((((w _).app (A0q _)).app (C2b _)).app (w _)).app (D7.flat fun x _=>D8k x)).app (w _)
theorem C8k(r:Ru):D7 (ruT r):=by
 unfold ruT;split
 ·exact D7.one A7r
 ·exact (D7.flat fun x _=>D8l x).app (D7.flat fun x _=>D8j x)
section
variable {L:List Tok} {E:Int}
theorem C1g{s:List UInt8}(h:D6 s=true):s.length<=12:=by
 unfold D6 at h
 grind
theorem A2u(hG:∀ t∈L,J3 t){s:Rd}:(A8 L E s 1).1.text.length<=12:=by
 cases h:K2 L E s 1 with
 |false=>unfold A8;rw[if_pos h];exact A0O _
 |true =>
  unfold A8;rw[if_neg (by grind)];exact C1g ((hG _ (J8 (by simp) (I3 h).2).1).1 (I3 h).2)
theorem D0q(hG:∀ t∈L,J3 t){s:Rd}:(A8 L E s 4).1.text.length<=32:=by
 cases h:K2 L E s 4 with
 |false=>unfold A8;rw[if_pos h];exact A0O _
 |true =>
  unfold A8;rw[if_neg (by rw[h];decide)];have:=(hG _ (J8 (by decide) (I3 h).2).1).2.2 (I3 h).2;unfold S1 at this
  grind
theorem D1h(hG:∀ t∈L,J3 t){s:Rd}:(J7 L E s).1.sz+13 * s.i<=13 * (J7 L E s).2.i+1:=by
 have hge:=C0u (L:=L) (E:=E) (s:=s);have h2:(C9 L E { s with ops:=s.ops+1 } (s.ops+1) 32 9).i=s.i:=G8;unfold J7 at hge ⊢;dsimp only at hge ⊢;split
 ·rename_i hc;rw[if_pos hc]at hge;show 1+0+0+_<=_;omega
 ·rename_i hc;rw[if_neg hc]at hge;split
  ·show 1+0+0+13 * s.i<=13 * (C9 L E { s with ops:=s.ops+1 } (s.ops+1) 32 9).i+1;omega
  ·have h3:(A7 (C9 L E { s with ops:=s.ops+1 } (s.ops+1) 32 9)).i=s.i+1:=by show (C9 L E { s with ops:=s.ops+1 } (s.ops+1) 32 9).i+1=_;omega
   generalize A7 (C9 L E { s with ops:=s.ops+1 } (s.ops+1) 32 9)=s3 at h3;have h4:=I9 (L:=L) (E:=E) (s:=s3) (x:=1);have h5:=A2u (L:=L) (E:=E) hG (s:=s3);split
   ·split
    ·show 1+(A8 L E s3 1).1.text.length+0+13 * s.i<=13 * (A8 L E s3 1).2.i+1;omega
    ·show 1+0+0+13 * s.i<=13 * s3.i+1;omega
   ·rename_i hk;split
    ·show 1+0+0+13 * s.i<=13 * s3.i+1;omega
    ·rename_i hk3;have h1k:K2 L E s 1=true:=by
      cases hz:K2 L E s 1 with
      |true=>rfl
      |false =>
       refine absurd ⟨by omega,?_,hz⟩ hc;cases hy:K2 L E s 3 with
       |false=>rfl
       |true=>exact absurd (I3 hy).2 hk3
     have:=C1g ((hG _ (J8 (by simp) (I3 h1k).2).1).1 (I3 h1k).2);show 1+(B8 L E s).text.length+0+13 * s.i<=13 * s3.i+1;omega
theorem EZ.all(hG:∀ t∈L,J3 t):∀ f:Nat,(∀ n s r,L5 L E f n s=some r->r.1.sz+13 * s.i<=13 * r.2.i+1)/\(∀ n e s r,U1 L E f n e s=some r->r.1.sz+13 * s.i<=13 * r.2.i+e.sz)/\(∀ s r,Y9 L E f s=some r->r.1.sz+13 * s.i<=13 * r.2.i+1)
 |0=>⟨fun n s r h=>by trivial,fun n e s r h=>by trivial,fun s r h=>by trivial⟩
 |f+1=>by
  obtain⟨i1,i2,i3⟩:=EZ.all hG f;refine⟨fun n s r h=>?_,fun n e s r h=>?_,fun s r h=>?_⟩
  ·unfold L5 at h
   grind
  ·unfold U1 at h;dsimp only at h;split at h
   ·grind
   ·split at h
    ·grind
    ·rename_i x s1 hb;have h1:=i1 _ _ _ hb;have h1:x.sz+13 * (s.i+1)<=13 * s1.i+1:=h1;have h3:(Ex.mk (12+C0 L E s D9) 0 [] [e,x] (B8 L E s).pos).sz=1+e.sz+x.sz:=by rw[Ex.sz,Ex.szs,Ex.szs,Ex.szs];simp;omega
     grind
  ·unfold Y9 at h;dsimp only at h;split at h
   ·cases h;exact D1h hG
   ·split at h
    ·cases h;show 1+0+0+13 * s.i<=13 * (C9 L E s (s.par+1) 16 50).i+1;rw[G8];omega
    ·rename_i hl;have hl:okR (C9 L E s (s.par+1) 16 50)=true:=by grind
     obtain⟨-, -,h3⟩:=H3 (by simp) hl;rw[h3]at h;split at h
     ·split at h
      ·grind
      ·rename_i e s3 hb;cases h;have h1:=i1 _ _ _ hb;have h1:e.sz+13 * (s.i+1)<=13 * s3.i+1:=h1;have h2:=E8 (L:=L) (E:=E) (s:=s3) (x:=[41])
       grind
     ·split at h
      ·grind
      ·rename_i e s3 hb;cases h;have h1:=i3 _ _ hb;have h1:e.sz+13 * (s.i+1)<=13 * s3.i+1:=h1;have h4:(Ex.mk (10+C0 L E s Q2) 0 [] [e] (B8 L E s).pos).sz=1+e.sz:=by rw[Ex.sz,Ex.szs,Ex.szs];simp
       grind
theorem A3e(hG:∀ t∈L,J3 t){f:Nat}{s:Rd}{r:Ex × Rd}(h:R4 L E f s=some r):r.1.sz+13 * s.i<=13 * r.2.i+1:=(EZ.all hG f).1 1 { s with ops:=0,par:=0 } r h
theorem A7n(k p:Int)(n t:List UInt8)(a:List Ex)(x y:List St):(St.mk k n t a x y p).sz=1+n.length+t.length+Ex.szs a+St.szs x+St.szs y:=by rfl
theorem D0s(hG:∀ t∈L,J3 t){f:Nat}{k p:Int}{s:Rd}{r:St × Rd}(h:N1 L E f k p s=some r):r.1.sz+100 * s.i<=100 * r.2.i+40:=by
 have t1:=A2u (L:=L) (E:=E) hG (s:=s);have t4:=D0q (L:=L) (E:=E) hG (s:=s);have g1:=I9 (L:=L) (E:=E) (s:=s) (x:=1);have g4:=I9 (L:=L) (E:=E) (s:=s) (x:=4);unfold N1 at h;dsimp only at h;split at h
 ·split at h
  ·grind
  ·rename_i e s1 he;cases h;have h1:=A3e hG he;have h2:=E8 (L:=L) (E:=E) (s:=s1) (x:=[59]);rw[A7n,Ex.szs,Ex.szs,St.szs]
   grind
 split at h
 ·split at h
  ·grind
  ·rename_i e s1 he;cases h;have h1:=A3e hG he;have h2:=E8 (L:=L) (E:=E) (s:=s1) (x:=[59]);have h3:=E8 (L:=L) (E:=E) (s:=(A8 L E s 4).2) (x:=[44]);rw[A7n,Ex.szs,Ex.szs,St.szs]
   grind
 split at h
 ·cases h;have h2:=E8 (L:=L) (E:=E) (s:=s) (x:=[59]);rw[A7n,Ex.szs,St.szs]
  grind
 split at h
 ·split at h
  ·grind
  ·rename_i e s1 he;have h1:=A3e hG he;split at h
   ·split at h
    ·grind
    ·rename_i e2 s2 he2;cases h;have h4:=A3e hG he2;have h2:=E8 (L:=L) (E:=E) (s:=s2) (x:=[59]);have h3:=E8 (L:=L) (E:=E) (s:=s1) (x:=[44]);rw[A7n,Ex.szs,Ex.szs,Ex.szs,St.szs]
     grind
   ·cases h;have h2:=E8 (L:=L) (E:=E) (s:=s1) (x:=[59]);rw[A7n,Ex.szs,Ex.szs,St.szs]
    grind
 ·cases h;have h2:=E8 (L:=L) (E:=E) (s:=(A8 L E s 1).2) (x:=[59]);rw[A7n,Ex.szs,St.szs]
  grind
theorem C0a:∀ (l:List St) (x:St),St.szs (l++[x])=St.szs l+x.sz
 |[],x=>by simp[St.szs]
 |a :: l,x=>by rw[List.cons_append,St.szs,St.szs,C0a l x];omega
theorem SZ.all(hG:∀ t∈L,J3 t):∀ f:Nat,(∀ d s r,P9 L E f d s=some r->St.szs r.1+100 * s.i<=100 * r.2.i+40) /\
  (∀ d l s r,V7 L E f d l s=some r->St.szs r.1+100 * s.i<=100 * r.2.i+St.szs l+40/\(okR s=false->St.szs r.1<=St.szs l)) /\
  (∀ d s r,V8 L E f d s=some r->r.1.sz+100 * s.i<=100 * r.2.i+40/\(r.1.sz+100 * s.i<=100 * r.2.i\/okR r.2=false/\r.1.sz<=40)/\s.i<=r.2.i) /\
  (∀ d s r,V5 L E f d s=some r->St.szs r.1+100 * s.i<=100 * r.2.i+40)
 |0=>⟨fun d s r h=>by trivial,fun d l s r h=>by trivial,fun d s r h=>by trivial,fun d s r h=>by trivial⟩
 |f+1=>by
  obtain⟨i1,i2,i3,i4⟩:=SZ.all hG f;refine⟨fun d s r h=>?_,fun d l s r h=>?_,fun d s r h=>?_,fun d s r h=>?_⟩
  ·unfold P9 at h;have h1:=(i2 _ _ _ _ h).1;have h2:=E8 (L:=L) (E:=E) (s:=s) (x:=[123]);rw[St.szs]at h1;omega
  ·unfold V7 at h;split at h
   ·rename_i hc;refine⟨?_,fun h0=>by grind⟩;split at h
    ·cases h;show St.szs []+100 * s.i<=100 * (Q1 L E s).i+St.szs l+40;rw[T7,St.szs];omega
    ·split at h
     ·grind
     ·rename_i x s1 he;obtain⟨h1,h2⟩:=i2 _ _ _ _ h;obtain⟨h3,h4,h5⟩:=i3 _ _ _ he;rw[G8]at h3 h4 h5;rw[C0a]at h1 h2;dsimp only at h3 h4 h5;rcases h4 with h4|⟨h4,h6⟩
      ·omega
      ·have h7:=h2 h4;have h8:s1.i<=r.2.i:=by
        obtain⟨N,hN⟩:=(ST.all (L:=L) (E:=E) _).2 d (l++[x]) s1 (A0E _);obtain⟨⟨M,hM⟩,hg⟩:=hN;have h9:okR s1=false:=h4;have hfr:A0g L E d (l++[x]) s1 (l++[x],E1 L E s1 [125]):=A0g.stop (by grind);cases f with
        |zero=>trivial
        |succ f =>
         rw[V7,if_neg (by grind)]at h;cases h;exact E8
       omega
   ·rename_i hc;cases h;have h2:=E8 (L:=L) (E:=E) (s:=s) (x:=[125])
    grind
  ·have hst:=(ST.all (L:=L) (E:=E) (L.length-s.i)).1 d s (A0E _);unfold V8 at h;dsimp only at h;split at h
   ·rename_i hl;cases h;have e1:St0.sz=1:=by rfl
    refine⟨?_,.inr ⟨hl,by grind⟩,?_⟩
    ·show St0.sz+100 * s.i<=100 * (C9 L E s d 8 50).i+40;rw[G8];omega
    ·show s.i<=(C9 L E s d 8 50).i;rw[G8];omega
   rename_i hl;have hl:okR (C9 L E s d 8 50)=true:=by grind
   obtain⟨hs,hd,hle⟩:=H3 (by simp) hl;rw[hle]at h;split at h
   ·split at h
    ·grind
    ·rename_i e s1 he;cases h;have h1:=A3e hG he;have h2:=E8 (L:=L) (E:=E) (s:=s1) (x:=[59]);have h3:=E8 (L:=L) (E:=E) (s:=(A8 L E s 1).2) (x:=[61]);have h4:=I9 (L:=L) (E:=E) (s:=s) (x:=1);have h5:=A2u (L:=L) (E:=E) hG (s:=s);have hsz:(St.mk 1 (A8 L E s 1).1.text [] [e] [] [] (B8 L E s).pos).sz=1+(A8 L E s 1).1.text.length+e.sz:=by
      rfl
     rw[hsz];dsimp only at h1 ⊢;refine⟨by omega,?_,by omega⟩;by_cases ht:K2 L E s 1=true
     ·have h6:(A8 L E s 1).2.i=s.i+1:=by unfold A8;rw[if_neg (by rw[ht];decide)];rfl
      omega
     ·have ht:K2 L E s 1=false:=by grind
      have h6:(A8 L E s 1).2=Q1 L E s:=by unfold A8;grind
      by_cases hp:1<=(E1 L E s1 [59]).i-s.i
      ·omega
      ·refine .inr ⟨?_,by omega⟩;cases hz:okR (E1 L E s1 [59]) with
       |false=>rfl
       |true =>
        have h7:=(B3z hz).2;have h8:(E1 L E s1 [59]).i=s1.i+1:=by rw[h7];rfl
        omega
   ·rename_i hk;obtain⟨-,hi, -,hk18⟩:=H8 (show 0<=C0 L E s B9 by omega);have hn:(A7 s).i=s.i+1:=rfl;split at h
    ·split at h
     ·grind
     ·rename_i e s2 he;split at h
      ·grind
      ·rename_i t s3 ht;have h1:=A3e hG he;have h2:=i1 _ _ _ ht;rw[hn]at h1;dsimp only at h1 h2;split at h
       ·split at h
        ·grind
        ·rename_i o s4 ho;cases h;have h3:=i4 _ _ _ ho;have h3:St.szs o+100 * (s3.i+1)<=100 * s4.i+40:=h3;have hsz:(St.mk 2 [] [] [e] t o (B8 L E s).pos).sz=1+e.sz+St.szs t+St.szs o:=by
          rw[A7n,Ex.szs,Ex.szs];simp
         grind
       ·cases h;have hsz:(St.mk (2+C0 L E s B9) [] [] [e] t [] (B8 L E s).pos).sz=1+e.sz+St.szs t:=by
         rw[A7n,Ex.szs,Ex.szs,St.szs];simp
        grind
    ·have h1:=D0s hG h;omega
  ·unfold V5 at h;split at h
   ·split at h
    ·cases h
    ·rename_i x s1 he;cases h;have h1:=(i3 _ _ _ he).1;rw[St.szs,St.szs];dsimp only at h1 ⊢;omega
   grind
end
section
variable {L:List Tok} {E:Int}
theorem D8w(hG:∀ t∈L,J3 t){k:Int}{s:Rd}:(T2 L E k s).1.sz<=13:=by
 have h:=A2u (L:=L) (E:=E) hG (s:=A7 s);unfold T2 Dc.sz;dsimp only;split
 ·dsimp only;omega
 ·dsimp only;omega
theorem B3b{α : Type}(f : α -> Nat)(l:List α)(x : α):((l++[x]).map f).sum=(l.map f).sum+f x:=by simp
theorem C7m(hG:∀ t∈L,J3 t):∀ (f:Nat) (l:List Hd) (s:Rd) (r:List Hd × Rd),Z0 L E f l s=some r->(r.1.map Hd.sz).sum+100 * s.i<=100 * r.2.i+(l.map Hd.sz).sum
 |0,l,s,r,h=>by simp[Z0]at h
 |f+1,l,s,r,h=>by
  unfold Z0 at h;dsimp only at h;split at h
  ·split at h
   ·cases h;show (l.map Hd.sz).sum+100 * s.i<=100 * (Q1 L E s).i+_;rw[T7];omega
   ·have h1:(C9 L E s ((l.length:Int)+1) 32 9).i=s.i:=G8;generalize C9 L E s ((l.length:Int)+1) 32 9=s1 at h h1;split at h
    ·cases h;have h2:=E8 (L:=L) (E:=E) (s:=s1) (x:=[111,110]);show (l.map Hd.sz).sum+100 * s.i<=100 * (Q1 L E (E1 L E s1 [111,110])).i+_;rw[T7];omega
    ·rename_i hk;obtain⟨hok,hi, -⟩:=H8 (show 0<=C0 L E (E1 L E s1 [111,110]) E9 by omega);have h3:(E1 L E s1 [111,110]).i=s1.i+1:=by rw[(B3z hok).2];rfl
     generalize E1 L E s1 [111,110]=s2 at h hk h3;have h4:=I9 (L:=L) (E:=E) (s:=A7 s2) (x:=1);have h5:=A2u (L:=L) (E:=E) hG (s:=A7 s2);have h6:(A7 s2).i=s2.i+1:=rfl;split at h
     ·cases h
     ·rename_i b s5 hb;have h7:=(SZ.all hG f).1 _ _ _ hb;have h8:=C7m hG f _ _ _ h;rw[B3b]at h8;have h9:s2.i+1<=(if 2<=C0 L E s2 E9 then (A8 L E (A7 s2) 1).2 else A7 s2).i:=by
       split
       ·omega
       ·omega
      have h10:(if 2<=C0 L E s2 E9 then (A8 L E (A7 s2) 1).1.text else []).length<=12:=by
       split
       ·exact h5
       ·exact A0O _
      have h11:Hd.sz ⟨1+C0 L E s2 E9,if 2<=C0 L E s2 E9 then (A8 L E (A7 s2) 1).1.text else [],b,(B8 L E s1).pos⟩<=13+St.szs b:=by
       unfold Hd.sz;dsimp only;omega
      dsimp only at h7 h8;omega
  ·cases h;have h2:=E8 (L:=L) (E:=E) (s:=s) (x:=[125]);dsimp only;omega
theorem D7n(hG:∀ t∈L,J3 t){f:Nat}{s:Rd}{r:Md × Rd}(h:A5l L E f s=some r)(hm:isR L E s [109,111,100,101]=true):r.1.sz+100 * s.i<=100 * r.2.i:=by
 unfold A5l at h;dsimp only at h;split at h
 ·cases h
 ·rename_i l s3 hml;cases h;have h1:=C7m hG _ _ _ _ hml;have h2:(E1 L E s [109,111,100,101]).i=s.i+1:=by unfold E1;rw[if_neg (by rw[hm];decide)];rfl
  generalize E1 L E s [109,111,100,101]=s1 at h1 h2 ⊢;have h3:=A2u (L:=L) (E:=E) hG (s:=s1);have h4:=I9 (L:=L) (E:=E) (s:=s1) (x:=1);have h5:=I9 (L:=L) (E:=E) (s:=(A8 L E s1 1).2) (x:=3);have h6:=E8 (L:=L) (E:=E) (s:=(A8 L E (A8 L E s1 1).2 3).2) (x:=[123]);unfold Md.sz;dsimp only at h1 ⊢;simp only[List.map_nil,A2U]at h1;omega
theorem B7y(hG:∀ t∈L,J3 t):∀ (f:Nat) (l:List Dc) (s:Rd) (r:List Dc × Rd),W0 L E f l s=some r->(r.1.map Dc.sz).sum+100 * s.i<=100 * r.2.i+(l.map Dc.sz).sum
 |0,l,s,r,h=>by simp[W0]at h
 |f+1,l,s,r,h=>by
  unfold W0 at h;dsimp only at h;split at h
  ·cases h;dsimp only;omega
  ·have h1:(C9 L E s ((l.length:Int)+1) 128 9).i=s.i:=G8;split at h
   ·have h2:=B7y hG f _ _ _ h;rw[B3b]at h2;have h3:=D8w (L:=L) (E:=E) hG (k:=C0 L E s E5) (s:=C9 L E s ((l.length:Int)+1) 128 9);have h4:=C9p (L:=L) (E:=E) (k:=C0 L E s E5) (s:=C9 L E s ((l.length:Int)+1) 128 9);omega
   ·have h2:=B7y hG f _ _ _ h;omega
theorem B7x(hG:∀ t∈L,J3 t):∀ (f:Nat) (l:List Md) (s:Rd) (r:List Md × Rd),V1 L E f l s=some r->(r.1.map Md.sz).sum+100 * s.i<=100 * r.2.i+(l.map Md.sz).sum
 |0,l,s,r,h=>by simp[V1]at h
 |f+1,l,s,r,h=>by
  unfold V1 at h;dsimp only at h;split at h
  ·split at h
   ·cases h;show (l.map Md.sz).sum+100 * s.i<=100 * (Q1 L E s).i+_;rw[T7];omega
   ·rename_i hm;have hm:isR L E s [109,111,100,101]=true:=by simpa using hm
    split at h
    ·rename_i hl;have e0:=(H3 (by decide) hl).2.2;rw[e0]at h;split at h
     ·cases h
     ·rename_i m s2 hmd;have h1:=D7n hG hmd hm;have h2:=B7x hG f _ _ _ h;rw[B3b]at h2;dsimp only at h1;omega
    ·have h1:(C9 L E s ((l.length:Int)+1) 16 9).i=s.i:=G8;have h2:=B7x hG f _ _ _ h;omega
  ·cases h;dsimp only;omega
theorem D5z(hG:∀ t∈L,J3 t){f:Nat}{s:Rd}{r:Ru × Rd}(h:A9d L E f s=some r)(hi:s.i<=L.length):r.1.sz<=100 * L.length:=by
 unfold A9d at h;split at h
 ·cases h
 ·rename_i d s1 hd;split at h
  ·cases h
  ·rename_i m s2 hm;cases h;have h1:=B7y hG _ _ _ _ hd;have h2:=B7x hG _ _ _ _ hm;have h3:=C6b _ _ _ _ hm (C6c _ _ _ _ hd hi);unfold Ru.sz;simp only[List.map_nil,A2U]at h1 h2 h3 ⊢;omega
end
theorem D0y{L:List Tok}{E:Int}(hG:∀ t∈L,J3 t):(A7y L E).1.sz<=100 * L.length:=by
 obtain⟨f,hf⟩:=(B3f L E).get;exact D5z hG hf (A0O _)
mutual
theorem Ex.plain_sz:∀ e:Ex,e.plain.sz=e.sz
 |.mk k v n a p=>by rw[Ex.plain,Ex.sz,Ex.sz,Ex.plains_sz a]
theorem Ex.plains_sz:∀ l:List Ex,Ex.szs (Ex.plains l)=Ex.szs l
 |[]=>rfl
 |e :: l=>by rw[Ex.plains,Ex.szs,Ex.szs,Ex.plain_sz e,Ex.plains_sz l]
end
mutual
theorem St.plain_sz:∀ e:St,e.plain.sz=e.sz
 |.mk k n t a x y p=>by rw[St.plain,St.sz,St.sz,Ex.plains_sz a,St.plains_sz x,St.plains_sz y]
theorem St.plains_sz:∀ l:List St,St.szs (St.plains l)=St.szs l
 |[]=>rfl
 |e :: l=>by rw[St.plains,St.szs,St.szs,St.plain_sz e,St.plains_sz l]
end
theorem Md.plain_sz(m:Md):m.plain.sz=m.sz:=by
 unfold Md.sz Md.plain;dsimp only;rw[A2V]
 congr 2
 refine A4K fun h _=>?_;show Hd.sz h.plain=Hd.sz h;unfold Hd.sz Hd.plain;dsimp only;rw[St.plains_sz]
theorem Ru.plain_sz(r:Ru):r.plain.sz=r.sz:=by
 unfold Ru.sz Ru.plain;dsimp only;rw[A2V,A2V]
 congr 2
 exact A4K fun m _=>Md.plain_sz m
def C2v(r:Ru):Bool:=okR (A7y (ruT r) 0).2 && @decide ((A7y (ruT r) 0).1.plain=r.plain) (Classical.propDecidable _)
def S6(t:Tok):Bool:=t.kind == 5 || t.kind == 2
def ixA:Nat->List (List UInt8)->List UInt8->Int
 |_,[],_ => -1
 |k,t :: l,x=>if x == t then (k:Int) else ixA (k+1) l x
def amT(t:Tok)(l:List (List UInt8)):Int:=if S6 t=true then ixA 0 l t.text else -1
def hd0(E:Int)(ts:List Tok):Tok:=ts.headD ⟨0,[],0,E⟩
def A1p(t:Tok):Int:=if amT t D9<0 then 0 else B6 (12+amT t D9)
abbrev lvo(E:Int)(ts:List Tok):Int:=A1p (hd0 E ts)
section
variable {L:List Tok} {E:Int}
theorem A8l(s:Rd):B8 L E s=hd0 E (L.drop s.i):=by
 unfold B8 hd0;simp
theorem C6{s:Rd}{t:Tok}{ts:List Tok}(h:L.drop s.i=t :: ts):B8 L E s=t:=by rw[A8l,h];rfl
theorem F1{s:Rd}{t:Tok}{ts:List Tok}(h:L.drop s.i=t :: ts):L.drop (s.i+1)=ts:=by
 rw[<- A4F,h];rfl
theorem H4{i:Nat}{a b:List Tok}(h:L.drop i=a++b):L.drop (i+a.length)=b:=by
 rw[<- A4F,h,List.drop_left]
theorem D4o{s:Rd}(hok:okR s=true):∀ (l:List (List UInt8)) (k:Nat),A1m L E s k l=if S6 (B8 L E s)=true then ixA k l (B8 L E s).text else -1
 |[],k=>by simp[A1m,ixA]
 |t :: l,k=>by
  have ih:=D4o hok l (k+1);have hi:isR L E s t=(S6 (B8 L E s) && (B8 L E s).text == t):=by unfold isR S6;rw[hok,A2N]
  rw[A1m,ixA,ih,hi]
  grind
theorem U8{s:Rd}(hok:okR s=true)(l:List (List UInt8)):C0 L E s l=amT (B8 L E s) l:=D4o hok l 0
theorem A3p{s:Rd}(hok:okR s=true)(t:List UInt8):isR L E s t=(S6 (B8 L E s) && (B8 L E s).text == t):=by unfold isR S6;grind
theorem B1z{s:Rd}(hok:okR s=true)(k:Int):K2 L E s k=((B8 L E s).kind == k):=by unfold K2;grind
theorem D4i{s:Rd}{t:List UInt8}(hok:okR s=true)(h1:S6 (B8 L E s)=true)(h2:(B8 L E s).text=t):E1 L E s t=A7 s:=by
 unfold E1;rw[A3p hok,h1,h2,if_neg (by simp)]
theorem B2z{s:Rd}{k:Int}(hok:okR s=true)(h1:(B8 L E s).kind=k):A8 L E s k=(B8 L E s,A7 s):=by
 unfold A8;rw[B1z hok,if_neg (by grind)]
def adv(s:Rd)(k:Nat)(o:Nat):Rd:={ s with i:=s.i+k,ops:=s.ops+(o:Int) }
theorem A2q{s:Rd}{k o:Nat}(h:okR s=true):okR (adv s k o)=true:=h
theorem X7{n:Int}{e:Ex}{s:Rd}(hok:okR s=true)(hn:1<=n)(h:lvo E (L.drop s.i)≠n):Lop L E n e s (e,s):=by
 refine Lop.stop ?_;rw[U8 hok,A8l];unfold lvo A1p at h;omega
theorem B0s{s s1:Rd}{e:Ex}(hok:okR s1=true):∀ (j:Nat) {m n:Int} {r:Ex × Rd},m-n<=j->Bin L E m s (e,s1)->1<=n->n<m->m<=6->lvo E (L.drop s1.i)<=n->Lop L E n e s1 r->Bin L E n s r
 |0,m,n,r,hj,h,h1,h2,h3,h4,hr=>by omega
 |j+1,m,n,r,hj,h,h1,h2,h3,h4,hr=>by
  by_cases he:n+1=m
  ·exact Bin.go (by omega) (by grind) hr
  ·refine Bin.go (by omega) ?_ hr;exact B0s hok j (m:=m) (n:=n+1) (by omega) h (by omega) (by omega) h3 (by omega) (X7 hok (by omega) (by omega))
theorem B2t{s s1:Rd}{e:Ex}{n:Int}{r:Ex × Rd}(hok:okR s1=true)(h:Un L E s (e,s1))(h1:1<=n)(h2:n<=5)(h4:lvo E (L.drop s1.i)<=n)(hr:Lop L E n e s1 r):Bin L E n s r :=
 B0s hok 6 (m:=6) (by omega) (Bin.un (by simp) h) h1 (by omega) (by omega) h4 hr
theorem D5d{s s1:Rd}{e:Ex}{n:Int}(hok:okR s1=true)(h:Un L E s (e,s1))(h1:1<=n)(h2:n<=5)(h4:lvo E (L.drop s1.i)<n):Bin L E n s (e,s1) :=
 B2t hok h h1 h2 (by omega) (X7 hok h1 (by omega))
theorem C2n{t:Tok}(l:List (List UInt8))(h:S6 t=false):amT t l = -1:=by unfold amT;grind
theorem C6p{s:Rd}{v:Int}{ts:List Tok}(hok:okR s=true)(h:L.drop s.i=⟨3,[],v,0⟩ :: ts)(ho:s.ops+1<=32):Un L E s (.mk 1 v [] [] 0,adv s 1 1):=by
 have hp:=C6 (E:=E) h;have ha:∀ l,C0 L E s l = -1:=fun l=>by rw[U8 hok,hp];exact C2n l rfl
 have h1:=Un.prim (L:=L) (E:=E) (s:=s) (by rw[ha];decide);have h2:J7 L E s=(.mk 1 v [] [] 0,adv s 1 1):=by
  unfold J7;dsimp only;rw[ha,hp,B1z hok,B1z hok,hp,if_neg (by simp),show C9 L E { s with ops:=s.ops+1 } (s.ops+1) 32 9 = { s with ops:=s.ops+1 } from if_neg (by omega),if_neg (by show ¬ okR s=false;rw[hok];decide),if_neg (by decide),if_pos rfl];rfl
 grind
theorem C6o{s:Rd}{n:List UInt8}{ts:List Tok}(hok:okR s=true)(h:L.drop s.i=⟨1,n,0,0⟩ :: ts)(ho:s.ops+1<=32):Un L E s (.mk 2 0 n [] 0,adv s 1 1):=by
 have hp:=C6 (E:=E) h;have ha:∀ l,C0 L E s l = -1:=fun l=>by rw[U8 hok,hp];exact C2n l rfl
 have h1:=Un.prim (L:=L) (E:=E) (s:=s) (by rw[ha];decide);have h2:J7 L E s=(.mk 2 0 n [] 0,adv s 1 1):=by
  unfold J7;dsimp only;rw[ha,hp,B1z hok,B1z hok,hp,if_neg (by simp),show C9 L E { s with ops:=s.ops+1 } (s.ops+1) 32 9 = { s with ops:=s.ops+1 } from if_neg (by omega),if_neg (by show ¬ okR s=false;rw[hok];decide),if_neg (by decide),if_neg (by show ¬ (1:Int)=3;decide)];rfl
 grind
theorem A2y{s:Rd}{w:List UInt8}{ts:List Tok}{j:Nat}(hok:okR s=true)(h:L.drop s.i=A1 w :: ts)(ho:s.ops+1<=32)(hj:j<4)(hi:amT (A1 w) S7=(j:Int))(hpre:amT (A1 w) Q2<0):
  Un L E s (.mk (A6r.getD j 0) 0 [] [] 0,adv s 1 1):=by
 have hp:=C6 (E:=E) h;have h1:=Un.prim (L:=L) (E:=E) (s:=s) (by rw[U8 hok,hp];exact hpre);have ha:C0 L E s S7=(j:Int):=by rw[U8 hok,hp];exact hi
 have h2:J7 L E s=(.mk (A6r.getD j 0) 0 [] [] 0,adv s 1 1):=by
  unfold J7;dsimp only;rw[ha,hp,if_neg (by omega),show C9 L E { s with ops:=s.ops+1 } (s.ops+1) 32 9 = { s with ops:=s.ops+1 } from if_neg (by omega),if_neg (by show ¬ okR s=false;rw[hok];decide),if_pos (by omega),if_neg (by omega)];rfl
 grind
theorem A6q{s:Rd}{w n:List UInt8}{ts:List Tok}{j:Nat}(hok:okR s=true)(h:L.drop s.i=A1 w :: ⟨1,n,0,0⟩ :: ts)(ho:s.ops+1<=32)(hj4:4<=j)(hj:j<7)(hi:amT (A1 w) S7=(j:Int))(hpre:amT (A1 w) Q2<0):
  Un L E s (.mk (A6r.getD j 0) 0 n [] 0,adv s 2 1):=by
 have hp:=C6 (E:=E) h;have hd:=F1 h;have h1:=Un.prim (L:=L) (E:=E) (s:=s) (by rw[U8 hok,hp];exact hpre);have ha:C0 L E s S7=(j:Int):=by rw[U8 hok,hp];exact hi
 have hp2:B8 L E (A7 { s with ops:=s.ops+1 })=⟨1,n,0,0⟩:=C6 hd;have ht:A8 L E (A7 { s with ops:=s.ops+1 }) 1=(⟨1,n,0,0⟩,A7 (A7 { s with ops:=s.ops+1 })):=by
  rw[B2z (show okR (A7 { s with ops:=s.ops+1 })=true from hok) (by rw[hp2]),hp2]
 have h2:J7 L E s=(.mk (A6r.getD j 0) 0 n [] 0,adv s 2 1):=by
  unfold J7;dsimp only;rw[ha,hp,if_neg (by omega),show C9 L E { s with ops:=s.ops+1 } (s.ops+1) 32 9 = { s with ops:=s.ops+1 } from if_neg (by omega),if_neg (by show ¬ okR s=false;rw[hok];decide),if_pos (by omega),if_pos (by omega),ht];rfl
 grind
def CE(L:List Tok)(E:Int)(e:Ex):Prop:=∀ o d,msM e=some (o,d)->∀ (s:Rd) (post:List Tok),L.drop s.i=exT e++post->okR s=true->s.ops+(o:Int)<=32->s.par+(d:Int)<=16 ->
 ∃ e',e'.plain=e.plain/\(6<=B6 e.kind->Un L E s (e',adv s (exT e).length o)) /\
  (∀ n,1<=n->n<=5->n<=B6 e.kind->lvo E post<=n->(n=3->lvo E post≠3)->∀ r,Lop L E n e' (adv s (exT e).length o) r->Bin L E n s r)
theorem D9h:amT (A1 [40]) Q2=2:=by rfl
theorem D0d:amT (A1 [45]) Q2=0:=by rfl
theorem D3g:amT (A1 [33]) Q2=1:=by rfl
theorem C1m:A1p (A1 [41])=0:=by rfl
theorem D0x:S6 (A1 [41])=true:=by rfl
theorem A4o{s:Rd}{n m e:Int}(h:n<=m):C9 L E s n m e=s:=if_neg (by omega)
theorem D3u{x:Ex}(hx:CE L E x){o d:Nat}(hm:msM x=some (o,d)){s:Rd}{post:List Tok}(h:L.drop s.i=[A1 [40]]++exT x++[A1 [41]]++post)(hok:okR s=true)(ho:s.ops+(o:Int)<=32)(hp:s.par+((d+1:Nat):Int)<=16):
  ∃ x',x'.plain=x.plain/\Un L E s (x',adv s ([A1 [40]]++exT x++[A1 [41]]).length o):=by
 have h0:L.drop s.i=A1 [40] :: (exT x++([A1 [41]]++post)):=by rw[h];simp
 have h1:=F1 h0;have hpk:=C6 (E:=E) h0;obtain⟨x',e1, -,e3⟩:=hx o d hm { s with i:=s.i+1,par:=s.par+1 } ([A1 [41]]++post) h1 hok ho (by show s.par+1+(d:Int)<=16;omega);have hd2:L.drop (s.i+1+(exT x).length)=A1 [41] :: post:=H4 h1;have hb:=e3 1 (by decide) (by decide) (by have:=W8 x.kind;omega) (by show A1p (A1 [41])<=1;rw[C1m];decide) (fun h=>absurd h (by decide)) _ (X7 (show okR s=true from hok) (by decide) (by show A1p (hd0 E (L.drop (s.i+1+(exT x).length)))≠1;rw[hd2];show A1p (A1 [41])≠1;rw[C1m];decide));have hu:=Un.par (by rw[U8 hok,hpk];exact D9h) (by rw[A4o (by omega)];exact hok) hb;refine⟨x',e1,?_⟩;have hpk2:B8 L E (adv { s with i:=s.i+1,par:=s.par+1 } (exT x).length o)=A1 [41]:=C6 hd2;rw[D4i (show okR (adv { s with i:=s.i+1,par:=s.par+1 } (exT x).length o)=true from hok) (by rw[hpk2];exact D0x) (by rw[hpk2];rfl)]at hu;have e4:({ A7 (adv { s with i:=s.i+1,par:=s.par+1 } (exT x).length o) with par:=(A7 (adv { s with i:=s.i+1,par:=s.par+1 } (exT x).length o)).par-1 }:Rd)=adv s ([A1 [40]]++exT x++[A1 [41]]).length o:=by
  have a1:s.i+1+(exT x).length+1=s.i+([A1 [40]]++exT x++[A1 [41]]).length:=by simp;omega
  have a2:s.par+1-1=s.par:=by omega
  show Rd.mk (s.i+1+(exT x).length+1) s.e s.pos (s.ops+(o:Int)) (s.par+1-1)=Rd.mk (s.i+([A1 [40]]++exT x++[A1 [41]]).length) s.e s.pos (s.ops+(o:Int)) s.par;rw[a1,a2]
 grind
theorem B3l{x:Ex}(hx:CE L E x){o d:Nat}{least:Int}(hm:msM x=some (o,d)){s:Rd}{post:List Tok}(h:L.drop s.i=E6 (x.kind,exT x) least++post)(hok:okR s=true)(ho:s.ops+(o:Int)<=32)(hp:s.par+((if B6 x.kind<least then d+1 else d:Nat):Int)<=16)(h1:1<=least)(h6:least<=6)(hl:lvo E post<least):
  ∃ x',x'.plain=x.plain/\(least<=5->Bin L E least s (x',adv s (E6 (x.kind,exT x) least).length o))/\(least=6->Un L E s (x',adv s (E6 (x.kind,exT x) least).length o)):=by
 have hdp:=H4 h;unfold E6 at h hdp ⊢;dsimp only at h hdp ⊢;by_cases hlt:B6 x.kind<least
 ·rw[if_pos hlt]at h hp hdp ⊢;obtain⟨x',e1,e2⟩:=D3u hx hm h hok ho hp;exact⟨x',e1,fun h5=>D5d (A2q hok) e2 h1 h5 (by show lvo E (L.drop (s.i+_))<least;grind),fun _=>e2⟩
 ·rw[if_neg hlt]at h hp hdp ⊢;obtain⟨x',e1,e2,e3⟩:=hx o d hm s post h hok ho hp;refine⟨x',e1,fun h5=>?_,fun h=>e2 (by omega)⟩;refine e3 least h1 h5 (by omega) (by omega) (by omega) _ (X7 (A2q hok) h1 ?_);show lvo E (L.drop (s.i+_))≠least
  grind
theorem D1x{x:Ex}(hx:CE L E x){o d:Nat}{q:Int}(hm:msM x=some (o,d)){s:Rd}{post:List Tok}(h:L.drop s.i=E6 (x.kind,exT x) (if q=3 then 4 else q)++post)(hok:okR s=true)(ho:s.ops+(o:Int)<=32)(hp:s.par+((if B6 x.kind<(if q=3 then 4 else q) then d+1 else d:Nat):Int)<=16)(h1:1<=q)(h5:q<=5)(hl:lvo E post=q):
  ∃ x',x'.plain=x.plain/\∀ r,Lop L E q x' (adv s (E6 (x.kind,exT x) (if q=3 then 4 else q)).length o) r->Bin L E q s r:=by
 have hdp:=H4 h;by_cases h3:q=3
 ·subst h3;rw[if_pos rfl]at h hp hdp ⊢;obtain⟨x',e1,e2, -⟩:=B3l hx hm h hok ho hp (by simp) (by simp) (by omega);exact⟨x',e1,fun r hr=>Bin.go (by simp) (e2 (by simp)) hr⟩
 ·rw[if_neg h3]at h hp hdp ⊢;unfold E6 at h hdp ⊢;dsimp only at h hdp ⊢;by_cases hlt:B6 x.kind<q
  ·rw[if_pos hlt]at h hp hdp ⊢;obtain⟨x',e1,e2⟩:=D3u hx hm h hok ho hp;exact⟨x',e1,fun r hr=>B2t (A2q hok) e2 h1 h5 (by show lvo E (L.drop (s.i+_))<=q;grind) hr⟩
  ·rw[if_neg hlt]at h hp hdp ⊢;obtain⟨x',e1,e2,e3⟩:=hx o d hm s post h hok ho hp
   grind
theorem A9n{k v:Int}{n:List UInt8}{a:List Ex}{p:Int}{o d:Nat}(h:msM (.mk k v n a p)=some (o,d)):
  kOk k=true/\a.length=I7 k/\A4n k n=true/\A1x k v=true/\(I7 k=0->o=1/\d=0)/\(I7 k≠0->∃ d',msL k 0 a=some (o,d')/\d=if I7 k=1 then d'+1 else d'):=by
 unfold msM at h
 grind
theorem C5y:∀ j:Nat,j<13->amT (A1 (D9.getD j [])) D9=(j:Int)/\S6 (A1 (D9.getD j []))=true:=by trivial
theorem nm0{k:Int}{n:List UInt8}(h:A4n k n=true)(h2:k≠2)(h5:B5s k=false):n=[]:=by
 unfold A4n at h
 grind
theorem vl0{k v:Int}(h:A1x k v=true)(h1:k≠1):v=0:=by
 unfold A1x at h
 grind
theorem C1r{α : Type}{l:List α}(h:l.length=2):∃ x y,l=[x,y]:=by
 match l,h with
 |[x,y],_=>simp
theorem B6l:∀ (m:Nat) (e:Ex),e.sz<m->CE L E e:=by
 intro m
 induction m with
 |zero=>omega
 |succ m ih =>
 intro e hm o d hms s post h hok ho hp;cases e with|mk k v n a p =>
 obtain⟨h1,h2,h3,h4,h5,h6⟩:=A9n hms;have hlr:=W8 k
 have viaUn:∀ e':Ex,e'.plain=(Ex.mk k v n a p).plain->Un L E s (e',adv s (exT (.mk k v n a p)).length o) ->
   ∃ e',e'.plain=(Ex.mk k v n a p).plain/\(6<=B6 k->Un L E s (e',adv s (exT (.mk k v n a p)).length o)) /\
    (∀ n',1<=n'->n'<=5->n'<=B6 k->lvo E post<=n'->(n'=3->lvo E post≠3)->∀ r,Lop L E n' e' (adv s (exT (.mk k v n a p)).length o) r->Bin L E n' s r):=fun e' he hu =>
  ⟨e',he,fun _=>hu,fun n' q1 q2 _ q4 _ r hr=>B2t (A2q hok) hu q1 q2 (by show lvo E (L.drop (s.i+_))<=n';rw[H4 h];omega) hr⟩
 by_cases hc0:I7 k=0
 ·obtain⟨rfl,rfl⟩:=h5 hc0;have ha:a=[]:=A2D (by omega);subst ha;have hl7:B6 k=7:=by
   unfold I7 at hc0
   grind
  have hk9:1<=k/\k<=9:=by
   unfold kOk at h1;simp only[A1G,A0F,A0I]at h1;have hk24:1<=k/\k<=24:=by omega
   refine⟨hk24.1,?_⟩;apply Classical.byContradiction;intro hc;unfold B6 at hl7;omega
  refine (show ∃ e',_ from ?_);have hT:exT (.mk k v n [] p)=K9 k v n []:=by rfl
  rw[hT]at h viaUn ⊢;have ho1:s.ops+1<=32:=ho;have:k=1\/k=2\/k=3\/k=4\/k=5\/k=6\/k=7\/k=8\/k=9:=by omega
  rcases this with rfl|rfl|rfl|rfl|rfl|rfl|rfl|rfl|rfl
  ·have hn:=nm0 h3 (by simp) (by rfl);subst hn;have hv:¬ (v<0\/2147483647<v):=by
    unfold A1x at h4
    grind
   have hb:K9 1 v [] []=[⟨3,[],v,0⟩]:=by unfold K9;dsimp only;rw[if_pos rfl];unfold U0;grind
   rw[hb]at h viaUn ⊢;exact viaUn (.mk 1 v [] [] 0) rfl (C6p hok h ho1)
  ·have hv:=vl0 h4 (by simp);subst hv;have hn:D6 n=true:=h3;have hb:K9 2 0 n []=[⟨1,n,0,0⟩]:=by unfold K9;dsimp only;rw[if_neg (by decide),if_pos rfl];unfold D4;grind
   rw[hb]at h viaUn ⊢;exact viaUn (.mk 2 0 n [] 0) rfl (C6o hok h ho1)
  ·have hv:=vl0 h4 (by simp);have hn:=nm0 h3 (by simp) (by rfl);subst hv hn;have hb:K9 3 0 [] []=[A1 [116,114,117,101]]:=rfl;rw[hb]at h viaUn ⊢;exact viaUn (.mk 3 0 [] [] 0) rfl (A2y (j:=0) hok h ho1 (by simp) (by rfl) (by trivial))
  ·have hv:=vl0 h4 (by simp);have hn:=nm0 h3 (by simp) (by rfl);subst hv hn;have hb:K9 4 0 [] []=[A1 [102,97,108,115,101]]:=rfl;rw[hb]at h viaUn ⊢;exact viaUn (.mk 4 0 [] [] 0) rfl (A2y (j:=1) hok h ho1 (by simp) (by rfl) (by trivial))
  ·have hv:=vl0 h4 (by simp);subst hv;have hn:D6 n=true:=h3;have hb:K9 5 0 n []=[A1 [99,108,111,115,101,100],⟨1,n,0,0⟩]:=by
    show [A1 [99,108,111,115,101,100]]++D4 n=_;unfold D4;grind
   rw[hb]at h viaUn ⊢;exact viaUn (.mk 5 0 n [] 0) rfl (A6q (j:=4) hok h ho1 (by simp) (by simp) (by rfl) (by trivial))
  ·have hv:=vl0 h4 (by simp);subst hv;have hn:D6 n=true:=h3;have hb:K9 6 0 n []=[A1 [97,99,116,105,118,101],⟨1,n,0,0⟩]:=by
    show [A1 [97,99,116,105,118,101]]++D4 n=_;unfold D4;grind
   rw[hb]at h viaUn ⊢;exact viaUn (.mk 6 0 n [] 0) rfl (A6q (j:=5) hok h ho1 (by simp) (by simp) (by rfl) (by trivial))
  ·have hv:=vl0 h4 (by simp);subst hv;have hn:D6 n=true:=h3;have hb:K9 7 0 n []=[A1 [108,101,102,116],⟨1,n,0,0⟩]:=by
    show [A1 [108,101,102,116]]++D4 n=_;unfold D4;grind
   rw[hb]at h viaUn ⊢;exact viaUn (.mk 7 0 n [] 0) rfl (A6q (j:=6) hok h ho1 (by simp) (by simp) (by rfl) (by trivial))
  ·have hv:=vl0 h4 (by simp);have hn:=nm0 h3 (by simp) (by rfl);subst hv hn;have hb:K9 8 0 [] []=[A1 [112,108,97,121,101,114]]:=rfl;rw[hb]at h viaUn ⊢;exact viaUn (.mk 8 0 [] [] 0) rfl (A2y (j:=2) hok h ho1 (by simp) (by rfl) (by trivial))
  ·have hv:=vl0 h4 (by simp);have hn:=nm0 h3 (by simp) (by rfl);subst hv hn;have hb:K9 9 0 [] []=[A1 [98,97,108,108]]:=rfl;rw[hb]at h viaUn ⊢;exact viaUn (.mk 9 0 [] [] 0) rfl (A2y (j:=3) hok h ho1 (by simp) (by rfl) (by trivial))
 obtain⟨d',hl,hd'⟩:=h6 hc0;clear h5 h6;have hv:=vl0 h4 (by rintro rfl;trivial);have hn:=nm0 h3 (by rintro rfl;trivial) (by
  cases hz:B5s k with
  |false=>rfl
  |true =>
   unfold B5s at hz;simp only[A1G,A1Y]at hz;rcases hz with rfl|rfl|rfl<;>exact absurd rfl hc0)
 subst hv hn;by_cases hl6:B6 k=6
 ·
  have hk:k=10\/k=11:=by
   unfold B6 at hl6;omega
  have hc1:I7 k=1:=by unfold I7;grind
  rw[hc1]at h2 hd';rw[if_pos rfl]at hd';obtain⟨x,rfl⟩:∃ x,a=[x]:=List.length_eq_one_iff.1 h2;have hxc:=ih x (by rw[Ex.sz,Ex.szs,Ex.szs]at hm;omega);unfold msL at hl;cases hx:msM x with
  |none=>grind
  |some q =>
   obtain⟨o1,d1⟩:=q;rw[hx]at hl;dsimp only at hl;unfold msL at hl;dsimp only at hl;simp only[Option.some.injEq,Prod.mk.injEq,A3B,Nat.max_zero]at hl;obtain⟨rfl,hd1⟩:=hl;have hwr:Y7 k x.kind 0=decide (B6 x.kind<6):=by
    unfold Y7;rw[hl6];simp
   rw[hwr]at hd1;have hT:exT (.mk k 0 [] [x] p)=[A1 (if k=10 then [45] else [33])]++E6 (x.kind,exT x) 6:=by
    rw[exT,B0c,B0c];rcases hk with rfl|rfl<;>rfl
   rw[hT]at h viaUn ⊢;have h0:L.drop s.i=A1 (if k=10 then [45] else [33]) :: (E6 (x.kind,exT x) 6++post):=by rw[h];simp
   have hdn:=F1 h0;have hpk:=C6 (E:=E) h0;have ham:C0 L E s Q2=k-10:=by
    rw[U8 hok,hpk];rcases hk with rfl|rfl
    ·exact D0d
    ·exact D3g
   have hlt6:lvo E post<6:=by
    unfold lvo A1p;split
    ·decide
    ·rename_i hz;have:=W8 (12+amT (hd0 E post) D9);have h13:amT (hd0 E post) D9<13:=by
      have gen:∀ (l:List (List UInt8)) (j:Nat) (w:List UInt8),ixA j l w<((j+l.length:Nat):Int):=by
       intro l
       induction l with
       |nil=>intro j w;simp[ixA];omega
       |cons a l ih =>
        intro j w;have:=ih (j+1) w;simp only[ixA,A0K];split<;>omega
      unfold amT;split
      ·exact gen D9 0 _
      ·decide
     exact D1w (by omega) h13
   obtain⟨x',e1, -,e3⟩:=B3l (least:=6) hxc hx (s:={ s with i:=s.i+1,par:=s.par+1 }) hdn hok ho (by
    show s.par+1+_<=16;have:((if B6 x.kind<6 then d1+1 else d1:Nat):Int)=(d':Int):=by
     rw[<- hd1];by_cases hz:B6 x.kind<6
     ·rw[if_pos hz,if_pos (by simpa using hz)]
     ·rw[if_neg hz,if_neg (by simpa using hz)]
    rw[this];omega) (by decide) (by decide) hlt6
   have hu:=Un.pre (L:=L) (E:=E) (s:=s) (by rw[ham];omega) (by rw[ham];omega) (by rw[A4o (by omega)];exact hok) (e3 rfl);rw[ham,hpk]at hu;have e4:({ adv { s with i:=s.i+1,par:=s.par+1 } (E6 (x.kind,exT x) 6).length o1 with par:=(adv { s with i:=s.i+1,par:=s.par+1 } (E6 (x.kind,exT x) 6).length o1).par-1 }:Rd)=adv s ([A1 (if k=10 then [45] else [33])]++E6 (x.kind,exT x) 6).length o1:=by
    have a1:s.i+1+(E6 (x.kind,exT x) 6).length=s.i+([A1 (if k=10 then [45] else [33])]++E6 (x.kind,exT x) 6).length:=by simp;omega
    have a2:s.par+1-1=s.par:=by omega
    show Rd.mk (s.i+1+(E6 (x.kind,exT x) 6).length) s.e s.pos (s.ops+(o1:Int)) (s.par+1-1)=Rd.mk (s.i+_) s.e s.pos (s.ops+(o1:Int)) s.par;rw[a1,a2]
   rw[e4]at hu;refine viaUn _ ?_ hu;rw[Ex.plain,Ex.plain,Ex.plains,Ex.plains,Ex.plains,Ex.plains,e1]
   grind
 ·
  have hl5:B6 k<=5:=by
   unfold I7 at hc0
   grind
  have hc2:I7 k=2:=by unfold I7;grind
  rw[hc2]at h2 hd';rw[if_neg (by simp)]at hd';subst hd';obtain⟨x,y,rfl⟩:∃ x y,a=[x,y]:=C1r h2;have hxc:=ih x (by rw[Ex.sz,Ex.szs,Ex.szs]at hm;omega);have hyc:=ih y (by rw[Ex.sz,Ex.szs,Ex.szs,Ex.szs]at hm;omega);unfold msL at hl;cases hx:msM x with
  |none=>grind
  |some q =>
   obtain⟨o1,d1⟩:=q;rw[hx]at hl;dsimp only at hl;unfold msL at hl;cases hy:msM y with
   |none=>grind
   |some q2 =>
    obtain⟨o2,d2⟩:=q2;rw[hy]at hl;dsimp only at hl;unfold msL at hl;dsimp only at hl;simp only[Option.some.injEq,Prod.mk.injEq,A3B,Nat.max_zero]at hl;obtain⟨rfl,hdd⟩:=hl;have hlk:=B3t (k:=k) (by omega);have hk12:12<=k:=by
     apply Classical.byContradiction;intro hc;have:k=10\/k=11:=by omega
     exact hl6 (A5q this)
    obtain⟨j,hj⟩:∃ j:Nat,k=12+(j:Int):=⟨(k-12).toNat,by omega⟩;have hj13:j<13:=by omega
    have hjn:(k-12).toNat=j:=by omega
    obtain⟨hs1,hs2⟩:=C5y j hj13;have hT:exT (.mk k 0 [] [x,y] p)=E6 (x.kind,exT x) (if B6 k=3 then 4 else B6 k)++[A1 (D9.getD j [])]++E6 (y.kind,exT y) (B6 k+1):=by
     rw[exT,B0c,B0c,B0c];unfold K9
     grind
    rw[hT]at h ⊢;generalize A1 (D9.getD j [])=sg at hs1 hs2 hT h ⊢;have hsl:A1p sg=B6 k:=by unfold A1p;grind
    have hdx:((if B6 x.kind<(if B6 k=3 then 4 else B6 k) then d1+1 else d1:Nat):Int)<=(d:Int):=by
     have hwr:(Y7 k x.kind 0=true)↔B6 x.kind<(if B6 k=3 then 4 else B6 k):=by
      unfold Y7;simp only[A1G,A0F,A0I,A1Y];by_cases h3:B6 k=3
      ·rw[if_pos h3];omega
      ·rw[if_neg h3];omega
     grind
    have hdy:((if B6 y.kind<B6 k+1 then d2+1 else d2:Nat):Int)<=(d:Int):=by
     have hwr:(Y7 k y.kind (0+1)=true)↔B6 y.kind<B6 k+1:=by
      unfold Y7;rw[show ((0+1:Nat) == 1)=true from rfl,Bool.true_or,A3H];simp only[A1G,A0I,A1Y];omega
     grind
    have h0:L.drop s.i=E6 (x.kind,exT x) (if B6 k=3 then 4 else B6 k)++(sg :: (E6 (y.kind,exT y) (B6 k+1)++post)):=by grind
    obtain⟨x',e1,e2⟩:=D1x hxc hx h0 hok (by omega) (by omega) hlr.1 hl5 (by assumption);have hd1:=H4 h0;have hpk:B8 L E (adv s (E6 (x.kind,exT x) (if B6 k=3 then 4 else B6 k)).length o1)=sg:=C6 hd1;have hd2:=F1 (s:=adv s (E6 (x.kind,exT x) (if B6 k=3 then 4 else B6 k)).length o1) hd1;have ham:C0 L E (adv s (E6 (x.kind,exT x) (if B6 k=3 then 4 else B6 k)).length o1) D9=(j:Int):=by rw[U8 (A2q hok),hpk];omega
    have hfin:s.i+(E6 (x.kind,exT x) (if B6 k=3 then 4 else B6 k)).length+1+(E6 (y.kind,exT y) (B6 k+1)).length=s.i+(E6 (x.kind,exT x) (if B6 k=3 then 4 else B6 k)++[sg]++E6 (y.kind,exT y) (B6 k+1)).length:=by grind
    have hadv:adv (A7 (adv s (E6 (x.kind,exT x) (if B6 k=3 then 4 else B6 k)).length o1)) (E6 (y.kind,exT y) (B6 k+1)).length o2=adv s (E6 (x.kind,exT x) (if B6 k=3 then 4 else B6 k)++[sg]++E6 (y.kind,exT y) (B6 k+1)).length (o1+o2):=by
     have a2:s.ops+(o1:Int)+(o2:Int)=s.ops+((o1+o2:Nat):Int):=by omega
     show Rd.mk (s.i+_+1+_) s.e s.pos (s.ops+(o1:Int)+(o2:Int)) s.par=Rd.mk (s.i+_) s.e s.pos (s.ops+((o1+o2:Nat):Int)) s.par
     grind
    have hdr:=H4 h;have main:lvo E post<=B6 k->∃ y',y'.plain=y.plain/\Bin L E (B6 k+1) (A7 (adv s (E6 (x.kind,exT x) (if B6 k=3 then 4 else B6 k)).length o1)) (y',adv s (E6 (x.kind,exT x) (if B6 k=3 then 4 else B6 k)++[sg]++E6 (y.kind,exT y) (B6 k+1)).length (o1+o2)):=by
     intro hlv;obtain⟨y',f1,f2,f3⟩:=B3l (least:=B6 k+1) hyc hy (s:=A7 (adv s (E6 (x.kind,exT x) (if B6 k=3 then 4 else B6 k)).length o1)) hd2 hok (by show s.ops+(o1:Int)+(o2:Int)<=32;omega) (by show s.par+_<=16;omega) (by omega) (by omega) (by omega);rw[hadv]at f2 f3;refine⟨y',f1,?_⟩;by_cases h5':B6 k+1<=5
     ·grind
     ·exact Bin.un (by omega) (f3 (by omega))
    by_cases hlv:lvo E post<=B6 k
    ·obtain⟨y',f1,f2⟩:=main hlv;refine⟨.mk k 0 [] [x',y'] sg.pos,?_,fun h=>absurd h (by show ¬ 6<=B6 k;omega),?_⟩
     ·rw[Ex.plain,Ex.plain,Ex.plains,Ex.plains,Ex.plains,Ex.plains,Ex.plains,Ex.plains,e1,f1]
     ·intro n' q1 q2 q3 q4 q5 r hr;have q3:n'<=B6 k:=q3;have key:∀ r',Lop L E (B6 k) (.mk k 0 [] [x',y'] sg.pos) (adv s (E6 (x.kind,exT x) (if B6 k=3 then 4 else B6 k)++[sg]++E6 (y.kind,exT y) (B6 k+1)).length (o1+o2)) r'->(B6 k=3->lvo E post≠3)->Bin L E (B6 k) s r':=by
       intro r' hr' h33;refine e2 r' ?_;by_cases h3:B6 k=3
       ·have hst:=X7 (L:=L) (E:=E) (n:=B6 k) (e:=.mk k 0 [] [x',y'] sg.pos) (s:=adv s (E6 (x.kind,exT x) (if B6 k=3 then 4 else B6 k)++[sg]++E6 (y.kind,exT y) (B6 k+1)).length (o1+o2)) (A2q hok) hlr.1 (by show lvo E (L.drop (s.i+_))≠B6 k;rw[hdr,h3];exact h33 h3);have:=Evt.uniq hr' hst;rw[this];have ht:=Lop.three (L:=L) (E:=E) (n:=B6 k) (e:=x') (x:=y') (s:=adv s (E6 (x.kind,exT x) (if B6 k=3 then 4 else B6 k)).length o1) (by rw[ham];omega) (by rw[ham, <- hj]) h3 f2
        grind
       ·refine Lop.more (by rw[ham];omega) (by rw[ham, <- hj]) h3 f2 ?_
        grind
      by_cases hnq:n'=B6 k
      ·simp_all
      ·refine B0s (A2q hok) 6 (m:=B6 k) (by omega) (key _ (X7 (A2q hok) hlr.1 ?_) (by omega)) q1 (by omega) (by omega) ?_ hr
       ·show lvo E (L.drop (s.i+_))≠B6 k
        grind
       ·show lvo E (L.drop (s.i+_))<=n'
        grind
    ·refine⟨.mk k 0 [] [x,y] p,rfl,fun h=>absurd h (by show ¬ 6<=B6 k;omega),?_⟩;intro n' q1 q2 q3 q4 q5 r hr;have q3:n'<=B6 k:=q3;omega
theorem L6{e:Ex}(hv:S4 e=true){s:Rd}{post:List Tok}(h:L.drop s.i=exT e++post)(hok:okR s=true)(hl:lvo E post=0):
  ∃ e' s',e'.plain=e.plain/\Xpn L E s (e',s')/\s'.i=s.i+(exT e).length/\okR s'=true:=by
 unfold S4 at hv;cases hms:msM e with
 |none=>grind
 |some q =>
  obtain⟨o,d⟩:=q;rw[hms]at hv;simp only[A0F,A0I]at hv;obtain⟨e',e1, -,e3⟩:=B6l (L:=L) (E:=E) (e.sz+1) e (by omega) o d hms { s with ops:=0,par:=0 } post h hok (by grind) (by grind);refine⟨e',adv { s with ops:=0,par:=0 } (exT e).length o,e1,?_,rfl,hok⟩;refine e3 1 (by simp) (by simp) (W8 _).1 (by omega) (fun h=>absurd h (by simp)) _ (X7 (show okR s=true from hok) (by simp) ?_);show lvo E (L.drop (s.i+_))≠1;rw[H4 h];omega
end
section
variable {L:List Tok} {E:Int}
theorem R5{s:Rd}{w:List UInt8}{ts:List Tok}(h:L.drop s.i=A1 w :: ts)(hok:okR s=true)(hs:S6 (A1 w)=true):E1 L E s w=A7 s :=
 D4i hok (by rw[C6 h];omega) (by rw[C6 h];rfl)
theorem A4f{s:Rd}{n:List UInt8}{ts:List Tok}(h:L.drop s.i=D4 n++ts)(hok:okR s=true)(hn:D6 n=true):A8 L E s 1=(⟨1,n,0,0⟩,A7 s):=by
 have h0:L.drop s.i=⟨1,n,0,0⟩ :: ts:=by rw[h];unfold D4;grind
 rw[B2z hok (by rw[C6 h0]),C6 h0]
theorem B2x{s:Rd}{v:Int}{ts:List Tok}(h:L.drop s.i=U0 v++ts)(hok:okR s=true)(h0:0<=v)(h1:v<=2147483647):A8 L E s 3=(⟨3,[],v,0⟩,A7 s):=by
 have h2:L.drop s.i=⟨3,[],v,0⟩ :: ts:=by rw[h];unfold U0;grind
 rw[B2z hok (by rw[C6 h2]),C6 h2]
theorem D0r{s:Rd}{t:List UInt8}{ts:List Tok}(h:L.drop s.i=A1n t++ts)(hok:okR s=true)(ht:S1 t=true):A8 L E s 4=(⟨4,t,0,0⟩,A7 s):=by
 unfold S1 at ht;simp only[A0F,A0I]at ht;have h0:L.drop s.i=⟨4,t,0,0⟩ :: ts:=by rw[h];unfold A1n;grind
 rw[B2z hok (by rw[C6 h0]),C6 h0]
theorem Y5{s:Rd}{a ts:List Tok}(h:L.drop s.i=a++ts)(ha:a.length=1):L.drop (s.i+1)=ts:=by
 rw[<- ha];exact H4 h
def D2s(E:Int)(ts:List Tok):Bool:=S6 (hd0 E ts) && (hd0 E ts).text == [101,108,115,101]
theorem B7s:∀ j:Nat,j<18->amT (A1 (B9.getD j [])) B9=(j:Int)/\S6 (A1 (B9.getD j []))=true/\(A1 (B9.getD j [])).text≠[125]/\(A1 (B9.getD j [])).text≠[101,108,115,101]:=by trivial
theorem w61:S6 (A1 [61])=true:=by rfl
theorem w59:S6 (A1 [59])=true/\A1p (A1 [59])=0:=by trivial
theorem w44:S6 (A1 [44])=true/\A1p (A1 [44])=0:=by trivial
theorem w123:S6 (A1 [123])=true/\A1p (A1 [123])=0/\(A1 [123]).text≠[105,102]:=by trivial
theorem w125:S6 (A1 [125])=true/\(A1 [125]).text≠[101,108,115,101]:=by trivial
theorem D4y:S6 (A1 [101,108,115,101])=true:=by rfl
def HdS(t:Tok):Prop:=t.kind=1\/∃ j,j<18/\t=A1 (B9.getD j [])
theorem HdS.facts{t:Tok}(h:HdS t):(S6 t && t.text == [125])=false/\(S6 t && t.text == [101,108,115,101])=false/\(0<=amT t B9\/t.kind=1):=by
 rcases h with h|⟨j,hj,rfl⟩
 ·have:S6 t=false:=by unfold S6;rw[h];rfl
  grind
 ·obtain⟨h1,h2,h3,h4⟩:=B7s j hj
  grind
theorem C4z{d:Nat}{k p:Int}{n t:List UInt8}{a:List Ex}{x y:List St}(h:N7 d (.mk k n t a x y p)=true):
  (1<=k/\k<=19)/\(a.length=(J6 k).args/\a.all S4=true)/\((if (J6 k).name=true then D6 n else n == [])=true/\(if (J6 k).text=true then S1 t else t == [])=true) /\
   (((J6 k).thn=true\/x=[])/\((J6 k).els=true\/y=[]))/\M4 x (d+1)=true/\M4 y (d+1)=true:=by
 unfold N7 at h;simp only[A0F,A0I,A1Y,A1G,List.isEmpty_iff]at h;obtain⟨⟨⟨⟨⟨h1,h2⟩,h3,h4⟩,h5,h6⟩,h7,h8⟩,h9,h10⟩:=h;refine⟨⟨h1,h2⟩,⟨h3,h4⟩,⟨h5,h6⟩,⟨h7,h8⟩,?_,?_⟩
 ·unfold M4
  grind
 ·unfold M4
  grind
theorem C0d{d:Nat}{x:St}(h:N7 d x=true):∃ t ts,stT x=t :: ts/\HdS t:=by
 cases x with|mk k n t a x y p =>
 obtain⟨⟨k1,k2⟩, -,⟨hn, -⟩, -⟩:=C4z h;unfold stT;by_cases h1:k=1
 ·subst h1;rw[if_pos rfl];have hn:D6 n=true:=hn;refine⟨⟨1,n,0,0⟩,[A1 [61]]++agT a 0++[A1 [59]],?_,.inl rfl⟩;unfold D4;grind
 rw[if_neg h1,if_neg (by omega)];dsimp only;have hw:HdS (A1 (B9.getD (k-2).toNat [])):=.inr ⟨(k-2).toNat,by omega,rfl⟩;generalize A1 (B9.getD (k-2).toNat [])=w at hw;by_cases h23:k=2\/k=3
 ·rw[if_pos h23]
  match y with
  |[]=>simp_all
  |[q] =>
   dsimp only;split
   ·exact⟨w,_,rfl,hw⟩
   simp_all
  |q :: q2 :: l=>simp_all
 rw[if_neg h23];repeat' split
 all_goals exact⟨w,_,rfl,hw⟩
def CSt(L:List Tok)(E:Int)(x:St):Prop:=∀ (d:Nat) (s:Rd) (post:List Tok),N7 d x=true->d<=8->L.drop s.i=stT x++post->okR s=true->D2s E post=false ->
 ∃ x' s',x'.plain=x.plain/\R8 L E d s (x',s')/\s'.i=s.i+(stT x).length/\okR s'=true
theorem A3z:∀ (l:List St),(∀ x∈l,CSt L E x)->∀ (acc:List St) (d:Nat) (s:Rd) (post:List Tok),F8 d l=true->acc.length+l.length<=64->(l=[]\/d<=8)->L.drop s.i=O9 l++([A1 [125]]++post)->okR s=true ->
  ∃ l' s',St.plains l'=St.plains l/\A0g L E d acc s (acc++l',s')/\s'.i=s.i+(O9 l).length+1/\okR s'=true
 |[],_,acc,d,s,post,hv,hl,hd,h,hok=>by
  have h0:L.drop s.i=A1 [125] :: post:=by trivial
  have hi:isR L E s [125]=true:=by rw[A3p hok,C6 h0,w125.1];rfl
  have hb:=A0g.stop (L:=L) (E:=E) (d:=d) (l:=acc) (s:=s) (by grind);rw[R5 h0 hok w125.1]at hb;exact⟨[],A7 s,rfl,by grind,rfl,hok⟩
 |x :: l,hx,acc,d,s,post,hv,hl,hd,h,hok=>by
  rw[F8,A0F]at hv;have hd8:d<=8:=hd.resolve_left (by simp);obtain⟨t,ts,e1,e2⟩:=C0d hv.1;obtain⟨f1,f2,f3⟩:=e2.facts;have h0:L.drop s.i=stT x++(O9 l++([A1 [125]]++post)):=by rw[h,O9,A0P]
  have hp:B8 L E s=t:=C6 (ts:=ts++(O9 l++([A1 [125]]++post))) (by grind);have hels:D2s E (O9 l++([A1 [125]]++post))=false:=by
   unfold D2s;cases l with
   |nil =>
    rfl
   |cons y l =>
    have hv2:=hv.2;rw[F8,A0F]at hv2;obtain⟨u,us,g1,g2⟩:=C0d hv2.1;rw[O9,g1];exact g2.facts.2.1
  obtain⟨x',s1,p1,p2,p3,p4⟩:=hx x A0H d s _ hv.1 hd8 h0 hok hels;have hdr:L.drop s1.i=O9 l++([A1 [125]]++post):=by rw[p3];exact H4 h0
  obtain⟨l',s',q1,q2,q3,q4⟩:=A3z l (fun y hy=>hx y (A0G _ hy)) (acc++[x']) d s1 post hv.2 (by grind) (.inr hd8) hdr p4;refine⟨x' :: l',s',by rw[St.plains,St.plains,p1,q1],?_,by rw[q3,p3,O9,A0A];omega,q4⟩;refine A0g.more (s1:=s1) (x:=x') ⟨hok,by rw[A3p hok,hp];omega⟩ ?_ ?_ (by grind)
  ·rintro⟨g1,g2⟩;rw[U8 hok,hp]at g1;rw[B1z hok,hp]at g2
   grind
  ·rw[A4o (by simp only[A0K]at hl;omega)];omega
theorem R7{l:List St}(hx:∀ x∈l,CSt L E x){d:Nat}{s:Rd}{post:List Tok}(hv:M4 l d=true)(h:L.drop s.i=blT l++post)(hok:okR s=true):
  ∃ l' s',St.plains l'=St.plains l/\A8f L E d s (l',s')/\s'.i=s.i+(blT l).length/\okR s'=true:=by
 unfold M4 at hv;simp only[A0F,A0I,A1G,List.isEmpty_iff]at hv;have h0:L.drop s.i=A1 [123] :: (O9 l++([A1 [125]]++post)):=by rw[h];unfold blT;simp
 have he:=R5 (E:=E) h0 hok w123.1;obtain⟨l',s',q1,q2,q3,q4⟩:=A3z l hx [] d (A7 s) post hv.2 (by grind) hv.1.2 (F1 h0) hok;refine⟨l',s',q1,A8f.mk (by grind),?_,q4⟩;rw[q3];unfold blT;simp only[A0A,A0N];show s.i+1+_+1=_;omega
theorem A6f{a:List Ex}(h:a.length=1)(hv:a.all S4=true):∃ e,a=[e]/\S4 e=true:=by
 obtain⟨e,rfl⟩:=List.length_eq_one_iff.1 h
 grind
theorem ag0(e:Ex)(l:List Ex):agT (e :: l) 0=exT e:=rfl
theorem ag1(e e2:Ex)(l:List Ex):agT (e :: e2 :: l) 1=exT e2:=rfl
theorem C3a{k:Int}(h1:k≠1)(h2:k≠2)(h3:k≠3)(h4:k≠4)(h8:k≠8)(h9:k≠9)(h10:k≠10)(h18:k≠18)(h19:k≠19):J6 k=⟨true,false,0,false,false⟩:=by
 unfold J6
 grind
def C0l:List St->List Tok
 |[]=>[]
 |[q]=>if q.kind=2 then [A1 [101,108,115,101]]++stT q else [A1 [101,108,115,101]]++blT [q]
 |q :: q2 :: r=>[A1 [101,108,115,101]]++blT (q :: q2 :: r)
theorem B5a:∀ (m:Nat) (x:St),x.sz<m->CSt L E x:=by
 intro m
 induction m with
 |zero=>omega
 |succ m ih =>
 intro x hm d s post hv hd h hok hels;cases x with|mk k n t a x y p =>
 obtain⟨⟨k1,k2⟩,⟨ha,hav⟩,⟨hn,ht⟩,⟨hx,hy⟩,hbx,hby⟩:=C4z hv;have hcx:∀ q∈x,CSt L E q:=fun q hq=>ih q (by rw[St.sz]at hm;have:=St.szs_mem hq;omega);have hcy:∀ q∈y,CSt L E q:=fun q hq=>ih q (by rw[St.sz]at hm;have:=St.szs_mem hq;omega);have hlim:okR (C9 L E s (d:Int) 8 50)=true:=by rw[A4o (by omega)];omega
 have hcast:((d+1:Nat):Int)=(d:Int)+1:=by rfl
 by_cases hk1:k=1
 ·
  subst hk1;have hn:D6 n=true:=hn;have ht:t=[]:=by have h':(t == [])=true:=ht;grind
  have hx:x=[]:=hx.resolve_left (by decide);have hy:y=[]:=hy.resolve_left (by decide);subst ht hx hy;obtain⟨e,rfl,he⟩:=A6f ha hav;have hT:stT (.mk 1 n [] [e] [] [] p)=D4 n++[A1 [61]]++exT e++[A1 [59]]:=by rfl
  rw[hT]at h ⊢;have h0:L.drop s.i=D4 n++(A1 [61] :: (exT e++(A1 [59] :: post))):=by grind
  have h1:=Y5 h0 (A0 n);have hpk:B8 L E s=⟨1,n,0,0⟩:=C6 (ts:=A1 [61] :: (exT e++(A1 [59] :: post))) (by rw[h0];unfold D4;grind);have htk:=A4f (E:=E) h0 hok hn;have h2:=F1 (s:=A7 s) h1;have he1:=R5 (E:=E) (s:=A7 s) h1 hok w61;obtain⟨e',s1,p1,p2,p3,p4⟩:=L6 (L:=L) (E:=E) he (s:=A7 (A7 s)) h2 hok (by rfl);have h3:L.drop s1.i=A1 [59] :: post:=by rw[p3];exact H4 h2
  have hst:=R8.set (L:=L) (E:=E) (d:=d) (s:=s) (s1:=s1) (e:=e') hlim (by rw[U8 hok,hpk];assumption) (by grind);rw[htk,R5 h3 p4 w59.1]at hst;refine⟨_,_,?_,hst,?_,p4⟩
  ·rw[St.plain,St.plain,Ex.plains,Ex.plains,Ex.plains,Ex.plains,p1]
  ·show s1.i+1=_;rw[p3];simp only[A0A,A0N,A0];show s.i+1+1+_+1=_;omega
 obtain⟨j,hj⟩:∃ j:Nat,k=2+(j:Int):=⟨(k-2).toNat,by omega⟩;have hj18:j<18:=by omega
 have hjn:(k-2).toNat=j:=by omega
 obtain⟨a1,a2, -, -⟩:=B7s j hj18;by_cases h23:k=2\/k=3
 ·
  have hsh:(J6 k).args=1/\(J6 k).name=false/\(J6 k).text=false/\(k=3->(J6 k).els=false):=by
   rcases h23 with rfl|rfl
   ·exact⟨rfl,rfl,rfl,fun h=>absurd h (by decide)⟩
   trivial
  rw[hsh.1]at ha;rw[hsh.2.1]at hn;rw[hsh.2.2.1]at ht;have hn:n=[]:=by grind
  have ht:t=[]:=by grind
  subst hn ht;have hy3:k=3->y=[]:=fun h=>hy.resolve_left (by grind);obtain⟨e,rfl,he⟩:=A6f ha hav;obtain⟨rest,hrest,hT⟩:∃ rest,rest=C0l y/\stT (.mk k [] [] [e] x y p)=[A1 (B9.getD j [])]++exT e++blT x++rest:=by
   refine⟨_,rfl,?_⟩;clear hy hy3 hv hm h hby hcy;rw[stT,if_neg hk1,if_neg (by omega)];dsimp only;rw[if_pos h23,hjn,ag0]
   match y with
   |[]=>simp[blT,C0l]
   |[q] =>
    unfold C0l;dsimp only;split
    ·simp[blT]
    ·simp[blT,O9]
   |q :: q2 :: r=>simp[blT,C0l]
  rw[hT]at h ⊢;generalize A1 (B9.getD j [])=w at a1 a2 h hT ⊢;have h0:L.drop s.i=w :: (exT e++(blT x++(rest++post))):=by grind
  have hpk:=C6 (E:=E) h0;have ham:C0 L E s B9=(j:Int):=by rw[U8 hok,hpk];omega
  have h1:=F1 h0;obtain⟨e',s2,p1,p2,p3,p4⟩:=L6 (L:=L) (E:=E) he (s:=A7 s) h1 hok (by rfl);have h2:L.drop s2.i=blT x++(rest++post):=by rw[p3];exact H4 h1
  obtain⟨t',s3,b1,b2,b3,b4⟩:=R7 hcx hbx h2 p4;rw[hcast]at b2;have h3:L.drop s3.i=rest++post:=by rw[b3];exact H4 h2
  have hi3:s3.i=s.i+1+(exT e).length+(blT x).length:=by rw[b3,p3];rfl
  have blkCase:¬ (C0 L E s B9=0/\isR L E s3 [101,108,115,101]=true)->y=[]->rest=[]->∃ x' s',x'.plain=(St.mk k [] [] [e] x y p).plain/\R8 L E d s (x',s')/\s'.i=s.i+([w]++exT e++blT x++rest).length/\okR s'=true:=by
   intro hc hy0 hr0;subst hy0 hr0;have hst:=R8.blk (L:=L) (E:=E) (d:=d) (s:=s) hlim (by rw[ham];omega) p2 b2 hc;refine⟨_,_,?_,hst,?_,b4⟩
   ·rw[ham, <- hj,St.plain,St.plain,Ex.plains,Ex.plains,Ex.plains,Ex.plains,p1,b1]
   grind
  by_cases hk3:k=3
  ·have hy0:=hy3 hk3;subst hy0;exact blkCase (by omega) rfl hrest
  ·have hk2:k=2:=by omega
   have hj0:j=0:=by omega
   have hd1:y≠[]->d+1<=8:=fun hne=>by
    unfold M4 at hby
    grind
   have elsCase:∀ (o':List St) (s4:Rd),St.plains o'=St.plains y->A8d L E d (A7 s3) (o',s4)->isR L E s3 [101,108,115,101]=true->s4.i=s3.i+rest.length->okR s4=true->∃ x' s',x'.plain=(St.mk k [] [] [e] x y p).plain/\R8 L E d s (x',s')/\s'.i=s.i+([w]++exT e++blT x++rest).length/\okR s'=true:=by
    intro o' s4 c1 c2 c3 c4 c5;have hst:=R8.els (L:=L) (E:=E) (d:=d) (s:=s) hlim (by rw[ham,hj0];rfl) p2 b2 c3 c2;refine⟨_,_,?_,hst,?_,c5⟩
    ·rw[hk2,St.plain,St.plain,Ex.plains,Ex.plains,Ex.plains,Ex.plains,p1,b1,c1]
    grind
   clear hy hy3 hv hm hT h h0
   match y,hcy,hby,hd1,hrest,blkCase,elsCase with
   |[],_,_,_,hrest,blkCase,_ =>
    refine blkCase ?_ rfl hrest;rintro⟨-,g⟩;rw[hrest]at h3;rw[A3p b4,A8l,h3]at g;have g:D2s E post=true:=g
    grind
   |[q],hcy,hby,hd1,hrest,_,elsCase =>
    have hrest:rest=if q.kind=2 then [A1 [101,108,115,101]]++stT q else [A1 [101,108,115,101]]++blT [q]:=hrest
    have hd1:=hd1 (by simp);by_cases hq2:q.kind=2
    ·rw[if_pos hq2]at hrest;subst hrest;have h4:L.drop s3.i=A1 [101,108,115,101] :: (stT q++post):=by grind
     have hi:isR L E s3 [101,108,115,101]=true:=by rw[A3p b4,C6 h4,D4y];rfl
     have hvq:N7 (d+1) q=true:=by
      unfold M4 at hby;simp only[A0F]at hby;have:=hby.2;rw[F8,A0F]at this
      grind
     obtain⟨q',s4,c1,c2,c3,c4⟩:=hcy q A0H (d+1) (A7 s3) post hvq hd1 (F1 h4) b4 hels;rw[hcast]at c2;have hif:isR L E (A7 s3) [105,102]=true:=by
      have h5:=F1 h4;have:∃ ts,stT q=A1 (B9.getD 0 []) :: ts:=by
       cases q with|mk kq nq tq aq xq yq pq =>
       have hq2:kq=2:=hq2;subst hq2;unfold stT;rw[if_neg (by simp),if_neg (by simp)];dsimp only;rw[if_pos (.inl rfl)]
       match yq with
       |[]=>simp
       |[q3] =>
        dsimp only;split
        ·exact⟨_,rfl⟩
        simp
       |_ :: _ :: _=>simp
      obtain⟨ts,hts⟩:=this;rw[A3p (show okR (A7 s3)=true from b4),C6 (s:=A7 s3) (t:=A1 (B9.getD 0 [])) (ts:=ts++post) (by show L.drop (s3.i+1)=_;grind),(B7s 0 (by simp)).2.1];rfl
     refine elsCase [q'] s4 (by rw[St.plains,St.plains,St.plains,St.plains,c1]) (A8d.iff hif c2) hi ?_ c4;rw[c3];simp only[A0A,A0N];show s3.i+1+_=_;omega
    ·rw[if_neg hq2]at hrest;subst hrest;have h4:L.drop s3.i=A1 [101,108,115,101] :: (blT [q]++post):=by grind
     have hi:isR L E s3 [101,108,115,101]=true:=by rw[A3p b4,C6 h4,D4y];rfl
     obtain⟨o',s4,c1,c2,c3,c4⟩:=R7 hcy hby (s:=A7 s3) (F1 h4) b4;rw[hcast]at c2;have hif:isR L E (A7 s3) [105,102]=false:=by
      rw[A3p (show okR (A7 s3)=true from b4),C6 (s:=A7 s3) (t:=A1 [123]) (ts:=O9 [q]++[A1 [125]]++post) (by show L.drop (s3.i+1)=_;rw[F1 h4];unfold blT;simp),w123.1,A2N];rfl
     refine elsCase o' s4 c1 (A8d.blk hif c2) hi ?_ c4;rw[c3];simp only[A0A,A0N];show s3.i+1+_=_;omega
   |q :: q2 :: r,hcy,hby,hd1,hrest,_,elsCase =>
    have hrest:rest=[A1 [101,108,115,101]]++blT (q :: q2 :: r):=hrest;subst hrest;have h4:L.drop s3.i=A1 [101,108,115,101] :: (blT (q :: q2 :: r)++post):=by grind
    have hi:isR L E s3 [101,108,115,101]=true:=by rw[A3p b4,C6 h4,D4y];rfl
    obtain⟨o',s4,c1,c2,c3,c4⟩:=R7 hcy hby (s:=A7 s3) (F1 h4) b4;rw[hcast]at c2;have hif:isR L E (A7 s3) [105,102]=false:=by
     rw[A3p (show okR (A7 s3)=true from b4),C6 (s:=A7 s3) (t:=A1 [123]) (ts:=O9 (q :: q2 :: r)++[A1 [125]]++post) (by show L.drop (s3.i+1)=_;rw[F1 h4];unfold blT;simp),w123.1,A2N];rfl
    refine elsCase o' s4 c1 (A8d.blk hif c2) hi ?_ c4;rw[c3];simp only[A0A,A0N];show s3.i+1+_=_;omega
 have hshx:(J6 k).thn=false/\(J6 k).els=false:=by
  unfold J6
  grind
 have hx:x=[]:=hx.resolve_left (by grind);have hy:y=[]:=hy.resolve_left (by grind);subst hx hy;have tailGo:∀ (toks:List Tok) (n' t':List UInt8) (a':List Ex) (s':Rd),stT (.mk k n t a [] [] p)=[A1 (B9.getD j [])]++toks->n'=n->t'=t->Ex.plains a'=Ex.plains a->s'.i=s.i+1+toks.length->okR s'=true ->
   (L.drop (s.i+1)=toks++post->Evt (fun f=>N1 L E f k (B8 L E s).pos (A7 s)) (.mk k n' t' a' [] [] (B8 L E s).pos,s'))->∃ x' s',x'.plain=(St.mk k n t a [] [] p).plain/\R8 L E d s (x',s')/\s'.i=s.i+(stT (.mk k n t a [] [] p)).length/\okR s'=true:=by
  intro toks n' t' a' s' c1 c2 c3 c4 c5 c6 c7;subst c2 c3;rw[c1]at h ⊢;have h0:L.drop s.i=A1 (B9.getD j []) :: (toks++post):=by rw[h];simp
  have hpk:=C6 (E:=E) h0;have ham:C0 L E s B9=(j:Int):=by rw[U8 hok,hpk];exact a1
  have hst:=R8.tail (L:=L) (E:=E) (d:=d) (s:=s) hlim (by rw[ham];omega) (by rw[ham, <- hj];exact c7 (F1 h0));refine⟨_,_,?_,hst,?_,c6⟩
  ·rw[St.plain,St.plain,c4]
  grind
 have hT:stT (.mk k n t a [] [] p)=[A1 (B9.getD j [])]++(if k=4 then agT a 0++[A1 [59]] else if k=18 then A1n t++[A1 [44]]++agT a 0++[A1 [59]] else if k=8\/k=10 then D4 n++agT a 0++[A1 [59]] else if k=9 then D4 n++agT a 0++[A1 [44]]++agT a 1++[A1 [59]] else if k=19 then [A1 [59]] else D4 n++[A1 [59]]):=by
  unfold stT
  grind
 by_cases h4:k=4
 ·subst h4;have hn:n=[]:=by have h':(n == [])=true:=hn;grind
  have ht:t=[]:=by have h':(t == [])=true:=ht;grind
  subst hn ht;obtain⟨e,rfl,he⟩:=A6f ha hav;rw[if_pos rfl,ag0]at hT;have h0:L.drop (s.i+1)=exT e++(A1 [59] :: post):=by
   rw[hT]at h;have:L.drop s.i=A1 (B9.getD j []) :: (exT e++(A1 [59] :: post)):=by grind
   exact F1 this
  obtain⟨e',s1,p1,p2,p3,p4⟩:=L6 (L:=L) (E:=E) he (s:=A7 s) h0 hok (by rfl);have h3:L.drop s1.i=A1 [59] :: post:=by rw[p3];exact H4 h0
  refine tailGo _ [] [] [e'] (A7 s1) hT rfl rfl (by rw[Ex.plains,Ex.plains,Ex.plains,Ex.plains,p1]) (by show s1.i+1=_;grind) p4 (fun _=>p2.map fun f hf=>?_);unfold N1;rw[if_pos rfl,hf];dsimp only;rw[R5 h3 p4 w59.1]
 rw[if_neg h4]at hT;by_cases h18:k=18
 ·subst h18;have hn:n=[]:=by have h':(n == [])=true:=hn;grind
  have ht:S1 t=true:=ht;subst hn;obtain⟨e,rfl,he⟩:=A6f ha hav;rw[if_pos rfl,ag0]at hT;have h0:L.drop (s.i+1)=A1n t++(A1 [44] :: (exT e++(A1 [59] :: post))):=by
   rw[hT]at h;have:L.drop s.i=A1 (B9.getD j []) :: (A1n t++(A1 [44] :: (exT e++(A1 [59] :: post)))):=by grind
   exact F1 this
  have htk:=D0r (E:=E) (s:=A7 s) h0 hok ht;have h1:=Y5 (s:=A7 s) h0 (A4 t);have he1:=R5 (E:=E) (s:=A7 (A7 s)) h1 hok w44.1;have h2:=F1 (s:=A7 (A7 s)) h1;obtain⟨e',s1,p1,p2,p3,p4⟩:=L6 (L:=L) (E:=E) he (s:=A7 (A7 (A7 s))) h2 hok (by rfl);have h3:L.drop s1.i=A1 [59] :: post:=by rw[p3];exact H4 h2
  refine tailGo _ [] t [e'] (A7 s1) hT rfl rfl (by rw[Ex.plains,Ex.plains,Ex.plains,Ex.plains,p1]) (by show s1.i+1=_;grind) p4 (fun _=>p2.map fun f hf=>?_);unfold N1;rw[if_neg (by simp),if_pos rfl,htk,he1,hf];dsimp only;rw[R5 h3 p4 w59.1]
 rw[if_neg h18]at hT;by_cases h8:k=8\/k=10
 ·have hsh:J6 k=⟨true,false,1,false,false⟩:=by rcases h8 with rfl|rfl<;>rfl
  rw[hsh]at ha hn ht;have hn:D6 n=true:=hn;have ht:t=[]:=by grind
  subst ht;obtain⟨e,rfl,he⟩:=A6f ha hav;rw[if_pos h8,ag0]at hT;have h0:L.drop (s.i+1)=D4 n++(exT e++(A1 [59] :: post)):=by
   rw[hT]at h;have:L.drop s.i=A1 (B9.getD j []) :: (D4 n++(exT e++(A1 [59] :: post))):=by grind
   exact F1 this
  have htk:=A4f (E:=E) (s:=A7 s) h0 hok hn;have h1:=Y5 (s:=A7 s) h0 (A0 n);obtain⟨e',s1,p1,p2,p3,p4⟩:=L6 (L:=L) (E:=E) he (s:=A7 (A7 s)) h1 hok (by rfl);have h3:L.drop s1.i=A1 [59] :: post:=by rw[p3];exact H4 h1
  refine tailGo _ n [] [e'] (A7 s1) hT rfl rfl (by rw[Ex.plains,Ex.plains,Ex.plains,Ex.plains,p1]) (by show s1.i+1=_;grind) p4 (fun _=>p2.map fun f hf=>?_);unfold N1;rw[if_neg h4,if_neg h18,if_neg (by omega)];dsimp only;rw[if_pos (by omega),htk];dsimp only;rw[hf];dsimp only;rw[if_neg (by omega),R5 h3 p4 w59.1]
 rw[if_neg h8]at hT;by_cases h9:k=9
 ·subst h9;have hn:D6 n=true:=hn;have ht:t=[]:=by have h':(t == [])=true:=ht;grind
  subst ht;obtain⟨e,e2,rfl⟩:=C1r ha;simp only[A2T,List.all_nil,A3H,A0F]at hav;rw[if_pos rfl,ag0,ag1]at hT;have h0:L.drop (s.i+1)=D4 n++(exT e++(A1 [44] :: (exT e2++(A1 [59] :: post)))):=by
   rw[hT]at h;have:L.drop s.i=A1 (B9.getD j []) :: (D4 n++(exT e++(A1 [44] :: (exT e2++(A1 [59] :: post))))):=by grind
   exact F1 this
  have htk:=A4f (E:=E) (s:=A7 s) h0 hok hn;have h1:=Y5 (s:=A7 s) h0 (A0 n);obtain⟨e',s1,p1,p2,p3,p4⟩:=L6 (L:=L) (E:=E) hav.1 (s:=A7 (A7 s)) h1 hok (by rfl);have h3:L.drop s1.i=A1 [44] :: (exT e2++(A1 [59] :: post)):=by rw[p3];exact H4 h1
  have hx1:=R5 (E:=E) h3 p4 w44.1;obtain⟨e2',s2,r1,r2,r3,r4⟩:=L6 (L:=L) (E:=E) hav.2 (s:=A7 s1) (F1 h3) p4 (by rfl);have h5:L.drop s2.i=A1 [59] :: post:=by rw[r3];exact H4 (F1 h3)
  refine tailGo _ n [] [e',e2'] (A7 s2) hT rfl rfl (by rw[Ex.plains,Ex.plains,Ex.plains,Ex.plains,Ex.plains,Ex.plains,p1,r1]) (by show s2.i+1=_;grind) r4 (fun _=>p2.map2 r2 fun f hf hf2=>?_);unfold N1;rw[if_neg h4,if_neg h18,if_neg (by simp)];dsimp only;rw[if_pos (by simp),htk];dsimp only;rw[hf];dsimp only;rw[if_pos rfl,hx1,hf2];dsimp only;rw[R5 h5 r4 w59.1]
 rw[if_neg h9]at hT;by_cases h19:k=19
 ·subst h19;have hn:n=[]:=by have h':(n == [])=true:=hn;grind
  have ht:t=[]:=by have h':(t == [])=true:=ht;grind
  have ha:a=[]:=A2D ha;subst hn ht ha;rw[if_pos rfl]at hT;have h0:L.drop (s.i+1)=A1 [59] :: post:=by
   rw[hT]at h;have:L.drop s.i=A1 (B9.getD j []) :: (A1 [59] :: post):=by grind
   exact F1 this
  refine tailGo _ [] [] [] (A7 (A7 s)) hT rfl rfl rfl rfl hok (fun _=>Evt.one fun f=>?_);unfold N1;rw[if_neg (by simp),if_neg (by simp),if_pos rfl,R5 (s:=A7 s) h0 hok w59.1]
 rw[if_neg h19]at hT;have hsh:=C3a hk1 (fun h=>h23 (.inl h)) (fun h=>h23 (.inr h)) h4 (fun h=>h8 (.inl h)) h9 (fun h=>h8 (.inr h)) h18 h19;rw[hsh]at ha hn ht;have hn:D6 n=true:=hn;have ht:t=[]:=by grind
 have ha:a=[]:=A2D ha;subst ht ha;have h0:L.drop (s.i+1)=D4 n++(A1 [59] :: post):=by
  rw[hT]at h;have:L.drop s.i=A1 (B9.getD j []) :: (D4 n++(A1 [59] :: post)):=by grind
  exact F1 this
 have htk:=A4f (E:=E) (s:=A7 s) h0 hok hn;have h1:=Y5 (s:=A7 s) h0 (A0 n);refine tailGo _ n [] [] (A7 (A7 (A7 s))) hT rfl rfl rfl (by simp only[A0A,A0N,A0];rfl) hok (fun _=>Evt.one fun f=>?_);unfold N1;rw[if_neg h4,if_neg h18,if_neg h19];dsimp only;rw[if_neg (by omega),htk];dsimp only;rw[R5 (s:=A7 (A7 s)) h1 hok w59.1]
theorem B4j{l:List St}{d:Nat}{s:Rd}{post:List Tok}(hv:M4 l d=true)(h:L.drop s.i=blT l++post)(hok:okR s=true):
  ∃ l' s',St.plains l'=St.plains l/\A8f L E d s (l',s')/\s'.i=s.i+(blT l).length/\okR s'=true :=
 R7 (fun x hx=>B5a (x.sz+1) x (by omega)) hv h hok
end
section
variable {L:List Tok} {E:Int}
theorem D8x:∀ j:Nat,j<8->amT (A1 (E5.getD j [])) E5=(j:Int):=by trivial
theorem D5m:∀ j:Nat,j<6->amT (A1 (E9.getD j [])) E9=(j:Int):=by trivial
theorem C4x:S6 (A1 [109,111,100,101])=true/\amT (A1 [109,111,100,101]) E5 = -1:=by trivial
theorem won:S6 (A1 [111,110])=true/\(A1 [111,110]).text≠[125]:=by trivial
theorem E3y:S6 (A1 [45])=true:=by rfl
theorem B9f{d:Dc}{k v:Int}{n:List UInt8}(h1:k=d.kind)(h2:n=d.name)(h3:v=d.value){p:Int}:Dc.plain ⟨k,n,v,p⟩=d.plain:=by
 subst h1 h2 h3;rfl
theorem B4d{d:Dc}(hv:Y8 d=true){s:Rd}{post:List Tok}(h:L.drop s.i=dcT d++post)(hok:okR s=true):
  C0 L E s E5=d.kind-1/\(T2 L E (d.kind-1) s).1.plain=d.plain/\(T2 L E (d.kind-1) s).2.i=s.i+(dcT d).length/\okR (T2 L E (d.kind-1) s).2=true:=by
 unfold Y8 at hv;simp only[A0F,A0I]at hv;obtain⟨⟨⟨⟨k1,k8⟩,hn⟩,v0⟩,v1⟩:=hv;obtain⟨j,hj⟩:∃ j:Nat,d.kind=1+(j:Int):=⟨(d.kind-1).toNat,by omega⟩;have hj8:j<8:=by omega
 have hjn:(d.kind-1).toNat=j:=by omega
 have a1:=D8x j hj8;have hT:dcT d=[A1 (E5.getD j [])]++D4 d.name++(if 6<d.kind then [] else if d.value<0 then [A1 [45]]++U0 (-d.value) else U0 d.value)++[A1 [59]]:=by
  unfold dcT
  grind
 rw[hT]at h ⊢;have h0:L.drop s.i=A1 (E5.getD j []) :: (D4 d.name++((if 6<d.kind then [] else if d.value<0 then [A1 [45]]++U0 (-d.value) else U0 d.value)++(A1 [59] :: post))):=by grind
 have hpk:=C6 (E:=E) h0;have h1:=F1 h0;have htk:=A4f (E:=E) (s:=A7 s) h1 hok hn;have h2:=Y5 (s:=A7 s) h1 (A0 d.name);refine⟨by rw[U8 hok,hpk,a1];omega,?_⟩;unfold T2;dsimp only;rw[htk];dsimp only;by_cases h6:6<d.kind
 ·rw[if_pos h6]at h2 ⊢;rw[if_neg (by omega)];have h2:L.drop (A7 (A7 s)).i=A1 [59] :: post:=h2;rw[R5 h2 hok w59.1];refine⟨B9f (by omega) rfl ?_,?_,hok⟩
  ·omega
  ·simp only[A0A,A0N,A0,A1H];rfl
 ·rw[if_neg h6]at h2 ⊢;rw[if_pos (by omega)];rw[if_neg (by omega)]at v1;by_cases hneg:d.value<0
  ·have hk6:d.kind=6:=by
    by_cases hz:d.kind=6
    ·exact hz
    ·rw[if_neg hz]at v0;omega
   rw[if_pos hk6]at v0;rw[if_pos hneg]at h2 ⊢;have h3:L.drop (A7 (A7 s)).i=A1 [45] :: (U0 (-d.value)++(A1 [59] :: post)):=by rw[show L.drop (A7 (A7 s)).i=_ from h2];simp
   have hm:(d.kind-1+1 == 6 && isR L E (A7 (A7 s)) [45])=true:=by
    rw[A3p (show okR (A7 (A7 s))=true from hok),C6 h3,E3y,hk6];rfl
   rw[if_pos hm,if_pos hm];have h4:=F1 h3;have htk2:=B2x (E:=E) (s:=A7 (A7 (A7 s))) h4 hok (by omega) (by omega);rw[htk2];have h5:=Y5 (s:=A7 (A7 (A7 s))) h4 (A6 _);have h5:L.drop (A7 (A7 (A7 (A7 s)))).i=A1 [59] :: post:=h5;dsimp only;rw[R5 h5 hok w59.1];refine⟨B9f (by omega) rfl (by omega),?_,hok⟩;simp only[A0A,A0N,A0,A6];rfl
  ·rw[if_neg hneg]at h2 ⊢;have h3:L.drop (A7 (A7 s)).i=U0 d.value++(A1 [59] :: post):=h2;have hp3:B8 L E (A7 (A7 s))=⟨3,[],d.value,0⟩:=C6 (ts:=A1 [59] :: post) (by rw[h3];unfold U0;rw[if_neg (by omega)];rfl);have hm:(d.kind-1+1 == 6 && isR L E (A7 (A7 s)) [45])=false:=by
    rw[A3p (show okR (A7 (A7 s))=true from hok),hp3];simp[S6]
   rw[hm];simp only[A1U,if_false];have htk2:=B2x (E:=E) (s:=A7 (A7 s)) h3 hok (by omega) (by omega);rw[htk2];have h5:=Y5 (s:=A7 (A7 s)) h3 (A6 _);have h5:L.drop (A7 (A7 (A7 s))).i=A1 [59] :: post:=h5;dsimp only;rw[R5 h5 hok w59.1];refine⟨B9f (by omega) rfl rfl,?_,hok⟩;simp only[A0A,A0N,A0,A6];rfl
theorem A5g:∀ (l acc:List Dc) (s:Rd) (post:List Tok),l.all Y8=true->acc.length+l.length<=128->amT (hd0 E post) E5<0->L.drop s.i=l.flatMap dcT++post->okR s=true ->
  ∃ l' s',l'.map Dc.plain=l.map Dc.plain/\Evt (fun f=>W0 L E f acc s) (acc++l',s')/\L.drop s'.i=post/\okR s'=true
 |[],acc,s,post,hv,hl,hp,h,hok=>by
  have h:L.drop s.i=post:=h;refine⟨[],s,rfl,Evt.one fun f=>?_,h,hok⟩;rw[W0];dsimp only;rw[U8 hok,A8l,h,if_pos hp,A0W]
 |d :: l,acc,s,post,hv,hl,hp,h,hok=>by
  simp only[A2T,A0F]at hv;have h0:L.drop s.i=dcT d++(l.flatMap dcT++post):=by rw[h,A2A,A0P]
  obtain⟨e1,e2,e3,e4⟩:=B4d (E:=E) hv.1 h0 hok;have hk1:1<=d.kind:=by
   have:=hv.1;unfold Y8 at this;simp only[A0F,A0I]at this;omega
  obtain⟨l',s',q1,q2,q3,q4⟩:=A5g l (acc++[(T2 L E (d.kind-1) s).1]) (T2 L E (d.kind-1) s).2 post hv.2 (by simp only[A0A,A0K,A1H]at hl ⊢;omega) hp (by rw[e3];exact H4 h0) e4;refine⟨(T2 L E (d.kind-1) s).1 :: l',s',by rw[A0Q,A0Q,e2,q1],?_,q3,q4⟩;rw[A0P]at q2;refine q2.ext fun f hf=>?_;rw[W0];dsimp only;rw[e1,if_neg (by omega),A4o (by simp only[A0K]at hl;omega),if_pos hok]
  grind
theorem hdp{h:Hd}{b:List St}(hb:St.plains b=St.plains h.body){k:Int}{n:List UInt8}{p:Int}(hk:k=h.trig)(hn:n=h.name):Hd.plain ⟨k,n,b,p⟩=h.plain:=by
 unfold Hd.plain;grind
theorem A5m:∀ (l acc:List Hd) (s:Rd) (post:List Tok),l.all A0x=true->acc.length+l.length<=32->L.drop s.i=l.flatMap hdT++([A1 [125]]++post)->okR s=true ->
  ∃ l' s',l'.map Hd.plain=l.map Hd.plain/\Evt (fun f=>Z0 L E f acc s) (acc++l',s')/\L.drop s'.i=post/\okR s'=true
 |[],acc,s,post,hv,hl,h,hok=>by
  have h:L.drop s.i=A1 [125] :: post:=h;have hi:isR L E s [125]=true:=by rw[A3p hok,C6 h,w125.1];rfl
  refine⟨[],A7 s,rfl,Evt.one fun f=>?_,F1 h,hok⟩;rw[Z0,if_neg (by grind),R5 h hok w125.1,A0W]
 |x :: l,acc,s,post,hv,hl,h,hok=>by
  simp only[A2T,A0F]at hv;have hx:=hv.1;unfold A0x at hx;simp only[A0F,A0I]at hx;obtain⟨⟨⟨t1,t6⟩,hn⟩,hb⟩:=hx;obtain⟨j,hj⟩:∃ j:Nat,x.trig=1+(j:Int):=⟨(x.trig-1).toNat,by omega⟩;have hj6:j<6:=by omega
  have hjn:(x.trig-1).toNat=j:=by omega
  have h0:L.drop s.i=A1 [111,110] :: (A1 (E9.getD j []) :: ((if 2<x.trig then D4 x.name else [])++(blT x.body++(l.flatMap hdT++([A1 [125]]++post))))):=by
   rw[h,A2A];unfold hdT;rw[hjn];simp
  have hpk:=C6 (E:=E) h0;have hi:isR L E s [125]=false:=by rw[A3p hok,hpk,won.1,A2N];simpa using won.2
  have hon:isR L E s [111,110]=true:=by rw[A3p hok,hpk,won.1];rfl
  have he:=R5 (E:=E) h0 hok won.1;have h1:=F1 h0;have h1:L.drop (A7 s).i=_:=h1;have ham:C0 L E (A7 s) E9=(j:Int):=by rw[U8 (show okR (A7 s)=true from hok),C6 h1];exact D5m j hj6
  have h2:=F1 h1;have h2:L.drop (A7 (A7 s)).i=_:=h2;have key:∃ s4,s4=(if 2<=(j:Int) then (A8 L E (A7 (A7 s)) 1).2 else A7 (A7 s))/\okR s4=true/\(if 2<=(j:Int) then (A8 L E (A7 (A7 s)) 1).1.text else [])=x.name/\L.drop s4.i=blT x.body++(l.flatMap hdT++([A1 [125]]++post)):=by
   refine⟨_,rfl,?_⟩;by_cases h2j:2<=(j:Int)
   ·rw[if_pos h2j,if_pos h2j];rw[if_pos (by omega)]at hn h2;rw[A4f (E:=E) h2 hok hn];exact⟨hok,rfl,Y5 (s:=A7 (A7 s)) h2 (A0 _)⟩
   ·rw[if_neg h2j,if_neg h2j];rw[if_neg (by omega)]at hn h2;exact⟨hok,by have:x.name=[]:=(by simpa using hn);rw[this],h2⟩
  obtain⟨s4,k1,k2,k3,k4⟩:=key;obtain⟨b',s5,b1,b2,b3,b4⟩:=B4j (L:=L) (E:=E) (d:=1) hb k4 k2;obtain⟨l',s',q1,q2,q3,q4⟩:=A5m l (acc++[⟨1+(j:Int),x.name,b',(B8 L E s).pos⟩]) s5 post hv.2 (by simp only[A0A,A0K,A1H]at hl ⊢;omega) (by rw[b3];exact H4 k4) b4;refine⟨⟨1+(j:Int),x.name,b',(B8 L E s).pos⟩ :: l',s',by rw[A0Q,A0Q,hdp b1 hj.symm rfl,q1],?_,q3,q4⟩;rw[A0P]at q2;refine Evt.ext2 b2 q2 fun f hf hf2=>?_;rw[Z0,if_pos ⟨hok,hi⟩,if_neg (by rw[hon];decide)];dsimp only;rw[A4o (by simp only[A0K]at hl;omega),he,ham,if_neg (by omega), <- k1,k3]
  grind
theorem B3s{m:Md}(hv:Q0 m=true){s:Rd}{post:List Tok}(h:L.drop s.i=mdT m++post)(hok:okR s=true):
  isR L E s [109,111,100,101]=true/\∃ m' s',m'.plain=m.plain/\Evt (fun f=>A5l L E f s) (m',s')/\L.drop s'.i=post/\okR s'=true:=by
 unfold Q0 at hv;simp only[A0F,A0I]at hv;obtain⟨⟨⟨⟨hn,p0⟩,p1⟩,hl⟩,hh⟩:=hv;have h0:L.drop s.i=A1 [109,111,100,101] :: (D4 m.name++(U0 m.prio++(A1 [123] :: (m.hds.flatMap hdT++([A1 [125]]++post))))):=by
  rw[h];unfold mdT;simp
 have hpk:=C6 (E:=E) h0;have he:=R5 (E:=E) h0 hok C4x.1;have h1:L.drop (A7 s).i=_:=F1 h0;have htk:=A4f (E:=E) h1 hok hn;have h2:L.drop (A7 (A7 s)).i=_:=Y5 (s:=A7 s) h1 (A0 _);have htk2:=B2x (E:=E) h2 hok p0 p1;have h3:L.drop (A7 (A7 (A7 s))).i=_:=Y5 (s:=A7 (A7 s)) h2 (A6 _);have he3:=R5 (E:=E) h3 hok w123.1;have h4:L.drop (A7 (A7 (A7 (A7 s)))).i=_:=F1 h3;obtain⟨l',s',q1,q2,q3,q4⟩:=A5m (L:=L) (E:=E) m.hds [] _ post hh (by grind) h4 hok;refine⟨by rw[A3p hok,hpk,C4x.1];rfl,⟨m.name,m.prio,l',(B8 L E s).pos⟩,s',?_,q2.map fun f hf=>?_,q3,q4⟩
 ·unfold Md.plain;grind
 ·unfold A5l
  grind
theorem A5f:∀ (l acc:List Md) (s:Rd),l.all Q0=true->acc.length+l.length<=16->L.drop s.i=l.flatMap mdT->okR s=true ->
  ∃ l' s',l'.map Md.plain=l.map Md.plain/\Evt (fun f=>V1 L E f acc s) (acc++l',s')/\okR s'=true
 |[],acc,s,hv,hl,h,hok=>by
  have hi:¬ s.i<L.length:=fun hlt=>by
   simp_all;omega
  refine⟨[],s,rfl,Evt.one fun f=>?_,hok⟩;rw[V1,if_neg (fun h=>hi h.2),A0W]
 |m :: l,acc,s,hv,hl,h,hok=>by
  simp only[A2T,A0F]at hv;have h0:L.drop s.i=mdT m++l.flatMap mdT:=by rw[h,A2A]
  obtain⟨hm,m',s1,e1,e2,e3,e4⟩:=B3s (E:=E) hv.1 h0 hok;obtain⟨l',s',q1,q2,q4⟩:=A5f l (acc++[m']) s1 hv.2 (by simp only[A0A,A0K,A1H]at hl ⊢;omega) e3 e4;refine⟨m' :: l',s',by rw[A0Q,A0Q,e1,q1],?_,q4⟩;rw[A0P]at q2;refine Evt.ext2 e2 q2 fun f hf hf2=>?_;rw[V1,if_pos ⟨hok,(A2c hm).2⟩,if_neg (by rw[hm];decide)];dsimp only;rw[A4o (by simp only[A0K]at hl;omega),if_pos hok,hf]
  grind
end
theorem D2l{h:Hd}(hv:A0x h=true):U4 h=false:=by
 unfold A0x at hv;simp only[A0F,A0I]at hv;unfold U4
 grind
theorem B5g{r:Ru}(hv:L1 r=true)(E:Int):okR (A7y (ruT r) E).2=true/\(A7y (ruT r) E).1.plain=r.plain:=by
 unfold L1 at hv;simp only[A0F,A0I]at hv;obtain⟨⟨⟨h1,h2⟩,h3⟩,h4⟩:=hv;have hbad:(r.modes.any fun m=>m.hds.any U4)=false:=by
  rw[List.any_eq_false];intro m hm;have:=A0R.1 h4 m hm;unfold Q0 at this;simp only[A0F]at this;rw[Bool.not_eq_true,List.any_eq_false];intro h hh;rw[D2l (A0R.1 this.2 h hh)];decide
 have hT:ruT r=r.decls.flatMap dcT++r.modes.flatMap mdT:=by unfold ruT;rw[if_neg (by rw[hbad];decide)]
 have hp:amT (hd0 E (r.modes.flatMap mdT)) E5<0:=by
  cases hm:r.modes with
  |nil=>exact (by decide:(-1:Int)<0)
  |cons m l =>
   have:hd0 E ((m :: l).flatMap mdT)=A1 [109,111,100,101]:=by rw[A2A];unfold mdT;rfl
   rw[this,C4x.2];decide
 obtain⟨ld,s1,a1,a2,a3,a4⟩:=A5g (L:=ruT r) (E:=E) r.decls [] rd0 (r.modes.flatMap mdT) h3 (by simpa using h1) hp (by rw[hT];rfl) rfl;obtain⟨lm,s2,b1,b2,b4⟩:=A5f (L:=ruT r) (E:=E) r.modes [] s1 h4 (by simpa using h2) a3 a4;have hr:Evt (fun f=>A9d (ruT r) E f rd0) (⟨ld,lm⟩,s2):=a2.map2 b2 fun f h1 h2=>by
  unfold A9d;rw[h1];dsimp only;rw[h2];rfl
 rw[(B3f (ruT r) E).uniq hr];refine⟨b4,?_⟩;unfold Ru.plain
 grind
mutual
theorem B1r:∀ e:Ex,msM e.plain=msM e
 |.mk k v n a p=>by
  rw[Ex.plain,msM,msM,B1t k 0 a,Ex.plains_map,A0C]
theorem B1t:∀ (k:Int) (i:Nat) (l:List Ex),msL k i (Ex.plains l)=msL k i l
 |k,i,[]=>rfl
 |k,i,e :: l=>by
  have hk:e.plain.kind=e.kind:=by cases e;rfl
  rw[Ex.plains,msL,msL,B1r e,B1t k (i+1) l,hk]
end
theorem B7n(e:Ex):S4 e.plain=S4 e:=by unfold S4;rw[B1r]
theorem A4k{l:List St}:(St.plains l).isEmpty=l.isEmpty:=by cases l<;>rfl
theorem A4l(l:List St):(St.plains l).length=l.length:=by rw[St.plains_map,A0C]
mutual
theorem B7k:∀ (d:Nat) (s:St),N7 d s.plain=N7 d s
 |d,.mk k n t a x y p=>by
  have ha:(Ex.plains a).all S4=a.all S4:=by
   rw[Ex.plains_map,List.all_map]
   congr 1
   funext e
   exact B7n e
  rw[St.plain,N7,N7,Z2 (d+1) x,Z2 (d+1) y,ha,Ex.plains_map,A0C,A4k,A4k,A4l,A4l]
theorem Z2:∀ (d:Nat) (l:List St),F8 d (St.plains l)=F8 d l
 |d,[]=>rfl
 |d,s :: l=>by rw[St.plains,F8,F8,B7k d s,Z2 d l]
end
theorem B7m(h:Hd):A0x h.plain=A0x h:=by
 unfold A0x Hd.plain M4;dsimp only;rw[Z2,A4l,A4k]
theorem B7l(m:Md):Q0 m.plain=Q0 m:=by
 unfold Q0 Md.plain;dsimp only;rw[A0C,List.all_map]
 congr 2
 funext h
 exact B7m h
theorem A8v(r:Ru):L1 r.plain=L1 r:=by
 unfold L1 Ru.plain;dsimp only;rw[A0C,A0C,List.all_map,List.all_map]
 congr 2
 funext m
 exact B7l m
theorem D0m(r:Ru):C2v r=L1 r:=by
 cases hv:L1 r with
 |true =>
  obtain⟨h1,h2⟩:=B5g hv 0;unfold C2v
  grind
 |false =>
  cases hd:C2v r with
  |false=>rfl
  |true =>
   unfold C2v at hd;rw[A0F]at hd;have h2:=@of_decide_eq_true _ (_) hd.2;obtain⟨f,hf⟩:=(B3f (ruT r) 0).get;have h3:=C3c (fun t ht=>(C8k r t ht).1) hf hd.1;rw[<- A8v,h2,A8v,hv]at h3
   grind
mutual
theorem D3v:∀ (e:Ex) (o d:Nat),msM e=some (o,d)->o<=e.sz/\d+1<=2 * e.sz
 |.mk k v n a p,o,d,h=>by
  have hs:(Ex.mk k v n a p).sz=1+n.length+Ex.szs a:=by rw[Ex.sz]
  obtain⟨h1,h2,h3,h4,h5,h6⟩:=A9n h;by_cases hc:I7 k=0
  ·obtain⟨rfl,rfl⟩:=h5 hc;omega
  ·obtain⟨d',hl,hd⟩:=h6 hc;have:=B8j k 0 a o d' hl;rw[hd];split<;>omega
theorem B8j:∀ (k:Int) (i:Nat) (l:List Ex) (o d:Nat),msL k i l=some (o,d)->o<=Ex.szs l/\d<=2 * Ex.szs l
 |k,i,[],o,d,h=>by simp[msL]at h;omega
 |k,i,e :: l,o,d,h=>by
  rw[msL]at h;have hs:Ex.szs (e :: l)=e.sz+Ex.szs l:=by rw[Ex.szs]
  have hp:=e.sz_pos;cases he:msM e with
  |none=>rw[he]at h;cases h
  |some q =>
   obtain⟨o1,d1⟩:=q;have h1:=D3v e o1 d1 he;rw[he]at h;dsimp only at h;cases hl:msL k (i+1) l with
   |none=>rw[hl]at h;cases h
   |some q2 =>
    obtain⟨o2,d2⟩:=q2;have h2:=B8j k (i+1) l o2 d2 hl;rw[hl]at h;dsimp only at h;have h3:=Option.some.inj h;have h4:o1+o2=o:=congrArg Prod.fst h3;have h5:max (if Y7 k e.kind i=true then d1+1 else d1) d2=d:=congrArg Prod.snd h3;rw[hs];split at h5<;>omega
end
def msV:Option (Nat × Nat)->DV
 |none=>.tup [I64 0,I64 0,.bool false]
 |some (o,d)=>.tup [I64 o,I64 d,.bool true]
theorem D7m(q:Option (Nat × Nat)):(msV q).nl=true:=by cases q<;>rfl
theorem C7l{k:Int}{a:List Ex}{i:Nat}{x:Ex}(h:a[i]? = some x):msL k i (a.drop i)=match msM x with
  |none=>none
  |some (o,d)=>match msL k (i+1) (a.drop (i+1)) with
   |none=>none
   |some (o2,d2)=>some (o+o2,max (if Y7 k x.kind i=true then d+1 else d) d2):=by
 have hlt:=(A0J.1 h).1;rw[A1C hlt,(A0J.1 h).2,msL];try rfl
end Go.Pb
end
