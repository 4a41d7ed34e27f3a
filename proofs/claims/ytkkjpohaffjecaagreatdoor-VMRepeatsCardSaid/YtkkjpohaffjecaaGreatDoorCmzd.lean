/-
  HELPERS of the claim: part 4 of its texts.
-/
import Derived.Test.YtkkjpohaffjecaaGreatDoorCmzc
import Derived.ReadAgain
import Derived.ChangeBears
import Derived.Deep.Slices
import Derived.Below
import Derived.OpenShut
import Derived.Lib.LaidTab
import Derived.Lib.ParseIntB
import Derived.Lib.Bytealg
import Derived.KernelRfl
import Derived.Lib.ItoaNum
import Derived.Lib.Space
import Derived.Test.YtkkjpohaffjecaaGreatDoorProg
noncomputable section
set_option linter.unusedVariables false
set_option linter.unusedSectionVars false
set_option linter.unusedSimpArgs false
namespace Go.Sym
variable [Go.Sym.Tab]
open Go.RowKit Go.Pb Go.Deep
section
variable {H:Type} {enc:TypeId × Value->H} {P:Program} {T:TypeId->Prop} {W W':World} {hT:TabOk W}
theorem arg_kept(K:Kids P T)(hz:∀ t e,T t->P.underlying t=some (.slice e)->0<P.cellsOf e)(hb:Below W.heap.size W W'){sp:Nat->Bool}:
  ∀ {ts:List TypeId} {vs:List Value} {ds:List (DataW H)} {ps:List MemPlace},(∀ t∈ts,T t)->DataW.TrodAll enc P W 0 (fun _=>true) true ts vs ds ps->(∀ p∈ps,sp p.block=true)->DataW.TrodAll enc P W' 0 sp true ts vs ds ps
 |[],[],[],_,_,h,_=>h
 |t :: ts,v :: vs,d :: ds,ps,hT,⟨p,q,h1,h2,e⟩,hs=>by
  have hlt:=h1;refine⟨p,q,?_,arg_kept K hz hb (fun t ht=>hT t (A0N.2 (Or.inr ht))) h2 (fun x hx=>hs x (by rw[e];exact List.mem_append_right _ hx)),e⟩;have h3:=h1.respare K hz (hT _ (A0N.2 (Or.inl rfl))) (spare':=sp) (fun x hx=>hs x (by rw[e];exact List.mem_append_left _ hx));obtain⟨n,hn⟩:=h3;obtain⟨m,hm⟩:=h1;exact⟨n,DataW.trod_carry n _ _ _ hn fun x hx=>hb.same (DataW.trod_lt m _ _ _ hm x hx)⟩
theorem u8_of{n:Int}(h:(Lit.int .u8 n).wf=true):n=((UInt8.ofNat n.toNat).toNat:Int):=by
 have:=bounds_u8 h;simp;omega
end
end Go.Sym
namespace Go.Pb
variable [Go.Sym.Tab]
open Go.Sym
abbrev Sm(n:Int):Prop := -4611686018427387904<=n/\n<=4611686018427387903
structure Bnd (c:Prg):Prop where
 ins:∀ i∈c.instrs,Sm i.op/\Sm i.A
 ent:∀ e∈c.entries,Sm e.mode/\Sm e.trigger/\Sm e.index/\Sm e.pos
 pri:∀ n∈c.prios,Sm n
 var:∀ n∈c.vars,Sm n
 tim:Sm c.timers
 evt:Sm c.events
 str:∀ s∈c.strings,s.length<=32
theorem I0{n lo hi:Int}(h:inM n lo hi=true)(h1 : -4611686018427387904<=lo)(h2:hi<=4611686018427387903):Sm n:=by
 simp only[inM,A0B,A0J]at h;omega
theorem B3e{op:Int}(h:(A2 op).2.2 ≠ -1):1<=op/\op<=31:=by
 by_cases h2:1<=op/\op<=31
 ·omega
 ·exfalso;apply h;have h101:¬op=1:=by omega
  have h102:¬op=2:=by omega
  have h103:¬op=3:=by omega
  have h104:¬op=4:=by omega
  have h105:¬op=5:=by omega
  have h106:¬op=6:=by omega
  have h107:¬op=7:=by omega
  have h108:¬op=8:=by omega
  have h109:¬op=9:=by omega
  have h110:¬op=10:=by omega
  have h111:¬op=11:=by omega
  have h112:¬op=12:=by omega
  have h113:¬op=13:=by omega
  have h114:¬op=14:=by omega
  have h115:¬op=15:=by omega
  have h116:¬op=16:=by omega
  have h117:¬op=17:=by omega
  have h118:¬op=18:=by omega
  have h119:¬op=19:=by omega
  have h120:¬op=20:=by omega
  have h121:¬op=21:=by omega
  have h122:¬op=22:=by omega
  have h123:¬op=23:=by omega
  have h124:¬op=24:=by omega
  have h125:¬op=25:=by omega
  have h126:¬op=26:=by omega
  have h127:¬op=27:=by omega
  have h128:¬op=28:=by omega
  have h129:¬op=29:=by omega
  have h130:¬op=30:=by omega
  have h131:¬op=31:=by omega
  have e:A2 op=(0,0, -1):=by
   unfold A2
   grind
  rw[e]
theorem Lim.dims{c:Prg}(h:D7 c=true):c.instrs.length<=4000/\c.strings.length<=200/\c.entries.length<=512/\c.prios.length<=16/\c.vars.length<=128/\0<=c.timers/\c.timers<=128/\0<=c.events/\c.events<=128:=by
 simp only[D7,inM,A0B,A0J]at h;omega
theorem A7t{c:Prg}(hL:D7 c=true){k a:Int}(hJ:k≠7)(h:B1 c k a=true):Sm a:=by
 obtain⟨d1,d2,d3,d4,d5,d6,d7,d8,d9⟩:=Lim.dims hL;by_cases e0:k=0
 ·subst e0;have h':decide (a=0)=true:=h;simp only[A0J]at h';exact⟨by omega,by omega⟩
 by_cases e1:k=1
 ·subst e1;exact I0 (lo:=(-2147483647)) (hi:=2147483647) h (by omega) (by omega)
 by_cases e2:k=2
 ·subst e2;exact I0 (lo:=0) (hi:=(c.vars.length-1)) h (by omega) (by omega)
 by_cases e3:k=3
 ·subst e3;exact I0 (lo:=0) (hi:=63) h (by omega) (by omega)
 by_cases e9:k=9
 ·subst e9;exact I0 (lo:=0) (hi:=63) h (by omega) (by omega)
 by_cases e4:k=4
 ·subst e4;exact I0 (lo:=0) (hi:=(c.prios.length-1)) h (by omega) (by omega)
 by_cases e5:k=5
 ·subst e5;exact I0 (lo:=0) (hi:=(c.timers-1)) h (by omega) (by omega)
 by_cases e6:k=6
 ·subst e6;exact I0 (lo:=12) (hi:=24) h (by omega) (by omega)
 by_cases e8:k=8
 ·subst e8;exact I0 (lo:=0) (hi:=31) h (by omega) (by omega)
 by_cases e10:k=10
 ·subst e10;exact I0 (lo:=0) (hi:=(c.events-1)) h (by omega) (by omega)
 by_cases e11:k=11
 ·subst e11;exact I0 (lo:=0) (hi:=(c.strings.length-1)) h (by omega) (by omega)
 have:B1 c k a=false:=by
  unfold B1;rw[if_neg e0,if_neg e1,if_neg e2,if_neg e3,if_neg e9,if_neg e4,if_neg e5,if_neg e6,if_neg hJ,if_neg e8,if_neg e10,if_neg e11]
 grind
theorem Bnd.of{c:Prg}(hL:D7 c=true)(hp:H4 c=true)(hj:C2 c=true):Bnd c:=by
 obtain⟨d1,d2,d3,d4,d5,d6,d7,d8,d9⟩:=Lim.dims hL;simp only[H4,A0B,A0H]at hp;obtain⟨⟨⟨⟨p1,p2⟩,p3⟩,p4⟩,p5⟩:=hp;refine⟨fun i hi=>?_,fun e he=>?_,fun n hn=>I0 (p2 n hn) (by omega) (by omega),fun n hn=>I0 (p3 n hn) (by omega) (by omega),⟨by omega,by omega⟩,⟨by omega,by omega⟩,fun s hs=>?_⟩
 ·have h:=p5 i hi;have h7:=Z8 hj i hi;have hk:(A2 i.op).2.2 ≠ -1:=by
   intro e;rw[A5,e]at h;trivial
  obtain⟨o1,o2⟩:=B3e hk;refine⟨⟨by omega,by omega⟩,?_⟩;by_cases hJ:(A2 i.op).2.2=7
  ·have hop:i.op=12\/i.op=13\/i.op=14:=by
    have:=U3 i.op;rw[hJ]at this;simpa[isJ] using this
   omega
  ·exact A7t hL hJ h
 ·have h:=p4 e he;have h7:=A2u hj e he;simp only[N9,A0B]at h;obtain⟨h1,h2⟩:=h;refine⟨I0 h1 (by omega) (by omega),?_,?_,⟨by omega,by omega⟩⟩
  ·grind
  ·repeat' split at h2
   all_goals first
    |exact I0 h2 (by omega) (by omega)
    |(simp only[A0J]at h2;exact⟨by omega,by omega⟩)
    |cases h2
 ·have h:=p1 s hs;simp only[K2,A0B,A0J]at h;omega
theorem M2{c:Prg}(h0:B3 c=0):D7 c=true/\H4 c=true/\C2 c=true/\H7 c.entries=true/\∃ h,hR c=some h:=by
 unfold B3 at h0;split at h0
 ·omega
 split at h0
 ·omega
 split at h0
 ·omega
 split at h0
 ·omega
 split at h0
 ·omega
 ·rename_i h1 h2 h3 h4 h5;refine⟨by grind,by grind,by grind,by grind,?_⟩;cases hh:hR c with
  |none=>grind
  |some h=>simp
theorem Bnd.valid{c:Prg}(h0:B3 c=0):Bnd c :=
 let ⟨a,b,d,_⟩:=M2 h0
 Bnd.of a b d
structure Tok where
 kind:Int
 text:List UInt8
 value:Int
 pos:Int
deriving DecidableEq
abbrev Tok.v(t:Tok):DV:=.agg [I64 t.kind,.str t.text,I64 t.value,I64 t.pos]
@[simp]theorem B3g(l:List Tok):DV.nlL (l.map Tok.v)=true:=F6 (fun _=>rfl) l
def dgB(c:UInt8):Bool:=decide (48<=c.toNat) && decide (c.toNat<=57)
def w8(l:List Nat):List UInt8:=l.map UInt8.ofNat
def Y7:List (List UInt8):=[w8 [115,119,105,116,99,104],w8 [99,111,105,108],w8 [108,97,109,112],w8 [115,111,117,110,100],w8 [115,104,111,119],w8 [118,97,114],w8 [116,105,109,101,114],w8 [101,118,101,110,116],w8 [109,111,100,101],w8 [111,110],w8 [115,116,97,114,116],w8 [115,116,111,112],w8 [99,108,111,115,101],w8 [111,112,101,110],w8 [105,102],w8 [101,108,115,101],w8 [114,101,112,101,97,116],w8 [115,99,111,114,101],w8 [102,105,114,101],w8 [104,111,108,100],w8 [114,101,108,101,97,115,101],w8 [108,105,103,104,116],w8 [98,108,105,110,107],w8 [98,101,103,105,110],w8 [101,110,100],w8 [112,111,115,116],w8 [112,108,97,121],w8 [114,117,110],w8 [104,97,108,116],w8 [116,101,120,116],w8 [99,111,110,115,117,109,101],w8 [99,108,111,115,101,100],w8 [97,99,116,105,118,101],w8 [108,101,102,116],w8 [112,108,97,121,101,114],w8 [98,97,108,108],w8 [116,114,117,101],w8 [102,97,108,115,101]]
def A0x(s:List UInt8):Nat:=s.foldl (fun n c=>10 * n+(c.toNat-48)) 0
end Go.Pb
namespace Go.Sym
variable [Go.Sym.Tab]
open Go.RowKit Go.Pb Go.Deep Go.ChangeShapes
theorem A0m{P:Program}{w:World}{n:String}{g:Nat}{cs:Array Value}(e1:P.globalNamed n=some g)(e3:w.var? P n=some cs):A2b w g=some cs:=by
 unfold World.var? at e3;rw[e1,Option.bind_some]at e3;unfold A2b;split at e3
 ·rename_i r ty fr hh;cases e3;rw[hh]
 ·cases e3
theorem U1{P:Program}{w:World}{n:String}{d:DataW Unit}:∀ {l:List (String × DataW Unit)} {ps:List MemPlace},DataW.LaidVars P w l ps->(n,d)∈l ->
  ∃ g t cs fuel p,P.globalNamed n=some g/\(P.globals[g]?).map (·.type)=some t/\w.var? P n=some cs/\DataW.trod (fun _=>()) P w 0 (fun _=>true) false fuel t cs.toList=some (d,p)
 |[],ps,_,hm=>by cases hm
 |(n',d') :: l,ps,h,hm=>by
  obtain⟨g,t,cs,fuel,p,q,h1,h2,h3,h4,h5, -⟩:=h;rcases A0N.1 hm with e|hm
  ·cases e;exact⟨g,t,cs,fuel,p,h1,h2,h3,h4⟩
  ·exact U1 h5 hm
theorem laid_tab{P:Program}{w:World}{n:String}{d:DataW Unit}{l:List (String × DataW Unit)}{g t e m:Nat}{k:IntKind}{zs:List Int}(h:laidMet P l w)(hm:(n,d)∈l)(hg:P.globalNamed n=some g)
  (ht:(P.globals[g]?).map (·.type)=some t) (hu:P.underlying t=some (.array m e)) (he:P.underlying e=some (.int k)) (hce:P.cellsOf e=1) (hct:P.cellsOf t=m) (hd:d=Lib.tabData k zs) :
  ∃ r,A2b w g=some r/\r=(zs.map fun z=>Value.int k z).toArray:=by
 obtain⟨ps,h1, -⟩:=h;obtain⟨g',t',cs,fuel,p,e1,e2,e3,e4⟩:=U1 h1 hm;rw[hg]at e1;cases e1;rw[ht]at e2;cases e2;rw[hd]at e4;have hc:=Lib.cells_of_tab hu he hce hct e4;exact⟨cs,A0m hg e3,Array.toList_inj.1 (hc.trans (by simp))⟩
theorem A0j{P:Program}{w:World}{fuel:Nat}{t:TypeId}{ms}{cs:List Value}{nm:String}{d:DataW Unit}{p:List MemPlace}(hu:P.underlying t=some (.interface ms))
  (h:DataW.trod (fun _=>()) P w 0 (fun _=>true) false fuel t cs=some (.iface nm d,p)):∃ te pe,cs=[.iface te pe]:=by
 cases fuel with
 |zero=>simp[DataW.trod]at h
 |succ fuel =>
  simp only[DataW.trod,hu]at h;split at h<;>first|exact⟨_,_,rfl⟩|(simp_all;done)
theorem laid_err{P:Program}{w:World}{n:String}{nm:String}{d:DataW Unit}{l:List (String × DataW Unit)}{g t:Nat}{ms}(h:laidMet P l w)(hm:(n,DataW.iface nm d)∈l)(hg:P.globalNamed n=some g)
  (ht:(P.globals[g]?).map (·.type)=some t) (hu:P.underlying t=some (.interface ms)):∃ r,A2b w g=some r/\∃ te pe,r = #[.iface te pe]:=by
 obtain⟨ps,h1, -⟩:=h;obtain⟨g',t',cs,fuel,p,e1,e2,e3,e4⟩:=U1 h1 hm;rw[hg]at e1;cases e1;rw[ht]at e2;cases e2;obtain⟨te,pe,e5⟩:=A0j hu e4;exact⟨cs,A0m hg e3,te,pe,Array.toList_inj.1 e5⟩
section
variable {H:Type} {enc:TypeId × Value->H} {P:Program} {W W':World} {hT:TabOk W}
theorem open_u8{r:Reach}{b0:Nat}{t:TypeId}{v:Value}{d:DataW H}{ps:List MemPlace}(ht:P.underlying t=some (.int .u8))(hval:Value.okWide P W r b0 t v)(hd:DataW.Trod enc P W 0 (fun _=>true) true t v d ps):
  ∃ u:UInt8,VRel (topR W hT) (.int .u8 (u.toNat:Int)) v:=by
 obtain⟨n,rfl, -, -,hw⟩:=open_int ht hval hd;have:=u8_of hw;rw[this];exact⟨_,.int _ _⟩
end
def B2b(ρ : Ren)(ds:List DV)(cs:List Value):Prop:=ds.length=cs.length/\∀ (j:Nat) d v,ds[j]? = some d->cs[j]? = some v->VRel ρ d v
theorem B2b.one{ρ : Ren}{d:DV}{v:Value}(h:VRel ρ d v):B2b ρ [d] [v]:=⟨rfl,fun j d' v' hd hv=>by
 match j with
 |0=>cases hd;cases hv;exact h
 |_+1=>cases hd⟩
def Reads1{H:Type}(enc:TypeId × Value->H)(P:Program)(W:World)(hT:TabOk W)(t:TypeId){α : Type}(F : α -> List DV)(R : α -> Prop):Prop :=
 ∀ (n:Nat) (cs:List Value) (x:DataW H × List MemPlace),DataW.trod enc P W 0 (fun _=>true) true n t cs=some x->∃ a : α,R a/\B2b (topR W hT) (F a) cs
section
variable {H:Type} {enc:TypeId × Value->H} {P:Program} {W W':World} {hT:TabOk W}
theorem rd_bool{t:TypeId}(ht:P.underlying t=some .bool):Reads1 enc P W hT t (fun b:Bool=>[DV.bool b]) (fun _=>True):=by
 intro n cs x h;obtain⟨b,rfl, -⟩:=DataW.trod_bool ht h;exact⟨b,trivial,.one (.bool _)⟩
theorem Reads1.arg1{α : Type}{t:TypeId}{G : α -> DV}{R : α -> Prop}{v:Value}{d:DataW H}{ps:List MemPlace}(h:Reads1 enc P W hT t (fun a=>[G a]) R)(hd:DataW.Trod enc P W 0 (fun _=>true) true t v d ps)(hv:v.cells = #[v]):
  ∃ a,R a/\VRel (topR W hT) (G a) v:=by
 obtain⟨n,hn⟩:=hd;rw[hv]at hn;obtain⟨a,r,q⟩:=h _ _ _ hn;exact⟨a,r,q.2 0 _ _ rfl rfl⟩
end
open Go.Eng (IC)
def B5n(p:Prop):Prop:=p
theorem J0{p:Prop}(h:B5n p):p:=h
theorem IW.stage{P:Program}{N:Nat}{x:IC}{T:Tm}{H:Hp}{c:Nat}{Q:Exit->St->Prop}{L:List (Nat × DV)}(hT:G0 L T)(h:IW P N x ⟨tm L,H,c⟩ Q):B5n (IW P N x ⟨T,H,c⟩ Q):=IW.weaken (A8v hT) (Sub.refl _) h
def jn(H F:Hp):Hp:=fun j=>match H j with
 |some b=>some b
 |none=>F j
theorem U2{H F:Hp}{j:Nat}{b:Blk}(h:H j=some b):jn H F j=some b:=by simp only[jn,h]
theorem A6g{H F:Hp}{j:Nat}(h:H j=none):jn H F j=F j:=by simp only[jn,h]
theorem A4o{H F:Hp}{j:Nat}{b:Blk}(h:jn H F j=some b):H j=some b\/(H j=none/\F j=some b):=by
 cases hj:H j with
 |some b0=>rw[U2 hj]at h;grind
 |none=>rw[A6g hj]at h;grind
theorem AC.frame{P:Program}{f:Nat}{args:List DV}{H F:Hp}{c:Nat}{Q:DV->Hp->Nat->Prop}(h:AC P f args H c Q)(hd:∀ j,F j≠none->H j=none):
  AC P f args (jn H F) c (fun v H' c' => ∃ H1,Q v H1 c'/\(∀ j,F j≠none->H1 j=none)/\H'=jn H1 F):=by
 refine⟨h.1,fun ρ w vs hR hf hA=>?_⟩;have jF:∀ {j b},F j=some b->jn H F j=some b:=fun {j b} hj=>by rw[A6g (hd j (by rw[hj];simp))];omega
 refine (h.2 ρ w vs (hR.less fun j=>?_) hf hA).mono ?_
 ·cases hj:H j with
  |none=>simp
  |some b=>exact .inr (U2 hj).symm
 rintro e w' ⟨v,v',H1,c1, ρ1,rfl,q,d⟩;have nF:∀ {j b},F j=some b->∃ t, ρ.nm j=some t/\W3 ρ b t w:=fun {j b} hj=>hR.blk j b (jF hj);have ltF:∀ {j b},F j=some b->j<c:=fun {j b} hj=>by
  grind
 have dF:∀ {j b},F j=some b->H1 j=none:=fun {j b} hj=>by
  cases h1:H1 j with
  |none=>rfl
  |some b1=>exact absurd (hd j (by grind)) (d.dom j (ltF hj) (by grind))
 have sFH:∀ {i j bi bj ti tj},H i=some bi->F j=some bj -> ρ.nm i=some ti -> ρ.nm j=some tj->(bi.own=true\/bj.own=true)->ti.block≠tj.block:=fun {i j bi bj ti tj} hi hj h1 h2 ho=>by
  have hij:i≠j:=fun e=>by grind
  rcases ho with ho|ho
  ·exact hR.sep i j bi bj ti tj (U2 hi) (jF hj) hij h1 h2 ho
  ·exact (hR.sep j i bj bi tj ti (jF hj) (U2 hi) (Ne.symm hij) h2 h1 ho).symm
 have row:∀ {j b t},F j=some b -> ρ.nm j=some t->w'.heap[t.block]? = w.heap[t.block]? := fun {j b t} hj ht=>by
  obtain⟨t2,ht2,hb⟩:=nF hj;rw[ht]at ht2;cases ht2;exact d.ext.keep t.block hb.lt fun id b0 t0 h1 ho h2=>sFH h1 hj h2 ht (.inl ho)
 have nm1:∀ {j b},F j=some b -> ρ1.nm j = ρ.nm j:=fun {j b} hj=>d.same j (ltF hj);have sep1:∀ {i j bi bj ti tj},H1 i=some bi->F j=some bj -> ρ1.nm i=some ti -> ρ.nm j=some tj->(bi.own=true\/bj.own=true)->ti.block≠tj.block:=fun {i j bi bj ti tj} hi hj h1 h2 ho=>by
  obtain⟨t2,ht2,hb⟩:=nF hj;rw[h2]at ht2;cases ht2;have:=hb.lt;rcases d.ext.mine i bi ti hi h1 with h3|⟨i0,b0,t0,e1,e2,e3,e4⟩
  ·omega
  grind
 refine⟨v,v',jn H1 F,c1, ρ1,rfl,⟨H1,q,fun j hj=>?_,rfl⟩,d.val,?_,d.fresh,d.up,fun j hj hne=>?_,d.same,?_⟩
 ·cases h1:F j with
  |none=>grind
  |some b=>grind
 ·refine⟨fun j b hb=>?_,fun i j bi bj ti tj hi hj hij h1 h2 ho=>?_,d.rep.frz,fun j b t hb ho ht=>?_,fun k es hk=>⟨(d.rep.frm k es hk).1,fun j b t hb ho ht=>?_⟩⟩
  ·rcases A4o hb with h1|⟨-,h1⟩
   ·exact d.rep.blk j b h1
   ·obtain⟨t,ht,hbr⟩:=nF h1;exact⟨t,by grind,(hbr.mono d.ext.le).world (row h1 ht)⟩
  ·rcases A4o hi with h3|⟨-,h3⟩<;>rcases A4o hj with h4|⟨-,h4⟩
   ·exact d.rep.sep i j bi bj ti tj h3 h4 hij h1 h2 ho
   ·grind
   ·grind
   ·rw[nm1 h3]at h1;rw[nm1 h4]at h2;exact hR.sep i j bi bj ti tj (jF h3) (jF h4) hij h1 h2 ho
  ·rcases A4o hb with h1|⟨-,h1⟩
   ·exact d.rep.dis j b t h1 ho ht
   ·rw[nm1 h1]at ht;cases hf1 : ρ1.fz t.block with
    |none=>rfl
    |some r =>
     rcases d.ext.fzn _ _ hf1 with h3|h3|⟨i,b0,t0,e1,e2,e3,e4⟩
     ·rw[hR.dis j b t (jF h1) ho ht]at h3;cases h3
     ·obtain⟨t2,ht2,hb2⟩:=nF h1;rw[ht]at ht2;cases ht2;have:=hb2.lt;omega
     grind
  ·rcases A4o hb with h1|⟨-,h1⟩
   ·exact (d.rep.frm k es hk).2 j b t h1 ho ht
   ·rw[nm1 h1]at ht;rcases d.ext.fmn _ _ hk with h3|h3|⟨i,b0,t0,e1,e2,e3,e4⟩
    ·exact (hR.frm k es h3).2 j b t (jF h1) ho ht
    ·obtain⟨t2,ht2,hb2⟩:=nF h1;rw[ht]at ht2;cases ht2;have:=hb2.lt;omega
    grind
 ·cases h1:H1 j with
  |some b1 =>
   have h2:=d.dom j hj (by grind);cases h3:H j with
   |none=>grind
   |some b3=>rw[U2 h3];simp
  |none =>
   rw[A6g h1]at hne;cases h3:F j with
   |none=>grind
   |some b3=>grind
 ·refine⟨d.ext.le,d.ext.os,d.ext.tape,d.ext.output,d.ext.size,fun k hk hn=>d.ext.keep k hk fun id b t h1 ho h2=>hn id b t (U2 h1) ho h2,fun j b t hb ht=>?_,fun k r hk=>?_,fun k r hk=>?_⟩
  ·rcases A4o hb with h1|⟨-,h1⟩
   ·rcases d.ext.mine j b t h1 ht with h3|⟨i,b0,t0,e1,e2,e3,e4⟩
    ·exact .inl h3
    ·exact .inr ⟨i,b0,t0,U2 e1,e2,e3,e4⟩
   grind
  ·rcases d.ext.fzn k r hk with h1|h1|⟨i,b0,t0,e1,e2,e3,e4⟩
   ·grind
   ·omega
   ·exact .inr (.inr ⟨i,b0,t0,U2 e1,e2,e3,e4⟩)
  ·rcases d.ext.fmn k r hk with h1|h1|⟨i,b0,t0,e1,e2,e3,e4⟩
   ·grind
   ·omega
   ·exact .inr (.inr ⟨i,b0,t0,U2 e1,e2,e3,e4⟩)
theorem AC.beside{P:Program}{f:Nat}{args:List DV}{H:Hp}{c k:Nat}{Q:DV->Hp->Nat->Prop}(h:AC P f args H c Q)(hk:H k=none)(b:Blk):
  AC P f args (H.upd k b) c (fun v H' c' => ∃ H1,Q v H1 c'/\H1 k=none/\H'=H1.upd k b):=by
 have e:∀ X:Hp,X k=none->jn X (Sym.nil.upd k b)=X.upd k b:=fun X hX=>by
  funext j
  by_cases ej:j=k
  ·subst ej;rw[A6g hX,A7,A7]
  ·rw[L0 ej];cases hj:X j with
   |none=>rw[A6g hj,L0 ej];rfl
   |some b=>exact U2 hj
 have hn:∀ j,(Sym.nil.upd k b) j≠none->j=k:=fun j hj=>by
  by_cases ej:j=k
  ·exact ej
  ·rw[L0 ej]at hj;exact absurd rfl hj
 have:=h.frame (F:=Sym.nil.upd k b) (fun j hj=>by rw[hn j hj];exact hk);rw[e H hk]at this;refine this.mono ?_;rintro v H' c' ⟨H1,q,h1,rfl⟩;have h2:H1 k=none:=h1 k (by rw[A7];simp)
 grind
open Go.Eng (Opd FOp AOp EOp IOp IOper DReg IC RV IFn trC S6 G8 B6)
def pre:IC->List IC
 |.seq x y=>.seq x y :: (pre x++pre y)
 |.cond o x y=>.cond o x y :: (pre x++pre y)
 |.blk i x=>.blk i x :: pre x
 |.loop x=>.loop x :: pre x
 |x=>[x]
def szC:IC->Nat
 |.seq x y=>szC x+szC y+1
 |.cond o x y=>szC x+szC y+1
 |.blk i x=>szC x+1
 |.loop x=>szC x+1
 |x=>1
theorem A5x(t:IC):(pre t).length=szC t:=by
 induction t<;>simp_all[pre,szC]
def A2p(k:Nat):List Nat->List Nat
 |[]=>[k]
 |a :: l=>match Nat.blt k a with
  |true=>k :: a :: l
  |false=>match Nat.beq k a with
   |true=>a :: l
   |false=>a :: A2p k l
def A3z:List Nat->List Nat->List Nat
 |[],m=>m
 |a :: l,m=>A2p a (A3z l m)
def rmS(k:Nat):List Nat->List Nat
 |[]=>[]
 |a :: l=>match Nat.beq k a with
  |true=>l
  |false=>a :: rmS k l
def opS:Opd->List Nat
 |.t n=>[n]
 |_=>[]
def Z3:List IOper->List Nat->List Nat
 |[],out=>out
 |o :: r,out=>A3z o.sees (match o.dst with
  |some d=>rmS d (Z3 r out)
  |none=>Z3 r out)
def slR:List RV->List Nat
 |[]=>[]
 |.tmp t :: r=>A2p t (slR r)
 |.cell a _ _ :: r=>A2p a (slR r)
def upE(ex:Nat->List Nat)(i:Nat)(L:List Nat)(j:Nat):List Nat:=match Nat.beq i j with
 |true=>L
 |false=>ex j
def rgS:Eng.Rg->List Nat->List Nat
 |.bad,_=>[]
 |.r1 io m it,out=>Z3 io (A2p m (rmS it out))
 |.r2 it n io,out=>A2p it (rmS n (Z3 io out))
 |.r3 it e io,out=>A2p it (rmS e (Z3 io out))
def lvC(rl:List Nat):IC->List Nat->(Nat->List Nat)->List Nat
 |.skip,out,_=>out
 |.exit i,_,ex=>ex i
 |.ret,_,_=>rl
 |.bad,_,_=>[]
 |.rg r,out,_=>rgS r out
 |.reg r,out,_=>Z3 r out
 |.drw _ d,out,_=>Z3 d.ops out
 |.seq x y,out,ex=>lvC rl x (lvC rl y out ex) ex
 |.cond o x y,out,ex=>A3z (opS o) (A3z (lvC rl x out ex) (lvC rl y out ex))
 |.blk i x,out,ex=>lvC rl x out (upE ex i out)
 |.loop x,_,ex=>lvC rl x [] ex
def chC(h:Nat->IC)(k:Nat):IC->IC
 |.skip=>.skip
 |.exit i=>.exit i
 |.ret=>.ret
 |.bad=>.bad
 |.rg r=>.rg r
 |.loop _=>.loop (h (k+1))
 |_=>h k
def A7q:Nat->List (Nat × Option (List Nat))->List IOper->Nat
 |k,(_,some []) :: p,⟨_,.pur _,_⟩ :: r=>2 ^ k+A7q (k+1) p r
 |k,_ :: p,_ :: r=>A7q (k+1) p r
 |_,_,_=>0
def eqO:Option (List Nat)->Option (List Nat)->Bool
 |none,none=>true
 |some [],some []=>true
 |_,_=>false
def eqP:List (Nat × Option (List Nat))->List (Nat × Option (List Nat))->Bool
 |[],[]=>true
 |(a,x) :: p,(b,y) :: q=>Nat.beq a b && eqO x y && eqP p q
 |_,_=>false
theorem B1p{x y:Option (List Nat)}(h:eqO x y=true):x=y:=by
 unfold eqO at h;grind
theorem A6u:∀ {p q:List (Nat × Option (List Nat))},eqP p q=true->p=q
 |[],[],_=>rfl
 |(a,x) :: p,(b,y) :: q,h=>by
  simp only[eqP,A0B]at h;rw[A0V h.1.1,B1p h.1.2,A6u h.2]
 |[],_ :: _,h=>by trivial
 |_ :: _,[],h=>by trivial
def asM(r:List IOper)(p:List (Nat × Option (List Nat)))(m:Nat):Option Nat:=match eqP (V6 m 0 r) p with
 |true=>some m
 |false=>none
inductive PD where
 |S (r:List IOper) (y:IC) (L:List Nat)
 |E (r:List IOper) (L:List Nat)
 |P (r:List IOper) (y:IC) (e n:Nat) (L:List Nat)
 |F (r:List IOper) (e n:Nat) (L:List Nat)
 |D (r:List IOper) (y:IC) (p:List (Nat × Option (List Nat))) (n:Nat) (L:List Nat)
 |G (r:List IOper) (p:List (Nat × Option (List Nat))) (n:Nat) (L:List Nat)
 |C (x y z:IC) (o:Opd) (L:List Nat)
 |K (x z:IC) (o:Opd) (L:List Nat)
 |B (x y:IC) (i:Nat) (L:List Nat)
 |J (x:IC) (i:Nat) (L:List Nat)
 |Q (x y:IC) (L:List Nat)
 |X (x:IC)
def PD.ic:PD->IC
 |.S r y _=>.seq (.reg r) y
 |.E r _=>.reg r
 |.P r y e n _=>.seq (.drw n (dQ r e)) y
 |.F r e n _=>.drw n (dQ r e)
 |.D r y p n _=>.seq (.drw n ⟨r,[],p⟩) y
 |.G r p n _=>.drw n ⟨r,[],p⟩
 |.C x y z o _=>.seq (.cond o x z) y
 |.K x z o _=>.cond o x z
 |.B x y i _=>.seq (.blk i x) y
 |.J x i _=>.blk i x
 |.Q x y _=>.seq x y
 |.X x=>x
def fuC(h:Nat->IC)(k:Nat)(x y:IC)(L:List Nat):PD:=match x with
 |.reg r=>.S r y L
 |.drw n ⟨r,[],p⟩=>match asM r p (A7q 0 p r) with
  |some m=>.P r y m n L
  |none=>.D r y p n L
 |.cond o a b=>.C (chC h (k+1) a) y (chC h (k+1+szC a) b) o L
 |.blk i a=>.B (chC h (k+1) a) y i L
 |x=>.Q (chC h k x) y L
def A4f(h:Nat->IC)(k:Nat)(x:IC)(L:List Nat):PD:=match x with
 |.reg r=>.E r L
 |.drw n ⟨r,[],p⟩=>match asM r p (A7q 0 p r) with
  |some m=>.F r m n L
  |none=>.G r p n L
 |.cond o a b=>.K (chC h (k+1) a) (chC h (k+1+szC a) b) o L
 |.blk i a=>.J (chC h (k+1) a) i L
 |x=>.X x
def B7p:IC->Bool
 |.reg _=>true
 |.drw _ _=>true
 |.cond _ _ _=>true
 |.blk _ _=>true
 |_=>false
def tlC(b:Bool)(l:List (Nat × PD)):List (Nat × PD):=match b with
 |true=>l.tail
 |false=>l
def flC(h:Nat->IC)(rl:List Nat):IC->Nat->List Nat->(Nat->List Nat)->List Nat × List (Nat × PD)
 |.skip,_,out,_=>(out,[])
 |.exit i,_,_,ex=>(ex i,[])
 |.ret,_,_,_=>(rl,[])
 |.bad,_,_,_=>([],[])
 |.rg r,_,out,_=>(rgS r out,[])
 |.reg r,k,out,_=>match Z3 r out with
  |L=>(L,[(k,A4f h k (.reg r) L)])
 |.drw n d,k,out,_=>match Z3 d.ops out with
  |L=>(L,[(k,A4f h k (.drw n d) L)])
 |.seq x y,k,out,ex=>match flC h rl y (k+1+szC x) out ex with
  |(Ly,ly)=>match flC h rl x (k+1) Ly ex with
   |(Lx,lx)=>(Lx,(k,fuC h (k+1) x (chC h (k+1+szC x) y) Lx) :: (tlC (B7p x) lx++ly))
 |.cond o x y,k,out,ex=>match flC h rl x (k+1) out ex with
  |(Lx,lx)=>match flC h rl y (k+1+szC x) out ex with
   |(Ly,ly)=>match A3z (opS o) (A3z Lx Ly) with
    |L=>(L,(k,A4f h k (.cond o x y) L) :: (lx++ly))
 |.blk i x,k,out,ex=>match flC h rl x (k+1) out (upE ex i out) with
  |(L,l)=>(L,(k,A4f h k (.blk i x) L) :: l)
 |.loop x,k,_,ex=>match lvC rl x [] ex with
  |L=>(L,(flC h rl x (k+1) L ex).2)
def Num(h:Nat->IC)(k:Nat)(t:IC):Prop:=∀ j x,(pre t)[j]? = some x->h (k+j)=x
section
variable {h:Nat->IC} {k:Nat} {x y t:IC}
theorem Num.self(n:Num h k t):h k=t:=by
 have:=n 0 t (by cases t<;>simp[pre]);omega
theorem Num.sub{l:List IC}{i:Nat}(n:Num h k t)(e:∀ j x,(pre y)[j]? = some x->(pre t)[i+j]? = some x):Num h (k+i) y:=fun j x hx=>by
 rw[Nat.add_assoc];exact n (i+j) x (e j x hx)
theorem B8w{a:IC}{l r:List IC}(j:Nat)(z:IC)(hz:l[j]? = some z):(a :: (l++r))[1+j]? = some z:=by
 grind
theorem A8w{a:IC}{l r:List IC}{n:Nat}(hn:l.length=n)(j:Nat)(z:IC)(hz:r[j]? = some z):(a :: (l++r))[1+n+j]? = some z:=by
 grind
theorem Num.s1(n:Num h k (.seq x y)):Num h (k+1) x:=n.sub (l:=[]) fun j z hz=>by rw[pre];grind
theorem Num.s2(n:Num h k (.seq x y)):Num h (k+1+szC x) y:=by
 rw[Nat.add_assoc];exact n.sub (l:=[]) fun j z hz=>by rw[pre];exact A8w (A5x x) j z hz
theorem Num.c1{o:Opd}(n:Num h k (.cond o x y)):Num h (k+1) x:=n.sub (l:=[]) fun j z hz=>by rw[pre];grind
theorem Num.c2{o:Opd}(n:Num h k (.cond o x y)):Num h (k+1+szC x) y:=by
 rw[Nat.add_assoc];exact n.sub (l:=[]) fun j z hz=>by rw[pre];exact A8w (A5x x) j z hz
theorem Num.b1{i:Nat}(n:Num h k (.blk i x)):Num h (k+1) x:=n.sub (l:=[]) fun j z hz=>by rw[pre,Nat.add_comm,A1H,hz]
theorem Num.l1(n:Num h k (.loop x)):Num h (k+1) x:=n.sub (l:=[]) fun j z hz=>by rw[pre,Nat.add_comm,A1H,hz]
theorem P6(n:Num h k t):chC h k t=t:=by
 cases t<;>simp only[chC]<;>first|rfl|exact n.self|rw[n.l1.self]
theorem A7c{r:List IOper}{p:List (Nat × Option (List Nat))}{m m':Nat}(e:asM r p m=some m'):V6 m' 0 r=p:=by
 unfold asM at e;split at e<;>cases e;rename_i q;exact A6u q
theorem Z4{L:List Nat}(n:Num h k x):(A4f h k x L).ic=x:=by
 unfold A4f;split
 ·rfl
 ·split
  ·rename_i m e;simp only[PD.ic,dQ,A7c e]
  ·rfl
 ·simp only[PD.ic,P6 n.c1,P6 n.c2]
 ·simp only[PD.ic,P6 n.b1]
 rfl
theorem B4h{L:List Nat}(n:Num h k x):(fuC h k x y L).ic=.seq x y:=by
 unfold fuC;split
 ·rfl
 ·split
  ·rename_i m e;simp only[PD.ic,dQ,A7c e]
  rfl
 ·simp only[PD.ic,P6 n.c1,P6 n.c2]
 ·simp only[PD.ic,P6 n.b1]
 ·simp only[PD.ic,P6 n]
theorem A9s{b:Bool}{l:List (Nat × PD)}{e:Nat × PD}(hm:e∈tlC b l):e∈l:=by
 unfold tlC at hm;split at hm
 ·exact List.mem_of_mem_tail hm
 omega
theorem B4j(rl:List Nat):∀ (t:IC) (k:Nat) (out:List Nat) (ex:Nat->List Nat),Num h k t->∀ e∈(flC h rl t k out ex).2,h e.1=e.2.ic:=by
 intro t
 induction t with
 |skip=>intro k out ex n e he;trivial
 |exit i=>intro k out ex n e he;trivial
 |ret=>intro k out ex n e he;trivial
 |bad=>intro k out ex n e he;trivial
 |rg r=>intro k out ex n e he;trivial
 |reg r=>intro k out ex n e he;simp only[flC,A1V]at he;subst he;simp only[Z4 n];exact n.self
 |drw m d=>intro k out ex n e he;simp only[flC,A1V]at he;subst he;simp only[Z4 n];exact n.self
 |seq x y ihx ihy =>
  intro k out ex n e he;simp only[flC,A0N,A1K]at he;rcases he with rfl|he|he
  ·simp only[B4h n.s1,P6 n.s2];exact n.self
  ·exact ihx _ _ _ n.s1 e (A9s he)
  ·exact ihy _ _ _ n.s2 e he
 |cond o x y ihx ihy =>
  intro k out ex n e he;simp only[flC,A0N,A1K]at he;rcases he with rfl|he|he
  ·simp only[Z4 n];exact n.self
  ·exact ihx _ _ _ n.c1 e he
  ·exact ihy _ _ _ n.c2 e he
 |blk i x ih =>
  intro k out ex n e he;simp only[flC,A0N]at he;rcases he with rfl|he
  ·simp only[Z4 n];exact n.self
  ·exact ih _ _ _ n.b1 e he
 |loop x ih =>
  intro k out ex n e he;simp only[flC]at he;exact ih _ _ _ n.l1 e he
end
inductive Ps where
 |h
 |o (p:Ps)
 |i (p:Ps)
def Ps.n:Ps->Nat
 |.h=>1
 |.o p=>2 * p.n
 |.i p=>2 * p.n+1
def Ps.s:Ps->Ps
 |.h=>.o .h
 |.o p=>.i p
 |.i p=>.o p.s
theorem Ps.s_n:∀ p:Ps,p.s.n=p.n+1
 |.h=>rfl
 |.o p=>rfl
 |.i p=>by simp only[Ps.s,Ps.n,Ps.s_n p];rfl
def Ps.of:Nat->Ps
 |0=>.h
 |k+1=>(Ps.of k).s
theorem Ps.of_n:∀ k:Nat,(Ps.of k).n=k+1
 |0=>rfl
 |k+1=>by rw[Ps.of,Ps.s_n,Ps.of_n k]
def Ps.frc:Ps->(Ps->IC)->IC
 |.h,K=>K .h
 |.o p,K=>Ps.frc p fun q=>K (.o q)
 |.i p,K=>Ps.frc p fun q=>K (.i q)
theorem Ps.frc_eq:∀ (p:Ps) (K:Ps->IC),p.frc K=K p
 |.h,K=>rfl
 |.o p,K=>by rw[Ps.frc,Ps.frc_eq p]
 |.i p,K=>by rw[Ps.frc,Ps.frc_eq p]
def hk(h:Ps->IC)(k:Nat):IC:=(Ps.of k).frc h
inductive Tr where
 |e
 |d (x:Option PD) (l r:Tr)
def Tr.get:Tr->Ps->Option PD
 |.e,_=>none
 |.d x _ _,.h=>x
 |.d _ l _,.o p=>l.get p
 |.d _ _ r,.i p=>r.get p
def Tr.put(y:PD):Ps->Tr->Tr
 |.h,.e=>.d (some y) .e .e
 |.o p,.e=>.d none (Tr.put y p .e) .e
 |.i p,.e=>.d none .e (Tr.put y p .e)
 |.h,.d _ l r=>.d (some y) l r
 |.o p,.d x l r=>.d x (Tr.put y p l) r
 |.i p,.d x l r=>.d x l (Tr.put y p r)
theorem Tr.get_put(y:PD):∀ (p:Ps) (t:Tr) (q:Ps) (z:PD),(Tr.put y p t).get q=some z->(q=p/\z=y)\/t.get q=some z:=by
 intro p
 induction p with
 |h=>intro t q z h;cases t<;>cases q<;>simp_all[Tr.put,Tr.get]
 |o p ih =>
  intro t q z h;cases t<;>cases q<;>simp only[Tr.put,Tr.get]at h ⊢ <;> first|exact .inr h|(cases h;done)|skip
  ·rcases ih _ _ _ h with ⟨rfl,rfl⟩|h
   ·exact .inl ⟨rfl,rfl⟩
   ·cases h
  grind
 |i p ih =>
  intro t q z h;cases t<;>cases q<;>simp only[Tr.put,Tr.get]at h ⊢ <;> first|exact .inr h|(cases h;done)|skip
  ·rcases ih _ _ _ h with ⟨rfl,rfl⟩|h
   ·exact .inl ⟨rfl,rfl⟩
   ·cases h
  grind
def B0p:List (Nat × PD)->Tr->Tr
 |[],t=>t
 |e :: l,t=>B0p l (Tr.put e.2 (Ps.of e.1) t)
theorem A1a:∀ (l:List (Nat × PD)) (t:Tr) (q:Ps) (z:PD),(B0p l t).get q=some z->(∃ k,q=Ps.of k/\(k,z)∈l)\/t.get q=some z
 |[],t,q,z,h=>.inr h
 |e :: l,t,q,z,h=>by
  rcases A1a l _ q z h with ⟨k,h1,h2⟩|h
  ·grind
  ·rcases Tr.get_put _ _ _ _ _ h with ⟨rfl,rfl⟩|h
   ·exact .inl ⟨e.1,rfl,A0D⟩
   grind
def pz(P:Program)(f:Nat)(p:Ps):IC:=match (P.funcs[f]?).bind (S6 P) with
 |some i=>(pre i.body).getD (p.n-1) .bad
 |none=>.bad
theorem A5v{P:Program}{f:Nat}{i:IFn}(h:G8 P f i):Num (hk (pz P f)) 0 i.body:=fun j x hx=>by
 rw[hk,Ps.frc_eq];unfold pz;unfold G8 at h;rw[h];simp only[A0O,List.getD_eq_getElem?_getD,Ps.of_n,A2F,hx,Option.getD_some]
inductive TD where
 |mk (n:Nat) (rs:List RV) (top:IC) (l:Tr)
 |no
def TD.l:TD->Tr
 |.mk _ _ _ l=>l
 |.no=>.e
def mkT(h:Ps->IC)(i:IFn):TD:=.mk i.n i.res (chC (hk h) 0 i.body) (B0p (flC (hk h) (slR i.res) i.body 0 (slR i.res) (fun _=>[])).2 .e)
structure XT (P:Program) (f:Nat) where
 d:(Ps->IC)->TD
 i:IFn
 hi:G8 P f i
 hd:∀ h,mkT h i=d h
class FT (P:Program) (f:Nat) (D:outParam ((Ps->IC)->TD)):Prop where
 of:∃ i,G8 P f i/\∀ h,mkT h i=D h
theorem XT.ft{P:Program}{f:Nat}(x:XT P f):FT P f x.d:=⟨⟨x.i,x.hi,x.hd⟩⟩
theorem u8n(n:Nat):UInt8.ofBitVec (BitVec.ofNat 8 n)=UInt8.ofNat n:=rfl
abbrev mkF{P:Program}{f:Nat}{i:IFn}{d:(Ps->IC)->TD}(hi:G8 P f i:=by unfold G8;conv=>lhs;reduce;simp only[seval,u8n])(hd:∀ h,mkT h i=d h:=by intro h;conv=>lhs;cbv):XT P f:=⟨d,i,hi,hd⟩
class LkI (t:Tr) (p:Ps) (x:outParam PD):Prop where
 get:t.get p=some x
instance lkTh {x:PD} {l r:Tr}:LkI (.d (some x) l r) .h x:=⟨rfl⟩
instance lkTo {x:PD} {y:Option PD} {l r:Tr} {p:Ps} [k:LkI l p x]:LkI (.d y l r) (.o p) x:=⟨k.get⟩
instance lkTi {x:PD} {y:Option PD} {l r:Tr} {p:Ps} [k:LkI r p x]:LkI (.d y l r) (.i p) x:=⟨k.get⟩
class WDp (P:Program) (N:Nat) (u:PD) (r:outParam Rl):Prop where
 out:∀ {Q:Exit->St->Prop} {T:Tm} {H:Hp} {c:Nat},r P N Q T H c->IW P N u.ic ⟨T,H,c⟩ Q
section
variable {P:Program} {N n i e:Nat} {x y z:IC} {r:List IOper} {p:List (Nat × Option (List Nat))} {L:List Nat} {o:Opd}
instance dS:WDp P N (.S r y L) (rS r y L):=⟨mkS⟩
instance dE:WDp P N (.E r L) (rE r L):=⟨mkE⟩
instance dP:WDp P N (.P r y e n L) (rP r y n L):=⟨mkP (d:=dQ r e) (H8 e r 0)⟩
instance dF:WDp P N (.F r e n L) (rPE r n L):=⟨B6k (d:=dQ r e) (H8 e r 0)⟩
instance dD:WDp P N (.D r y p n L) (rD r p y n L):=⟨mkD (d:=⟨r,[],p⟩)⟩
instance dG:WDp P N (.G r p n L) (rDE r p n L):=⟨B6l (d:=⟨r,[],p⟩)⟩
instance dC:WDp P N (.C x y z o L) (rC o x z y L):=⟨mkC⟩
instance dK:WDp P N (.K x z o L) (rCE o x z L):=⟨B6m⟩
instance dB:WDp P N (.B x y i L) (rB i x y L):=⟨mkB⟩
instance dJ:WDp P N (.J x i L) (rBE i x L):=⟨B6n⟩
instance dQQ:WDp P N (.Q x y L) (rQ x y L):=⟨mkQ⟩
end
class LkD (t:TD) (p:Ps) (x:outParam PD):Prop where
 get:t.l.get p=some x
instance lkTd {n:Nat} {rs:List RV} {top:IC} {x:PD} {l:Tr} {p:Ps} [k:LkI l p x]:LkD (.mk n rs top l) p x:=⟨k.get⟩
section
variable {P:Program} {f:Nat} {D:(Ps->IC)->TD} [F:FT P f D]
theorem wz{p:Ps}{x:PD}(e:(D (pz P f)).l.get p=some x):pz P f p=x.ic:=by
 obtain⟨i,hi,hd⟩:=F.of;rw[<- hd]at e;simp only[mkT,TD.l]at e;rcases A1a _ _ _ _ e with ⟨k,rfl,h⟩|h
 ·have:=B4j (slR i.res) i.body 0 (slR i.res) (fun _=>[]) (A5v hi) _ h;rw[hk,Ps.frc_eq]at this;exact this
 trivial
instance wZ {N:Nat} {p:Ps} {x:PD} {w:Rl} [g:LkD (D (pz P f)) p x] [k:WDp P N x w]:WR P N (pz P f p) w:=⟨fun h=>by rw[wz g.get];exact k.out h⟩
theorem FT.eqs{n:Nat}{rs:List RV}{top:IC}{l:Tr}(e:D (pz P f)=.mk n rs top l):G8 P f ⟨n,top,rs⟩:=by
 obtain⟨i,hi,hd⟩:=F.of;rw[<- hd]at e;simp only[mkT,P6 (A5v hi),TD.mk.injEq]at e;rw[<- e.1, <- e.2.1, <- e.2.2.1];omega
theorem PC.ofT(hm:P.follows .mixedOrders=true){n:Nat}{rs:List RV}{top:IC}{l:Tr}(e:D (pz P f)=.mk n rs top l){args:List DV}(hn:args.length<=n){r:DV}(na:DV.nlL args=true)(nr:r.nl=true)
  (h:IW P n top ⟨P9 args,nil,0⟩ (rt rs fun v H' _ => ∃ H2,GL H' [v] H2 [r])):PC P f args r :=
 PC.of hm (i:=⟨n,top,rs⟩) (FT.eqs e) hn na nr h
theorem PC.go(hm:P.follows .mixedOrders=true){n:Nat}{rs:List RV}{top:IC}{l:Tr}{args:List DV}{r:DV}(h:IW P n top ⟨P9 args,nil,0⟩ (rt rs fun v H' _ => ∃ H2,GL H' [v] H2 [r]))(e:D (pz P f)=.mk n rs top l:=by rfl)(hn:args.length<=n:=by exact A0E rfl)(na:DV.nlL args=true:=by first|(simp[DV.nlL,DV.nl];done)|rfl)(nr:r.nl=true:=by first|rfl|simp[DV.nlL,DV.nl]):PC P f args r:=PC.ofT hm e hn na nr h
theorem AC.bodyT(hm:P.follows .mixedOrders=true){n:Nat}{rs:List RV}{top:IC}{l:Tr}(e:D (pz P f)=.mk n rs top l){args:List DV}(hn:args.length<=n){H:Hp}{c:Nat}{Q:DV->Hp->Nat->Prop}
  (h:(∀ id,c<=id->H id=none)->IW P n top ⟨P9 args,H,c⟩ (rt rs fun v H' c' => ∃ v2 H2,GL H' [v] H2 [v2]/\Q v2 H2 c')):AC P f args H c Q :=
 AC.body hm (i:=⟨n,top,rs⟩) (FT.eqs e) hn h
end
open Go.Eng (Opd FOp AOp EOp IOp IOper DReg IC RV IFn G8 S6 isNew)
mutual
def B9:DV->DV->Bool
 |.bot,.bot=>true
 |.bool a,.bool b=>a == b
 |.int k n,.int l m=>k == l && n == m
 |.str a,.str b=>a == b
 |.pnil,.pnil=>true
 |.ptr a b,.ptr c d=>a == c && b == d
 |.snil,.snil=>true
 |.slc a b c,.slc x y z=>a == x && b == y && c == z
 |.lst a,.lst b=>sameL a b
 |.fptr a,.fptr b=>sameL a b
 |.agg a,.agg b=>sameL a b
 |.tup a,.tup b=>sameL a b
 |.mid a,.mid b=>a == b
 |.mnil,.mnil=>true
 |.func f a c,.func g b d=>f == g && sameL a b && sameL c d
 |_,_=>false
def sameL:List DV->List DV->Bool
 |[],[]=>true
 |a :: l,b :: m=>B9 a b && sameL l m
 |_,_=>false
end
mutual
theorem O7:∀ (a b:DV),B9 a b=true->a=b
 |.bot,b,h=>by cases b<;>simp[B9]at h ⊢
 |.bool _,b,h=>by cases b<;>simp_all[B9]
 |.int _ _,b,h=>by cases b<;>simp_all[B9]
 |.str _,b,h=>by cases b<;>simp_all[B9]
 |.pnil,b,h=>by cases b<;>simp[B9]at h ⊢
 |.ptr _ _,b,h=>by cases b<;>simp_all[B9]
 |.snil,b,h=>by cases b<;>simp[B9]at h ⊢
 |.slc _ _ _,b,h=>by cases b<;>simp_all[B9]
 |.lst a,b,h=>by cases b with
  |lst b=>simp only[B9]at h;rw[G1 a b h]
  |_=>simp[B9]at h
 |.fptr a,b,h=>by cases b with
  |fptr b=>simp only[B9]at h;rw[G1 a b h]
  |_=>simp[B9]at h
 |.fnil,b,h=>by cases b<;>simp[B9]at h
 |.func f a c,b,h=>by cases b with
  |func g b d=>simp only[B9,A0B,A2E]at h;rw[h.1.1,G1 a b h.1.2,G1 c d h.2]
  |_=>simp[B9]at h
 |.inil,b,h=>by cases b<;>simp[B9]at h
 |.iface _ _,b,h=>by cases b<;>simp[B9]at h
 |.agg a,b,h=>by cases b with
  |agg b=>simp only[B9]at h;rw[G1 a b h]
  |_=>simp[B9]at h
 |.tup a,b,h=>by cases b with
  |tup b=>simp only[B9]at h;rw[G1 a b h]
  |_=>simp[B9]at h
 |.mpc _ _ _,b,h=>by cases b<;>simp[B9]at h
 |.mid _,b,h=>by cases b<;>simp_all[B9]
 |.mp _ _ _,b,h=>by cases b<;>simp[B9]at h
 |.mnil,b,h=>by cases b<;>simp[B9]at h ⊢
 |.ub,b,h=>by cases b<;>simp[B9]at h
theorem G1:∀ (a b:List DV),sameL a b=true->a=b
 |[],[],_=>rfl
 |[],_ :: _,h=>by simp[sameL]at h
 |_ :: _,[],h=>by simp[sameL]at h
 |a :: l,b :: m,h=>by
  simp only[sameL,A0B]at h;rw[O7 a b h.1,G1 l m h.2]
end
def A0n:Option Blk->Option Blk->Bool
 |none,none=>true
 |some a,some b=>a.unit == b.unit && a.own == b.own && sameL a.cells b.cells
 |_,_=>false
theorem A5p:∀ (a b:Option Blk),A0n a b=true->a=b
 |none,none,_=>rfl
 |none,some _,h=>by simp[A0n]at h
 |some _,none,h=>by simp[A0n]at h
 |some ⟨a,b,c⟩,some ⟨x,y,z⟩,h=>by
  simp only[A0n,A0B,A2E]at h;rw[h.1.1,h.1.2,G1 c z h.2]
def fcN(n:Nat)(k:Nat->Bool):Bool:=match n with
 |0=>k 0
 |n+1=>k (n+1)
theorem L6(n:Nat)(k:Nat->Bool):fcN n k=k n:=by cases n<;>rfl
def fcI(z:Int)(k:Int->Bool):Bool:=match z with
 |.ofNat n=>fcN n fun n=>k (.ofNat n)
 |.negSucc n=>fcN n fun n=>k (.negSucc n)
theorem B1j(z:Int)(k:Int->Bool):fcI z k=k z:=by cases z<;>simp only[fcI,L6]<;>rfl
def fcV(v:DV)(k:DV->Bool):Bool:=match v with
 |.bool b=>match b with
  |true=>k (.bool true)
  |false=>k (.bool false)
 |.int t z=>fcI z fun z=>k (.int t z)
 |.ptr i o=>fcN i fun i=>fcN o fun o=>k (.ptr i o)
 |.slc i o n=>fcN i fun i=>fcN o fun o=>fcN n fun n=>k (.slc i o n)
 |v=>k v
theorem N7(v:DV)(k:DV->Bool):fcV v k=k v:=by
 cases v with
 |bool b=>cases b<;>rfl
 |int t z=>simp only[fcV,B1j]
 |ptr i o=>simp only[fcV,L6]
 |slc i o n=>simp only[fcV,L6]
 |_=>rfl
abbrev B5o:=Nat->List DV->Hp->Nat->(DV->Hp->Nat->Bool)->Bool
def agE(io:List IOper)(c0:Nat)(s:St)(j:Nat):Bool:=match io[j]? with
 |some o=>match K7 s (c0+j) o with
  |some (v,ob)=>(match o.dst with
   |some d=>B9 (s.T d) v
   |none=>true) && A0n (s.H (c0+j)) ob
  |none=>false
 |none=>false
section
variable {P:Program} {call:B5o} {F N:Nat} {a:List DV}
theorem B2a{io:List IOper}{c0:Nat}{s:St}{j:Nat}(h:agE io c0 s j=true):M1 io c0 s j:=by
 unfold agE at h;unfold M1;split at h
 ·rename_i o ho;split at h
  ·rename_i v ob hv;simp only[ho,hv];rw[A0B]at h;refine⟨fun d hd=>?_,A5p _ _ h.2⟩;have h1:=h.1;rw[hd]at h1;exact O7 _ _ h1
  ·cases h
 ·cases h
theorem A7e{io:List IOper}{c0:Nat}{s:St}:∀ {l:List Nat},l.all (fun j=>agE io c0 s j)=true->G6 io c0 s l
 |[],_=>trivial
 |j :: l,h=>by
  rw[List.all_cons,A0B]at h;exact⟨B2a h.1,A7e h.2⟩
theorem IW.seq{x y:IC}{s:St}{Q:Exit->St->Prop}(h:IW P N x s (R7 (fun s'=>IW P N y s' Q) Q)):IW P N (.seq x y) s Q:=by
 intro hm c hc;cases c<;>simp only[Go.Eng.trC]at hc<;>(try (cases hc;done))
 case seq a b =>
  split at hc
  ·rename_i x' y' hx hy;cases hc;refine .seq ((h hm a hx).mono fun e s' q=>?_);cases e with
   |normal=>exact q hm b hy
   |_=>exact q
  ·cases hc
 all_goals (repeat' (split at hc))<;>(try (cases hc;done))
 all_goals simp at hc
theorem IW.blk{id:Nat}{x:IC}{s:St}{Q:Exit->St->Prop}(h:IW P N x s (A3a id Q)):IW P N (.blk id x) s Q:=by
 intro hm c hc;cases c<;>simp only[Go.Eng.trC]at hc<;>(try (cases hc;done))
 case block i b =>
  simp only[A0G]at hc;obtain⟨x',hx,he⟩:=hc;cases he;exact .block (h hm b hx)
 all_goals (repeat' (split at hc))<;>(try (cases hc;done))
 all_goals simp at hc
def A1z(P:Program)(O:Nat->List DV->Option DV):Prop:=∀ f args r,O f args=some r->PC P f args r
end
def S2(u:Nat):Nat->List DV->List DV
 |0,_=>[]
 |n+1,cs=>(if u=1 then cs.headD .bot else .agg (cs.take u)) :: S2 u n (cs.drop u)
theorem A4y{x:DV}(h:x.one=true):x.cells=[x]:=by
 cases x<;>first|rfl|(simp[DV.one]at h)
theorem A1t{u:Nat}:∀ (n:Nat) (cs:List DV),cs.length=n * u->cs.all DV.one=true->0<u->(S2 u n cs).length=n/\(∀ x∈S2 u n cs,x.cells.length=u)/\A6 (S2 u n cs)=cs
 |0,cs,h,_,_=>by
  rw[Nat.zero_mul]at h;rw[List.length_eq_zero_iff.1 h];exact⟨rfl,fun x hx=>(by cases hx),rfl⟩
 |n+1,cs,h,ho,hu=>by
  have hl:u<=cs.length:=by rw[h,Nat.succ_mul];omega
  obtain⟨h1,h2,h3⟩:=A1t n (cs.drop u) (by rw[A2M,h,Nat.succ_mul];omega) (by
   rw[A0H]at ho ⊢;exact fun x hx=>ho x (A2N hx)) hu
  have hc:(if u=1 then cs.headD .bot else .agg (cs.take u)).cells=cs.take u:=by
   by_cases e:u=1
   ·rw[if_pos e];subst e;cases cs with
    |nil=>simp at hl
    |cons x cs =>
     have h1:x.one=true:=A0H.1 ho x A0D;rw[List.headD_cons,A4y h1];rfl
   ·rw[if_neg e];rfl
  refine⟨by rw[S2,A0I,h1],fun x hx=>?_,?_⟩
  ·rw[S2]at hx;rcases A0N.1 hx with rfl|hx
   ·rw[hc,A0T];omega
   ·exact h2 x hx
  ·rw[S2];show (if u=1 then cs.headD .bot else .agg (cs.take u)).cells++A6 _=cs;rw[hc,h3,List.take_append_drop]
mutual
def sbV(id:Nat)(b:Blk):DV->DV
 |.slc i o n=>if i == id then (if Nat.ble (o+n * b.unit) b.cells.length && Nat.ble 1 b.unit && ((b.cells.drop o).take (n * b.unit)).all DV.one then .lst (S2 b.unit n ((b.cells.drop o).take (n * b.unit))) else .bot) else .slc i o n
 |.ptr i o=>if i == id then (if Nat.ble o b.cells.length then .fptr (b.cells.drop o) else .bot) else .ptr i o
 |.agg l=>.agg (sbL id b l)
 |.tup l=>.tup (sbL id b l)
 |v=>v
def sbL(id:Nat)(b:Blk):List DV->List DV
 |[]=>[]
 |v :: l=>sbV id b v :: sbL id b l
end
mutual
theorem A9w(id:Nat)(b:Blk):∀ v,Fz id b v (sbV id b v)
 |.slc i o n=>by
  unfold sbV;split
  ·rename_i e;obtain rfl:=eq_of_beq e;split
   ·rename_i h;simp only[A0B]at h;have h1:=A0E h.1.1;have h2:=A0E h.1.2;obtain⟨c1,c2,c3⟩:=A1t n ((b.cells.drop o).take (n * b.unit)) (by rw[A0T,A2M];omega) h.2 h2;exact .slc _ _ b.unit _ c1 c2 h1 c3
   ·exact .bot _
  ·exact .same _
 |.ptr i o=>by
  unfold sbV;split
  ·rename_i e;obtain rfl:=eq_of_beq e;split
   ·rename_i h;exact .ptr _ _ (A0E h) rfl
   ·exact .bot _
  ·exact .same _
 |.agg l=>by unfold sbV;exact .agg _ _ (T7 id b l)
 |.tup l=>by unfold sbV;exact .tup _ _ (T7 id b l)
 |.bot |.bool _ |.int _ _ |.str _ |.pnil |.snil |.lst _ |.fptr _ |.fnil |.func _ _ _ |.inil |.iface _ _ |.mpc _ _ _ |.mid _ |.mp _ _ _ |.mnil |.ub=>.same _
theorem T7(id:Nat)(b:Blk):∀ l,FzL id b l (sbL id b l)
 |[]=>.nil
 |v :: l=>.cons _ _ _ _ (A9w id b v) (T7 id b l)
end
def sbB(id:Nat)(b:Blk):Option Blk->Option Blk
 |some c=>if (sbL id b c.cells).all DV.one then some ⟨c.unit,c.own,sbL id b c.cells⟩ else none
 |none=>none
def sbH(id:Nat)(b:Blk)(H:Hp):Hp:=fun j=>if j == id then none else sbB id b (H j)
def fzS(q:Hp × List DV)(id:Nat):Hp × List DV:=match q.1 id with
 |some b=>if b.own then (sbH id b q.1,sbL id b q.2) else q
 |none=>q
theorem B1h(q:Hp × List DV)(id:Nat):GL q.1 q.2 (fzS q id).1 (fzS q id).2:=by
 unfold fzS;split
 ·rename_i b hb;split
  ·rename_i ho;refine GL.frz hb ho (fun j=>?_) (T7 id b q.2);show sbH id b q.1 j=none\/_;unfold sbH;by_cases e:j=id
   ·exact .inl (by rw[if_pos (by simpa using e)])
   ·rw[if_neg (by simpa using e)];cases hj:q.1 j with
    |none=>exact .inl rfl
    |some c =>
     by_cases h1:(sbL id b c.cells).all DV.one=true
     ·refine .inr ⟨e,.inr ⟨c,⟨c.unit,c.own,sbL id b c.cells⟩,rfl,?_,rfl,rfl,T7 id b _,A0H.1 h1⟩⟩;show sbH id b q.1 j=_;unfold sbH;rw[if_neg (by simpa using e),hj];simp only[sbB,h1,if_true]
     ·exact .inl (by simp only[sbB,if_neg h1])
  ·exact GL.refl _ _
 ·exact GL.refl _ _
theorem A6p:∀ (L:List Nat) (q:Hp × List DV),GL q.1 q.2 (L.foldl fzS q).1 (L.foldl fzS q).2
 |[],q=>GL.refl _ _
 |i :: L,q=>(B1h q i).trans (A6p L (fzS q i))
mutual
def leV:DV->DV->Bool
 |.snil,.lst l=>l.isEmpty
 |.agg a,.agg b=>leL a b
 |.tup a,.tup b=>leL a b
 |a,b=>B9 a b
def leL:List DV->List DV->Bool
 |[],[]=>true
 |a :: l,b :: m=>leV a b && leL l m
 |_,_=>false
end
theorem K5:∀ (a b:List DV),leL a b=true->a.length=b.length
 |[],[],_=>rfl
 |[],_ :: _,h=>by simp[leL]at h
 |_ :: _,[],h=>by simp[leL]at h
 |a :: l,b :: m,h=>by
  simp only[leL,A0B]at h;rw[A0I,A0I,K5 l m h.2]
theorem Z5{a b:DV}(h:leV a b=true):(a=.snil/\b=.lst [])\/(∃ l m,a=.agg l/\b=.agg m/\leL l m=true)\/(∃ l m,a=.tup l/\b=.tup m/\leL l m=true)\/a=b:=by
 unfold leV at h;split at h
 ·rename_i l;cases l with
  |nil=>exact .inl ⟨rfl,rfl⟩
  |cons x l=>cases h
 ·exact .inr (.inl ⟨_,_,rfl,rfl,h⟩)
 ·exact .inr (.inr (.inl ⟨_,_,rfl,rfl,h⟩))
 ·exact .inr (.inr (.inr (O7 _ _ h)))
mutual
theorem B0r{ρ : Ren}:∀ (a b:DV) (v:Value),leV a b=true->VRel ρ a v->VRel ρ b v
 |.agg l,b,v,h,hv=>by
  rcases Z5 h with ⟨e, -⟩|⟨l',m,e,rfl,hl⟩|⟨l',m,e, -⟩|rfl
  ·cases e
  ·cases e;obtain⟨vs,rfl,hA⟩:=hv.agg_inv;exact .mkAgg ⟨by rw[<- K5 l m hl];exact hA.1,fun i x y hx hy=>by
    have hi:i<l.length:=by rw[K5 l m hl];exact (A0M.1 hx).1
    exact Z6 l m i y _ x hl (A0F hi) hx (hA.2 i _ y (A0F hi) hy)⟩
  ·cases e
  ·exact hv
 |.tup l,b,v,h,hv=>by
  rcases Z5 h with ⟨e, -⟩|⟨l',m,e, -⟩|⟨l',m,e,rfl,hl⟩|rfl
  ·cases e
  ·cases e
  ·cases e;obtain⟨vs,rfl,hA⟩:=hv.tup_inv;exact .mkTup ⟨by rw[<- K5 l m hl];exact hA.1,fun i x y hx hy=>by
    have hi:i<l.length:=by rw[K5 l m hl];exact (A0M.1 hx).1
    exact Z6 l m i y _ x hl (A0F hi) hx (hA.2 i _ y (A0F hi) hy)⟩
  ·exact hv
 |.snil,b,v,h,hv=>by
  rcases Z5 h with ⟨-,rfl⟩|⟨l,m,e, -⟩|⟨l,m,e, -⟩|rfl
  ·exact hv.snil_lst
  ·cases e
  ·cases e
  ·exact hv
 |.bot,b,v,h,hv |.bool _,b,v,h,hv |.int _ _,b,v,h,hv |.str _,b,v,h,hv |.pnil,b,v,h,hv |.ptr _ _,b,v,h,hv |.slc _ _ _,b,v,h,hv |.lst _,b,v,h,hv |.fptr _,b,v,h,hv |.fnil,b,v,h,hv
 |.func _ _ _,b,v,h,hv |.inil,b,v,h,hv |.iface _ _,b,v,h,hv |.mpc _ _ _,b,v,h,hv |.mid _,b,v,h,hv |.mp _ _ _,b,v,h,hv |.mnil,b,v,h,hv |.ub,b,v,h,hv=>by
  rcases Z5 h with ⟨e, -⟩|⟨l,m,e, -⟩|⟨l,m,e, -⟩|rfl
  ·cases e
  ·cases e
  ·cases e
  ·exact hv
theorem Z6{ρ : Ren}:∀ (a b:List DV) (i:Nat) (v:Value) (x y:DV),leL a b=true->a[i]? = some x->b[i]? = some y->VRel ρ x v->VRel ρ y v
 |[],_,_,_,_,_,_,h,_,_=>by cases h
 |_ :: _,[],_,_,_,_,_,_,h,_=>by cases h
 |a :: l,b :: m,0,v,x,y,h,hx,hy,hv=>by
  simp only[leL,A0B]at h;cases hx;cases hy;exact B0r a b v h.1 hv
 |a :: l,b :: m,i+1,v,x,y,h,hx,hy,hv=>by
  simp only[leL,A0B]at h;exact Z6 l m i v x y h.2 hx hy hv
end
theorem A6e{H:Hp}{a b:List DV}(h:leL a b=true):GL H a H b:=GL.view fun ρ vs hA =>
 ⟨by rw[<- K5 a b h];exact hA.1,fun i x y hx hy=>by
  have hi:i<a.length:=by rw[K5 a b h];exact (A0M.1 hx).1
  exact Z6 a b i y _ x h (A0F hi) hx (hA.2 i _ y (A0F hi) hy)⟩
section
variable {P:Program}
def J6(L:List (Nat × List DV × DV))(O:Nat->List DV->Option DV)(f:Nat)(a:List DV):Option DV:=match L with
 |[]=>O f a
 |x :: L=>if f == x.1 && (leL a x.2.1 && DV.nlL a) then some x.2.2 else J6 L O f a
theorem A1d{O:Nat->List DV->Option DV}(hO:A1z P O):∀ (L:List (Nat × List DV × DV)),(∀ x∈L,PC P x.1 x.2.1 x.2.2)->A1z P (J6 L O)
 |[],_=>hO
 |x :: L,h=>fun f a r hr=>by
  unfold J6 at hr;split at hr
  ·rename_i e;simp only[A0B]at e;cases hr;have hx:=h x A0D;rw[eq_of_beq e.1];exact⟨e.2.2,hx.nr,AC.ghost (A6e e.2.1) hx.ac⟩
  ·exact A1d hO L (fun y hy=>h y (A0A _ hy)) f a r hr
end
inductive TT (α : Type) where
 |e
 |v (x : α)
 |n (l r:TT α)
def TT.get{α : Type}(d : α)(t:TT α):Nat -> α :=
 TT.rec (motive:=fun _=>Nat -> α) (fun _=>d) (fun x p=>Bool.rec d x (Nat.beq p 0)) (fun _ _ a b p=>Bool.rec (b (Nat.div p 2)) (a (Nat.div p 2)) (Nat.beq (Nat.mod p 2) 0)) t
def TT.put{α : Type}(x : α)(t:TT α):Nat->(TT α -> Bool)->Bool :=
 TT.rec (motive:=fun _=>Nat->(TT α -> Bool)->Bool) (fun p k=>Bool.rec false (k (.v x)) (Nat.beq p 0)) (fun _ p k=>Bool.rec false (k (.v x)) (Nat.beq p 0))
  (fun l r a b p k=>Bool.rec (b (Nat.div p 2) fun r'=>k (.n l r')) (a (Nat.div p 2) fun l'=>k (.n l' r)) (Nat.beq (Nat.mod p 2) 0)) t
theorem A1i{α : Type}(d : α)(l r:TT α)(p:Nat):(TT.n l r).get d p=if p % 2=0 then l.get d (p / 2) else r.get d (p / 2):=by
 show Bool.rec (motive:=fun _ => α) (r.get d (Nat.div p 2)) (l.get d (Nat.div p 2)) (Nat.beq (Nat.mod p 2) 0)=_;cases h:Nat.beq (Nat.mod p 2) 0 with
 |true=>rw[if_pos (show p % 2=0 from A0V h)];rfl
 |false=>rw[if_neg (show ¬ p % 2=0 from Nat.ne_of_beq_eq_false h)];rfl
theorem A6n{α : Type}(d x : α)(p:Nat):(TT.v x).get d p=if p=0 then x else d:=by
 show Bool.rec (motive:=fun _ => α) d x (Nat.beq p 0)=_;cases h:Nat.beq p 0 with
 |true=>rw[if_pos (A0V h)]
 |false=>rw[if_neg (Nat.ne_of_beq_eq_false h)]
theorem bfT{b:Bool}{x:Bool}(h:Bool.rec (motive:=fun _=>Bool) false x b=true):b=true/\x=true:=by
 cases b with
 |true=>exact⟨rfl,h⟩
 |false=>cases h
def N1{α : Type}:Nat->TT α
 |0=>.e
 |d+1=>.n (N1 d) (N1 d)
theorem P1{α : Type}(d : α):∀ (n p:Nat),(N1 n).get d p=d
 |0,p=>rfl
 |n+1,p=>by
  unfold N1;rw[A1i,P1 d n];split<;>rfl
theorem A1v{p q:Nat}{b:Bool}(h:Nat.beq p q=b):b=true↔p=q:=by
 subst h;exact⟨A0V,fun e=>by subst e;exact Nat.beq_refl p⟩
theorem TT.put_ok{α : Type}(x : α):∀ (t:TT α) (p:Nat) (k:TT α -> Bool),t.put x p k=true->∃ t',k t'=true/\∀ d j,t'.get d j=if j=p then x else t.get d j
 |.e,p,k,h=>by
  obtain⟨hb,h⟩:=bfT h;obtain rfl:=A0V hb;exact⟨_,h,fun d j=>by rw[A6n];rfl⟩
 |.v y,p,k,h=>by
  obtain⟨hb,h⟩:=bfT h;obtain rfl:=A0V hb;exact⟨_,h,fun d j=>by rw[A6n,A6n];split<;>rfl⟩
 |.n l r,p,k,h=>by
  change Bool.rec (motive:=fun _=>Bool) (r.put x (Nat.div p 2) fun r'=>k (.n l r')) (l.put x (Nat.div p 2) fun l'=>k (.n l' r)) (Nat.beq (Nat.mod p 2) 0)=true at h
  cases hb:Nat.beq (Nat.mod p 2) 0 with
  |true =>
   have hp:p % 2=0:=A0V hb;rw[hb]at h;obtain⟨t',h1,h2⟩:=TT.put_ok x l _ _ h;refine⟨_,h1,fun d j=>?_⟩;rw[A1i,A1i,h2];by_cases e:j=p
   ·subst e;rw[if_pos hp,if_pos rfl];exact if_pos rfl
   ·rw[if_neg e];by_cases hj:j % 2=0
    ·rw[if_pos hj,if_pos hj,if_neg (show ¬ j / 2=p.div 2 from fun q=>e (by have:p.div 2=p / 2:=rfl;omega))]
    ·rw[if_neg hj,if_neg hj]
  |false =>
   have hp:¬ p % 2=0:=Nat.ne_of_beq_eq_false hb;rw[hb]at h;obtain⟨t',h1,h2⟩:=TT.put_ok x r _ _ h;refine⟨_,h1,fun d j=>?_⟩;rw[A1i,A1i,h2];by_cases e:j=p
   ·subst e;rw[if_neg hp,if_pos rfl];exact if_pos rfl
   ·rw[if_neg e];by_cases hj:j % 2=0
    ·rw[if_pos hj,if_pos hj]
    ·rw[if_neg hj,if_neg hj,if_neg (show ¬ j / 2=p.div 2 from fun q=>e (by have:p.div 2=p / 2:=rfl;omega))]
def fcL(l:List DV):(List DV->Bool)->Bool :=
 List.rec (motive:=fun _=>(List DV->Bool)->Bool) (fun k=>k []) (fun v _ a k=>fcV v fun v=>a fun l=>k (v :: l)) l
theorem A0e:∀ (l:List DV) (k:List DV->Bool),fcL l k=k l
 |[],k=>rfl
 |v :: l,k=>by
  show (fcV v fun v=>fcL l fun l=>k (v :: l))=_;rw[N7];exact A0e l _
def fcO(b:Option Blk)(k:Option Blk->Bool):Bool:=match b with
 |none=>k none
 |some ⟨u,o,cs⟩=>fcN u fun u=>match o with
  |true=>fcL cs fun cs=>k (some ⟨u,true,cs⟩)
  |false=>fcL cs fun cs=>k (some ⟨u,false,cs⟩)
theorem B1i(b:Option Blk)(k:Option Blk->Bool):fcO b k=k b:=by
 unfold fcO;split
 ·rfl
 ·rw[L6];split<;>rw[A0e]
abbrev TH:=TT (Option Blk)
abbrev C3(h:TH):Hp:=h.get none
abbrev TL:=TT DV
abbrev J1(a:List DV)(t:TL):Tm:=fun j=>t.get (P9 a j) j
def syn(G:Hp)(l:List Nat):TH->(TH->Bool)->Bool :=
 List.rec (motive:=fun _=>TH->(TH->Bool)->Bool) (fun h k=>k h) (fun i _ a h k=>fcN i fun i=>fcO (G i) fun b=>h.put b i fun h=>a h k) l
theorem Q4(G:Hp):∀ (l:List Nat) (h:TH) (k:TH->Bool),syn G l h k=true->∃ h',k h'=true/\∀ j,C3 h' j=if j∈l then G j else C3 h j
 |[],h,k,e=>⟨h,e,fun j=>by rw[if_neg (by simp)]⟩
 |i :: r,h,k,e=>by
  change (fcN i fun i=>fcO (G i) fun b=>h.put b i fun h=>syn G r h k)=true at e
  rw[L6,B1i]at e;obtain⟨h1,e1,g1⟩:=TT.put_ok _ _ _ _ e;obtain⟨h2,e2,g2⟩:=Q4 G r h1 k e1;refine⟨h2,e2,fun j=>?_⟩;rw[g2];by_cases hj:j∈r
  ·rw[if_pos hj,if_pos (A0A _ hj)]
  ·rw[if_neg hj];show h1.get none j=_;rw[g1];by_cases hi:j=i
   ·subst hi;rw[if_pos rfl,if_pos A0D]
   ·rw[if_neg hi,if_neg (by simp[hi,hj])]
def A0h(d:Option Nat)(v:DV)(l:TL)(k:TL->Bool):Bool:=match d with
 |some d=>l.put v d k
 |none=>k l
theorem O5{a:List DV}{d:Option Nat}{v:DV}{l:TL}{k:TL->Bool}(h:A0h d v l k=true):∃ l',k l'=true/\J1 a l'=A9 (J1 a l) d v:=by
 cases d with
 |none=>exact⟨l,h,rfl⟩
 |some d =>
  obtain⟨l',h1,h2⟩:=TT.put_ok _ _ _ _ h;exact⟨l',h1,funext fun j=>h2 _ j⟩
def idO:DV->List Nat
 |.ptr i _=>[i]
 |.slc i _ _=>[i]
 |.mid i=>[i]
 |_=>[]
def tch(c:Nat)(e:Opd->DV):EOp->List Nat
 |.st _ x _=>idO (e x)
 |.app _ _ s _=>c :: idO (e s)
 |.apps s _=>c :: idO (e s)
 |.mkm _=>[c]
 |.mup _ m _ _=>idO (e m)
 |.cvsb _=>[c]
 |.cpy _ d _=>idO (e d)
 |.cpys d _=>idO (e d)
 |.appz .. => [c]
 |.lkp .. => []
 |.cap0 _=>[]
theorem J9{H:Hp}{i j:Nat}{b:Blk}(h:j≠i):(H.upd i b) j=H j:=if_neg h
theorem B1u{H:Hp}{i j:Nat}(h:j≠i):(H.del i) j=H j:=if_neg h
theorem Y5{H:Hp}{c sz bytes:Nat}{s:DV}{m:Nat}{src:List DV}{v:DV}{H':Hp}{c':Nat}(h:Q0 H c sz bytes s m src=some (v,H',c')){j:Nat}(hj:j ∉ c :: idO s):H' j=H j:=by
 unfold Q0 at h;split at h
 ·split at h
  ·cases h;rfl
  ·split at h
   ·cases h;exact J9 (by intro e;apply hj;simp[e])
   ·cases h
 ·split at h
  ·split at h
   ·cases h;rw[J9 (by intro e;apply hj;simp[e]),B1u (by intro e;apply hj;simp[idO,e])]
   ·cases h
  ·cases h
 ·cases h
theorem A1s{H:Hp}{c sz:Nat}{d:DV}{x:Option (Nat × List DV)}{v:DV}{H':Hp}{c':Nat}(h:cpR H c sz d x=some (v,H',c')){j:Nat}(hj:j ∉ idO d):H' j=H j:=by
 unfold cpR at h;split at h
 ·split at h
  ·unfold cpB at h;split at h
   ·split at h
    ·cases h;exact J9 (by intro e;apply hj;simp[idO,e])
    ·cases h
   ·cases h
  ·cases h
 ·cases h
theorem A6w{H:Hp}{c:Nat}{e:Opd->DV}:∀ {f:EOp} {v:DV} {H':Hp} {c':Nat},eev H c e f=some (v,H',c')->∀ {j:Nat},j ∉ tch c e f->H' j=H j
 |.st n x w,v,H',c',h,j,hj=>by
  simp only[eev,stR]at h;split at h
  ·rename_i hx;split at h
   ·split at h
    ·cases h;exact J9 (by intro q;apply hj;simp[tch,hx,idO,q])
    ·cases h
   ·cases h
  ·cases h
 |.app sz bytes s x,v,H',c',h,j,hj=>by
  simp only[eev,apX]at h;split at h
  ·exact Y5 h hj
  ·cases h
 |.apps s x,v,H',c',h,j,hj=>by
  simp only[eev,B1y]at h;split at h
  ·exact Y5 h hj
  ·cases h
 |.mkm kd,v,H',c',h,j,hj=>by
  simp only[eev]at h;cases h;exact J9 (by intro q;apply hj;simp[tch,q])
 |.mup kd m k w,v,H',c',h,j,hj=>by
  simp only[eev,muR]at h;split at h
  ·rename_i hx;have hi:∀ i,DV.mid i=e m->j≠i:=fun i hi q=>hj (by simp[tch, <- hi,idO,q]);unfold muB at h;split at h
   ·split at h
    ·unfold muV at h;split at h
     ·cases h;exact J9 (hi _ hx.symm)
     ·cases h;exact J9 (hi _ hx.symm)
    ·cases h
   ·cases h
  ·cases h
 |.lkp kd z ok m k,v,H',c',h,j,hj=>by
  simp only[eev,lkE]at h;split at h
  ·cases h;rfl
  ·cases h
 |.cvsb x,v,H',c',h,j,hj=>by
  simp only[eev,cvR]at h;split at h
  ·split at h
   ·cases h;exact J9 (by intro q;apply hj;simp[tch,q])
   ·cases h
  ·cases h
 |.cpy sz d s,v,H',c',h,j,hj=>by
  simp only[eev]at h;exact A1s h hj
 |.cpys d s,v,H',c',h,j,hj=>by
  simp only[eev,B1w]at h;split at h
  ·exact A1s h hj
  ·cases h
 |.cap0 x,v,H',c',h,j,hj=>by
  simp only[eev,caR]at h;split at h
  ·cases h;rfl
  ·cases h
 |.appz sz bytes zero s x,v,H',c',h,j,hj=>by
  simp only[eev,azR]at h;split at h
  ·split at h
   ·cases h;exact J9 (by intro q;apply hj;simp[tch,q])
   ·cases h
  ·cases h
abbrev S5:=Nat->List DV->TH->Nat->(DV->TH->Nat->Bool)->Bool
def A9u(v:DV)(cs:List DV):Nat->(List DV->Bool)->Bool :=
 List.rec (motive:=fun _=>Nat->(List DV->Bool)->Bool) (fun _ _=>false) (fun x r a o k=>Bool.rec (a (Nat.sub o 1) fun l=>k (x :: l)) (k (v :: r)) (Nat.beq o 0)) cs
theorem A3i(v:DV):∀ (cs:List DV) (o:Nat) (k:List DV->Bool),A9u v cs o k=true->o<cs.length/\k (cs.take o++[v]++cs.drop (o+1))=true
 |[],_,_,h=>by cases h
 |x :: r,o,k,h=>by
  change Bool.rec (motive:=fun _=>Bool) (A9u v r (Nat.sub o 1) fun l=>k (x :: l)) (k (v :: r)) (Nat.beq o 0)=true at h
  cases hb:Nat.beq o 0 with
  |true =>
   rw[hb]at h;obtain rfl:=A0V hb;exact⟨Nat.zero_lt_succ _,h⟩
  |false =>
   rw[hb]at h;cases o with
   |zero=>cases hb
   |succ o =>
    obtain⟨h1,h2⟩:=A3i v r o _ h;exact⟨Nat.succ_lt_succ h1,h2⟩
def stF(x w:DV)(h:TH)(c:Nat)(k:DV->TH->Nat->Bool):Bool:=match x with
 |.ptr id off=>Option.rec false (fun b=>Blk.rec (fun u o cs=>Bool.rec false (A9u w cs off fun cs'=>h.put (some ⟨u,true,cs'⟩) id fun h'=>k (.tup []) h' c) o) b) (C3 h id)
 |_=>false
def A8g(T:Tm)(h:TH)(c:Nat)(k:DV->TH->Nat->Bool)(f:EOp):Bool:=match eev (C3 h) c (ev T) f with
 |some (v,H',c')=>fcV v fun v=>fcN c' fun c'=>syn H' (tch c (ev T) f) h fun h'=>k v h' c'
 |none=>false
def B1r(T:Tm)(h:TH)(c:Nat)(k:DV->TH->Nat->Bool)(f:EOp):Bool:=match f with
 |.st n x w=>Bool.rec (A8g T h c k (.st n x w)) (stF (ev T x) (ev T w) h c k) (Nat.beq n 1 && DV.one (ev T w))
 |f=>A8g T h c k f
def A0v(call:S5)(T:Tm)(h:TH)(c:Nat)(k:DV->TH->Nat->Bool):IOp->Bool
 |.pur f=>match fev (C3 h) (ev T) f with
  |some v=>fcV v fun v=>k v h c
  |none=>false
 |.new f=>match aev (ev T) f with
  |some (m,b)=>fcN (c+1) fun c'=>syn (fun _=>some b) [c] h fun h'=>fcV (mkv c m) fun v=>k v h' c'
  |none=>false
 |.eff f=>B1r T h c k f
 |.call f args=>fcL (args.map (ev T)) fun al=>call f al h c k
 |.callv x args=>match ev T x with
  |.func f a c'=>fcL (a++args.map (ev T)++c') fun al=>call f al h c k
  |_=>false
abbrev KnT:=TL->TH->Nat->Bool
def A8c(call:S5)(a:List DV)(k:KnT)(os:List IOper):TL->TH->Nat->Bool :=
 List.rec (motive:=fun _=>TL->TH->Nat->Bool) k (fun o _ r l h c=>Option.rec false (fun b=>Bool.rec (A0h o.dst (.tup []) l fun l'=>r l' h c)
  (A0v call (J1 a l) h c (fun v h' c'=>A0h o.dst v l fun l'=>r l' h' c') o.op) b) (E1 (J1 a l) o.guard)) os
def B1t(call:S5)(T:Tm)(h:TH)(c:Nat)(o:IOper)(k:DV->TH->Nat->Bool):Bool :=
 match E1 T o.guard with
 |some true=>A0v call T h c k o.op
 |some false=>k (.tup []) h c
 |none=>false
def A2s(call:S5)(a:List DV)(k:KnT)(io:List IOper)(c0:Nat):List (Nat × Option (List Nat))->TL->TH->Nat->Bool
 |[],l,h,c=>k l h c
 |(i,none) :: r,l,h,c=>match io[i]? with
  |some o=>match K7 ⟨J1 a l,C3 h,c⟩ (c0+i) o with
   |some (v,none)=>fcV v fun v=>A0h o.dst v l fun l'=>A2s call a k io c0 r l' h c
   |some (v,some b)=>fcV v fun v=>A0h o.dst v l fun l'=>syn (fun _=>some b) [c0+i] h fun h'=>A2s call a k io c0 r l' h' c
   |none=>false
  |none=>false
 |(i,some pend) :: r,l,h,c=>match io[i]? with
  |some o=>syn (fun _=>none) ((pend.filter (isNew io)).map (c0 + ·)) h fun hh=>B1t call (J1 a l) hh c o fun v h' c'=>A0h o.dst v l fun l' =>
    syn (C3 h) ((pend.filter (isNew io)).map (c0 + ·)) h' fun h2 =>
    (pend.all fun j=>agE io c0 ⟨J1 a l',C3 h2,c'⟩ j) &&
    A2s call a k io c0 r l' h2 c'
  |none=>false
abbrev KeT:=Exit->TL->TH->Nat->Bool
def lpT(body:TL->TH->Nat->KeT->Bool)(k:KeT):Nat->TL->TH->Nat->Bool
 |0,_,_,_=>false
 |n+1,l,h,c=>body l h c fun e l' h' c'=>match e with
  |.normal=>lpT body k n l' h' c'
  |e=>k e l' h' c'
def R1(call:S5)(F:Nat)(a:List DV):IC->TL->TH->Nat->KeT->Bool
 |.skip,l,h,c,k=>k .normal l h c
 |.reg ops,l,h,c,k=>A8c call a (k .normal) ops l h c
 |.drw n d,l,h,c,k=>fcN (c+n) fun c'=>A2s call a (k .normal) d.ops c d.plan l h c'
 |.seq x y,l,h,c,k=>R1 call F a x l h c fun e l' h' c'=>match e with
  |.normal=>R1 call F a y l' h' c' k
  |e=>k e l' h' c'
 |.cond o x y,l,h,c,k=>match ev (J1 a l) o with
  |.bool b=>match b with
   |true=>R1 call F a x l h c k
   |false=>R1 call F a y l h c k
  |_=>false
 |.blk id x,l,h,c,k=>R1 call F a x l h c fun e l' h' c'=>match e with
  |.exit i=>match Nat.beq i id with
   |true=>k .normal l' h' c'
   |false=>k (.exit i) l' h' c'
  |e=>k e l' h' c'
 |.loop x,l,h,c,k=>lpT (R1 call F a x) k F l h c
 |.exit id,l,h,c,k=>k (.exit id) l h c
 |.ret,l,h,c,k=>k .ret l h c
 |.bad,_,_,_,_=>false
 |.rg _,_,_,_,_=>false
def clT(P:Program)(F:Nat)(O:Nat->List DV->Option DV):Nat->S5
 |0,_,_,_,_,_=>false
 |n+1,f,args,h,c,k=>match O f args with
  |some r=>k r h c
  |none=>match (P.funcs[f]?).bind (S6 P) with
   |some i=>Nat.ble args.length i.n && R1 (clT P F O n) F args i.body (N1 (Nat.log2 i.n+1)) h c fun e l h' c'=>match e with
    |.normal=>(match A5q ⟨J1 args l,C3 h',c'⟩ i.res with
     |some v=>fcV v fun v=>k v h' c'
     |none=>false)
    |.ret=>(match A5q ⟨J1 args l,C3 h',c'⟩ i.res with
     |some v=>fcV v fun v=>k v h' c'
     |none=>false)
    |_=>false
   |none=>false
section
variable {P:Program} {call:S5} {F N:Nat} {a:List DV}
def M7(P:Program)(call:S5):Prop:=∀ f args h c k,call f args h c k=true->AC P f args (C3 h) c fun v H' c' => ∃ h',H'=C3 h'/\k v h' c'=true
theorem A3u{T:Tm}{h:TH}{c:Nat}{k:DV->TH->Nat->Bool}{K:DV->Hp->Nat->Prop}(hk:∀ v h c,k v h c=true->K v (C3 h) c){f:EOp}(e:A8g T h c k f=true):D3 P ⟨T,C3 h,c⟩ K (.eff f):=by
 unfold A8g at e;simp only[D3];split at e
 ·rename_i v H' c' hv;rw[N7,L6]at e;simp only[hv];obtain⟨h',e1,g⟩:=Q4 _ _ _ _ e;have:=hk _ _ _ e1;rw[show C3 h'=H' from funext fun j=>by
   rw[g];by_cases q:j∈tch c (ev T) f
   ·rw[if_pos q]
   ·rw[if_neg q];exact (A6w hv q).symm]at this
  exact this
 ·cases e
theorem A4d{x:DV}(h:x.one=true):x.cells=[x]:=by
 cases x<;>first|rfl|(simp[DV.one]at h)
theorem A8h{T:Tm}{h:TH}{c:Nat}{k:DV->TH->Nat->Bool}{K:DV->Hp->Nat->Prop}(hk:∀ v h c,k v h c=true->K v (C3 h) c){f:EOp}(e:B1r T h c k f=true):D3 P ⟨T,C3 h,c⟩ K (.eff f):=by
 unfold B1r at e;split at e
 ·rename_i n x w;cases hb:(Nat.beq n 1 && DV.one (ev T w)) with
  |false=>rw[hb]at e;exact A3u hk e
  |true =>
   rw[hb]at e;rw[A0B]at hb;obtain rfl:=A0V hb.1
   change stF (ev T x) (ev T w) h c k=true at e
   unfold stF at e;split at e
   ·rename_i id off hx;cases hg:C3 h id with
    |none=>rw[hg]at e;cases e
    |some b =>
     rw[hg]at e;obtain⟨u,o,cs⟩:=b;cases o with
     |false=>cases e
     |true =>
      obtain⟨h1,h2⟩:=A3i _ _ _ _ e;obtain⟨h',h3,g⟩:=TT.put_ok _ _ _ _ h2;have hc:=A4d hb.2;have he:eev (C3 h) c (ev T) (.st 1 x w)=some (.tup [],(C3 h).upd id ⟨u,true,cs.take off++[ev T w]++cs.drop (off+1)⟩,c):=by
       simp only[eev,stR,hx,hg,hc];rw[if_pos ⟨trivial,rfl,h1,by simp[hb.2]⟩]
      simp only[D3,he];have:=hk _ _ _ h3;rw[show C3 h'=(C3 h).upd id ⟨u,true,cs.take off++[ev T w]++cs.drop (off+1)⟩ from funext fun j=>g none j]at this;exact this
   ·cases e
 ·exact A3u hk e
theorem A3l(hc:M7 P call){T:Tm}{h:TH}{c:Nat}{k:DV->TH->Nat->Bool}{K:DV->Hp->Nat->Prop}(hk:∀ v h c,k v h c=true->K v (C3 h) c):∀ {i:IOp},A0v call T h c k i=true->D3 P ⟨T,C3 h,c⟩ K i
 |.pur f,e=>by
  simp only[A0v]at e;simp only[D3];split at e
  ·rename_i v hv;rw[N7]at e;simp only[hv];exact hk _ _ _ e
  ·cases e
 |.new f,e=>by
  simp only[A0v]at e;simp only[D3];split at e
  ·rename_i m b hv;rw[L6]at e;simp only[hv];obtain⟨h',e1,g⟩:=Q4 _ _ _ _ e;rw[N7]at e1;have:=hk _ _ _ e1;rw[show C3 h'=(C3 h).upd c b from funext fun j=>by rw[g];by_cases q:j=c<;>simp[q,Hp.upd]]at this;exact this
  ·cases e
 |.eff f,e=>A8h hk e
 |.call f args,e=>by
  simp only[A0v,A0e]at e;exact (hc _ _ _ _ _ e).mono fun v H' c' ⟨h',q,e⟩=>by rw[q];exact hk _ _ _ e
 |.callv x args,e=>by
  simp only[A0v]at e;simp only[D3];split at e
  ·rename_i f a c hv;rw[A0e]at e;simp only[hv];exact (hc _ _ _ _ _ e).mono fun v H' c' ⟨h',q,e⟩=>by rw[q];exact hk _ _ _ e
  ·cases e
theorem A0f(hc:M7 P call){k:KnT}{Q:St->Prop}(hk:∀ l h c,k l h c=true->Q ⟨J1 a l,C3 h,c⟩):∀ (os:List IOper) (l:TL) (h:TH) (c:Nat),A8c call a k os l h c=true->rwp P Q os ⟨J1 a l,C3 h,c⟩
 |[],l,h,c,e=>hk l h c e
 |o :: os,l,h,c,e=>by
  change Option.rec (motive:=fun _=>Bool) false (fun b=>Bool.rec (motive:=fun _=>Bool) (A0h o.dst (.tup []) l fun l'=>A8c call a k os l' h c) (A0v call (J1 a l) h c (fun v h' c'=>A0h o.dst v l fun l'=>A8c call a k os l' h' c') o.op) b) (E1 (J1 a l) o.guard)=true at e
  unfold rwp;cases hw:E1 (J1 a l) o.guard with
  |none=>rw[hw]at e;cases e
  |some b =>
  rw[hw]at e;cases b
  rotate_left
  ·simp only;exact A3l hc (fun v h c e=>by
    obtain⟨l',h1,h2⟩:=O5 (a:=a) e;rw[<- h2];exact A0f hc hk os _ _ _ h1) e
  ·simp only;obtain⟨l',h1,h2⟩:=O5 (a:=a) e;rw[<- h2];exact A0f hc hk os _ _ _ h1
theorem A8i(hc:M7 P call){T:Tm}{h:TH}{c:Nat}{o:IOper}{k:DV->TH->Nat->Bool}{K:DV->Hp->Nat->Prop}(hk:∀ v h c,k v h c=true->K v (C3 h) c)(e:B1t call T h c o k=true):A1m P ⟨T,C3 h,c⟩ o K:=by
 unfold B1t at e;unfold A1m;split at e
 ·rename_i hw;simp only[hw];exact A3l hc hk e
 ·rename_i hw;simp only[hw];exact hk _ _ _ e
 ·cases e
theorem T5(hc:M7 P call){k:KnT}{Q:St->Prop}(hk:∀ l h c,k l h c=true->Q ⟨J1 a l,C3 h,c⟩){io:List IOper}{c0:Nat}:∀ (p:List (Nat × Option (List Nat))) (l:TL) (h:TH) (c:Nat),A2s call a k io c0 p l h c=true->dwp P Q io c0 p ⟨J1 a l,C3 h,c⟩
 |[],l,h,c,e=>hk l h c e
 |(i,none) :: r,l,h,c,e=>by
  simp only[A2s]at e;unfold dwp;split at e
  ·rename_i o ho;split at e
   ·rename_i v hv;rw[N7]at e;simp only[ho,hv];obtain⟨l',h1,h2⟩:=O5 (a:=a) e;rw[<- h2];exact T5 hc hk r _ _ _ h1
   ·rename_i v b hv;rw[N7]at e;simp only[ho,hv];obtain⟨l',h1,h2⟩:=O5 (a:=a) e;obtain⟨h',e1,g⟩:=Q4 _ _ _ _ h1;rw[<- h2];have:=T5 hc hk r _ _ _ e1;rw[show C3 h'=J4 (C3 h) (c0+i) (some b) from funext fun j=>by rw[g];by_cases q:j=c0+i<;>simp[q,Hp.upd,J4]]at this;exact this
   ·cases e
  ·cases e
 |(i,some pend) :: r,l,h,c,e=>by
  simp only[A2s]at e;unfold dwp;split at e
  ·rename_i o ho;simp only[ho];obtain⟨hh,e1,g⟩:=Q4 _ _ _ _ e;rw[show M8 (C3 h) ((pend.filter (isNew io)).map (c0 + ·))=C3 hh from funext fun j=>by rw[g];rfl];refine A8i hc (fun v h' c' e=>?_) e1;obtain⟨l',h1,h2⟩:=O5 (a:=a) e;obtain⟨h3,e3,g3⟩:=Q4 _ _ _ _ h1;rw[A0B]at e3;rw[<- h2,show E7 ((pend.filter (isNew io)).map (c0 + ·)) (C3 h) (C3 h')=C3 h3 from funext fun j=>by rw[g3];rfl];exact⟨A7e e3.1,T5 hc hk r _ _ _ e3.2⟩
  ·cases e
theorem A8d(hc:M7 P call):∀ (ic:IC) (l:TL) (h:TH) (c:Nat) (k:KeT) (Q:Exit->St->Prop),(∀ e l h c,k e l h c=true->Q e ⟨J1 a l,C3 h,c⟩)->R1 call F a ic l h c k=true->IW P N ic ⟨J1 a l,C3 h,c⟩ Q:=by
 intro ic
 induction ic with
 |skip=>intro l h c k Q hk e;exact IW.of (hk _ _ _ _ e)
 |reg ops=>intro l h c k Q hk e;exact IW.of (A0f hc (hk .normal) ops l h c e)
 |drw n d =>
  intro l h c k Q hk e;simp only[R1,L6]at e;exact IW.of (T5 hc (hk .normal) _ _ _ _ e)
 |seq x y ihx ihy =>
  intro l h c k Q hk e;simp only[R1]at e;refine IW.seq (ihx l h c _ (R7 _ Q) (fun x l' h' c' e=>?_) e);cases x with
  |normal=>exact ihy l' h' c' k Q hk e
  |_=>exact hk _ _ _ _ e
 |cond o x y ihx ihy =>
  intro l h c k Q hk e;simp only[R1]at e;split at e
  ·rename_i b hb;refine IW.of ?_;unfold wpI;simp only[hb];cases b with
   |true=>exact⟨fun _=>ihx l h c k Q hk e,fun e=>(by cases e)⟩
   |false=>exact⟨fun e=>(by cases e),fun _=>ihy l h c k Q hk e⟩
  ·cases e
 |blk id x ih =>
  intro l h c k Q hk e;simp only[R1]at e;refine IW.blk (ih l h c _ (A3a id Q) (fun x l' h' c' e=>?_) e);cases x with
  |exit i =>
   simp only[A3a]at e ⊢;split at e
   ·rename_i hb;rw[if_pos ((A1v hb).1 rfl)];exact hk _ _ _ _ e
   ·rename_i hb;rw[if_neg (fun q=>by have:=(A1v hb).2 q;cases this)];exact hk _ _ _ _ e
  |_=>exact hk _ _ _ _ e
 |loop x ih =>
  intro l h c k Q hk e;refine IW.loop (fun n s => ∃ l h,s.T=J1 a l/\s.H=C3 h/\lpT (R1 call F a x) k n l h s.c=true) F ⟨l,h,rfl,rfl,e⟩ fun n s ⟨l,h,q1,q2,e⟩=>?_;obtain⟨T,H,c⟩:=s;simp only at q1 q2 e;subst q1;subst q2;cases n with
  |zero=>cases e
  |succ n =>
   refine ih l h c _ (R7 _ Q) (fun x l' h' c' e=>?_) e;cases x with
   |normal=>exact⟨n,Nat.lt_succ_self _,l',h',rfl,rfl,e⟩
   |_=>exact hk _ _ _ _ e
 |exit id=>intro l h c k Q hk e;exact IW.of (hk _ _ _ _ e)
 |ret=>intro l h c k Q hk e;exact IW.of (hk _ _ _ _ e)
 |bad=>intro l h c k Q hk e;cases e
 |rg r=>intro l h c k Q hk e;cases e
theorem A2x(hm:P.follows .mixedOrders=true){O:Nat->List DV->Option DV}(hO:A1z P O):∀ n,M7 P (clT P F O n)
 |0,_,_,_,_,_,e=>by cases e
 |n+1,f,args,h,c,k,e=>by
  simp only[clT]at e;split at e
  ·rename_i r hr;exact ((hO f args r hr).at (C3 h) c).mono fun v H' c' ⟨h1,h2,h3⟩=>by rw[h1,h2,h3];exact⟨h,rfl,e⟩
  ·split at e
   ·rename_i i hi;rw[A0B]at e;have h0:J1 args (N1 (Nat.log2 i.n+1))=P9 args:=funext fun j=>P1 _ _ _;refine AC.of hm (i:=i) hi (A0E e.1) (h0▸A8d (a:=args) (A2x hm hO n) _ _ h c _ _ (fun x l h c e=>?_) e.2);cases x<;>simp only[A4b,N7]at e ⊢ <;> (try (cases e;done));all_goals (split at e<;>simp_all)
    all_goals exact⟨_,rfl,e⟩
   ·cases e
theorem PC.runT(hm:P.follows .mixedOrders=true)(O:Nat->List DV->Option DV)(hO:A1z P O)(F n m f:Nat)(args:List DV)(r:DV)(na:DV.nlL args=true)(nr:r.nl=true)(e:clT P F O n f args (N1 m) 0 (fun v _ _=>B9 v r)=true):PC P f args r :=
 ⟨na,nr,by
  have h0:C3 (N1 m)=nil:=funext fun j=>P1 _ _ _;exact (h0▸A2x hm hO n _ _ _ _ _ e).mono fun v H' c' ⟨h,_,e⟩=>O7 _ _ e⟩
theorem PC.runTF(hm:P.follows .mixedOrders=true)(O:Nat->List DV->Option DV)(hO:A1z P O)(F n m:Nat)(L:List Nat)(f:Nat)(args:List DV)(r:DV)(na:DV.nlL args=true)(nr:r.nl=true)
  (e:clT P F O n f args (N1 m) 0 (fun v h _=>leL (L.foldl fzS (C3 h,[v])).2 [r])=true):PC P f args r :=
 ⟨na,nr,AC.post (by
  have h0:C3 (N1 m)=nil:=funext fun j=>P1 _ _ _;exact (h0▸A2x hm hO n _ _ _ _ _ e).mono fun v H' c' ⟨h,q,e⟩=>by
   have g:=A6p L (C3 h,[v]);subst q;exact⟨r,_,g.trans (A6e e),rfl⟩)⟩
end
end Go.Sym
namespace Go.Pb
variable [Go.Sym.Tab]
open Go.Sym
def A0y(n:Nat)(s:List UInt8):Nat:=s.foldl (fun n c=>10 * n+(c.toNat-48)) n
theorem A3m:∀ (s:List UInt8) (n:Nat),n<=A0y n s
 |[],n=>A0C _
 |c :: r,n=>by
  have:=A3m r (10 * n+(c.toNat-48));simp only[A0y,List.foldl_cons]at this ⊢;omega
theorem A4g(c:UInt8)(r:List UInt8)(n:Nat):A0y n (c :: r)=A0y (10 * n+(c.toNat-48)) r:=by rfl
theorem B3d{M acc d v w:Nat}(hM:M=18446744073709551615)(hd:d<=9)(hv:10 * acc+d<=v)(hw:w=1844674407370955162):
  (w<=acc->M<v)/\(M<acc * 10+d->M<v):=by
 omega
theorem A5w(M acc:Nat)(c:UInt8)(r:List UInt8):Lib.parseUintM M acc (c :: r) =
  if 48<=c.toNat/\c.toNat<=57 then
   if 1844674407370955162<=acc then .range
   else if M<acc * 10+(c.toNat-48) then .range
   else Lib.parseUintM M (acc * 10+(c.toNat-48)) r
  else .syntax:=by rfl
theorem pum{M:Nat}(hM:M=18446744073709551615):∀ (l:List UInt8) (acc:Nat),(∀ c∈l,dgB c=true)->acc<=M ->
  Lib.parseUintM M acc l=if A0y acc l<=M then .ok (A0y acc l) else .range:=by
 intro l
 induction l with
 |nil =>
  intro acc h ha;rw[if_pos (show A0y acc []<=M from ha),Lib.parseUintM];rfl
 |cons c r ih =>
  intro acc h ha;have hc:=h c A0D;simp only[dgB,A0B,A0J]at hc;have hg:=A3m r (10 * acc+(c.toNat-48));rw[A5w,if_pos hc,A4g]
  grind
theorem pib{l:List UInt8}(h:∀ c∈l,dgB c=true)(h0:l≠[]):
  Lib.parseIntB 64 l=if A0x l<=9223372036854775807 then .ok (A0x l:Int) else .range:=by
 cases l with
 |nil=>grind
 |cons c r =>
  have hc:=h c A0D;simp only[dgB,A0B,A0J]at hc;have e1:¬ c.toNat=43:=by omega
  have e2:¬ c.toNat=45:=by omega
  have hp:=pum (M:=2 ^ 64-1) (by decide) (c :: r) 0 h (A2V _);have hv:A0y 0 (c :: r)=A0x (c :: r):=rfl;rw[hv]at hp;unfold Lib.parseIntB;simp only[e1,e2,or_self,if_false,not_false_eq_true,true_and,false_and];unfold Lib.parseUintB
  grind
end Go.Pb
namespace Go.Sym
variable [Go.Sym.Tab]
open Go.Eng (B6)
open Go.RowKit
variable {P:Program}
theorem PC.of_callsF{f:Nat}{args:List DV}{r:DV}(hc:B6 P f=true)(na:DV.nlL args=true)(nr:r.nl=true)
  (h:∀ (ρ : Ren) (w:World) (vs:Array Value),(∀ b r, ρ.fz b=some r->∃ e fr,w.heap[b]? = some (.cells r e fr))->A8 ρ args vs ->
   Calls P f vs w fun e w' => ∃ v' b row ty fr,e=.returned v'/\w.heap.size<=b/\w'.heap[b]? = some (.cells row ty fr)/\(∀ ρ':Ren, ρ'.fz b=some row->VRel ρ' r v')/\Below w.heap.size w w'):PC P f args r:=by
 refine⟨na,nr,hc,fun ρ w vs hR hf hA=>?_⟩;refine (h ρ w vs hR.frz hA).mono ?_;rintro e w' ⟨v',b,row,ty,fr,rfl,hb,hrow,hv,b1,b2,b3,b4,b5⟩;have hnone : ρ.fz b=none:=by
  cases hz : ρ.fz b with
  |none=>rfl
  |some r=>have:=hR.flt hz;omega
 have hfz:(ρ.frz b row hnone).fz b=some row:=by simp[Ren.frz]
 refine⟨r,v',nil,0, ρ.frz b row hnone,rfl,rfl,hv _ hfz,⟨fun id b h=>(by cases h),fun i j bi bj ti tj h=>(by cases h),fun k r' hk=>?_,fun id b t h=>(by cases h),fun k r' hk=>⟨?_,fun id b t h=>(by cases h)⟩⟩,hf,A0C _,fun id hid h=>absurd rfl h,fun _ _=>rfl,
  ⟨Ren.le_frz hnone,b1,b2,b3,b4,fun k hk _=>b5 k hk,fun id b t h1=>(by cases h1),fun k r' hk=>?_,fun k r h=>.inl h⟩⟩
 ·simp only[Ren.frz]at hk;split at hk
  ·grind
  ·obtain⟨e,fr,h1⟩:=hR.frz k r' hk
   grind
 ·obtain⟨⟨cl,h1,hst⟩, -⟩:=hR.frm k r' hk
  grind
 ·simp only[Ren.frz]at hk
  grind
theorem VRel.strs{ρ : Ren}{l:List (List UInt8)}{b n c:Nat}(h : ρ.fz b=some ((l.map fun s=>Value.string ⟨s.toArray⟩).toArray))(hn:n=l.length)(hc:n<=c)(hm:c<=maxLen):
  VRel ρ (.lst (l.map DV.str)) (.slice (some ⟨b,0,none⟩) n c):=by
 have hcl:A6 (l.map DV.str)=l.map DV.str:=by
  clear h hn
  induction l with
  |nil=>rfl
  |cons x r ih =>
   have:A6 ((x :: r).map DV.str)=[DV.str x]++A6 (r.map DV.str):=rfl
   grind
 refine .lst _ n 1 b 0 c _ h (by grind) hc hm (fun x hx=>by obtain⟨y, -,rfl⟩:=A1B.1 hx;rfl) ?_ ?_ ?_
 ·grind
 ·rw[hcl];intro d hd;obtain⟨y, -,rfl⟩:=A1B.1 hd;rfl
 ·rw[hcl];intro k d v hd hv;rw[A1G]at hd;obtain⟨s,hs,rfl⟩:=A0G.1 hd;simp only[A0O,A0S,A1G,hs,A2C,Option.some.injEq]at hv;subst hv;exact .mkStr
end Go.Sym
namespace Go.Pb
variable [Go.Sym.Tab]
open Go.Sym
def clM(n:Int):Int:=if 2147483647<n then 2147483647 else if n < -2147483647 then -2147483647 else n
theorem A8m(n:Int):(if (2147483647:Int)<(if -2147483647>n then -2147483647 else n) then 2147483647 else (if -2147483647>n then -2147483647 else n))=clM n:=by
 unfold clM;split<;>split<;>(try split)<;>omega
theorem O0(n:Int): -2147483647<=clM n/\clM n<=2147483647:=by
 unfold clM;split<;>(try split)<;>omega
def R4(b:Bool):Int:=if b=true then 1 else 0
def unM(k a:Int):Int:=if k=10 then -clM a else if k=11 then R4 (clM a == 0) else 0
def bzM(k A B:Int):Int :=
 if k=12 then clM (A * B) else if k=13 then (if B=0 then 0 else A.tdiv B) else if k=14 then (if B=0 then 0 else A.tmod B) else if k=15 then clM (A+B)
 else if k=16 then clM (A-B) else if k=17 then R4 (decide (A<B)) else if k=18 then R4 (decide (A<=B)) else if k=19 then R4 (decide (A>B)) else if k=20 then R4 (decide (A≥B))
 else if k=21 then R4 (A == B) else if k=22 then R4 (A != B) else if k=23 then R4 (A != 0 && B != 0) else if k=24 then R4 (A != 0 || B != 0) else 0
def A5b(k a b:Int):Int:=bzM k (clM a) (clM b)
theorem B0o{A B:Int}(a : -2147483647<=A/\A<=2147483647)(b : -2147483647<=B/\B<=2147483647): -9223372036854775808<=A * B/\A * B<=9223372036854775807:=by
 have h:(A * B).natAbs<=2147483647 * 2147483647:=by
  rw[Int.natAbs_mul];exact Nat.mul_le_mul (by omega) (by omega)
 omega
theorem A5u{A B:Int}(a : -2147483647<=A/\A<=2147483647): -2147483647<=A.tdiv B/\A.tdiv B<=2147483647:=by
 have h:(A.tdiv B).natAbs<=A.natAbs:=by
  rw[Int.natAbs_tdiv];exact Nat.div_le_self _ _
 omega
structure Eff where
 kind:Int
 A:Int
 b:Int
 c:Int
 text:List UInt8
deriving DecidableEq
structure Envr where
 vars:List Int
 left:List Int
 closed:Nat
 active:Nat
 player:Int
 ball:Int
structure Mch where
 pc:Nat
 done:Bool
 vars:List Int
 stk:List Int
 effs:List Eff
abbrev Eff.v(e:Eff):DV:=.agg [I64 e.kind,I64 e.A,I64 e.b,I64 e.c,.str e.text]
abbrev Envr.cs(e:Envr):List DV:=[I9 e.vars,I9 e.left,.int .u64 (e.closed:Int),.int .u32 (e.active:Int),I64 e.player,I64 e.ball]
abbrev Envr.v(e:Envr):DV:=.agg e.cs
def M9(l:List Eff):List DV:=A6 (l.map Eff.v)
theorem A1p(a b:List Eff):M9 (a++b)=M9 a++M9 b:=by simp[M9,W9]
theorem A1n(e:Eff):M9 [e]=[I64 e.kind,I64 e.A,I64 e.b,I64 e.c,.str e.text]:=by simp[M9,A6,DV.cells]
theorem A1l(l:List Eff):∀ x∈l.map Eff.v,x.cells.length=5:=by
 intro x hx;obtain⟨y, -,rfl⟩:=A1B.1 hx;rfl
theorem A1o(l:List Eff):(M9 l).length=l.length * 5:=by
 rw[M9,D2 (u:=5) (A1l l)];simp
theorem A6a(l:List Eff):DV.nlL (l.map Eff.v)=true:=F6 (fun _=>rfl) l
def Mch.push(x:Mch)(n:Int):Mch:={ x with stk:=n :: x.stk }
def Mch.pop(x:Mch):Mch:={ x with stk:=x.stk.tail }
def Mch.top(x:Mch):Int:=x.stk.headD 0
def Mch.ask(x:Mch)(e:Eff):Mch:={ x with effs:=x.effs++[e] }
def opM(c:Prg)(e:Envr)(op A:Int)(x:Mch):Mch :=
 if op=1 then x.push A
 else if op=2 then x.push (x.vars.getD A.toNat 0)
 else if op=3 then { x.pop with vars:=x.vars.set A.toNat x.top }
 else if op=4 then x.push ((e.closed / 2 ^ A.toNat % 2:Nat):Int)
 else if op=5 then x.push ((e.active / 2 ^ A.toNat % 2:Nat):Int)
 else if op=6 then x.push (e.left.getD A.toNat 0)
 else if op=7 then x.push e.player
 else if op=8 then x.push e.ball
 else if op=9 then x.pop.push (unM 10 x.top)
 else if op=10 then x.pop.push (unM 11 x.top)
 else if op=11 then x.pop.pop.push (A5b A x.pop.top x.top)
 else if op=12 then { x with pc:=A.toNat }
 else if op=13 then (if x.top=0 then { x.pop with pc:=A.toNat } else x.pop)
 else if op=14 then (if x.top<=0 then { x.pop with pc:=A.toNat } else x.pop.push (x.top-1))
 else if op=15\/op=19\/op=21 then x.pop.ask ⟨op,A,x.top,0,[]⟩
 else if op=20 then x.pop.pop.ask ⟨op,A,x.pop.top,x.top,[]⟩
 else if op=29 then x.pop.ask ⟨op,0,x.top,0,c.strings.getD A.toNat []⟩
 else if op=31 then { x with done:=true }
 else x.ask ⟨op,A,0,0,[]⟩
def C8(c:Prg)(e:Envr)(x:Mch):Mch:=opM c e (c.instrs.getD x.pc ⟨0,0⟩).op (c.instrs.getD x.pc ⟨0,0⟩).A { x with pc:=x.pc+1 }
theorem T4{α : Type}{l:List α}(h:l=[]):l.length=0:=by grind
def L1(H:Hp):Option Nat->Hp
 |none=>H
 |some i=>H.del i
theorem A4c{o:Option Nat}{n:Nat}(h:o=none->n=0):A2n (C7 o n)=some (I64 (n:Int)):=by
 cases o with
 |none=>rw[h rfl];rfl
 |some i=>rfl
theorem X3{H:Hp}{c sz bytes n m:Nat}{o:Option Nat}{cs src:List DV}(hn:o=none->n=0/\cs=[])(hb:∀ i,o=some i->H i=some ⟨sz,true,cs⟩)(hl:cs.length=n * sz)(hm:1<=m)(h2:(n+m) * bytes<=140737488355328)(h3:n+m<=9223372036854775807):
  Q0 H c sz bytes (C7 o n) m src=some (.slc c 0 (n+m),(L1 H o).upd c ⟨sz,true,cs++src⟩,c+1):=by
 cases o with
 |none =>
  obtain⟨rfl,rfl⟩:=hn rfl;rw[A2c,Z1 (by omega) (by grind) (by omega)];simp[L1]
 |some i=>rw[A5l,A5t,hb i rfl,A7a hl h2 h3];rfl
theorem D8{H:Hp}{o:Option Nat}{j:Nat}(h:∀ i,o=some i->¬ j=i):L1 H o j=H j:=by
 cases o with
 |none=>rfl
 |some i=>exact S0 (h i rfl)
theorem G7{H:Hp}{o:Option Nat}{b:Blk}{j:Nat}(h:∀ i,o=some i->¬ j=i):S7 H o b j=H j:=by
 cases o with
 |none=>rfl
 |some i=>exact L0 (h i rfl)
section
variable {l:List UInt8} {k p:Nat} {S P V:DV} {I:List Ins} {E:List Ent} {o1 o2:Option Nat} {cc:Nat}
end
abbrev mcC(c:Prg)(e:Envr)(v nv:Nat)(pc:Int)(dn:Bool)(sv ev:DV):List DV :=
 [U4 c.instrs,strs c.strings,A1k c.entries,I9 c.prios,I9 c.vars,I64 c.timers,I64 c.events,.slc v 0 nv,I9 e.left,.int .u64 (e.closed:Int),.int .u32 (e.active:Int),I64 e.player,I64 e.ball,I64 pc,.bool dn,sv,ev]
structure MN (m v:Nat) (so eo:Option Nat) (x:Mch) (cc:Nat):Prop where
 mv:m≠v
 mc:m<cc
 vc:v<cc
 sb:∀ i,so=some i->i≠m/\i≠v/\i<cc
 eb:∀ i,eo=some i->i≠m/\i≠v/\i<cc
 se:∀ i j,so=some i->eo=some j->i≠j
 sn:so=none->x.stk=[]
 en:eo=none->x.effs=[]
def VR(x:Mch)(m v:Nat)(so eo:Option Nat)(junk:List DV)(M:Blk):Hp :=
 S7 (S7 ((Sym.nil.upd m M).upd v ⟨1,true,x.vars.map I64⟩) so ⟨1,true,x.stk.reverse.map I64++junk⟩) eo ⟨5,true,M9 x.effs⟩
section
variable {x:Mch} {m v cc:Nat} {so eo:Option Nat} {junk:List DV} {M:Blk}
theorem B5l(h:MN m v so eo x cc):VR x m v so eo junk M m=some M:=by
 rw[VR,G7 (fun i hi=>Ne.symm (h.eb i hi).1),G7 (fun i hi=>Ne.symm (h.sb i hi).1),L0 h.mv,A7]
theorem Q2(h:MN m v so eo x cc):VR x m v so eo junk M v=some ⟨1,true,x.vars.map I64⟩:=by
 rw[VR,G7 (fun i hi=>Ne.symm (h.eb i hi).2.1),G7 (fun i hi=>Ne.symm (h.sb i hi).2.1),A7]
theorem A7f(h:MN m v so eo x cc){i:Nat}(hi:so=some i):VR x m v so eo junk M i=some ⟨1,true,x.stk.reverse.map I64++junk⟩:=by
 rw[VR,G7 (fun j hj=>h.se i j hi hj)];subst hi;exact A7
theorem A5e{i:Nat}(hi:eo=some i):VR x m v so eo junk M i=some ⟨5,true,M9 x.effs⟩:=by
 rw[VR];subst hi;exact A7
theorem F5(h:MN m v so eo x cc){j:Nat}(hj:cc<=j):VR x m v so eo junk M j=none:=by
 have:=h.mc;have:=h.vc;rw[VR,G7 (fun i hi=>by have:=(h.eb i hi).2.2;omega),G7 (fun i hi=>by have:=(h.sb i hi).2.2;omega),hnO,hnO];rfl
theorem B2c(h:MN m v so eo x cc)(M':Blk):(VR x m v so eo junk M).upd m M'=VR x m v so eo junk M':=by
 funext j
 by_cases e:j=m
 ·subst e;rw[A7,B5l h]
 ·rw[L0 e,VR,VR];cases so<;>cases eo<;>simp only[S7,Hp.upd,if_neg e]
theorem W1{k:Nat}(h:MN m v so eo x cc)(hk:¬ k=m)(B M':Blk):((VR x m v so eo junk M).upd k B).upd m M'=(VR x m v so eo junk M').upd k B:=by
 rw[<- B2c (M:=M) h M']
 funext j
 by_cases e:j=m
 ·subst e;rw[A7,L0 (Ne.symm hk),A7]
 ·rw[L0 e];by_cases e2:j=k
  ·subst e2;rw[A7,A7]
  ·rw[L0 e2,L0 e2,L0 e]
theorem W0{X:Hp}(hm:X m=some M)(hv:X v=some ⟨1,true,x.vars.map I64⟩)(hs:∀ i,so=some i->X i=some ⟨1,true,x.stk.reverse.map I64++junk⟩)(he:∀ i,eo=some i->X i=some ⟨5,true,M9 x.effs⟩):
  Sub (VR x m v so eo junk M) X:=by
 intro j b hj;rw[VR]at hj;by_cases h1:eo=some j
 ·subst h1;simp only[S7]at hj;rw[A7]at hj;rw[<- hj];exact he j rfl
 rw[G7 (fun i hi e=>h1 (by rw[e];exact hi))]at hj;by_cases h2:so=some j
 ·subst h2;simp only[S7]at hj;rw[A7]at hj;rw[<- hj];exact hs j rfl
 rw[G7 (fun i hi e=>h2 (by rw[e];exact hi))]at hj;by_cases h3:j=v
 ·subst h3;rw[A7]at hj;rw[<- hj];exact hv
 rw[L0 h3]at hj;by_cases h4:j=m
 ·subst h4;rw[A7]at hj;rw[<- hj];exact hm
 rw[L0 h4]at hj;cases hj
end
section
variable {x x':Mch} {m v cc c' i:Nat} {so eo:Option Nat}
theorem MN.newS(h:MN m v so eo x cc)(h1:cc<=i)(h2:i<c')(he:x'.effs=x.effs):MN m v (some i) eo x' c':=by
 have:=h.mc;have:=h.vc;exact⟨h.mv,by omega,by omega,fun j hj=>by cases hj;omega,fun j hj=>by have:=h.eb j hj;omega,fun j k hj hk=>by cases hj;have:=h.eb k hk;omega,fun e=>(by cases e),fun e=>by rw[he];exact h.en e⟩
theorem MN.newE(h:MN m v so eo x cc)(h1:cc<=i)(h2:i<c')(he:x'.stk=x.stk):MN m v so (some i) x' c':=by
 have:=h.mc;have:=h.vc;exact⟨h.mv,by omega,by omega,fun j hj=>by have:=h.sb j hj;omega,fun j hj=>by cases hj;omega,fun j k hj hk=>by cases hk;have:=h.sb j hj;omega,fun e=>by rw[he];exact h.sn e,fun e=>(by cases e)⟩
theorem MN.keep(h:MN m v so eo x cc)(hc:cc<=c')(hs:so=none->x'.stk=[])(he:eo=none->x'.effs=[]):MN m v so eo x' c':=by
 have:=h.mc;have:=h.vc;exact⟨h.mv,by omega,by omega,fun j hj=>by have:=h.sb j hj;omega,fun j hj=>by have:=h.eb j hj;omega,h.se,hs,he⟩
end
theorem B0n{H:Hp}{c sz bytes n m:Nat}{o:Option Nat}{cs junk src:List DV}(hn:o=none->n=0/\cs=[])(hb:∀ i,o=some i->H i=some ⟨sz,true,cs++junk⟩)(hl:cs.length=n * sz)(hm:1<=m)(h2:(n+m) * bytes<=140737488355328)(h3:n+m<=9223372036854775807):
  Q0 H c sz bytes (C7 o n) m src=some (.slc c 0 (n+m),(L1 H o).upd c ⟨sz,true,cs++src⟩,c+1):=by
 cases o with
 |none =>
  obtain⟨rfl,rfl⟩:=hn rfl;rw[A2c,Z1 (by omega) (by simpa using h2) (by omega)];simp[L1]
 |some i =>
  have h:=B1x (H:=H) (c:=c) (id:=i) (j:=junk) (cs:=src) hl h2 h3;rw[<- hb i rfl]at h;exact h
theorem A8q{q:Nat}(h:q<18446744073709551616):bits .and .u64 (q:Int) 1=((q % 2:Nat):Int):=by
 have e1:BitVec.ofInt 64 (q:Int)=BitVec.ofNat 64 q:=by simp
 have e2:BitVec.ofInt 64 1=BitVec.ofNat 64 1:=by decide
 show IntKind.u64.wrap (((BitVec.ofInt 64 (q:Int)) &&& (BitVec.ofInt 64 1)).toNat:Int)=_;rw[e1,e2,BitVec.toNat_and,BitVec.toNat_ofNat,BitVec.toNat_ofNat,Nat.mod_eq_of_lt (by omega),show 1 % 2 ^ 64=1 from rfl,Nat.and_one_is_mod,A9h (by omega) (by omega)]
theorem B5v{n:Int}(h1:0<=n)(h2:n<=4294967295):IntKind.u32.wrap n=n:=by
 simp only[IntKind.wrap,IntKind.bits,IntKind.signed];simp;omega
theorem A8r{q:Nat}(h:q<4294967296):bits .and .u32 (q:Int) 1=((q % 2:Nat):Int):=by
 have e1:BitVec.ofInt 32 (q:Int)=BitVec.ofNat 32 q:=by simp
 have e2:BitVec.ofInt 32 1=BitVec.ofNat 32 1:=by decide
 show IntKind.u32.wrap (((BitVec.ofInt 32 (q:Int)) &&& (BitVec.ofInt 32 1)).toNat:Int)=_;rw[e1,e2,BitVec.toNat_and,BitVec.toNat_ofNat,BitVec.toNat_ofNat,Nat.mod_eq_of_lt (by omega),show 1 % 2 ^ 32=1 from rfl,Nat.and_one_is_mod,B5v (by omega) (by omega)]
theorem Z0{q a:Nat}{k k':IntKind}(h:a<=k.bits):binR .shr (.int k (q:Int)) (.int k' (a:Int))=some (.int k ((q / 2 ^ a:Nat):Int)):=by
 rw[B2k (by omega),A1I,Nat.min_eq_left h,Int.fdiv_eq_ediv_of_nonneg _ (by exact_mod_cast A2V _)];rw[Int.natCast_ediv,Int.natCast_pow];rfl
def M0(least n:Int):Bool:=decide (n<least) || decide (n>2147483647)
def I8(c:Prg)(e:Envr):Bool :=
 (B3 c == 0) && decide (e.vars.length=c.vars.length) && decide ((e.left.length:Int)=c.timers) && !e.vars.any (M0 (-2147483647)) && !e.left.any (M0 0) && decide (e.active / 2 ^ c.prios.length=0) && !M0 0 e.player && !M0 0 e.ball
structure StepOk (c:Prg) (e:Envr) (x:Mch) (i:Ins):Prop where
 lim:D7 c=true
 at_:c.instrs[x.pc]? = some i
 num:A5 c i=true
 jmp:i.op=12\/i.op=13\/i.op=14->0<=i.A/\i.A<=(c.instrs.length:Int)-1
 need:(A2 i.op).1<=(x.stk.length:Int)
 left:(e.left.length:Int)=c.timers
 vars:x.vars.length=c.vars.length
 stk:x.stk.length<=1000
 effs:x.effs.length<=1000
 bnd:∀ n∈x.stk, -2147483647<=n/\n<=2147483647
 clo:e.closed<18446744073709551616
 act:e.active<4294967296
theorem A2a{c:Prg}(h0:B3 c=0):(∀ s∈c.strings,s.length<=140737488355328)/\c.instrs.length<=4000/\c.strings.length<=200/\c.entries.length<=512/\c.prios.length<=16/\c.vars.length<=128:=by
 obtain⟨b1,b2,b3,b4,b5,b6,b7⟩:=Bnd.valid h0;obtain⟨hL, -⟩:=M2 h0;obtain⟨d1,d2,d3,d4,d5, -⟩:=Lim.dims hL;exact⟨fun s hs=>by have:=b7 s hs;omega,d1,d2,d3,d4,d5⟩
theorem T6{c:Prg}(h0:B3 c=0):Hts c (W4 c)/\C2 c=true/\c.instrs.length<=4000:=by
 obtain⟨hL,hj,h,hh⟩:=A7h h0;have hl:=(Lim.of hL).li;have hs:=A3r hl hj;rw[hh]at hs;have e:W4 c=h:=by unfold W4;rw[if_pos h0,hh];rfl
 rw[e];exact⟨hs,hj,hl⟩
def Wi(n:Int):Prop := -2147483647<=n/\n<=2147483647
theorem A3v(b:Bool):Wi (R4 b):=by cases b<;>exact⟨by decide,by decide⟩
theorem A5i(k a:Int):Wi (unM k a):=by
 unfold unM;have:=O0 a;split
 ·exact⟨by omega,by omega⟩
 ·split
  ·exact A3v _
  ·exact⟨by decide,by decide⟩
theorem A9x{A B:Int}(a:Wi A):Wi (A.tmod B):=by
 have h:(A.tmod B).natAbs<=A.natAbs:=by
  rw[Int.natAbs_tmod];exact Nat.mod_le _ _
 have:=a.1;have:=a.2;exact⟨by omega,by omega⟩
theorem A9k{p:Prop}[Decidable p]{a b:Int}(ha:Wi a)(hb:Wi b):Wi (if p then a else b):=by
 by_cases h:p
 ·rw[if_pos h];exact ha
 ·rw[if_neg h];exact hb
theorem A8p(k a b:Int):Wi (A5b k a b):=by
 unfold A5b bzM;have hA:Wi (clM a):=O0 a;have hB:Wi (clM b):=O0 b;have z:Wi 0:=⟨by decide,by decide⟩;have hq:Wi ((clM a).tdiv (clM b)):=A5u hA;have hr:Wi ((clM a).tmod (clM b)):=A9x hA;repeat' (first|exact O0 _|exact A3v _|exact z|exact hq|exact hr|refine A9k ?_ ?_)
structure Inv (c:Prg) (x:Mch):Prop where
 rch:x.done=false->Rch c x.pc (x.stk.length:Int)
 vl:x.vars.length=c.vars.length
 sb:∀ n∈x.stk,Wi n
 vb:∀ n∈x.vars,Wi n
 fin:x.done=true->x.stk=[]
structure EnvOk (c:Prg) (e:Envr):Prop where
 val:B3 c=0
 vl:e.vars.length=c.vars.length
 ll:(e.left.length:Int)=c.timers
 vb:∀ n∈e.vars,Wi n
 lb:∀ n∈e.left,Wi n
 pl:Wi e.player
 ba:Wi e.ball
theorem EnvOk.of{c:Prg}{e:Envr}(h:I8 c e=true):EnvOk c e:=by
 simp only[I8,A0B,A2E,A0J,A1J,List.any_eq_false,M0,Bool.or_eq_false_iff,A1F]at h;obtain⟨⟨⟨⟨⟨⟨⟨h1,h2⟩,h3⟩,h4⟩,h5⟩,h6⟩,h7⟩,h8⟩:=h;simp only[A1L,A0J]at h4 h5;refine⟨h1,h2,h3,fun n hn=>?_,fun n hn=>?_,⟨by omega,by omega⟩,⟨by omega,by omega⟩⟩
 ·have:=h4 n hn;exact⟨by omega,by omega⟩
 ·have:=h5 n hn;exact⟨by omega,by omega⟩
def nx(x:Mch):Mch:={ x with pc:=x.pc+1 }
section
variable {c:Prg} {e:Envr} {x:Mch}
theorem Inv.ok(hE:EnvOk c e)(h:Inv c x)(hd:x.done=false)(he:x.effs.length<=1000)(hc:e.closed<18446744073709551616)(ha:e.active<4294967296):StepOk c e x (c.ins x.pc):=by
 obtain⟨hH,hj,hl⟩:=T6 hE.val;obtain⟨hL,hp, -⟩:=M2 hE.val;obtain⟨hO, -⟩:=hH.all _ _ (h.rch hd);obtain⟨o1,o2,o3,o4⟩:=hO;have hg:c.instrs[x.pc]? = some (c.ins x.pc):=by
  show _=some (c.instrs.getD x.pc ⟨0,0⟩);rw[List.getD,A0F o1];rfl
 have hm:=A0K hg;refine⟨hL,hg,?_,Z8 hj _ hm,o3,hE.ll,h.vl,by omega,he,fun n hn=>h.sb n hn,hc,ha⟩;simp only[H4,A0B,A0H]at hp;exact hp.2 _ hm
theorem A6h{n:Int}(h:Inv c x)(hr:Rch c (x.pc+1) ((x.stk.length:Int)+1))(hd:x.done=false)(hn:Wi n):Inv c ((nx x).push n) :=
 ⟨fun _=>by
  show Rch c (x.pc+1) (((n :: x.stk).length:Nat):Int);rw[A0I];push_cast;exact hr,h.vl,fun k hk=>by
  rcases A0N.1 hk with rfl|hk
  ·exact hn
  ·exact h.sb k hk,h.vb,fun hd'=>by
  have:x.done=true:=hd';rw[hd]at this;cases this⟩
theorem B7{z:Mch}(h:Inv c x)(hd:z.done=false)(hr:Rch c z.pc (z.stk.length:Int))(hv:z.vars=x.vars)(hs:∀ n∈z.stk,Wi n):Inv c z :=
 ⟨fun _=>hr,by rw[hv];exact h.vl,hs,by rw[hv];exact h.vb,fun hd'=>by rw[hd]at hd';cases hd'⟩
theorem A0l{n:Int}{S:List Int}(hS:x.stk=n :: S):(nx x).top=n:=by show x.stk.headD 0=n;rw[hS];rfl
theorem C5{n:Int}{S:List Int}(hS:x.stk=n :: S):(nx x).pop.stk=S:=by show x.stk.tail=S;rw[hS];rfl
theorem K0(h:1<=(x.stk.length:Int)):∃ n S,x.stk=n :: S:=by
 cases hx:x.stk with
 |nil=>rw[hx]at h;simp at h
 |cons n S=>exact⟨n,S,rfl⟩
theorem A5n(h:2<=(x.stk.length:Int)):∃ n n2 S,x.stk=n :: n2 :: S:=by
 match hx:x.stk with
 |[]=>rw[hx]at h;simp at h
 |[_]=>rw[hx]at h;simp at h
 |n :: n2 :: S=>exact⟨n,n2,S,rfl⟩
theorem A3s{l:List Int}(h:∀ n∈l,Wi n)(a:Nat):Wi (l.getD a 0):=by
 rw[List.getD];cases hg:l[a]? with
 |none=>exact⟨by decide,by decide⟩
 |some n=>exact h n (A0K hg)
theorem A9v{l:List Int}(h:∀ n∈l,Wi n){a:Nat}{k:Int}(hk:Wi k):∀ n∈l.set a k,Wi n:=by
 intro n hn;rcases List.mem_or_eq_of_mem_set hn with h1|h1
 ·exact h n h1
 ·rw[h1];exact hk
theorem A3o(q:Nat):Wi ((q % 2:Nat):Int):=⟨by omega,by omega⟩
theorem Inv.step(hE:EnvOk c e)(h:Inv c x)(hd:x.done=false):Inv c (C8 c e x):=by
 obtain⟨hH,hj,hl⟩:=T6 hE.val;obtain⟨hL,hp, -⟩:=M2 hE.val;have hR:=h.rch hd;obtain⟨hO, -⟩:=hH.all _ _ hR;have key:∀ q z,(q,z)∈A3 (c.ins x.pc) x.pc (x.stk.length:Int)->Rch c q z:=fun q z hs=>.step hR hO hs;obtain⟨o1,o2,o3,o4⟩:=hO;have hg:c.instrs[x.pc]? = some (c.ins x.pc):=by
  show _=some (c.instrs.getD x.pc ⟨0,0⟩);rw[List.getD,A0F o1];rfl
 have hm:=A0K hg;have hnum:A5 c (c.ins x.pc)=true:=by
  simp only[H4,A0B,A0H]at hp;exact hp.2 _ hm
 have hst:C8 c e x=opM c e (c.ins x.pc).op (c.ins x.pc).A (nx x):=rfl;rw[hst];generalize c.ins x.pc=i at *;obtain⟨op,A⟩:=i;have ho:1<=op/\op<=31:=by
  by_cases g:1<=op/\op<=31
  ·exact g
  ·have:A2 op=(0,0, -1):=by
    unfold A2
    repeat rw[if_neg (by omega)]
   simp only[A5,this]at hnum;exact absurd hnum (by simp[B1])
 obtain⟨p1,p2⟩:=ho;obtain⟨k,rfl⟩:∃ k:Nat,op=(k:Int):=⟨op.toNat,by omega⟩;have hk:k<32:=by omega
 clear hst hg hm p2;have psh:∀ n,Wi n->Rch c (x.pc+1) ((x.stk.length:Int)+1)->Inv c ((nx x).push n):=fun n hn hr=>A6h h hr hd hn
 match k,hk,p1 with
 |1,_,_=>exact psh A (by
   have h3:inM A (-2147483647) 2147483647=true:=hnum;simp only[inM,A0B,A0J]at h3;exact h3) (key _ _ (by simp[A3,A2]))
 |2,_,_=>exact psh _ (A3s h.vb _) (key _ _ (by simp[A3,A2]))
 |4,_,_=>exact psh _ (A3o _) (key _ _ (by simp[A3,A2]))
 |5,_,_=>exact psh _ (A3o _) (key _ _ (by simp[A3,A2]))
 |6,_,_=>exact psh _ (A3s hE.lb _) (key _ _ (by simp[A3,A2]))
 |7,_,_=>exact psh _ hE.pl (key _ _ (by simp[A3,A2]))
 |8,_,_=>exact psh _ hE.ba (key _ _ (by simp[A3,A2]))
 |3,_,_ =>
  show Inv c (opM c e 3 A (nx x));obtain⟨n,S,hS⟩:=K0 (x:=x) o3;have hl1:(x.stk.length:Int)=(S.length:Int)+1:=by rw[hS];simp
  have hb:=fun k hk=>h.sb k (by rw[hS];exact A0A _ hk);have hb1:=h.sb n (by rw[hS];exact A0D);have hz:(opM c e 3 A (nx x)).stk=S:=C5 hS;refine⟨fun _=>?_,?_,?_,?_,fun hd'=>?_⟩
  ·rw[hz];exact key _ _ (by simp[A3,A2,hl1];rfl)
  ·show (x.vars.set A.toNat _).length=_;rw[List.length_set];exact h.vl
  ·rw[hz];exact hb
  ·show ∀ k∈x.vars.set A.toNat (nx x).top,Wi k;rw[A0l hS];exact A9v h.vb hb1
  ·have:x.done=true:=hd';rw[hd]at this;cases this
 |9,_,_ =>
  show Inv c (opM c e 9 A (nx x));obtain⟨n,S,hS⟩:=K0 (x:=x) o3;have hl1:(x.stk.length:Int)=(S.length:Int)+1:=by rw[hS];simp
  have hb:=fun k hk=>h.sb k (by rw[hS];exact A0A _ hk);have hb1:=h.sb n (by rw[hS];exact A0D);have hz:(opM c e 9 A (nx x)).stk=unM 10 (nx x).top :: S:=congrArg (_ :: ·) (C5 hS);refine B7 h hd ?_ rfl (fun k hk=>?_)
  ·rw[hz];exact key _ _ (by simp[A3,A2,hl1];rfl)
  ·rw[hz]at hk;rcases A0N.1 hk with rfl|hk
   ·exact A5i _ _
   ·exact hb k hk
 |10,_,_ =>
  show Inv c (opM c e 10 A (nx x));obtain⟨n,S,hS⟩:=K0 (x:=x) o3;have hl1:(x.stk.length:Int)=(S.length:Int)+1:=by rw[hS];simp
  have hb:=fun k hk=>h.sb k (by rw[hS];exact A0A _ hk);have hb1:=h.sb n (by rw[hS];exact A0D);have hz:(opM c e 10 A (nx x)).stk=unM 11 (nx x).top :: S:=congrArg (_ :: ·) (C5 hS);refine B7 h hd ?_ rfl (fun k hk=>?_)
  ·rw[hz];exact key _ _ (by simp[A3,A2,hl1];rfl)
  ·rw[hz]at hk;rcases A0N.1 hk with rfl|hk
   ·exact A5i _ _
   ·exact hb k hk
 |11,_,_ =>
  show Inv c (opM c e 11 A (nx x));obtain⟨n,n2,S,hS⟩:=A5n (x:=x) o3;have hl1:(x.stk.length:Int)=(S.length:Int)+2:=by rw[hS];simp;omega
  have hb:=fun k hk=>h.sb k (by rw[hS];exact A0A _ (A0A _ hk));have hz:(opM c e 11 A (nx x)).stk=A5b A (nx x).pop.top (nx x).top :: S:=congrArg (_ :: ·) (by show x.stk.tail.tail=S;rw[hS];rfl);refine B7 h hd ?_ rfl (fun k hk=>?_)
  ·rw[hz];exact key _ _ (by simp[A3,A2,hl1];first|rfl|exact⟨rfl,by omega⟩|omega)
  ·rw[hz]at hk;rcases A0N.1 hk with rfl|hk
   ·exact A8p _ _ _
   ·exact hb k hk
 |12,_,_=>exact B7 (z:={ nx x with pc:=A.toNat }) h hd (key _ _ (by simp[A3];rfl)) rfl h.sb
 |13,_,_ =>
  show Inv c (opM c e 13 A (nx x));obtain⟨n,S,hS⟩:=K0 (x:=x) o3;have hl1:(x.stk.length:Int)=(S.length:Int)+1:=by rw[hS];simp
  have hb:=fun k hk=>h.sb k (by rw[hS];exact A0A _ hk);have hb1:=h.sb n (by rw[hS];exact A0D);show Inv c (if (nx x).top=0 then { (nx x).pop with pc:=A.toNat } else (nx x).pop);split
  ·refine B7 h hd ?_ rfl (fun k hk=>?_)
   ·show Rch c A.toNat (((nx x).pop.stk.length:Nat):Int);rw[C5 hS];exact key _ _ (by simp[A3,hl1])
   ·have hk':k∈(nx x).pop.stk:=hk;rw[C5 hS]at hk';exact hb k hk'
  ·refine B7 h hd ?_ rfl (fun k hk=>?_)
   ·rw[C5 hS];exact key _ _ (by simp[A3,hl1];exact .inl rfl)
   ·rw[C5 hS]at hk;exact hb k hk
 |14,_,_ =>
  show Inv c (opM c e 14 A (nx x));obtain⟨n,S,hS⟩:=K0 (x:=x) o3;have hl1:(x.stk.length:Int)=(S.length:Int)+1:=by rw[hS];simp
  have hb:=fun k hk=>h.sb k (by rw[hS];exact A0A _ hk);have hb1:=h.sb n (by rw[hS];exact A0D);show Inv c (if (nx x).top<=0 then { (nx x).pop with pc:=A.toNat } else (nx x).pop.push ((nx x).top-1));rw[A0l hS];split
  ·refine B7 h hd ?_ rfl (fun k hk=>?_)
   ·show Rch c A.toNat (((nx x).pop.stk.length:Nat):Int);rw[C5 hS];exact key _ _ (by simp[A3,hl1])
   ·have hk':k∈(nx x).pop.stk:=hk;rw[C5 hS]at hk';exact hb k hk'
  ·rename_i hn;have hz:((nx x).pop.push (n-1)).stk=(n-1) :: S:=congrArg (_ :: ·) (C5 hS);refine B7 h hd ?_ rfl (fun k hk=>?_)
   ·rw[hz];exact key _ _ (by simp[A3,hl1];exact .inl rfl)
   ·rw[hz]at hk;rcases A0N.1 hk with rfl|hk
    ·have:=hb1.1;have:=hb1.2;exact⟨by omega,by omega⟩
    ·exact hb k hk
 |15,_,_ =>
  show Inv c (opM c e 15 A (nx x));obtain⟨n,S,hS⟩:=K0 (x:=x) o3;have hl1:(x.stk.length:Int)=(S.length:Int)+1:=by rw[hS];simp
  have hb:=fun k hk=>h.sb k (by rw[hS];exact A0A _ hk);have hb1:=h.sb n (by rw[hS];exact A0D);have hz:(opM c e 15 A (nx x)).stk=S:=C5 hS;refine B7 h hd ?_ rfl (fun k hk=>?_)
  ·rw[hz];exact key _ _ (by simp[A3,A2,hl1];rfl)
  ·rw[hz]at hk;exact hb k hk
 |19,_,_ =>
  show Inv c (opM c e 19 A (nx x));obtain⟨n,S,hS⟩:=K0 (x:=x) o3;have hl1:(x.stk.length:Int)=(S.length:Int)+1:=by rw[hS];simp
  have hb:=fun k hk=>h.sb k (by rw[hS];exact A0A _ hk);have hb1:=h.sb n (by rw[hS];exact A0D);have hz:(opM c e 19 A (nx x)).stk=S:=C5 hS;refine B7 h hd ?_ rfl (fun k hk=>?_)
  ·rw[hz];exact key _ _ (by simp[A3,A2,hl1];rfl)
  ·rw[hz]at hk;exact hb k hk
 |21,_,_ =>
  show Inv c (opM c e 21 A (nx x));obtain⟨n,S,hS⟩:=K0 (x:=x) o3;have hl1:(x.stk.length:Int)=(S.length:Int)+1:=by rw[hS];simp
  have hb:=fun k hk=>h.sb k (by rw[hS];exact A0A _ hk);have hb1:=h.sb n (by rw[hS];exact A0D);have hz:(opM c e 21 A (nx x)).stk=S:=C5 hS;refine B7 h hd ?_ rfl (fun k hk=>?_)
  ·rw[hz];exact key _ _ (by simp[A3,A2,hl1];rfl)
  ·rw[hz]at hk;exact hb k hk
 |29,_,_ =>
  show Inv c (opM c e 29 A (nx x));obtain⟨n,S,hS⟩:=K0 (x:=x) o3;have hl1:(x.stk.length:Int)=(S.length:Int)+1:=by rw[hS];simp
  have hb:=fun k hk=>h.sb k (by rw[hS];exact A0A _ hk);have hb1:=h.sb n (by rw[hS];exact A0D);have hz:(opM c e 29 A (nx x)).stk=S:=C5 hS;refine B7 h hd ?_ rfl (fun k hk=>?_)
  ·rw[hz];exact key _ _ (by simp[A3,A2,hl1];rfl)
  ·rw[hz]at hk;exact hb k hk
 |20,_,_ =>
  show Inv c (opM c e 20 A (nx x));obtain⟨n,n2,S,hS⟩:=A5n (x:=x) o3;have hl1:(x.stk.length:Int)=(S.length:Int)+2:=by rw[hS];simp;omega
  have hb:=fun k hk=>h.sb k (by rw[hS];exact A0A _ (A0A _ hk));have hz:(opM c e 20 A (nx x)).stk=S:=by show x.stk.tail.tail=S;rw[hS];rfl
  refine B7 h hd ?_ rfl (fun k hk=>?_)
  ·rw[hz];exact key _ _ (by simp[A3,A2,hl1];first|rfl|exact⟨rfl,by omega⟩|omega)
  ·rw[hz]at hk;exact hb k hk
 |31,_,_ =>
  show Inv c (opM c e 31 A (nx x));have h0:(x.stk.length:Int)=0:=Classical.byContradiction fun hne=>o4 ⟨rfl,hne⟩;have h1:x.stk=[]:=A1T (by omega);exact⟨fun hd'=>(by cases hd'),h.vl,h.sb,h.vb,fun _=>h1⟩
 |16,_,_=>exact B7 (z:=opM c e 16 A (nx x)) h hd (key _ _ (by simp[A3,A2];exact⟨rfl,rfl⟩)) rfl h.sb
 |17,_,_=>exact B7 (z:=opM c e 17 A (nx x)) h hd (key _ _ (by simp[A3,A2];exact⟨rfl,rfl⟩)) rfl h.sb
 |18,_,_=>exact B7 (z:=opM c e 18 A (nx x)) h hd (key _ _ (by simp[A3,A2];exact⟨rfl,rfl⟩)) rfl h.sb
 |22,_,_=>exact B7 (z:=opM c e 22 A (nx x)) h hd (key _ _ (by simp[A3,A2];exact⟨rfl,rfl⟩)) rfl h.sb
 |23,_,_=>exact B7 (z:=opM c e 23 A (nx x)) h hd (key _ _ (by simp[A3,A2];exact⟨rfl,rfl⟩)) rfl h.sb
 |24,_,_=>exact B7 (z:=opM c e 24 A (nx x)) h hd (key _ _ (by simp[A3,A2];exact⟨rfl,rfl⟩)) rfl h.sb
 |25,_,_=>exact B7 (z:=opM c e 25 A (nx x)) h hd (key _ _ (by simp[A3,A2];exact⟨rfl,rfl⟩)) rfl h.sb
 |26,_,_=>exact B7 (z:=opM c e 26 A (nx x)) h hd (key _ _ (by simp[A3,A2];exact⟨rfl,rfl⟩)) rfl h.sb
 |27,_,_=>exact B7 (z:=opM c e 27 A (nx x)) h hd (key _ _ (by simp[A3,A2];exact⟨rfl,rfl⟩)) rfl h.sb
 |28,_,_=>exact B7 (z:=opM c e 28 A (nx x)) h hd (key _ _ (by simp[A3,A2];exact⟨rfl,rfl⟩)) rfl h.sb
 |30,_,_=>exact B7 (z:=opM c e 30 A (nx x)) h hd (key _ _ (by simp[A3,A2];exact⟨rfl,rfl⟩)) rfl h.sb
end
def exM(c:Prg)(e:Envr):Nat->Mch->Nat->Mch × Nat
 |0,x,n=>(x,n)
 |f+1,x,n=>if x.done=true\/x.effs.length>256 then (x,n) else exM c e f (C8 c e x) (n+1)
def J5(e:Envr)(p:Nat):Mch:=⟨p,false,e.vars,[],[]⟩
def P8(c:Prg)(e:Envr)(at_ b:Int):Int:=if I8 c e=false then 1 else if c.entries.any (fun x=>decide (x.pos=at_))=false then 54 else if b<0\/b>1000 then 5 else 0
def F3(c:Prg)(e:Envr)(at_ b:Int):List Int × List Eff × Nat × Int :=
 if P8 c e at_ b≠0 then ([],[],0,P8 c e at_ b)
 else if (exM c e b.toNat (J5 e at_.toNat) 0).1.done=false\/(exM c e b.toNat (J5 e at_.toNat) 0).1.effs.length>256 then ([],[],0,52)
 else ((exM c e b.toNat (J5 e at_.toNat) 0).1.vars,(exM c e b.toNat (J5 e at_.toNat) 0).1.effs,(exM c e b.toNat (J5 e at_.toNat) 0).2,0)
abbrev P5(l:List Eff):DV:=.lst (l.map Eff.v)
def exV(q:List Int × List Eff × Nat × Int):DV:=.tup [I9 q.1,P5 q.2.1,I64 (q.2.2.1:Int),I64 q.2.2.2]
theorem V0{c:Prg}{e:Envr}{f n:Nat}{x:Mch}(h:f=0\/x.done=true\/x.effs.length>256):exM c e f x n=(x,n):=by
 cases f with
 |zero=>rfl
 |succ f=>rw[exM,if_pos (h.resolve_left (by omega))]
theorem B1n{c:Prg}{e:Envr}{f n:Nat}{x:Mch}(h1:x.done=false)(h2:x.effs.length<=256):exM c e (f+1) x n=exM c e f (C8 c e x) (n+1):=by
 rw[exM,if_neg (by rw[h1];simp;omega)]
theorem A6c{c:Prg}{e:Envr}{p:Nat}(hE:EnvOk c e){x:Ent}(hx:x∈c.entries)(hp:x.pos=(p:Int)):Inv c (J5 e p):=by
 have h:=Rch.ent hx;rw[hp,A1I]at h;exact⟨fun _=>h,hE.vl,fun n hn=>(by cases hn),hE.vb,fun _=>rfl⟩
def Few(k:Nat)(y:Mch):Prop:=y.effs.length<=k
theorem A8a{k:Nat}{p:Prop}[Decidable p]{a b:Mch}(ha:Few k a)(hb:Few k b):Few k (if p then a else b):=by
 by_cases h:p
 ·rw[if_pos h];exact ha
 ·rw[if_neg h];exact hb
theorem V3{c:Prg}{e:Envr}{x:Mch}:(C8 c e x).effs.length<=x.effs.length+1:=by
 show Few (x.effs.length+1) (C8 c e x);unfold C8 opM;have hp:∀ y:Mch,y.effs=x.effs->Few (x.effs.length+1) y:=fun y h=>by show y.effs.length<=_;rw[h];omega
 have ha:∀ (y:Mch) (f:Eff),y.effs=x.effs->Few (x.effs.length+1) (y.ask f):=fun y f h=>by show (y.effs++[f]).length<=_;rw[h];simp
 repeat' (first|refine A8a ?_ ?_|exact ha _ _ rfl|exact hp _ rfl)
theorem A6z{c:Prg}{e:Envr}{at_ b:Int}(h:P8 c e at_ b=0):EnvOk c e/\0<=b/\b<=1000/\∃ x∈c.entries,x.pos=at_/\0<=at_:=by
 unfold P8 at h;split at h
 ·cases h
 rename_i h1;split at h
 ·cases h
 rename_i h2;split at h
 ·cases h
 rename_i h3;have hE:=EnvOk.of (by simpa using h1);simp only[Bool.not_eq_false,List.any_eq_true,A0J]at h2;obtain⟨x,hx,hp⟩:=h2;obtain⟨hH,hj,hl⟩:=T6 hE.val;have:=A2u hj x hx;exact⟨hE,by omega,by omega,x,hx,hp,by omega⟩
section
variable {c:Prg} {e:Envr} {x:Mch} {m v cc:Nat} {so eo:Option Nat} {junk:List DV} {M:Blk}
theorem FzL.same3{id:Nat}{b:Blk}{x y:DV}(h:Fz id b x y)(r:List DV):FzL id b [.tup (x :: r)] [.tup (y :: r)]:=.cons _ _ _ _ (.tup _ _ (.cons _ _ _ _ h (FzL.refl _))) .nil
theorem A6o{n:Nat}(h:MN m v so eo x cc)(hl:x.vars.length=n)(r:List DV):GL (VR x m v so eo junk M) [.tup (.slc v 0 n :: r)] ((VR x m v so eo junk M).del v) [.tup (I9 x.vars :: r)] :=
 GL.frzS (id:=v) (Q2 h) rfl (fun j=>by
  by_cases e:j=v
  ·subst e;exact .inl A0a
  ·exact .inr ⟨e,S0 e⟩) (FzL.same3 (A0d (u:=1) (by simpa using hl) (X8 _) ⟨[],by simp[O1]⟩) r)
theorem B1g(h:MN m v so eo x cc)(n d:DV):∃ H2,GL (VR x m v so eo junk M) [.tup [.slc v 0 x.vars.length,C7 eo x.effs.length,n,d]] H2 [.tup [I9 x.vars,P5 x.effs,n,d]]:=by
 cases heo:eo with
 |none =>
  subst heo;refine⟨_,(A6o h rfl _).trans (GL.view fun ρ vs hA=>?_)⟩;refine V7 (fun w hw=>?_) vs hA;obtain⟨b,rfl,hB⟩:=hw.tup_inv;refine .tup _ _ (by rw[<- hB.1];rfl) (fun i x' y' hx hy=>?_);rcases i with _|_|_|_|i
  ·cases hx;exact hB.2 0 _ y' rfl hy
  ·cases hx;have:=hB.2 1 _ y' rfl hy;show VRel _ (.lst (x.effs.map Eff.v)) _;rw[h.en rfl];exact this.snil_lst
  ·cases hx;exact hB.2 2 _ y' rfl hy
  ·cases hx;exact hB.2 3 _ y' rfl hy
  ·cases hx
 |some i =>
  subst heo;obtain⟨e1,e2,e3⟩:=h.eb i rfl;refine⟨_,(A6o h rfl _).trans (GL.one (id:=i) (b:=⟨5,true,M9 x.effs⟩) (by rw[S0 e2];exact A5e (junk:=junk) (M:=M) rfl) rfl (.cons _ _ _ _ (.tup _ _ (.cons _ _ _ _ (.same _) (.cons _ _ _ _ (A0d (u:=5) (by simp) (A1l _) ⟨[],by simp[M9]⟩) (FzL.refl _)))) .nil))⟩
end
inductive Ex where
 |mk (kind value:Int) (name:List UInt8) (args:List Ex) (pos:Int)
mutual
def Ex.v:Ex->DV
 |.mk k v n a p=>.agg [I64 k,I64 v,.str n,.lst (Ex.vs a),I64 p]
def Ex.vs:List Ex->List DV
 |[]=>[]
 |e :: l=>Ex.v e :: Ex.vs l
end
theorem Ex.vs_map:∀ l:List Ex,Ex.vs l=l.map Ex.v
 |[]=>rfl
 |e :: l=>by rw[Ex.vs,Ex.vs_map l];rfl
abbrev B8e(l:List Ex):DV:=.lst (l.map Ex.v)
mutual
@[simp]theorem Ex.nl:∀ e:Ex,e.v.nl=true
 |.mk k v n a p=>by
  have:=Ex.nls a;rw[Ex.v];simp only[DV.nl,DV.nlL,this,Bool.and_true]
theorem Ex.nls:∀ l:List Ex,DV.nlL (Ex.vs l)=true
 |[]=>rfl
 |e :: l=>by rw[Ex.vs,DV.nlL,Ex.nl e,Ex.nls l];rfl
end
@[simp]theorem A7n(l:List Ex):DV.nlL (l.map Ex.v)=true:=by rw[<- Ex.vs_map];exact Ex.nls l
inductive St where
 |mk (kind:Int) (name text:List UInt8) (args:List Ex) (thn els:List St) (pos:Int)
mutual
def St.v:St->DV
 |.mk k n t a x y p=>.agg [I64 k,.str n,.str t,B8e a,.lst (St.vs x),.lst (St.vs y),I64 p]
def St.vs:List St->List DV
 |[]=>[]
 |e :: l=>St.v e :: St.vs l
end
theorem St.vs_map:∀ l:List St,St.vs l=l.map St.v
 |[]=>rfl
 |e :: l=>by rw[St.vs,St.vs_map l];rfl
abbrev B5y(l:List St):DV:=.lst (l.map St.v)
mutual
@[simp]theorem St.nl:∀ e:St,e.v.nl=true
 |.mk k n t a x y p=>by
  have h1:=A7n a;have h2:=St.nls x;have h3:=St.nls y;rw[St.v];simp only[DV.nl,DV.nlL,h1,h2,h3,Bool.and_true]
theorem St.nls:∀ l:List St,DV.nlL (St.vs l)=true
 |[]=>rfl
 |e :: l=>by rw[St.vs,DV.nlL,St.nl e,St.nls l];rfl
end
@[simp]theorem A7l(l:List St):DV.nlL (l.map St.v)=true:=by rw[<- St.vs_map];exact St.nls l
structure Dc where
 kind:Int
 name:List UInt8
 value:Int
 pos:Int
deriving DecidableEq
abbrev Dc.v(d:Dc):DV:=.agg [I64 d.kind,.str d.name,I64 d.value,I64 d.pos]
structure Hd where
 trig:Int
 name:List UInt8
 body:List St
 pos:Int
abbrev Hd.v(h:Hd):DV:=.agg [I64 h.trig,.str h.name,B5y h.body,I64 h.pos]
abbrev B7n(l:List Hd):DV:=.lst (l.map Hd.v)
structure Md where
 name:List UInt8
 prio:Int
 hds:List Hd
 pos:Int
abbrev Md.v(m:Md):DV:=.agg [.str m.name,I64 m.prio,B7n m.hds,I64 m.pos]
structure Ru where
 decls:List Dc
 modes:List Md
@[simp]theorem B5r(l:List Dc):DV.nlL (l.map Dc.v)=true:=F6 (fun _=>rfl) l
@[simp]theorem A7m(l:List Hd):DV.nlL (l.map Hd.v)=true:=F6 (fun h=>by simp[DV.nl,DV.nlL,A7l]) l
@[simp]theorem B5q(l:List Md):DV.nlL (l.map Md.v)=true:=F6 (fun h=>by simp[DV.nl,DV.nlL,A7m]) l
section
variable (L:List Tok) (E:Int)
end
section
variable (L:List Tok) (E:Int)
end
def T0:Tok:=⟨0,[],0,0⟩
def cnD(l:List Dc)(k:Int):Nat:=l.countP (fun d=>d.kind == k)
def cnR(r:Ru)(k:Int):Nat:=if k=9 then r.modes.length else cnD r.decls k
def lkD(pre:List Dc):List Dc->List UInt8->Option (Int × Int)
 |[],_=>none
 |d :: l,n=>if d.name=n then some (d.kind,if d.kind<6 then d.value else (cnR ⟨pre,[]⟩ d.kind:Int)) else lkD (pre++[d]) l n
def lkM(i:Nat):List Md->List UInt8->Option (Int × Int)
 |[],_=>none
 |m :: l,n=>if m.name=n then some (9,(i:Int)) else lkM (i+1) l n
def B3l(r:Ru)(n:List UInt8):Int × Int:=match lkD [] r.decls n with
 |some q=>q
 |none=>match lkM 0 r.modes n with
  |some q=>q
  |none=>(0,0)
mutual
def hE(h:Int):Ex->List Int
 |.mk k v n a p=>hEs h a++[h+(a.length:Int)]
def hEs(h:Int):List Ex->List Int
 |[]=>[]
 |x :: l=>hE h x++hEs (h+1) l
end
mutual
def hS(h:Int):St->List Int
 |.mk k n t a x y _ =>
  if k=2 then (if y.length=0 then hEs h a++((h+1) :: hB h x) else hEs h a++((h+1) :: (hB h x++(h :: hB h y))))
  else if k=3 then hEs h a++((h+1) :: (hB (h+1) x++[h+1]))
  else hEs h a++[h+(a.length:Int)]
def hB(h:Int):List St->List Int
 |[]=>[]
 |s :: l=>hS h s++hB h l
end
section
variable (nm:List UInt8->Int)
end
section
variable {nm:List UInt8->Int} {I:List Ins} {Hs:List Int}
end
def SmK(r r':Ru):Prop:=∀ n,(B3l r n).1=(B3l r' n).1
section
variable {r r':Ru} (h:SmK r r')
include h
end
def z0(q:Int × Int):Int × Int:=(0,q.2)
section
variable {r r':Ru} (h:SmK r' r)
include h
end
def B5f(q:Prg × Int × Int):DV:=.tup [q.1.v,I64 q.2.1,I64 q.2.2]
theorem B5a{g:Bool}{a b c d a' b' c' d':Int}{s t:List UInt8}:A4u g [0,0,0,0,2] (.agg [I64 a,I64 b,I64 c,I64 d,.str s]) (.agg [I64 a',I64 b',I64 c',I64 d',.str t])=some (.bool (g != (a == a' && (b == b' && (c == c' && (d == d' && s == t)))))):=by
 simp only[A4u,F1,R3,if_true];generalize (a == a')=p;generalize (b == b')=q;generalize (c == c')=r;generalize (d == d')=u;generalize (s == t)=v;cases p<;>cases q<;>cases r<;>cases u<;>cases v<;>rfl
end Go.Pb
namespace Go.Proofs.YtkkjpohaffjecaaGreatDoor
instance tabI:Go.Sym.Tab:=⟨[(0,fun r=>r=(Lib.pow10Tab.map fun z=>Value.int .u64 z).toArray),(1,fun r=>r=(Lib.asciiSpaceTab.map fun z=>Value.int .u8 z).toArray),(7,fun r => ∃ te pe,r = #[.iface te pe])]⟩
end Go.Proofs.YtkkjpohaffjecaaGreatDoor
set_option maxHeartbeats 4000000
set_option maxRecDepth 100000
namespace Go.Proofs.YtkkjpohaffjecaaGreatDoor
open Go.Eng (IC IOper DReg IFn G8)
open Go.Sym
theorem A1:Tryz.prog.follows .mixedOrders=true:=by kernel_rfl
end Go.Proofs.YtkkjpohaffjecaaGreatDoor
end
