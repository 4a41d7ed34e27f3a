/-
  HELPERS of the claim: part 4 of its texts.
-/
import Derived.Test.YtenmhfknbopmeaaGreatDoorCmtc
import Derived.ReadAgain
import Derived.ChangeBears
import Derived.Deep.Slices
import Derived.Below
import Derived.OpenShut
import Derived.Lib.LaidTab
import Derived.Lib.ParseIntB
import Derived.Lib.Bytealg
import Derived.KernelRfl
import Derived.Lib.Join
noncomputable section
set_option linter.unusedVariables false
set_option linter.unusedSectionVars false
set_option linter.unusedSimpArgs false
namespace Go.Sym
variable [Go.Sym.Tab]
open Go.RowKit Go.Pb Go.Deep
section
variable {H:Type} {enc:TypeId × Value->H} {P:Program} {T:TypeId->Prop} {W W':World} {hT:TabOk W}
theorem arg_kept(K:Kids P T)(hz:∀t e,T t->P.underlying t=some (.slice e)->0<P.cellsOf e)(hb:Below W.heap.size W W'){sp:Nat->Bool}:
  ∀ {ts:List TypeId} {vs:List Value} {ds:List (DataW H)} {ps:List MemPlace},(∀t∈ts,T t)->DataW.TrodAll enc P W 0 (λ_=>true) true ts vs ds ps->(∀p∈ps,sp p.block=true)->DataW.TrodAll enc P W' 0 sp true ts vs ds ps
 |[],[],[],_,_,h,_=>h
 |t::ts,v::vs,d::ds,ps,hT,⟨p,q,h1,h2,e⟩,hs=>by
  have hlt:=h1;refine⟨p,q,?_,arg_kept K hz hb (λt ht=>hT t (A1C.2 (Or.inr ht))) h2 (λx hx=>hs x (by rw[e];exact A4H _ hx)),e⟩;have h3:=h1.respare K hz (hT _ (A1C.2 (Or.inl rfl))) (spare':=sp) (λx hx=>hs x (by rw[e];exact A3K _ hx));obtain⟨n,hn⟩:=h3;obtain⟨m,hm⟩:=h1;exact⟨n,DataW.trod_carry n _ _ _ hn λx hx=>hb.same (DataW.trod_lt m _ _ _ hm x hx)⟩
theorem u8_of{n:Int}(h:(Lit.int .u8 n).wf=true):n=((UInt8.ofNat n.toNat).toNat:Int):=by
 have:=bounds_u8 h;simp;omega
theorem open_bytes{t e:TypeId}{v:Value}{d:DataW H}{ps:List MemPlace}(ht:P.underlying t=some (.slice e))(he:P.underlying e=some (.int .u8))(hc:P.cellsOf e=1)
  (h:DataW.Trod enc P W 0 (λ_=>true) true t v d ps) (hv:v.cells = #[v]):∃l:List UInt8,l.length<=9223372036854775807/\VRel (topR W hT) (.lst (bytesC l)) v:=by
 obtain⟨n,hn⟩:=h;rcases open_slice1 ht hc hn with ⟨h1, -⟩|⟨a,len,cap,m,n',V,D,Pl,h1,h2,h3,h4,h5,h6,h7⟩
 ·rw[hv]at h1;have:v=.slice none 0 0:=by simpa using h1
  subst this;exact⟨[],by simp,.lnil0⟩
 ·rw[hv]at h1;have hva:v=.slice (some a) len cap:=by simpa using h1
  subst hva;simp only[if_true]at h5;have hk:∀i,i<len->∃k:Int,V i=.int .u8 k/\(Lit.int .u8 k).wf=true:=by
   intro i hi;obtain⟨k,q1,q2,q3⟩:=DataW.trod_int he (h7 i (by omega)).2;exact⟨k,by simpa using q1,q3⟩
  by_cases hl0:len=0
  ·subst hl0;exact⟨[],by simp,.lnil a cap⟩
  have hcell:=(h7 0 (by omega)).1;have hadd0:a.add 0=a:=by simp[Addr.add]
  rw[hadd0]at hcell;obtain⟨b,off,spot⟩:=a;have hspot:spot=none:=by
   simp only[World.cell?]at hcell;split at hcell
   ·split at hcell
    ·cases hcell
    ·rename_i h;cases spot with
     |none=>rfl
     |some s=>simp at h
   ·cases hcell
  subst hspot;have hrow:∃row ty fr,W.heap[b]? = some (.cells row ty fr):=by
   simp only[World.cell?]at hcell;split at hcell
   ·rename_i row ty fr h;exact⟨row,ty,fr,h⟩
   ·cases hcell
  obtain⟨row,ty,fr,hb⟩:=hrow;have hget:∀i,i<len->row[off+i]? = some (V i):=by
   intro i hi;have h8:=(h7 i (by omega)).1;have e1:(⟨b,off,none⟩:Addr).add i=⟨b,off+i,none⟩:=by
    unfold Addr.add;split
    ·rename_i h0;subst h0;rfl
    ·rfl
   rw[e1]at h8;simp only[World.cell?,hb]at h8;exact h8
  obtain⟨F,hF⟩:∃F:Nat->UInt8, ∀i,i<len->V i=.int .u8 ((F i).toNat:Int):=by
   have:∀i, ∃f:UInt8,i<len->V i=.int .u8 (f.toNat:Int):=λi=>by
    by_cases hi:i<len
    ·obtain⟨k,q1,q2⟩:=hk i hi;exact⟨UInt8.ofNat k.toNat,λ_=>by rw[q1, <- u8_of q2]⟩
    ·exact⟨0,λh=>absurd h hi⟩
   exact⟨λi=>Classical.choose (this i),λi hi=>Classical.choose_spec (this i) hi⟩
  refine⟨(List.range len).map F,by simp only[A0C,List.length_range];simp only[maxLen]at h4;omega,?_⟩;have hcl:cellsL (bytesC ((List.range len).map F))=bytesC ((List.range len).map F):=A0t (λ_=>rfl) _;have hlen:(bytesC ((List.range len).map F)).length=len:=by rw[A5n];simp
  refine .lst _ _ 1 b off cap row (B9r hb) hlen.symm h3 h4 (λx hx=>by obtain⟨y, -,rfl⟩:=A1B.1 hx;rfl) ?_ ?_ ?_
  ·rw[hcl,hlen];have:=(A0Z.1 (hget (len-1) (by omega))).1;omega
  ·rw[hcl];intro x hx;obtain⟨y, -,rfl⟩:=A1B.1 hx;rfl
  ·rw[hcl];intro k x y hx hy;have hkl:k<len:=by have:=(A0N.1 hx).1;omega
   rw[hget k hkl,hF k hkl]at hy;cases hy;have hx2:(bytesC ((List.range len).map F))[k]? = some (DV.int .u8 ((F k).toNat:Int)):=by simp[bytesC,hkl]
   rw[hx2]at hx;cases hx;exact .int _ _
end
end Go.Sym
namespace Go.Pb
variable [Go.Sym.Tab]
open Go.Sym
abbrev Sm(n:Int):Prop := -4611686018427387904<=n/\n<=4611686018427387903
structure Bnd (c:Prg):Prop where
 ins:∀i∈c.instrs,Sm i.op/\Sm i.A
 ent:∀e∈c.entries,Sm e.mode/\Sm e.trigger/\Sm e.index/\Sm e.pos
 pri:∀n∈c.prios,Sm n
 var:∀n∈c.vars,Sm n
 tim:Sm c.timers
 evt:Sm c.events
 str:∀s∈c.strings,s.length<=32
theorem A0m{n lo hi:Int}(h:inM n lo hi=true)(h1 : -4611686018427387904<=lo)(h2:hi<=4611686018427387903):Sm n:=by
 simp only[inM,A0D,A0I]at h;omega
theorem E5j{op:Int}(h:(D2 op).2.2 ≠ -1):1<=op/\op<=31:=by
 by_cases h2:1<=op/\op<=31
 ·omega
 ·exfalso;apply h;have h101:¬op=1:=by omega
  have h102:¬op=2:=by omega
  have h103:¬op=3:=by omega
  have h104:¬op=4:=by omega
  have h105:¬op=5:=by omega
  have h106:¬op=6:=by omega
  have h107:¬op=7:=by omega
  have h108:¬op=8:=by omega
  have h109:¬op=9:=by omega
  have h110:¬op=10:=by omega
  have h111:¬op=11:=by omega
  have h112:¬op=12:=by omega
  have h113:¬op=13:=by omega
  have h114:¬op=14:=by omega
  have h115:¬op=15:=by omega
  have h116:¬op=16:=by omega
  have h117:¬op=17:=by omega
  have h118:¬op=18:=by omega
  have h119:¬op=19:=by omega
  have h120:¬op=20:=by omega
  have h121:¬op=21:=by omega
  have h122:¬op=22:=by omega
  have h123:¬op=23:=by omega
  have h124:¬op=24:=by omega
  have h125:¬op=25:=by omega
  have h126:¬op=26:=by omega
  have h127:¬op=27:=by omega
  have h128:¬op=28:=by omega
  have h129:¬op=29:=by omega
  have h130:¬op=30:=by omega
  have h131:¬op=31:=by omega
  have e:D2 op=(0,0, -1):=by
   unfold D2
   grind
  rw[e]
theorem Lim.dims{c:Prg}(h:N9 c=true):c.instrs.length<=4000/\c.strings.length<=200/\c.entries.length<=512/\c.prios.length<=16/\c.vars.length<=128/\0<=c.timers/\c.timers<=128/\0<=c.events/\c.events<=128:=by
 simp only[N9,inM,A0D,A0I]at h;omega
theorem D6f{c:Prg}(hL:N9 c=true){k a:Int}(hJ:k≠7)(h:G7 c k a=true):Sm a:=by
 obtain⟨d1,d2,d3,d4,d5,d6,d7,d8,d9⟩:=Lim.dims hL;by_cases e0:k=0
 ·subst e0;have h':decide (a=0)=true:=h;simp only[A0I]at h';exact⟨by omega,by omega⟩
 by_cases e1:k=1
 ·subst e1;exact A0m (lo:=(-2147483647)) (hi:=2147483647) h (by omega) (by omega)
 by_cases e2:k=2
 ·subst e2;exact A0m (lo:=0) (hi:=(c.vars.length-1)) h (by omega) (by omega)
 by_cases e3:k=3
 ·subst e3;exact A0m (lo:=0) (hi:=63) h (by omega) (by omega)
 by_cases e9:k=9
 ·subst e9;exact A0m (lo:=0) (hi:=63) h (by omega) (by omega)
 by_cases e4:k=4
 ·subst e4;exact A0m (lo:=0) (hi:=(c.prios.length-1)) h (by omega) (by omega)
 by_cases e5:k=5
 ·subst e5;exact A0m (lo:=0) (hi:=(c.timers-1)) h (by omega) (by omega)
 by_cases e6:k=6
 ·subst e6;exact A0m (lo:=12) (hi:=24) h (by omega) (by omega)
 by_cases e8:k=8
 ·subst e8;exact A0m (lo:=0) (hi:=31) h (by omega) (by omega)
 by_cases e10:k=10
 ·subst e10;exact A0m (lo:=0) (hi:=(c.events-1)) h (by omega) (by omega)
 by_cases e11:k=11
 ·subst e11;exact A0m (lo:=0) (hi:=(c.strings.length-1)) h (by omega) (by omega)
 have:G7 c k a=false:=by
  unfold G7;rw[if_neg e0,if_neg e1,if_neg e2,if_neg e3,if_neg e9,if_neg e4,if_neg e5,if_neg e6,if_neg hJ,if_neg e8,if_neg e10,if_neg e11]
 grind
theorem Bnd.of{c:Prg}(hL:N9 c=true)(hp:Z3 c=true)(hj:J2 c=true):Bnd c:=by
 obtain⟨d1,d2,d3,d4,d5,d6,d7,d8,d9⟩:=Lim.dims hL;simp only[Z3,A0D,A0S]at hp;obtain⟨⟨⟨⟨p1,p2⟩,p3⟩,p4⟩,p5⟩:=hp;refine⟨λi hi=>?_,λe he=>?_,λn hn=>A0m (p2 n hn) (by omega) (by omega),λn hn=>A0m (p3 n hn) (by omega) (by omega),⟨by omega,by omega⟩,⟨by omega,by omega⟩,λs hs=>?_⟩
 ·have h:=p5 i hi;have h7:=C4k hj i hi;have hk:(D2 i.op).2.2 ≠ -1:=by
   intro e;rw[D3,e]at h;trivial
  obtain⟨o1,o2⟩:=E5j hk;refine⟨⟨by omega,by omega⟩,?_⟩;by_cases hJ:(D2 i.op).2.2=7
  ·have hop:i.op=12\/i.op=13\/i.op=14:=by
    have:=A6n i.op;rw[hJ]at this;simpa[isJ] using this
   omega
  ·exact D6f hL hJ h
 ·have h:=p4 e he;have h7:=D3b hj e he;simp only[A3g,A0D]at h;obtain⟨h1,h2⟩:=h;refine⟨A0m h1 (by omega) (by omega),?_,?_,⟨by omega,by omega⟩⟩
  ·grind
  ·repeat' split at h2
   all_goals first
    |exact A0m h2 (by omega) (by omega)
    |(simp only[A0I]at h2;exact⟨by omega,by omega⟩)
    |cases h2
 ·have h:=p1 s hs;simp only[P2,A0D,A0I]at h;omega
theorem C5p{c:Prg}(h0:K0 c=0):N9 c=true/\Z3 c=true/\J2 c=true/\Q3 c.entries=true/\∃h,hR c=some h:=by
 unfold K0 at h0;split at h0
 ·omega
 split at h0
 ·omega
 split at h0
 ·omega
 split at h0
 ·omega
 split at h0
 ·omega
 ·rename_i h1 h2 h3 h4 h5;refine⟨by grind,by grind,by grind,by grind,?_⟩;cases hh:hR c with
  |none=>grind
  |some h=>simp
theorem T3{s t:List UInt8}(h:s.length+t.length<=9223372036854775807):binR .add (.str s) (.str t)=some (.str (s++t)):=C9m (by assumption)
def A2r(d:Nat):UInt8:=UInt8.ofNat (48+d)
def B5r(n:Nat):List UInt8:=if n<10 then [A2r n] else B5r (n / 10)++[A2r (n%10)]
termination_by n
decreasing_by omega
theorem A9x{n:Nat}(h:n<10):B5r n=[A2r n]:=by rw[B5r,if_pos h]
theorem B5q{n:Nat}(h:¬n<10):B5r n=B5r (n / 10)++[A2r (n%10)]:=by rw[B5r,if_neg h]
theorem B8t:∀(k n:Nat),n<10 ^ (k+1)->(B5r n).length<=k+1
 |0,n,h=>by rw[A9x (by omega)];simp
 |k+1,n,h=>by
  by_cases h0:n<10
  ·rw[A9x h0];simp
  ·rw[B5q h0,A0A];have:=B8t k (n / 10) (by rw[Nat.pow_succ]at h;omega)
   grind
def A2s(n:Int):List UInt8:=if n<0 then 45::B5r n.natAbs else B5r n.natAbs
theorem B1r{n:Int}(h1 : -9223372036854775808<=n)(h2:n<=9223372036854775807):(A2s n).length<=21:=by
 have:=B8t 19 n.natAbs (by omega);unfold A2s;grind
theorem E3i{d:Nat}(h:d<10):IntKind.u8.wrap (IntKind.i64.wrap (48+(d:Int)))=((A2r d).toNat:Int):=by
 rw[w6z,wu8 (by omega) (by omega),A2r];simp;omega
def V6(n:Int):Nat:=n.natAbs%10
def A0j(n:Int):Nat:=n.natAbs / 10
theorem C4f(n:Int):V6 n<10:=by unfold V6;omega
theorem C4o{n:Int}(h:n≠0):A0j n<n.natAbs:=by unfold A0j;omega
theorem D5q{n:Int}(h:n<0):n.tdiv 10 = -((A0j n:Nat):Int):=by
 unfold A0j
 grind
theorem D5p{n:Int}(h:n<0):n.tmod 10 = -((V6 n:Nat):Int):=by
 unfold V6
 grind
theorem D5g{n:Int}(h:0<=n):n.tdiv 10=((A0j n:Nat):Int):=by
 unfold A0j
 grind
theorem D5f{n:Int}(h:0<=n):n.tmod 10=((V6 n:Nat):Int):=by
 unfold V6
 grind
theorem C7k{n:Int}(h:n<0)(h1:A0j n=0):A2s n=[45]++[A2r (V6 n)]:=by
 unfold A0j at h1;have h2:n.natAbs<10:=by omega
 have h3:V6 n=n.natAbs:=by unfold V6;omega
 rw[A2s,if_pos h,A9x h2,h3];rfl
theorem D3h{n:Int}(h:n<0)(h1:A0j n≠0):A2s n=A2s (-(A0j n:Int))++[A2r (V6 n)]:=by
 have h2:¬n.natAbs<10:=by unfold A0j at h1;omega
 rw[A2s,if_pos h,B5q h2,A2s,if_pos (by omega),Int.natAbs_neg,Int.natAbs_natCast];rfl
theorem D7a{n:Int}(h:0<=n)(h1:n<10):A2s n=[A2r (V6 n)]:=by
 have h3:V6 n=n.natAbs:=by unfold V6;omega
 rw[A2s,if_neg (by omega),A9x (by omega),h3]
theorem D7b{n:Int}(h:¬n<10):A2s n=A2s (A0j n:Int)++[A2r (V6 n)]:=by
 rw[A2s,if_neg (by omega),B5q (by omega),A2s,if_neg (by omega),Int.natAbs_natCast];rfl
structure Tok where
 kind:Int
 text:List UInt8
 value:Int
 pos:Int
deriving DecidableEq
abbrev Tok.v(t:Tok):DV:=.agg [I64 t.kind,.str t.text,I64 t.value,I64 t.pos]
abbrev C7(l:List Tok):DV:=.lst (l.map Tok.v)
theorem E9(l:List Tok):∀x∈l.map Tok.v,x.cells.length=4:=by
 intro x hx;obtain⟨y, -,rfl⟩:=A1B.1 hx;rfl
@[simp]theorem M6(l:List Tok):DV.nlL (l.map Tok.v)=true:=L3 (λ_=>rfl) l
def ltB(c:UInt8):Bool:=(decide (97<=c.toNat)&&decide (c.toNat<=122))||(decide (65<=c.toNat)&&decide (c.toNat<=90))
def dgB(c:UInt8):Bool:=decide (48<=c.toNat)&&decide (c.toNat<=57)
def ptB(c:UInt8):Bool:=ltB c||dgB c||decide (c.toNat=95)
def E1(p:UInt8->Bool):List UInt8->Nat
 |[]=>0
 |c::r=>if p c=true then E1 p r+1 else 0
theorem A0l(p:UInt8->Bool):∀s:List UInt8,E1 p s<=s.length
 |[]=>A0E _
 |c::r=>by
  have:=A0l p r;simp only[E1,A0F];grind
theorem A9n{p:UInt8->Bool}:∀ {s:List UInt8} {k:Nat} {c:UInt8},s[k]? = some c->k<=E1 p s->(p c=true->k+1<=E1 p s)/\(p c=false->E1 p s=k)
 |[],k,c,h,_=>by grind
 |x::r,0,c,h,_=>by
  cases h;simp only[E1]
  grind
 |x::r,k+1,c,h,hk=>by
  simp only[E1]at hk ⊢;split at hk
  ·rename_i hx;rw[if_pos hx];have:=A9n (p:=p) (s:=r) (k:=k) (c:=c) (by simpa using h) (by omega);exact⟨λh=>by have:=this.1 h;omega,λh=>by have:=this.2 h;omega⟩
  omega
theorem B6q{p:UInt8->Bool}{s:List UInt8}{k:Nat}(h:s.length<=k)(hk:k<=E1 p s):E1 p s=k:=by
 have:=A0l p s;omega
def A8w(c:UInt8):Bool:=decide (c.toNat=9)||decide (c.toNat=10)||decide (c.toNat=13)||decide (c.toNat=32)
def skM:Bool->List UInt8->Nat
 |_,[]=>0
 |true,c::r=>if c.toNat=10 then skM false r+1 else skM true r+1
 |false,c::r=>if A8w c=true then skM false r+1 else if c.toNat=35 then skM true r+1 else 0
theorem A1t:∀(b:Bool) (s:List UInt8),skM b s<=s.length
 |_,[]=>by simp[skM]
 |true,c::r=>by
  have h1:=A1t true r;have h2:=A1t false r;simp only[skM,A0F];grind
 |false,c::r=>by
  have h1:=A1t true r;have h2:=A1t false r;simp only[skM,A0F];grind
theorem B6s:∀(s:List UInt8),skM true s=E1 (λc=>decide (c.toNat≠10)) s+skM false (s.drop (E1 (λc=>decide (c.toNat≠10)) s))
 |[]=>by rfl
 |c::r=>by
  by_cases h:c.toNat=10
  ·simp[skM,E1,h,A8w]
  ·have ih:=B6s r;simp only[skM,E1,h,if_false,ne_eq,not_false_eq_true,decide_true,if_true,A4N]at ih ⊢;omega
def w8(l:List Nat):List UInt8:=l.map UInt8.ofNat
def F8:List (List UInt8):=[w8 [115,119,105,116,99,104],w8 [99,111,105,108],w8 [108,97,109,112],w8 [115,111,117,110,100],w8 [115,104,111,119],w8 [118,97,114],w8 [116,105,109,101,114],w8 [101,118,101,110,116],w8 [109,111,100,101],w8 [111,110],w8 [115,116,97,114,116],w8 [115,116,111,112],w8 [99,108,111,115,101],w8 [111,112,101,110],w8 [105,102],w8 [101,108,115,101],w8 [114,101,112,101,97,116],w8 [115,99,111,114,101],w8 [102,105,114,101],w8 [104,111,108,100],w8 [114,101,108,101,97,115,101],w8 [108,105,103,104,116],w8 [98,108,105,110,107],w8 [98,101,103,105,110],w8 [101,110,100],w8 [112,111,115,116],w8 [112,108,97,121],w8 [114,117,110],w8 [104,97,108,116],w8 [116,101,120,116],w8 [99,111,110,115,117,109,101],w8 [99,108,111,115,101,100],w8 [97,99,116,105,118,101],w8 [108,101,102,116],w8 [112,108,97,121,101,114],w8 [98,97,108,108],w8 [116,114,117,101],w8 [102,97,108,115,101]]
def I6(s:List UInt8):Bool:=F8.contains s
def D7(s:List UInt8):Bool:=decide (1<=s.length)&&decide (s.length<=12)&&(match s with|c::_=>ltB c |[]=>false)&&decide (E1 ptB s=s.length) && !I6 s
def quM:List UInt8->Option (List UInt8 × Nat)
 |[]=>none
 |c::r =>
  if c.toNat=34 then some ([],1)
  else if c.toNat<32\/126<c.toNat then none
  else if c.toNat=92 then match r with
   |[]=>none
   |d::q=>if d.toNat=34\/d.toNat=92 then(quM q).map λx=>(d::x.1,x.2+2) else none
  else(quM r).map λx=>(c::x.1,x.2+1)
def U1(s:List UInt8):Nat:=s.foldl (λn c=>10*n+(c.toNat-48)) 0
theorem C6g{s:List UInt8}{k:Nat}{c:UInt8}(h:s[k]? = some c):U1 (s.take (k+1))=10*U1 (s.take k)+(c.toNat-48):=by
 unfold U1;rw[A0R,h,List.foldl_append];rfl
def B4h(c d:UInt8):Bool:=[(60,61),(62,61),(61,61),(33,61),(38,38),(124,124)].contains (c.toNat,d.toNat)
def B7g(c:UInt8):Bool:=[123,125,40,41,59,44,61,43,45,42,47,37,33,60,62].contains c.toNat
def Q5:List UInt8->Nat
 |c::d::_=>if B4h c d=true then 2 else if B7g c=true then 1 else 0
 |[c]=>if B7g c=true then 1 else 0
 |[]=>0
structure Nx where
 kind:Int
 text:List UInt8
 value:Int
 n:Nat
 err:Int
def nxE(e:Int):Nx:=⟨0,[],0,0,e⟩
def C9:List UInt8->Nx
 |[]=>nxE 47
 |c::r =>
  if ltB c=true then
   if 12<E1 ptB (c::r) then nxE 9 else⟨if I6 ((c::r).take (E1 ptB (c::r)))=true then 2 else 1,(c::r).take (E1 ptB (c::r)),0,E1 ptB (c::r),0⟩
  else if dgB c=true then
   if 1<E1 dgB (c::r)/\c.toNat=48 then nxE 47
   else if 2147483647<U1 ((c::r).take (E1 dgB (c::r))) then nxE 5
   else⟨3,[],(U1 ((c::r).take (E1 dgB (c::r))):Int),E1 dgB (c::r),0⟩
  else if c.toNat=34 then match quM r with
   |none=>nxE 48
   |some x=>if 32<x.1.length then nxE 9 else⟨4,x.1,0,x.2+1,0⟩
  else if Q5 (c::r)=0 then nxE 47 else⟨5,(c::r).take (Q5 (c::r)),0,Q5 (c::r),0⟩
def R6:Nat->List UInt8->Nat->List Tok->List Tok × Int × Int
 |0,_,_,acc=>(acc,0,0)
 |f+1,src,at_,acc =>
  if src.length<=at_ then(acc,0,0)
  else if(C9 (src.drop at_)).err≠0 then([],(at_:Int),(C9 (src.drop at_)).err)
  else R6 f src (at_+(C9 (src.drop at_)).n+skM false (src.drop (at_+(C9 (src.drop at_)).n)))
   (acc++[⟨(C9 (src.drop at_)).kind,(C9 (src.drop at_)).text,(C9 (src.drop at_)).value,(at_:Int)⟩])
def J0(s:List UInt8):List Tok × Int × Int:=if 20000<s.length then([],0,9) else R6 (s.length+1) s (skM false s) []
abbrev C9i(q:List Tok × Int × Int):DV:=.tup [C7 q.1,I64 q.2.1,I64 q.2.2]
theorem C9t:∀ {s t:List UInt8} {n:Nat},quM s=some (t,n)->1<=n/\n<=s.length/\t.length<=n
 |[],t,n,h=>by trivial
 |c::r,t,n,h=>by
  unfold quM at h;split at h
  ·grind
  ·split at h
   ·grind
   ·split at h
    ·cases r with
     |nil=>grind
     |cons d q =>
      simp only at h;split at h
      ·obtain⟨⟨t',n'⟩,h1,h2⟩:=A0V.1 h;have:=C9t h1;cases h2;simp only[A0F];omega
      grind
    ·obtain⟨⟨t',n'⟩,h1,h2⟩:=A0V.1 h;have:=C9t h1
     grind
theorem C9b:∀s:List UInt8,Q5 s<=s.length
 |[]=>by trivial
 |[c]=>by simp only[Q5];grind
 |c::d::r=>by simp only[Q5,A0F];grind
theorem B5d{s:List UInt8}(h:(C9 s).err=0):1<=(C9 s).n/\(C9 s).n<=s.length:=by
 cases s with
 |nil=>trivial
 |cons c r =>
  have hp:=A0l ptB (c::r);have hd:=A0l dgB (c::r);have hs:=C9b (c::r);simp only[C9]at h ⊢;split
  ·rename_i hc;rw[if_pos hc]at h;split
   ·rename_i h1;rw[if_pos h1]at h;trivial
   ·have:1<=E1 ptB (c::r):=by simp[E1,ptB,hc]
    grind
  ·rename_i hc;rw[if_neg hc]at h;split
   ·rename_i hc2;rw[if_pos hc2]at h;split
    ·rename_i h1;rw[if_pos h1]at h;trivial
    ·rename_i h1;rw[if_neg h1]at h;split
     ·rename_i h2;rw[if_pos h2]at h;trivial
     ·have:1<=E1 dgB (c::r):=by simp[E1,hc2]
      grind
   ·rename_i hc2;rw[if_neg hc2]at h;split
    ·rename_i hc3;rw[if_pos hc3]at h;cases hq:quM r with
     |none=>rw[hq]at h;trivial
     |some x =>
      obtain⟨t,n⟩:=x;rw[hq]at h;simp only at h ⊢;have:=C9t hq;split
      ·rename_i h1;rw[if_pos h1]at h;simp[nxE]at h
      grind
    ·rename_i hc3;rw[if_neg hc3]at h;split
     ·rename_i h1;rw[if_pos h1]at h;simp[nxE]at h
     grind
end Go.Pb
namespace Go.Sym
variable [Go.Sym.Tab]
open Go.RowKit Go.Pb Go.Deep Go.ChangeShapes
theorem B6j{P:Program}{w:World}{n:String}{g:Nat}{cs:Array Value}(e1:P.globalNamed n=some g)(e3:w.var? P n=some cs):B6k w g=some cs:=by
 unfold World.var? at e3;rw[e1,Option.bind_some]at e3;unfold B6k;split at e3
 ·rename_i r ty fr hh;cases e3;rw[hh]
 ·cases e3
theorem B1c{P:Program}{w:World}{n:String}{d:DataW Unit}:∀ {l:List (String × DataW Unit)} {ps:List MemPlace},DataW.LaidVars P w l ps->(n,d)∈l ->
  ∃g t cs fuel p,P.globalNamed n=some g/\(P.globals[g]?).map (·.type)=some t/\w.var? P n=some cs/\DataW.trod (λ_=>()) P w 0 (λ_=>true) false fuel t cs.toList=some (d,p)
 |[],ps,_,hm=>by cases hm
 |(n',d')::l,ps,h,hm=>by
  obtain⟨g,t,cs,fuel,p,q,h1,h2,h3,h4,h5, -⟩:=h;rcases A1C.1 hm with e|hm
  ·cases e;exact⟨g,t,cs,fuel,p,h1,h2,h3,h4⟩
  ·exact B1c h5 hm
theorem laid_tab{P:Program}{w:World}{n:String}{d:DataW Unit}{l:List (String × DataW Unit)}{g t e m:Nat}{k:IntKind}{zs:List Int}(h:laidMet P l w)(hm:(n,d)∈l)(hg:P.globalNamed n=some g)
  (ht:(P.globals[g]?).map (·.type)=some t) (hu:P.underlying t=some (.array m e)) (he:P.underlying e=some (.int k)) (hce:P.cellsOf e=1) (hct:P.cellsOf t=m) (hd:d=Lib.tabData k zs) :
  ∃r,B6k w g=some r/\r=(zs.map λz=>Value.int k z).toArray:=by
 obtain⟨ps,h1, -⟩:=h;obtain⟨g',t',cs,fuel,p,e1,e2,e3,e4⟩:=B1c h1 hm;rw[hg]at e1;cases e1;rw[ht]at e2;cases e2;rw[hd]at e4;have hc:=Lib.cells_of_tab hu he hce hct e4;exact⟨cs,B6j hg e3,Array.toList_inj.1 (hc.trans (by simp))⟩
theorem B6h{P:Program}{w:World}{fuel:Nat}{t:TypeId}{ms}{cs:List Value}{nm:String}{d:DataW Unit}{p:List MemPlace}(hu:P.underlying t=some (.interface ms))
  (h:DataW.trod (λ_=>()) P w 0 (λ_=>true) false fuel t cs=some (.iface nm d,p)):∃te pe,cs=[.iface te pe]:=by
 cases fuel with
 |zero=>simp[DataW.trod]at h
 |succ fuel =>
  simp only[DataW.trod,hu]at h;split at h<;>first|exact⟨_,_,rfl⟩|(simp_all;done)
theorem laid_err{P:Program}{w:World}{n:String}{nm:String}{d:DataW Unit}{l:List (String × DataW Unit)}{g t:Nat}{ms}(h:laidMet P l w)(hm:(n,DataW.iface nm d)∈l)(hg:P.globalNamed n=some g)
  (ht:(P.globals[g]?).map (·.type)=some t) (hu:P.underlying t=some (.interface ms)):∃r,B6k w g=some r/\∃te pe,r = #[.iface te pe]:=by
 obtain⟨ps,h1, -⟩:=h;obtain⟨g',t',cs,fuel,p,e1,e2,e3,e4⟩:=B1c h1 hm;rw[hg]at e1;cases e1;rw[ht]at e2;cases e2;obtain⟨te,pe,e5⟩:=B6h hu e4;exact⟨cs,B6j hg e3,te,pe,Array.toList_inj.1 e5⟩
section
variable {H:Type} {enc:TypeId × Value->H} {P:Program} {W W':World} {hT:TabOk W}
theorem open_u8{r:Reach}{b0:Nat}{t:TypeId}{v:Value}{d:DataW H}{ps:List MemPlace}(ht:P.underlying t=some (.int .u8))(hval:Value.okWide P W r b0 t v)(hd:DataW.Trod enc P W 0 (λ_=>true) true t v d ps):
  ∃u:UInt8,VRel (topR W hT) (.int .u8 (u.toNat:Int)) v:=by
 obtain⟨n,rfl, -, -,hw⟩:=open_int ht hval hd;have:=u8_of hw;rw[this];exact⟨_,.int _ _⟩
end
open Go.Eng (IC)
def B2o(p:Prop):Prop:=p
theorem I4{p:Prop}(h:B2o p):p:=h
theorem IW.stage{P:Program}{N:Nat}{x:IC}{T:Tm}{H:Hp}{c:Nat}{Q:Exit->St->Prop}{L:List (Nat × DV)}(hT:B7 L T)(h:IW P N x ⟨tm L,H,c⟩ Q):B2o (IW P N x ⟨T,H,c⟩ Q):=IW.weaken (C2j hT) (Sub.refl _) h
open Go.Eng (Opd FOp AOp EOp IOp IOper DReg IC RV IFn trC A8v L1 I5)
def pre:IC->List IC
 |.seq x y=>.seq x y::(pre x++pre y)
 |.cond o x y=>.cond o x y::(pre x++pre y)
 |.blk i x=>.blk i x::pre x
 |.loop x=>.loop x::pre x
 |x=>[x]
def szC:IC->Nat
 |.seq x y=>szC x+szC y+1
 |.cond o x y=>szC x+szC y+1
 |.blk i x=>szC x+1
 |.loop x=>szC x+1
 |x=>1
theorem D0c(t:IC):(pre t).length=szC t:=by
 induction t<;>simp_all[pre,szC]
def C0z(k:Nat):List Nat->List Nat
 |[]=>[k]
 |a::l=>match Nat.blt k a with
  |true=>k::a::l
  |false=>match Nat.beq k a with
   |true=>a::l
   |false=>a::C0z k l
def C5q:List Nat->List Nat->List Nat
 |[],m=>m
 |a::l,m=>C0z a (C5q l m)
def rmS(k:Nat):List Nat->List Nat
 |[]=>[]
 |a::l=>match Nat.beq k a with
  |true=>l
  |false=>a::rmS k l
def opS:Opd->List Nat
 |.t n=>[n]
 |_=>[]
def B4x:List IOper->List Nat->List Nat
 |[],out=>out
 |o::r,out=>C5q o.sees (match o.dst with
  |some d=>rmS d (B4x r out)
  |none=>B4x r out)
def slR:List RV->List Nat
 |[]=>[]
 |.tmp t::r=>C0z t (slR r)
 |.cell a _ _::r=>C0z a (slR r)
def upE(ex:Nat->List Nat)(i:Nat)(L:List Nat)(j:Nat):List Nat:=match Nat.beq i j with
 |true=>L
 |false=>ex j
def rgS:Eng.Rg->List Nat->List Nat
 |.bad,_=>[]
 |.r1 io m it,out=>B4x io (C0z m (rmS it out))
 |.r2 it n io,out=>C0z it (rmS n (B4x io out))
 |.r3 it e io,out=>C0z it (rmS e (B4x io out))
def lvC(rl:List Nat):IC->List Nat->(Nat->List Nat)->List Nat
 |.skip,out,_=>out
 |.exit i,_,ex=>ex i
 |.ret,_,_=>rl
 |.bad,_,_=>[]
 |.rg r,out,_=>rgS r out
 |.reg r,out,_=>B4x r out
 |.drw _ d,out,_=>B4x d.ops out
 |.seq x y,out,ex=>lvC rl x (lvC rl y out ex) ex
 |.cond o x y,out,ex=>C5q (opS o) (C5q (lvC rl x out ex) (lvC rl y out ex))
 |.blk i x,out,ex=>lvC rl x out (upE ex i out)
 |.loop x,_,ex=>lvC rl x [] ex
def chC(h:Nat->IC)(k:Nat):IC->IC
 |.skip=>.skip
 |.exit i=>.exit i
 |.ret=>.ret
 |.bad=>.bad
 |.rg r=>.rg r
 |.loop _=>.loop (h (k+1))
 |_=>h k
def D5t:Nat->List (Nat × Option (List Nat))->List IOper->Nat
 |k,(_,some [])::p,⟨_,.pur _,_⟩::r=>2 ^ k+D5t (k+1) p r
 |k,_::p,_::r=>D5t (k+1) p r
 |_,_,_=>0
def eqO:Option (List Nat)->Option (List Nat)->Bool
 |none,none=>true
 |some [],some []=>true
 |_,_=>false
def eqP:List (Nat × Option (List Nat))->List (Nat × Option (List Nat))->Bool
 |[],[]=>true
 |(a,x)::p,(b,y)::q=>Nat.beq a b&&eqO x y&&eqP p q
 |_,_=>false
theorem E3f{x y:Option (List Nat)}(h:eqO x y=true):x=y:=by
 unfold eqO at h;grind
theorem D2z:∀ {p q:List (Nat × Option (List Nat))},eqP p q=true->p=q
 |[],[],_=>rfl
 |(a,x)::p,(b,y)::q,h=>by
  simp only[eqP,A0D]at h;rw[A3U h.1.1,E3f h.1.2,D2z h.2]
 |[],_::_,h=>by trivial
 |_::_,[],h=>by trivial
def asM(r:List IOper)(p:List (Nat × Option (List Nat)))(m:Nat):Option Nat:=match eqP (B2e m 0 r) p with
 |true=>some m
 |false=>none
inductive PD where
 |S (r:List IOper) (y:IC) (L:List Nat)
 |E (r:List IOper) (L:List Nat)
 |P (r:List IOper) (y:IC) (e n:Nat) (L:List Nat)
 |F (r:List IOper) (e n:Nat) (L:List Nat)
 |D (r:List IOper) (y:IC) (p:List (Nat × Option (List Nat))) (n:Nat) (L:List Nat)
 |G (r:List IOper) (p:List (Nat × Option (List Nat))) (n:Nat) (L:List Nat)
 |C (x y z:IC) (o:Opd) (L:List Nat)
 |K (x z:IC) (o:Opd) (L:List Nat)
 |B (x y:IC) (i:Nat) (L:List Nat)
 |J (x:IC) (i:Nat) (L:List Nat)
 |Q (x y:IC) (L:List Nat)
 |X (x:IC)
def PD.ic:PD->IC
 |.S r y _=>.seq (.reg r) y
 |.E r _=>.reg r
 |.P r y e n _=>.seq (.drw n (dQ r e)) y
 |.F r e n _=>.drw n (dQ r e)
 |.D r y p n _=>.seq (.drw n ⟨r,[],p⟩) y
 |.G r p n _=>.drw n ⟨r,[],p⟩
 |.C x y z o _=>.seq (.cond o x z) y
 |.K x z o _=>.cond o x z
 |.B x y i _=>.seq (.blk i x) y
 |.J x i _=>.blk i x
 |.Q x y _=>.seq x y
 |.X x=>x
def fuC(h:Nat->IC)(k:Nat)(x y:IC)(L:List Nat):PD:=match x with
 |.reg r=>.S r y L
 |.drw n ⟨r,[],p⟩=>match asM r p (D5t 0 p r) with
  |some m=>.P r y m n L
  |none=>.D r y p n L
 |.cond o a b=>.C (chC h (k+1) a) y (chC h (k+1+szC a) b) o L
 |.blk i a=>.B (chC h (k+1) a) y i L
 |x=>.Q (chC h k x) y L
def C6d(h:Nat->IC)(k:Nat)(x:IC)(L:List Nat):PD:=match x with
 |.reg r=>.E r L
 |.drw n ⟨r,[],p⟩=>match asM r p (D5t 0 p r) with
  |some m=>.F r m n L
  |none=>.G r p n L
 |.cond o a b=>.K (chC h (k+1) a) (chC h (k+1+szC a) b) o L
 |.blk i a=>.J (chC h (k+1) a) i L
 |x=>.X x
def F0p:IC->Bool
 |.reg _=>true
 |.drw _ _=>true
 |.cond _ _ _=>true
 |.blk _ _=>true
 |_=>false
def tlC(b:Bool)(l:List (Nat × PD)):List (Nat × PD):=match b with
 |true=>l.tail
 |false=>l
def flC(h:Nat->IC)(rl:List Nat):IC->Nat->List Nat->(Nat->List Nat)->List Nat × List (Nat × PD)
 |.skip,_,out,_=>(out,[])
 |.exit i,_,_,ex=>(ex i,[])
 |.ret,_,_,_=>(rl,[])
 |.bad,_,_,_=>([],[])
 |.rg r,_,out,_=>(rgS r out,[])
 |.reg r,k,out,_=>match B4x r out with
  |L=>(L,[(k,C6d h k (.reg r) L)])
 |.drw n d,k,out,_=>match B4x d.ops out with
  |L=>(L,[(k,C6d h k (.drw n d) L)])
 |.seq x y,k,out,ex=>match flC h rl y (k+1+szC x) out ex with
  |(Ly,ly)=>match flC h rl x (k+1) Ly ex with
   |(Lx,lx)=>(Lx,(k,fuC h (k+1) x (chC h (k+1+szC x) y) Lx)::(tlC (F0p x) lx++ly))
 |.cond o x y,k,out,ex=>match flC h rl x (k+1) out ex with
  |(Lx,lx)=>match flC h rl y (k+1+szC x) out ex with
   |(Ly,ly)=>match C5q (opS o) (C5q Lx Ly) with
    |L=>(L,(k,C6d h k (.cond o x y) L)::(lx++ly))
 |.blk i x,k,out,ex=>match flC h rl x (k+1) out (upE ex i out) with
  |(L,l)=>(L,(k,C6d h k (.blk i x) L)::l)
 |.loop x,k,_,ex=>match lvC rl x [] ex with
  |L=>(L,(flC h rl x (k+1) L ex).2)
def Num(h:Nat->IC)(k:Nat)(t:IC):Prop:=∀j x,(pre t)[j]? = some x->h (k+j)=x
section
variable {h:Nat->IC} {k:Nat} {x y t:IC}
theorem Num.self(n:Num h k t):h k=t:=by
 have:=n 0 t (by cases t<;>simp[pre]);omega
theorem Num.sub{l:List IC}{i:Nat}(n:Num h k t)(e:∀j x,(pre y)[j]? = some x->(pre t)[i+j]? = some x):Num h (k+i) y:=λj x hx=>by
 rw[A3B];exact n (i+j) x (e j x hx)
theorem F1z{a:IC}{l r:List IC}(j:Nat)(z:IC)(hz:l[j]? = some z):(a::(l++r))[1+j]? = some z:=by
 grind
theorem D7w{a:IC}{l r:List IC}{n:Nat}(hn:l.length=n)(j:Nat)(z:IC)(hz:r[j]? = some z):(a::(l++r))[1+n+j]? = some z:=by
 grind
theorem Num.s1(n:Num h k (.seq x y)):Num h (k+1) x:=n.sub (l:=[]) λj z hz=>by rw[pre];grind
theorem Num.s2(n:Num h k (.seq x y)):Num h (k+1+szC x) y:=by
 rw[A3B];exact n.sub (l:=[]) λj z hz=>by rw[pre];exact D7w (D0c x) j z hz
theorem Num.c1{o:Opd}(n:Num h k (.cond o x y)):Num h (k+1) x:=n.sub (l:=[]) λj z hz=>by rw[pre];grind
theorem Num.c2{o:Opd}(n:Num h k (.cond o x y)):Num h (k+1+szC x) y:=by
 rw[A3B];exact n.sub (l:=[]) λj z hz=>by rw[pre];exact D7w (D0c x) j z hz
theorem Num.b1{i:Nat}(n:Num h k (.blk i x)):Num h (k+1) x:=n.sub (l:=[]) λj z hz=>by rw[pre,Nat.add_comm,A2J,hz]
theorem Num.l1(n:Num h k (.loop x)):Num h (k+1) x:=n.sub (l:=[]) λj z hz=>by rw[pre,Nat.add_comm,A2J,hz]
theorem A6w(n:Num h k t):chC h k t=t:=by
 cases t<;>simp only[chC]<;>first|rfl|exact n.self|rw[n.l1.self]
theorem D3w{r:List IOper}{p:List (Nat × Option (List Nat))}{m m':Nat}(e:asM r p m=some m'):B2e m' 0 r=p:=by
 unfold asM at e;split at e<;>cases e;rename_i q;exact D2z q
theorem B4z{L:List Nat}(n:Num h k x):(C6d h k x L).ic=x:=by
 unfold C6d;split
 ·rfl
 ·split
  ·rename_i m e;simp only[PD.ic,dQ,D3w e]
  ·rfl
 ·simp only[PD.ic,A6w n.c1,A6w n.c2]
 ·simp only[PD.ic,A6w n.b1]
 rfl
theorem E6u{L:List Nat}(n:Num h k x):(fuC h k x y L).ic=.seq x y:=by
 unfold fuC;split
 ·rfl
 ·split
  ·rename_i m e;simp only[PD.ic,dQ,D3w e]
  rfl
 ·simp only[PD.ic,A6w n.c1,A6w n.c2]
 ·simp only[PD.ic,A6w n.b1]
 ·simp only[PD.ic,A6w n]
theorem D9y{b:Bool}{l:List (Nat × PD)}{e:Nat × PD}(hm:e∈tlC b l):e∈l:=by
 unfold tlC at hm;split at hm
 ·exact List.mem_of_mem_tail hm
 omega
theorem E6x(rl:List Nat):∀(t:IC) (k:Nat) (out:List Nat) (ex:Nat->List Nat),Num h k t->∀e∈(flC h rl t k out ex).2,h e.1=e.2.ic:=by
 intro t
 induction t with
 |skip=>intro k out ex n e he;trivial
 |exit i=>intro k out ex n e he;trivial
 |ret=>intro k out ex n e he;trivial
 |bad=>intro k out ex n e he;trivial
 |rg r=>intro k out ex n e he;trivial
 |reg r=>intro k out ex n e he;simp only[flC,A1L]at he;subst he;simp only[B4z n];exact n.self
 |drw m d=>intro k out ex n e he;simp only[flC,A1L]at he;subst he;simp only[B4z n];exact n.self
 |seq x y ihx ihy =>
  intro k out ex n e he;simp only[flC,A1C,A1A]at he;rcases he with rfl|he|he
  ·simp only[E6u n.s1,A6w n.s2];exact n.self
  ·exact ihx _ _ _ n.s1 e (D9y he)
  ·exact ihy _ _ _ n.s2 e he
 |cond o x y ihx ihy =>
  intro k out ex n e he;simp only[flC,A1C,A1A]at he;rcases he with rfl|he|he
  ·simp only[B4z n];exact n.self
  ·exact ihx _ _ _ n.c1 e he
  ·exact ihy _ _ _ n.c2 e he
 |blk i x ih =>
  intro k out ex n e he;simp only[flC,A1C]at he;rcases he with rfl|he
  ·simp only[B4z n];exact n.self
  ·exact ih _ _ _ n.b1 e he
 |loop x ih =>
  intro k out ex n e he;simp only[flC]at he;exact ih _ _ _ n.l1 e he
end
inductive Ps where
 |h
 |o (p:Ps)
 |i (p:Ps)
def Ps.n:Ps->Nat
 |.h=>1
 |.o p=>2*p.n
 |.i p=>2*p.n+1
def Ps.s:Ps->Ps
 |.h=>.o .h
 |.o p=>.i p
 |.i p=>.o p.s
theorem Ps.s_n:∀p:Ps,p.s.n=p.n+1
 |.h=>rfl
 |.o p=>rfl
 |.i p=>by simp only[Ps.s,Ps.n,Ps.s_n p];rfl
def Ps.of:Nat->Ps
 |0=>.h
 |k+1=>(Ps.of k).s
theorem Ps.of_n:∀k:Nat,(Ps.of k).n=k+1
 |0=>rfl
 |k+1=>by rw[Ps.of,Ps.s_n,Ps.of_n k]
def Ps.frc:Ps->(Ps->IC)->IC
 |.h,K=>K .h
 |.o p,K=>Ps.frc p λq=>K (.o q)
 |.i p,K=>Ps.frc p λq=>K (.i q)
theorem Ps.frc_eq:∀(p:Ps) (K:Ps->IC),p.frc K=K p
 |.h,K=>rfl
 |.o p,K=>by rw[Ps.frc,Ps.frc_eq p]
 |.i p,K=>by rw[Ps.frc,Ps.frc_eq p]
def hk(h:Ps->IC)(k:Nat):IC:=(Ps.of k).frc h
inductive Tr where
 |e
 |d (x:Option PD) (l r:Tr)
def Tr.get:Tr->Ps->Option PD
 |.e,_=>none
 |.d x _ _,.h=>x
 |.d _ l _,.o p=>l.get p
 |.d _ _ r,.i p=>r.get p
def Tr.put(y:PD):Ps->Tr->Tr
 |.h,.e=>.d (some y) .e .e
 |.o p,.e=>.d none (Tr.put y p .e) .e
 |.i p,.e=>.d none .e (Tr.put y p .e)
 |.h,.d _ l r=>.d (some y) l r
 |.o p,.d x l r=>.d x (Tr.put y p l) r
 |.i p,.d x l r=>.d x l (Tr.put y p r)
theorem Tr.get_put(y:PD):∀(p:Ps) (t:Tr) (q:Ps) (z:PD),(Tr.put y p t).get q=some z->(q=p/\z=y)\/t.get q=some z:=by
 intro p
 induction p with
 |h=>intro t q z h;cases t<;>cases q<;>simp_all[Tr.put,Tr.get]
 |o p ih =>
  intro t q z h;cases t<;>cases q<;>simp only[Tr.put,Tr.get]at h ⊢ <;> first|exact .inr h|(cases h;done)|skip
  ·rcases ih _ _ _ h with ⟨rfl,rfl⟩|h
   ·exact .inl ⟨rfl,rfl⟩
   ·cases h
  grind
 |i p ih =>
  intro t q z h;cases t<;>cases q<;>simp only[Tr.put,Tr.get]at h ⊢ <;> first|exact .inr h|(cases h;done)|skip
  ·rcases ih _ _ _ h with ⟨rfl,rfl⟩|h
   ·exact .inl ⟨rfl,rfl⟩
   ·cases h
  grind
def E2a:List (Nat × PD)->Tr->Tr
 |[],t=>t
 |e::l,t=>E2a l (Tr.put e.2 (Ps.of e.1) t)
theorem B7q:∀(l:List (Nat × PD)) (t:Tr) (q:Ps) (z:PD),(E2a l t).get q=some z->(∃k,q=Ps.of k/\(k,z)∈l)\/t.get q=some z
 |[],t,q,z,h=>.inr h
 |e::l,t,q,z,h=>by
  rcases B7q l _ q z h with ⟨k,h1,h2⟩|h
  ·grind
  ·rcases Tr.get_put _ _ _ _ _ h with ⟨rfl,rfl⟩|h
   ·exact .inl ⟨e.1,rfl,A0J⟩
   grind
def pz(P:Program)(f:Nat)(p:Ps):IC:=match(P.funcs[f]?).bind (A8v P) with
 |some i=>(pre i.body).getD (p.n-1) .bad
 |none=>.bad
theorem C9u{P:Program}{f:Nat}{i:IFn}(h:L1 P f i):Num (hk (pz P f)) 0 i.body:=λj x hx=>by
 rw[hk,Ps.frc_eq];unfold pz;unfold L1 at h;rw[h];simp only[A1J,A1K,Ps.of_n,A4E,hx,A4I]
inductive TD where
 |mk (n:Nat) (rs:List RV) (top:IC) (l:Tr)
 |no
def TD.l:TD->Tr
 |.mk _ _ _ l=>l
 |.no=>.e
def mkT(h:Ps->IC)(i:IFn):TD:=.mk i.n i.res (chC (hk h) 0 i.body) (E2a (flC (hk h) (slR i.res) i.body 0 (slR i.res) (λ_=>[])).2 .e)
structure XT (P:Program) (f:Nat) where
 d:(Ps->IC)->TD
 i:IFn
 hi:L1 P f i
 hd:∀h,mkT h i=d h
class FT (P:Program) (f:Nat) (D:outParam ((Ps->IC)->TD)):Prop where
 of:∃i,L1 P f i/\∀h,mkT h i=D h
theorem XT.ft{P:Program}{f:Nat}(x:XT P f):FT P f x.d:=⟨⟨x.i,x.hi,x.hd⟩⟩
theorem u8n(n:Nat):UInt8.ofBitVec (BitVec.ofNat 8 n)=UInt8.ofNat n:=rfl
abbrev mkF{P:Program}{f:Nat}{i:IFn}{d:(Ps->IC)->TD}(hi:L1 P f i:=by unfold L1;conv=>lhs;reduce;simp only[seval,u8n])(hd:∀h,mkT h i=d h:=by intro h;conv=>lhs;cbv):XT P f:=⟨d,i,hi,hd⟩
class LkI (t:Tr) (p:Ps) (x:outParam PD):Prop where
 get:t.get p=some x
instance lkTh {x:PD} {l r:Tr}:LkI (.d (some x) l r) .h x:=⟨rfl⟩
instance lkTo {x:PD} {y:Option PD} {l r:Tr} {p:Ps} [k:LkI l p x]:LkI (.d y l r) (.o p) x:=⟨k.get⟩
instance lkTi {x:PD} {y:Option PD} {l r:Tr} {p:Ps} [k:LkI r p x]:LkI (.d y l r) (.i p) x:=⟨k.get⟩
class WDp (P:Program) (N:Nat) (u:PD) (r:outParam Rl):Prop where
 out:∀ {Q:Exit->St->Prop} {T:Tm} {H:Hp} {c:Nat},r P N Q T H c->IW P N u.ic ⟨T,H,c⟩ Q
section
variable {P:Program} {N n i e:Nat} {x y z:IC} {r:List IOper} {p:List (Nat × Option (List Nat))} {L:List Nat} {o:Opd}
instance dS:WDp P N (.S r y L) (rS r y L):=⟨mkS⟩
instance dE:WDp P N (.E r L) (rE r L):=⟨mkE⟩
instance dP:WDp P N (.P r y e n L) (rP r y n L):=⟨mkP (d:=dQ r e) (Z9 e r 0)⟩
instance dF:WDp P N (.F r e n L) (rPE r n L):=⟨E9j (d:=dQ r e) (Z9 e r 0)⟩
instance dD:WDp P N (.D r y p n L) (rD r p y n L):=⟨mkD (d:=⟨r,[],p⟩)⟩
instance dG:WDp P N (.G r p n L) (rDE r p n L):=⟨E9k (d:=⟨r,[],p⟩)⟩
instance dC:WDp P N (.C x y z o L) (rC o x z y L):=⟨mkC⟩
instance dK:WDp P N (.K x z o L) (rCE o x z L):=⟨E9l⟩
instance dB:WDp P N (.B x y i L) (rB i x y L):=⟨mkB⟩
instance dJ:WDp P N (.J x i L) (rBE i x L):=⟨E9m⟩
instance dQQ:WDp P N (.Q x y L) (rQ x y L):=⟨mkQ⟩
end
class LkD (t:TD) (p:Ps) (x:outParam PD):Prop where
 get:t.l.get p=some x
instance lkTd {n:Nat} {rs:List RV} {top:IC} {x:PD} {l:Tr} {p:Ps} [k:LkI l p x]:LkD (.mk n rs top l) p x:=⟨k.get⟩
section
variable {P:Program} {f:Nat} {D:(Ps->IC)->TD} [F:FT P f D]
theorem wz{p:Ps}{x:PD}(e:(D (pz P f)).l.get p=some x):pz P f p=x.ic:=by
 obtain⟨i,hi,hd⟩:=F.of;rw[<- hd]at e;simp only[mkT,TD.l]at e;rcases B7q _ _ _ _ e with ⟨k,rfl,h⟩|h
 ·have:=E6x (slR i.res) i.body 0 (slR i.res) (λ_=>[]) (C9u hi) _ h;rw[hk,Ps.frc_eq]at this;exact this
 trivial
instance wZ {N:Nat} {p:Ps} {x:PD} {w:Rl} [g:LkD (D (pz P f)) p x] [k:WDp P N x w]:WR P N (pz P f p) w:=⟨λh=>by rw[wz g.get];exact k.out h⟩
theorem FT.eqs{n:Nat}{rs:List RV}{top:IC}{l:Tr}(e:D (pz P f)=.mk n rs top l):L1 P f ⟨n,top,rs⟩:=by
 obtain⟨i,hi,hd⟩:=F.of;rw[<- hd]at e;simp only[mkT,A6w (C9u hi),TD.mk.injEq]at e;rw[<- e.1, <- e.2.1, <- e.2.2.1];omega
theorem PC.ofT(hm:P.follows .mixedOrders=true){n:Nat}{rs:List RV}{top:IC}{l:Tr}(e:D (pz P f)=.mk n rs top l){args:List DV}(hn:args.length<=n){r:DV}(na:DV.nlL args=true)(nr:r.nl=true)
  (h:IW P n top ⟨A2t args,nil,0⟩ (rt rs λv H' _ => ∃H2,GL H' [v] H2 [r])):PC P f args r :=
 PC.of hm (i:=⟨n,top,rs⟩) (FT.eqs e) hn na nr h
theorem AC.go(hm:P.follows .mixedOrders=true){n:Nat}{rs:List RV}{top:IC}{l:Tr}{args:List DV}{H:Hp}{c:Nat}{Q:DV->Hp->Nat->Prop}(h:(∀id,c<=id->H id=none)->IW P n top ⟨A2t args,H,c⟩ (rt rs λv H2 c2 => ∃v2 H3,GL H2 [v] H3 [v2]/\Q v2 H3 c2))(e:D (pz P f)=.mk n rs top l:=by rfl)(hn:args.length<=n:=by exact A0H rfl):AC P f args H c Q:=AC.body hm (i:=⟨n,top,rs⟩) (FT.eqs e) hn h
theorem PC.go(hm:P.follows .mixedOrders=true){n:Nat}{rs:List RV}{top:IC}{l:Tr}{args:List DV}{r:DV}(h:IW P n top ⟨A2t args,nil,0⟩ (rt rs λv H' _ => ∃H2,GL H' [v] H2 [r]))(e:D (pz P f)=.mk n rs top l:=by rfl)(hn:args.length<=n:=by exact A0H rfl)(na:DV.nlL args=true:=by first|(simp[DV.nlL,DV.nl];done)|rfl)(nr:r.nl=true:=by first|rfl|simp[DV.nlL,DV.nl]):PC P f args r:=PC.ofT hm e hn na nr h
theorem AC.bodyT(hm:P.follows .mixedOrders=true){n:Nat}{rs:List RV}{top:IC}{l:Tr}(e:D (pz P f)=.mk n rs top l){args:List DV}(hn:args.length<=n){H:Hp}{c:Nat}{Q:DV->Hp->Nat->Prop}
  (h:(∀id,c<=id->H id=none)->IW P n top ⟨A2t args,H,c⟩ (rt rs λv H' c' => ∃v2 H2,GL H' [v] H2 [v2]/\Q v2 H2 c')):AC P f args H c Q :=
 AC.body hm (i:=⟨n,top,rs⟩) (FT.eqs e) hn h
end
end Go.Sym
namespace Go.Pb
variable [Go.Sym.Tab]
open Go.Sym
def B7l(n:Nat)(s:List UInt8):Nat:=s.foldl (λn c=>10*n+(c.toNat-48)) n
theorem C3q:∀(s:List UInt8) (n:Nat),n<=B7l n s
 |[],n=>A0E _
 |c::r,n=>by
  have:=C3q r (10*n+(c.toNat-48));simp only[B7l,List.foldl_cons]at this ⊢;omega
theorem C6h(c:UInt8)(r:List UInt8)(n:Nat):B7l n (c::r)=B7l (10*n+(c.toNat-48)) r:=by rfl
theorem E5e{M acc d v w:Nat}(hM:M=18446744073709551615)(hd:d<=9)(hv:10*acc+d<=v)(hw:w=1844674407370955162):
  (w<=acc->M<v)/\(M<acc*10+d->M<v):=by
 omega
theorem C9w(M acc:Nat)(c:UInt8)(r:List UInt8):Lib.parseUintM M acc (c::r) =
  if 48<=c.toNat/\c.toNat<=57 then
   if 1844674407370955162<=acc then .range
   else if M<acc*10+(c.toNat-48) then .range
   else Lib.parseUintM M (acc*10+(c.toNat-48)) r
  else .syntax:=by rfl
theorem pum{M:Nat}(hM:M=18446744073709551615):∀(l:List UInt8) (acc:Nat),(∀c∈l,dgB c=true)->acc<=M ->
  Lib.parseUintM M acc l=if B7l acc l<=M then .ok (B7l acc l) else .range:=by
 intro l
 induction l with
 |nil =>
  intro acc h ha;rw[if_pos (show B7l acc []<=M from ha),Lib.parseUintM];rfl
 |cons c r ih =>
  intro acc h ha;have hc:=h c A0J;simp only[dgB,A0D,A0I]at hc;have hg:=C3q r (10*acc+(c.toNat-48));rw[C9w,if_pos hc,C6h]
  grind
theorem pib{l:List UInt8}(h:∀c∈l,dgB c=true)(h0:l≠[]):
  Lib.parseIntB 64 l=if U1 l<=9223372036854775807 then .ok (U1 l:Int) else .range:=by
 cases l with
 |nil=>grind
 |cons c r =>
  have hc:=h c A0J;simp only[dgB,A0D,A0I]at hc;have e1:¬c.toNat=43:=by omega
  have e2:¬c.toNat=45:=by omega
  have hp:=pum (M:=2 ^ 64-1) (by decide) (c::r) 0 h (A0P _);have hv:B7l 0 (c::r)=U1 (c::r):=rfl;rw[hv]at hp;unfold Lib.parseIntB;simp only[e1,e2,or_self,if_false,not_false_eq_true,true_and,false_and];unfold Lib.parseUintB
  grind
def A0h(l:List Ins):List DV:=cellsL (l.map Ins.v)
theorem A3c(a b:List Ins):A0h (a++b)=A0h a++A0h b:=by simp[A0h,C2]
theorem B1f(i:Ins):A0h [i]=[I64 i.op,I64 i.A]:=by rfl
theorem A3b(l:List Ins):(A0h l).length=l.length*2:=by
 unfold A0h;rw[C1 (u:=2)]
 ·simp
 ·intro x hx;obtain⟨y, -,rfl⟩:=A1B.1 hx;rfl
theorem B3v(l:List Ent):(cellsL (l.map Ent.v)).length=l.length*4:=by
 rw[C1 (u:=4)]
 ·simp
 ·intro x hx;obtain⟨y, -,rfl⟩:=A1B.1 hx;rfl
theorem P7(l:List (List UInt8)):∀x∈l.map DV.str,x.cells.length=1:=by
 intro x hx;obtain⟨y, -,rfl⟩:=A1B.1 hx;rfl
theorem P9{α:Type}{l:List α}(h:l=[]):l.length=0:=by grind
def delO(H:Hp):Option Nat->Hp
 |none=>H
 |some i=>H.del i
theorem N2{o:Option Nat}{n:Nat}(h:o=none->n=0):A6m (todoV o n)=some (I64 (n:Int)):=by
 cases o with
 |none=>rw[h rfl];rfl
 |some i=>rfl
theorem D4{H:Hp}{c sz bytes n m:Nat}{o:Option Nat}{cs src:List DV}(hn:o=none->n=0/\cs=[])(hb:∀i,o=some i->H i=some ⟨sz,true,cs⟩)(hl:cs.length=n*sz)(hm:1<=m)(h2:(n+m)*bytes<=140737488355328)(h3:n+m<=9223372036854775807):
  A8g H c sz bytes (todoV o n) m src=some (.slc c 0 (n+m),(delO H o).upd c ⟨sz,true,cs++src⟩,c+1):=by
 cases o with
 |none =>
  obtain⟨rfl,rfl⟩:=hn rfl;rw[B4k,A3t (by omega) (by grind) (by omega)];simp[delO]
 |some i=>rw[A7h,C9q,hb i rfl,A2g hl h2 h3];rfl
theorem A8{H:Hp}{o:Option Nat}{j:Nat}(h:∀i,o=some i->¬j=i):delO H o j=H j:=by
 cases o with
 |none=>rfl
 |some i=>exact G8 (h i rfl)
theorem B5{H:Hp}{o:Option Nat}{b:Blk}{j:Nat}(h:∀i,o=some i->¬j=i):optH H o b j=H j:=by
 cases o with
 |none=>rfl
 |some i=>exact h_ne (h i rfl)
section
variable {l:List UInt8} {k p:Nat} {S P V:DV} {I:List Ins} {E:List Ent} {o1 o2:Option Nat} {cc:Nat}
end
theorem B9d{a b:Nat}(h:((a:Int)==(b:Int))=true):a=b:=by grind
theorem A9b{a b:Nat}(h:((a:Int)==(b:Int))=false):a≠b:=λe=>by grind
theorem D7k{a b:Nat}(h:((a:Int) != (b:Int))=true):a≠b:=λe=>by grind
theorem E3t{a b:Nat}(h:((a:Int) != (b:Int))=false):a=b:=by
 grind
theorem C6w{a b:Nat}(h:decide ((a:Int)>(b:Int))=true):b<a:=by grind
theorem B2l{a b:Nat}(h:decide ((a:Int)>(b:Int))=false):¬b<a:=by grind
theorem O1{α:Type}{s:List α}{i:Nat}{c : α}(h:s[i]? = some c):s.drop i=c::s.drop (i+1):=by
 obtain⟨hi,rfl⟩:=A0N.1 h;simp
theorem E0e{s:List UInt8}{i:Nat}{c:UInt8}(h:s[i]? = some c)(hc:A8w c=true):skM false (s.drop i)=skM false (s.drop (i+1))+1:=by
 rw[O1 h];simp only[skM];grind
theorem E0g{s:List UInt8}{i:Nat}{c:UInt8}(h:s[i]? = some c)(hc:c.toNat=35):
  skM false (s.drop i)=E1 (λc=>decide (c.toNat≠10)) (s.drop i)+skM false (s.drop (i+E1 (λc=>decide (c.toNat≠10)) (s.drop i))):=by
 have hs:¬A8w c=true:=by simp[A8w,hc]
 have e1:skM false (s.drop i)=skM true (s.drop i):=by
  rw[O1 h];simp only[skM]
  grind
 rw[e1,B6s,A3Y]
theorem D4s{s:List UInt8}{i:Nat}{c:UInt8}(h:s[i]? = some c)(h1:¬A8w c=true)(h2:¬c.toNat=35):skM false (s.drop i)=0:=by
 rw[O1 h];simp only[skM];grind
theorem E0f{s:List UInt8}{i:Nat}(h:s.length<=i):skM false (s.drop i)=0:=by
 rw[A3R h];rfl
theorem D4t{s:List UInt8}{i:Nat}{c:UInt8}(h:s[i]? = some c)(hc:c.toNat=35):1<=E1 (λc=>decide (c.toNat≠10)) (s.drop i):=by
 rw[O1 h];simp only[E1];grind
def quA(acc:List UInt8)(k:Nat)(q:Option (List UInt8 × Nat)):Option (List UInt8 × Nat):=q.map λx=>(acc++x.1,x.2+k)
theorem Z2(c:UInt8)(r:List UInt8):quM (c::r)=if c.toNat=34 then some ([],1)
  else if c.toNat<32\/126<c.toNat then none
  else if c.toNat=92 then match r with
   |[]=>none
   |d::q=>if d.toNat=34\/d.toNat=92 then(quM q).map λx=>(d::x.1,x.2+2) else none
  else(quM r).map λx=>(c::x.1,x.2+1):=by rw[quM.eq_def];try rfl
theorem A6b{s acc:List UInt8}{k:Nat}{c:UInt8}(h:s[k]? = some c)(hc:c.toNat=34):quA acc k (quM (s.drop k))=some (acc,k+1):=by
 rw[O1 h,Z2,if_pos hc];simp[quA];omega
theorem B4s{s acc:List UInt8}{k:Nat}{c:UInt8}(h:s[k]? = some c)(h0:c.toNat≠34)(hc:c.toNat<32\/126<c.toNat):quA acc k (quM (s.drop k))=none:=by
 rw[O1 h,Z2,if_neg h0,if_pos hc];rfl
theorem E1f{s acc:List UInt8}{k:Nat}(h:s.length<=k):quA acc k (quM (s.drop k))=none:=by
 rw[A3R h,quM];rfl
theorem C3a{s acc:List UInt8}{k:Nat}{c:UInt8}(h:s[k]? = some c)(h0:c.toNat≠34)(h1:32<=c.toNat)(h2:c.toNat<=126)(h3:c.toNat≠92):
  quA acc k (quM (s.drop k))=quA (acc++[c]) (k+1) (quM (s.drop (k+1))):=by
 rw[O1 h,Z2,if_neg h0,if_neg (by omega),if_neg h3];cases quM (s.drop (k+1)) with
 |none=>rfl
 |some x=>simp[quA];omega
theorem C9r{s acc:List UInt8}{k:Nat}{c d:UInt8}(h:s[k]? = some c)(h3:c.toNat=92)(hd:s[k+1]? = some d)(h4:d.toNat=34\/d.toNat=92):
  quA acc k (quM (s.drop k))=quA (acc++[d]) (k+2) (quM (s.drop (k+2))):=by
 rw[O1 h,O1 hd,Z2,if_neg (by omega),if_neg (by omega),if_pos h3];simp only;rw[if_pos h4];cases quM (s.drop (k+1+1)) with
 |none=>rfl
 |some x=>simp[quA];omega
theorem C2z{s acc:List UInt8}{k:Nat}{c:UInt8}(h:s[k]? = some c)(h3:c.toNat=92)(hd:∀d,s[k+1]? = some d->d.toNat≠34/\d.toNat≠92):
  quA acc k (quM (s.drop k))=none:=by
 rw[O1 h];cases hq:s.drop (k+1) with
 |nil=>rw[Z2,if_neg (by omega),if_neg (by omega),if_pos h3];rfl
 |cons d q =>
  have h5:s[k+1]? = some d:=by
   have:=congrArg List.head? hq
   rwa [List.head?_drop]at this
  have h6:=hd d h5;rw[Z2,if_neg (by omega),if_neg (by omega),if_pos h3];simp only;rw[if_neg (by omega)];rfl
theorem C9p{H:Hp}{o:Option Nat}{u:Nat}{acc:List UInt8}(hn:o=none->acc=[])(hb:∀i,o=some i->H i=some ⟨u,true,bytesC acc⟩):A2o H (todoV o acc.length)=some (.str acc):=by
 cases o with
 |none=>rw[hn rfl];rfl
 |some i=>exact B1s (hb i rfl) rfl rfl
theorem A1s{X:Hp}{id:Nat}{b b':Blk}(h:b=b'):Sub (optH Sym.nil (some id) b) (X.upd id b'):=by
 intro j q hj;simp only[optH]at hj;by_cases e:j=id
 ·subst e;rw[A0]at hj ⊢;grind
 ·rw[h_ne e]at hj;cases hj
theorem C5y{X:Hp}{o:Option Nat}{c sz bytes n m:Nat}{cs src:List DV}{b2:Blk}(hn:o=none->n=0/\cs=[])(ho:∀i,o=some i->i<c)(hl:cs.length=n*sz)(hm:1<=m)
  (h2:(n+m)*bytes<=140737488355328) (h3:n+m<=9223372036854775807) :
  A8g ((optH X o ⟨sz,true,cs⟩).upd c b2) (c+1) sz bytes (todoV o n) m src=some (.slc (c+1) 0 (n+m),(delO ((optH X o ⟨sz,true,cs⟩).upd c b2) o).upd (c+1) ⟨sz,true,cs++src⟩,c+1+1) :=
 D4 hn (λi hi=>by have:=ho i hi;rw[hnO];subst hi;exact A0) hl hm h2 h3
theorem B7c{X:Hp}{o:Option Nat}{c:Nat}{acc:List UInt8}(hn:o=none->acc=[])(ho:∀i,o=some i->i<c)(hl:acc.length<=10000000)(b2:Blk)(x:UInt8):
  A8g ((optH X o ⟨1,true,bytesC acc⟩).upd c b2) (c+1) 1 1 (todoV o acc.length) 1 [.int .u8 (x.toNat:Int)]=some (.slc (c+1) 0 (acc.length+1),(delO ((optH X o ⟨1,true,bytesC acc⟩).upd c b2) o).upd (c+1) ⟨1,true,bytesC (acc++[x])⟩,c+1+1):=by
 rw[C1u];exact C5y (λe=>by rw[hn e];trivial) ho (B9c acc) (by omega) (by omega) (by omega)
theorem C9h(q:List Tok × Int × Int):(C9i q).nl=true:=by
 simp only[DV.nl,DV.nlL,M6,A2H]
theorem B7e{H:Hp}{a b:DV}:∃H2,GL H [.tup [.snil,a,b]] H2 [.tup [.lst [],a,b]] :=
 ⟨H,GL.view fun ρ vs hA=>⟨hA.1,λi x y hx hy=>by
  match i with
  |0 =>
   cases hx;have:=hA.2 0 _ y rfl hy;obtain⟨b',rfl,k1,k2⟩:=this.tup_inv;refine .tup _ _ k1 λj x' y' hx' hy'=>?_
   match j with
   |0=>cases hx';exact(k2 0 _ y' rfl hy').snil_lst
   |1=>grind
   |2=>grind
   |_+3=>grind
  |_+1=>grind⟩⟩
theorem B6u{H:Hp}{a b:Int}:∃H2,GL H [.tup [.snil,I64 a,I64 b]] H2 [C9i ([],a,b)]:=B7e
theorem D0e{o:Option Nat}{xs:List DV}{u n:Nat}{a b:DV}(hno:o=none->xs=[])(hl:xs.length=n)(hu:∀x∈xs,x.cells.length=u):
  ∃H2,GL (optH Sym.nil o ⟨u,true,cellsL xs⟩) [.tup [todoV o n,a,b]] H2 [.tup [.lst xs,a,b]]:=by
 cases o with
 |none=>rw[hno rfl];exact B7e
 |some i=>exact⟨nil,GL.one (id:=i) A0 rfl (.cons _ _ _ _ (.tup _ _ (.cons _ _ _ _ (P6 hl hu ⟨[],by simp⟩) (.cons _ _ _ _ (.same _) (.cons _ _ _ _ (.same _) .nil)))) .nil)⟩
theorem A2x{X:Hp}{o:Option Nat}{b:Blk}{i:Nat}(hi:o=some i):optH X o b i=some b:=by subst hi;exact A0
theorem u8_eq(c:UInt8)(n:Nat)(h:n<256):(c==UInt8.ofNat n)=decide (c.toNat=n):=by
 rw[A2G,A1T,decide_eq_true_iff, <- UInt8.toNat_inj];simp;omega
theorem D4h(c d:UInt8):B4h c d=([c,d] == [60,61] || [c,d] == [62,61] || [c,d] == [61,61] || [c,d] == [33,61] || [c,d] == [38,38] || [c,d] == [124,124]):=by
 have hk:∀a b:UInt8,([c,d] == [a,b])=(c==a&&d==b):=λa b=>by simp[List.cons_beq_cons]
 rw[hk,hk,hk,hk,hk,hk];have hu:∀(x:UInt8) (n:Nat),n<256->(x==UInt8.ofNat n)=(x.toNat==n):=λx n h=>by rw[u8_eq x n h];rfl
 have e:∀n:Nat,(OfNat.ofNat n:UInt8)=UInt8.ofNat n:=λ_=>rfl;show([(60,61),(62,61),(61,61),(33,61),(38,38),(124,124)]:List (Nat × Nat)).contains (c.toNat,d.toNat)=(c==UInt8.ofNat 60&&d==UInt8.ofNat 61||c==UInt8.ofNat 62&&d==UInt8.ofNat 61||c==UInt8.ofNat 61&&d==UInt8.ofNat 61||c==UInt8.ofNat 33&&d==UInt8.ofNat 61||c==UInt8.ofNat 38&&d==UInt8.ofNat 38||c==UInt8.ofNat 124&&d==UInt8.ofNat 124);rw[hu c 60 (by omega),hu c 61 (by omega),hu c 62 (by omega),hu c 33 (by omega),hu c 38 (by omega),hu c 124 (by omega),hu d 61 (by omega),hu d 38 (by omega),hu d 124 (by omega)]
 grind
inductive Ex where
 |mk (kind value:Int) (name:List UInt8) (args:List Ex) (pos:Int)
def Ex.kind:Ex->Int |.mk k _ _ _ _=>k
def Ex.value:Ex->Int |.mk _ v _ _ _=>v
def Ex.name:Ex->List UInt8 |.mk _ _ n _ _=>n
def Ex.args:Ex->List Ex |.mk _ _ _ a _=>a
def Ex.pos:Ex->Int |.mk _ _ _ _ p=>p
mutual
def Ex.v:Ex->DV
 |.mk k v n a p=>.agg [I64 k,I64 v,.str n,.lst (Ex.vs a),I64 p]
def Ex.vs:List Ex->List DV
 |[]=>[]
 |e::l=>Ex.v e::Ex.vs l
end
theorem Ex.vs_map:∀l:List Ex,Ex.vs l=l.map Ex.v
 |[]=>rfl
 |e::l=>by rw[Ex.vs,Ex.vs_map l];rfl
abbrev H9(l:List Ex):DV:=.lst (l.map Ex.v)
abbrev Ex.w(e:Ex):DV:=.agg [I64 e.kind,I64 e.value,.str e.name,H9 e.args,I64 e.pos]
theorem Ex.v_w(e:Ex):e.v=e.w:=by
 cases e with|mk k v n a p=>rw[Ex.v,Ex.vs_map];rfl
theorem A6t(l:List Ex):∀x∈l.map Ex.v,x.cells.length=5:=λx hx=>by
 obtain⟨y, -,rfl⟩:=A1B.1 hx;rw[Ex.v_w];rfl
mutual
@[simp]theorem Ex.nl:∀e:Ex,e.v.nl=true
 |.mk k v n a p=>by
  have:=Ex.nls a;rw[Ex.v];simp only[DV.nl,DV.nlL,this,A2H]
theorem Ex.nls:∀l:List Ex,DV.nlL (Ex.vs l)=true
 |[]=>rfl
 |e::l=>by rw[Ex.vs,DV.nlL,Ex.nl e,Ex.nls l];rfl
end
@[simp]theorem A2b(l:List Ex):DV.nlL (l.map Ex.v)=true:=by rw[<- Ex.vs_map];exact Ex.nls l
def Ex0:Ex:=.mk 0 0 [] [] 0
inductive St where
 |mk (kind:Int) (name text:List UInt8) (args:List Ex) (thn els:List St) (pos:Int)
def St.kind:St->Int |.mk k _ _ _ _ _ _=>k
def St.name:St->List UInt8 |.mk _ n _ _ _ _ _=>n
def St.text:St->List UInt8 |.mk _ _ t _ _ _ _=>t
def St.args:St->List Ex |.mk _ _ _ a _ _ _=>a
def St.thn:St->List St |.mk _ _ _ _ t _ _=>t
def St.els:St->List St |.mk _ _ _ _ _ e _=>e
def St.pos:St->Int |.mk _ _ _ _ _ _ p=>p
mutual
def St.v:St->DV
 |.mk k n t a x y p=>.agg [I64 k,.str n,.str t,H9 a,.lst (St.vs x),.lst (St.vs y),I64 p]
def St.vs:List St->List DV
 |[]=>[]
 |e::l=>St.v e::St.vs l
end
theorem St.vs_map:∀l:List St,St.vs l=l.map St.v
 |[]=>rfl
 |e::l=>by rw[St.vs,St.vs_map l];rfl
abbrev D5(l:List St):DV:=.lst (l.map St.v)
abbrev St.w(s:St):DV:=.agg [I64 s.kind,.str s.name,.str s.text,H9 s.args,D5 s.thn,D5 s.els,I64 s.pos]
theorem St.v_w(s:St):s.v=s.w:=by
 cases s with|mk k n t a x y p=>rw[St.v,St.vs_map,St.vs_map];rfl
theorem A9l(l:List St):∀x∈l.map St.v,x.cells.length=7:=λx hx=>by
 obtain⟨y, -,rfl⟩:=A1B.1 hx;rw[St.v_w];rfl
mutual
@[simp]theorem St.nl:∀e:St,e.v.nl=true
 |.mk k n t a x y p=>by
  have h1:=A2b a;have h2:=St.nls x;have h3:=St.nls y;rw[St.v];simp only[DV.nl,DV.nlL,h1,h2,h3,A2H]
theorem St.nls:∀l:List St,DV.nlL (St.vs l)=true
 |[]=>rfl
 |e::l=>by rw[St.vs,DV.nlL,St.nl e,St.nls l];rfl
end
@[simp]theorem X8(l:List St):DV.nlL (l.map St.v)=true:=by rw[<- St.vs_map];exact St.nls l
def St0:St:=.mk 0 [] [] [] [] [] 0
structure Dc where
 kind:Int
 name:List UInt8
 value:Int
 pos:Int
deriving DecidableEq
abbrev Dc.v(d:Dc):DV:=.agg [I64 d.kind,.str d.name,I64 d.value,I64 d.pos]
abbrev C3(l:List Dc):DV:=.lst (l.map Dc.v)
structure Hd where
 trig:Int
 name:List UInt8
 body:List St
 pos:Int
abbrev Hd.v(h:Hd):DV:=.agg [I64 h.trig,.str h.name,D5 h.body,I64 h.pos]
abbrev M5(l:List Hd):DV:=.lst (l.map Hd.v)
structure Md where
 name:List UInt8
 prio:Int
 hds:List Hd
 pos:Int
abbrev Md.v(m:Md):DV:=.agg [.str m.name,I64 m.prio,M5 m.hds,I64 m.pos]
abbrev C6(l:List Md):DV:=.lst (l.map Md.v)
structure Ru where
 decls:List Dc
 modes:List Md
abbrev Ru.v(r:Ru):DV:=.agg [C3 r.decls,C6 r.modes]
theorem A4e(l:List Dc):∀x∈l.map Dc.v,x.cells.length=4:=λx hx=>by obtain⟨y, -,rfl⟩:=A1B.1 hx;rfl
theorem A3z(l:List Hd):∀x∈l.map Hd.v,x.cells.length=4:=λx hx=>by obtain⟨y, -,rfl⟩:=A1B.1 hx;rfl
theorem A9q(l:List Md):∀x∈l.map Md.v,x.cells.length=4:=λx hx=>by obtain⟨y, -,rfl⟩:=A1B.1 hx;rfl
@[simp]theorem K7(l:List Dc):DV.nlL (l.map Dc.v)=true:=L3 (λ_=>rfl) l
@[simp]theorem B5c(l:List Hd):DV.nlL (l.map Hd.v)=true:=L3 (λh=>by simp[DV.nl,DV.nlL,X8]) l
@[simp]theorem K6(l:List Md):DV.nlL (l.map Md.v)=true:=L3 (λh=>by simp[DV.nl,DV.nlL,B5c]) l
theorem Ru.nl(r:Ru):r.v.nl=true:=by simp[DV.nl,DV.nlL,K7,K6]
structure Rd where
 i:Nat
 e:Int
 pos:Int
 ops:Int
 par:Int
section
variable (L:List Tok) (E:Int)
abbrev csR(s:Rd):List DV:=[C7 L,I64 E,I64 s.i,I64 s.e,I64 s.pos,I64 s.ops,I64 s.par]
abbrev rdR(s:Rd):Blk:=⟨0,true,csR L E s⟩
def okR(s:Rd):Bool:=s.e==0
def O0(s:Rd)(p e:Int):Rd:=if okR s=true then { s with e:=e,pos:=p } else s
def B8(s:Rd):Tok:=L.getD s.i ⟨0,[],0,E⟩
def isR(s:Rd)(t:List UInt8):Bool:=okR s&&((B8 L E s).kind==5||(B8 L E s).kind==2)&&(B8 L E s).text==t
def K9(s:Rd)(k:Int):Bool:=okR s&&(B8 L E s).kind==k
def R1(s:Rd):Rd:=O0 s (B8 L E s).pos 4
def D0(s:Rd)(n most e:Int):Rd:=if most<n then O0 s (B8 L E s).pos e else s
def A5(s:Rd):Rd:={ s with i:=s.i+1 }
def E4(s:Rd)(t:List UInt8):Rd:=if isR L E s t=false then R1 L E s else A5 s
def Y9:Tok:=⟨0,[],0,0⟩
def A7(s:Rd)(k:Int):Tok × Rd:=if K9 L E s k=false then(Y9,R1 L E s) else(B8 L E s,A5 s)
def A2h(s:Rd):Nat->List (List UInt8)->Int
 |_,[] => -1
 |k,t::l=>if isR L E s t=true then(k:Int) else A2h s (k+1) l
def C0(s:Rd)(l:List (List UInt8)):Int:=A2h L E s 0 l
end
def E8:List (List UInt8):=[[115,119,105,116,99,104],[99,111,105,108],[108,97,109,112],[115,111,117,110,100],[115,104,111,119],[118,97,114],[116,105,109,101,114],[101,118,101,110,116]]
def F5:List (List UInt8):=[[115,116,97,114,116],[115,116,111,112],[99,108,111,115,101],[111,112,101,110],[116,105,109,101,114],[101,118,101,110,116]]
def B9:List (List UInt8):=[[105,102],[114,101,112,101,97,116],[115,99,111,114,101],[102,105,114,101],[104,111,108,100],[114,101,108,101,97,115,101],[108,105,103,104,116],[98,108,105,110,107],[115,116,97,114,116],[115,116,111,112],[98,101,103,105,110],[101,110,100],[112,111,115,116],[112,108,97,121],[114,117,110],[104,97,108,116],[116,101,120,116],[99,111,110,115,117,109,101]]
def E0:List (List UInt8):=[[42],[47],[37],[43],[45],[60],[60,61],[62],[62,61],[61,61],[33,61],[38,38],[124,124]]
def B0(k:Int):Int:=if k=24 then 1 else if k=23 then 2 else if 17<=k/\k<=22 then 3 else if k=15\/k=16 then 4 else if 12<=k/\k<=14 then 5 else if k=10\/k=11 then 6 else 7
section
variable (L:List Tok) (E:Int)
def A7o:List Int:=[3,4,8,9,5,6,7]
def U0:List (List UInt8):=[[116,114,117,101],[102,97,108,115,101],[112,108,97,121,101,114],[98,97,108,108],[99,108,111,115,101,100],[97,99,116,105,118,101],[108,101,102,116]]
def R2:List (List UInt8):=[[45],[33],[40]]
def K3(s:Rd):Ex × Rd :=
 let t:=B8 L E s
 let k:=C0 L E s U0
 if k<0/\K9 L E s 3=false/\K9 L E s 1=false then(Ex0,R1 L E s)
 else
  let s1:Rd:={ s with ops:=s.ops+1 }
  let s2:=D0 L E s1 s1.ops 32 9
  if okR s2=false then(Ex0,s2)
  else
   let s3:=A5 s2
   if 0<=k then
    if 4<=k then(.mk (A7o.getD k.toNat 0) 0 (A7 L E s3 1).1.text [] t.pos,(A7 L E s3 1).2)
    else(.mk (A7o.getD k.toNat 0) 0 [] [] t.pos,s3)
   else if t.kind=3 then(.mk 1 t.value [] [] t.pos,s3)
   else(.mk 2 0 t.text [] t.pos,s3)
mutual
def M1:Nat->Int->Rd->Option (Ex × Rd)
 |0,_,_=>none
 |f+1,n,s=>if 5<n then A0e f s else
  match M1 f (n+1) s with
  |none=>none
  |some (e,s)=>V5 f n e s
def V5:Nat->Int->Ex->Rd->Option (Ex × Rd)
 |0,_,_,_=>none
 |f+1,n,e,s =>
  let k:=C0 L E s E0
  if k<0\/B0 (12+k)≠n then some (e,s) else
  match M1 f (n+1) (A5 s) with
  |none=>none
  |some (x,s1) =>
   let y:=Ex.mk (12+k) 0 [] [e,x] (B8 L E s).pos
   if n=3 then some (y,s1) else V5 f n y s1
def A0e:Nat->Rd->Option (Ex × Rd)
 |0,_=>none
 |f+1,s =>
  let t:=B8 L E s
  let k:=C0 L E s R2
  if k<0 then some (K3 L E s) else
  let s1:=D0 L E s (s.par+1) 16 50
  if okR s1=false then some (Ex0,s1) else
  let s2:Rd:={ s1 with i:=s1.i+1,par:=s1.par+1 }
  if k=2 then
   match M1 f 1 s2 with
   |none=>none
   |some (e,s3)=>let s4:=E4 L E s3 [41];some (e, { s4 with par:=s4.par-1 })
  else
   match A0e f s2 with
   |none=>none
   |some (e,s3)=>some (.mk (10+k) 0 [] [e] t.pos, { s3 with par:=s3.par-1 })
end
def S6(f:Nat)(s:Rd):Option (Ex × Rd):=M1 L E f 1 { s with ops:=0,par:=0 }
def O2(f:Nat)(k p:Int)(s:Rd):Option (St × Rd) :=
 if k=4 then
  match S6 L E f s with
  |none=>none
  |some (e,s1)=>some (.mk k [] [] [e] [] [] p,E4 L E s1 [59])
 else if k=18 then
  match S6 L E f (E4 L E (A7 L E s 4).2 [44]) with
  |none=>none
  |some (e,s1)=>some (.mk k [] (A7 L E s 4).1.text [e] [] [] p,E4 L E s1 [59])
 else if k=19 then some (.mk k [] [] [] [] [] p,E4 L E s [59])
 else
  let n:=(A7 L E s 1).1.text
  let s0:=(A7 L E s 1).2
  if k=8\/k=9\/k=10 then
   match S6 L E f s0 with
   |none=>none
   |some (e,s1) =>
    if k=9 then
     match S6 L E f (E4 L E s1 [44]) with
     |none=>none
     |some (e2,s2)=>some (.mk k n [] [e,e2] [] [] p,E4 L E s2 [59])
    else some (.mk k n [] [e] [] [] p,E4 L E s1 [59])
  else some (.mk k n [] [] [] [] p,E4 L E s0 [59])
mutual
def Q9:Nat->Int->Rd->Option (List St × Rd)
 |0,_,_=>none
 |f+1,d,s=>X5 f d [] (E4 L E s [123])
def X5:Nat->Int->List St->Rd->Option (List St × Rd)
 |0,_,_,_=>none
 |f+1,d,l,s =>
  if okR s=true/\isR L E s [125]=false then
   if C0 L E s B9<0/\K9 L E s 1=false then some ([],R1 L E s) else
   match X6 f d (D0 L E s ((l.length:Int)+1) 64 9) with
   |none=>none
   |some (x,s1)=>X5 f d (l++[x]) s1
  else some (l,E4 L E s [125])
def X6:Nat->Int->Rd->Option (St × Rd)
 |0,_,_=>none
 |f+1,d,s0 =>
  let s:=D0 L E s0 d 8 50
  if okR s=false then some (St0,s) else
  let p:=(B8 L E s).pos
  let k:=C0 L E s B9
  if k<0 then
   match S6 L E f (E4 L E (A7 L E s 1).2 [61]) with
   |none=>none
   |some (e,s1)=>some (.mk 1 (A7 L E s 1).1.text [] [e] [] [] p,E4 L E s1 [59])
  else
   let s1:=A5 s
   if k=0\/k=1 then
    match S6 L E f s1 with
    |none=>none
    |some (e,s2) =>
     match Q9 f (d+1) s2 with
     |none=>none
     |some (t,s3) =>
      if k=0/\isR L E s3 [101,108,115,101]=true then
       match X3 f d (A5 s3) with
       |none=>none
       |some (o,s4)=>some (.mk 2 [] [] [e] t o p,s4)
      else some (.mk (2+k) [] [] [e] t [] p,s3)
   else O2 L E f (2+k) p s1
def X3:Nat->Int->Rd->Option (List St × Rd)
 |0,_,_=>none
 |f+1,d,s =>
  if isR L E s [105,102]=true then
   match X6 f (d+1) s with
   |none=>none
   |some (x,s1)=>some ([x],s1)
  else Q9 f (d+1) s
end
def U5(k:Int)(s:Rd):Dc × Rd :=
 let p:=(B8 L E s).pos
 let s1:=A5 s
 let n:=(A7 L E s1 1).1.text
 let s2:=(A7 L E s1 1).2
 if k+1<=6 then
  let m:=k+1==6&&isR L E s2 [45]
  let s3:=if m=true then A5 s2 else s2
  let v:=(A7 L E s3 3).1.value
  (⟨1+k,n,if m=true then -v else v,p⟩,E4 L E (A7 L E s3 3).2 [59])
 else(⟨1+k,n,0,p⟩,E4 L E s2 [59])
def A1g:Nat->List Hd->Rd->Option (List Hd × Rd)
 |0,_,_=>none
 |f+1,l,s =>
  if okR s=true/\isR L E s [125]=false then
   if isR L E s [111,110]=false then some (l,R1 L E s) else
   let s1:=D0 L E s ((l.length:Int)+1) 32 9
   let p:=(B8 L E s1).pos
   let s2:=E4 L E s1 [111,110]
   let k:=C0 L E s2 F5
   if k<0 then some (l,R1 L E s2) else
   let s3:=A5 s2
   let n:=if 2<=k then(A7 L E s3 1).1.text else []
   let s4:=if 2<=k then(A7 L E s3 1).2 else s3
   match Q9 L E f 1 s4 with
   |none=>none
   |some (b,s5)=>A1g f (l++[⟨1+k,n,b,p⟩]) s5
  else some (l,E4 L E s [125])
def A6g(f:Nat)(s:Rd):Option (Md × Rd) :=
 let p:=(B8 L E s).pos
 let s1:=E4 L E s [109,111,100,101]
 let n:=(A7 L E s1 1).1.text
 let s2:=(A7 L E s1 1).2
 let v:=(A7 L E s2 3).1.value
 match A1g L E f [] (E4 L E (A7 L E s2 3).2 [123]) with
 |none=>none
 |some (l,s3)=>some (⟨n,v,l,p⟩,s3)
def A0f:Nat->List Dc->Rd->Option (List Dc × Rd)
 |0,_,_=>none
 |f+1,l,s =>
  let k:=C0 L E s E8
  if k<0 then some (l,s) else
  let s1:=D0 L E s ((l.length:Int)+1) 128 9
  if okR s1=true then A0f f (l++[(U5 L E k s1).1]) (U5 L E k s1).2 else A0f f l s1
def Z1:Nat->List Md->Rd->Option (List Md × Rd)
 |0,_,_=>none
 |f+1,l,s =>
  if okR s=true/\s.i<L.length then
   if isR L E s [109,111,100,101]=false then some (l,R1 L E s) else
   let s1:=D0 L E s ((l.length:Int)+1) 16 9
   if okR s1=true then
    match A6g L E f s1 with
    |none=>none
    |some (m,s2)=>Z1 f (l++[m]) s2
   else Z1 f l s1
  else some (l,s)
def B0k(f:Nat)(s:Rd):Option (Ru × Rd) :=
 match A0f L E f [] s with
 |none=>none
 |some (d,s1) =>
  match Z1 L E f [] s1 with
  |none=>none
  |some (m,s2)=>some (⟨d,m⟩,s2)
end
def A3(s:List UInt8):Tok:=⟨if I6 s=true then 2 else if D7 s=true then 1 else 5,s,0,0⟩
def D6(s:List UInt8):List Tok:=if D7 s=false then [Y9] else [⟨1,s,0,0⟩]
def V3(n:Int):List Tok:=if n<0\/2147483647<n then [Y9] else [⟨3,[],n,0⟩]
def txB(c:UInt8):Bool:=decide (32<=c.toNat)&&decide (c.toNat<=126)
def A2i(s:List UInt8):List Tok:=if s.all txB=false\/32<s.length then [Y9] else [⟨4,s,0,0⟩]
def F0(q:Int × List Tok)(least:Int):List Tok:=if B0 q.1<least then [A3 [40]]++q.2++[A3 [41]] else q.2
def L7(k v:Int)(n:List UInt8)(as1:List (Int × List Tok)):List Tok :=
 let lv:=B0 k
 if k=1 then V3 v
 else if k=2 then D6 n
 else if k=3 then [A3 [116,114,117,101]]
 else if k=4 then [A3 [102,97,108,115,101]]
 else if k=8 then [A3 [112,108,97,121,101,114]]
 else if k=9 then [A3 [98,97,108,108]]
 else if k=5 then [A3 [99,108,111,115,101,100]]++D6 n
 else if k=6 then [A3 [97,99,116,105,118,101]]++D6 n
 else if k=7 then [A3 [108,101,102,116]]++D6 n
 else match as1 with
  |[q]=>if lv=6 then [A3 (if k=10 then [45] else [33])]++F0 q 6 else [Y9]
  |[q,r]=>if lv<6 then F0 q (if lv=3 then 4 else lv)++[A3 (E0.getD (k-12).toNat [])]++F0 r (lv+1) else [Y9]
  |_=>[Y9]
mutual
def exT:Ex->List Tok
 |.mk k v n a p=>L7 k v n (B1l a)
def B1l:List Ex->List (Int × List Tok)
 |[]=>[]
 |e::l=>(e.kind,exT e)::B1l l
end
def agT(l:List Ex)(i:Nat):List Tok:=match l[i]? with
 |some e=>exT e
 |none=>[Y9]
mutual
def stT:St->List Tok
 |.mk k n t a x y p =>
  if k=1 then D6 n++[A3 [61]]++agT a 0++[A3 [59]]
  else if k<2\/19<k then [Y9]
  else
   let w:=A3 (B9.getD (k-2).toNat [])
   if k=2\/k=3 then
    let o:=[w]++agT a 0++([A3 [123]]++Q1 x++[A3 [125]])
    match y with
    |[]=>o
    |[s]=>if s.kind=2 then o++[A3 [101,108,115,101]]++stT s else o++[A3 [101,108,115,101]]++([A3 [123]]++stT s++[A3 [125]])
    |s::s2::r=>o++[A3 [101,108,115,101]]++([A3 [123]]++Q1 (s::s2::r)++[A3 [125]])
   else if k=4 then [w]++agT a 0++[A3 [59]]
   else if k=18 then [w]++A2i t++[A3 [44]]++agT a 0++[A3 [59]]
   else if k=8\/k=10 then [w]++D6 n++agT a 0++[A3 [59]]
   else if k=9 then [w]++D6 n++agT a 0++[A3 [44]]++agT a 1++[A3 [59]]
   else if k=19 then [w]++[A3 [59]]
   else [w]++D6 n++[A3 [59]]
def Q1:List St->List Tok
 |[]=>[]
 |s::l=>stT s++Q1 l
end
def blT(l:List St):List Tok:=[A3 [123]]++Q1 l++[A3 [125]]
def dcT(d:Dc):List Tok :=
 if d.kind<1\/8<d.kind then [Y9]
 else
  let o:=[A3 (E8.getD (d.kind-1).toNat [])]++D6 d.name
  (if 6<d.kind then o
  else if d.value<0 /\ -2147483647<=d.value/\d.kind=6 then o++[A3 [45]]++V3 (-d.value)
  else o++V3 d.value)++[A3 [59]]
def hdT(h:Hd):List Tok:=[A3 [111,110],A3 (F5.getD (h.trig-1).toNat [])]++(if 2<h.trig then D6 h.name else [])++blT h.body
def V9(h:Hd):Bool:=decide (h.trig<1)||decide (6<h.trig)
def mdT(m:Md):List Tok:=[A3 [109,111,100,101]]++D6 m.name++V3 m.prio++[A3 [123]]++m.hds.flatMap hdT++[A3 [125]]
def ruT(r:Ru):List Tok:=if(r.modes.any λm=>m.hds.any V9)=true then [Y9] else r.decls.flatMap dcT++r.modes.flatMap mdT
mutual
def Ex.plain:Ex->Ex
 |.mk k v n a p=>.mk k v n (Ex.plains a) 0
def Ex.plains:List Ex->List Ex
 |[]=>[]
 |e::l=>e.plain::Ex.plains l
end
mutual
def St.plain:St->St
 |.mk k n t a x y p=>.mk k n t (Ex.plains a) (St.plains x) (St.plains y) 0
def St.plains:List St->List St
 |[]=>[]
 |e::l=>e.plain::St.plains l
end
def Dc.plain(d:Dc):Dc:={ d with pos:=0 }
def Hd.plain(h:Hd):Hd:=⟨h.trig,h.name,St.plains h.body,0⟩
def Md.plain(m:Md):Md:=⟨m.name,m.prio,m.hds.map Hd.plain,0⟩
def Ru.plain(r:Ru):Ru:=⟨r.decls.map Dc.plain,r.modes.map Md.plain⟩
theorem Ex.plains_map:∀l:List Ex,Ex.plains l=l.map Ex.plain
 |[]=>rfl
 |e::l=>by rw[Ex.plains,Ex.plains_map l];rfl
theorem St.plains_map:∀l:List St,St.plains l=l.map St.plain
 |[]=>rfl
 |e::l=>by rw[St.plains,St.plains_map l];rfl
mutual
def B2n(p:Bool):Ex->Ex->Bool
 |.mk k v n a q,.mk k' v' n' a' q'=>k==k'&&(v==v'&&(n==n'&&((p||q==q')&&P1 p a a')))
def P1(p:Bool):List Ex->List Ex->Bool
 |[],[]=>true
 |e::l,e'::l'=>B2n p e e'&&P1 p l l'
 |_,_=>false
end
mutual
def B9u:St->St->Bool
 |.mk k n t a x y q,.mk k' n' t' a' x' y' q'=>k==k'&&(n==n'&&(t==t'&&(q==q'&&(P1 false a a'&&(N5 x x'&&N5 y y')))))
def N5:List St->List St->Bool
 |[],[]=>true
 |e::l,e'::l'=>B9u e e'&&N5 l l'
 |_,_=>false
end
mutual
theorem D2l:∀a b:Ex,B2n false a b=true↔a=b
 |.mk k v n a q,.mk k' v' n' a' q'=>by
  have:=A8c a a';simp only[B2n,A0D,A1T,Bool.false_or,this,Ex.mk.injEq]
  grind
theorem A8c:∀a b:List Ex,P1 false a b=true↔a=b
 |[],[]=>by trivial
 |[],_::_=>by simp[P1]
 |_::_,[]=>by simp[P1]
 |e::l,e'::l'=>by
  have h1:=D2l e e';have h2:=A8c l l';simp only[P1,A0D,h1,h2,List.cons.injEq]
end
mutual
theorem C8v:∀a b:St,B9u a b=true↔a=b
 |.mk k n t a x y q,.mk k' n' t' a' x' y' q'=>by
  have h1:=A8c a a';have h2:=A1e x x';have h3:=A1e y y';simp only[B9u,A0D,A1T,h1,h2,h3,St.mk.injEq]
  grind
theorem A1e:∀a b:List St,N5 a b=true↔a=b
 |[],[]=>by trivial
 |[],_::_=>by simp[N5]
 |_::_,[]=>by simp[N5]
 |e::l,e'::l'=>by
  have h1:=C8v e e';have h2:=A1e l l';simp only[N5,A0D,h1,h2,List.cons.injEq]
end
mutual
def Ex.sz:Ex->Nat
 |.mk k v n a p=>1+n.length+Ex.szs a
def Ex.szs:List Ex->Nat
 |[]=>0
 |e::l=>e.sz+Ex.szs l
end
mutual
def St.sz:St->Nat
 |.mk k n t a x y p=>1+n.length+t.length+Ex.szs a+St.szs x+St.szs y
def St.szs:List St->Nat
 |[]=>0
 |e::l=>e.sz+St.szs l
end
def Dc.sz(d:Dc):Nat:=1+d.name.length
def Hd.sz(h:Hd):Nat:=1+h.name.length+St.szs h.body
def Md.sz(m:Md):Nat:=1+m.name.length+(m.hds.map Hd.sz).sum
def Ru.sz(r:Ru):Nat:=(r.decls.map Dc.sz).sum+(r.modes.map Md.sz).sum
theorem Ex.szs_map:∀l:List Ex,Ex.szs l=(l.map Ex.sz).sum
 |[]=>rfl
 |e::l=>by rw[Ex.szs,Ex.szs_map l];rfl
theorem St.szs_map:∀l:List St,St.szs l=(l.map St.sz).sum
 |[]=>rfl
 |e::l=>by rw[St.szs,St.szs_map l];rfl
theorem K1{α:Type}{f : α->Nat}{x : α}:∀ {l:List α},x∈l->f x<=(l.map f).sum
 |a::l,h=>by
  rw[A0W,A3C];rcases A1C.1 h with rfl|h
  ·omega
  ·have:=K1 (f:=f) h;omega
theorem I7{α:Type}{f : α->Nat}:∀ {l:List α},(∀x∈l,1<=f x)->l.length<=(l.map f).sum
 |[],h=>A0P _
 |a::l,h=>by
  have:=I7 (f:=f) (l:=l) λx hx=>h x (A0G _ hx)
  grind
theorem Ex.sz_pos(e:Ex):1<=e.sz:=by cases e with|mk k v n a p=>rw[Ex.sz];omega
theorem St.sz_pos(e:St):1<=e.sz:=by cases e with|mk k n t a x y p=>rw[St.sz];omega
theorem Ex.sz_arg{e x:Ex}(h:x∈e.args):x.sz<e.sz:=by
 cases e with|mk k v n a p =>
 have:=K1 (f:=Ex.sz) h;rw[Ex.sz,Ex.szs_map];have h':(Ex.mk k v n a p).args=a:=rfl
 grind
theorem Ex.sz_name(e:Ex):e.name.length<e.sz:=by
 cases e with|mk k v n a p=>rw[Ex.sz];show n.length<_;omega
theorem Ex.sz_args(e:Ex):e.args.length<e.sz:=by
 cases e with|mk k v n a p =>
 have:=I7 (f:=Ex.sz) (l:=a) λx _=>x.sz_pos;rw[Ex.sz,Ex.szs_map];show a.length<_;omega
theorem St.sz_name(e:St):e.name.length<e.sz:=by
 cases e with|mk k n t a x y p=>rw[St.sz];show n.length<_;omega
theorem St.sz_text(e:St):e.text.length<e.sz:=by
 cases e with|mk k n t a x y p=>rw[St.sz];show t.length<_;omega
theorem St.sz_arg{e:St}{x:Ex}(h:x∈e.args):x.sz<e.sz:=by
 cases e with|mk k n t a u w p =>
 have:=K1 (f:=Ex.sz) h;have h':(St.mk k n t a u w p).args=a:=rfl;rw[h']at this;rw[St.sz,Ex.szs_map];omega
theorem St.sz_args(e:St):e.args.length<e.sz:=by
 cases e with|mk k n t a u w p =>
 have:=I7 (f:=Ex.sz) (l:=a) λx _=>x.sz_pos;rw[St.sz,Ex.szs_map];show a.length<_;omega
theorem St.sz_thn(e:St):St.szs e.thn<e.sz:=by
 cases e with|mk k n t a u w p=>rw[St.sz];show St.szs u<_;omega
theorem St.sz_els(e:St):St.szs e.els<e.sz:=by
 cases e with|mk k n t a u w p=>rw[St.sz];show St.szs w<_;omega
theorem St.szs_len(l:List St):l.length<=St.szs l:=by rw[St.szs_map];exact I7 λx _=>x.sz_pos
theorem St.szs_mem{l:List St}{x:St}(h:x∈l):x.sz<=St.szs l:=by rw[St.szs_map];exact K1 h
theorem Ex.szs_mem{l:List Ex}{x:Ex}(h:x∈l):x.sz<=Ex.szs l:=by rw[Ex.szs_map];exact K1 h
theorem Ex.szs_len(l:List Ex):l.length<=Ex.szs l:=by rw[Ex.szs_map];exact I7 λx _=>x.sz_pos
theorem B6(s:List UInt8):(D6 s).length=1:=by unfold D6;grind
theorem E5(n:Int):(V3 n).length=1:=by unfold V3;grind
theorem F1(s:List UInt8):(A2i s).length=1:=by unfold A2i;grind
theorem A3w(q:Int × List Tok)(n:Int):q.2.length<=(F0 q n).length/\(F0 q n).length<=q.2.length+2:=by
 unfold F0;grind
theorem A6v:∀l:List Ex,B1l l=l.map λe=>(e.kind,exT e)
 |[]=>rfl
 |e::l=>by rw[B1l,A6v l];rfl
set_option maxHeartbeats 2000000 in
theorem C1v{k v:Int}{n:List UInt8}{as1:List (Int × List Tok)}:1<=(L7 k v n as1).length/\(L7 k v n as1).length<=5+(as1.map λq=>q.2.length).sum:=by
 unfold L7
 match as1 with
 |[] =>
  dsimp only;repeat' split
  all_goals simp only[A0A,A0K,B6,E5]
  all_goals omega
 |[q] =>
  have:=A3w q 6;dsimp only;repeat' split
  all_goals simp only[A0A,A0K,B6,E5,A0W,List.map_nil,A3C,List.sum_nil]
  all_goals omega
 |[q,r] =>
  have h1:=A3w q (if B0 k=3 then 4 else B0 k);have h2:=A3w r (B0 k+1);dsimp only;generalize F0 q (if B0 k=3 then 4 else B0 k)=A at h1 ⊢;generalize F0 r (B0 k+1)=B at h2 ⊢;generalize A3 (E0.getD (k-12).toNat [])=W;generalize B0 k=lv;repeat' split
  all_goals simp only[A0A,A0K,B6,E5,A0W,List.map_nil,A3C,List.sum_nil]
  all_goals omega
 |q::r::w::l =>
  dsimp only;repeat' split
  all_goals simp only[A0A,A0K,B6,E5]
  all_goals omega
theorem A4b:∀e:Ex,1<=(exT e).length/\(exT e).length<=5*e.sz
 |.mk k v n a p=>by
  have ih:∀x∈a,(exT x).length<=5*x.sz:=λx hx=>(A4b x).2;have h:=C1v (k:=k) (v:=v) (n:=n) (as1:=B1l a);rw[exT];refine⟨h.1,?_⟩;have h2:((B1l a).map λq=>q.2.length).sum<=5*Ex.szs a:=by
   rw[A6v,A3Q,Ex.szs_map];clear h
   induction a with
   |nil=>simp
   |cons x l ihl =>
    grind
  rw[Ex.sz];omega
theorem D4a(l:List Ex)(i:Nat):1<=(agT l i).length/\(agT l i).length<=1+5*Ex.szs l:=by
 unfold agT;cases h:l[i]? with
 |none=>simp
 |some e =>
  have h1:=A4b e;have h2:=Ex.szs_mem (A0U h)
  grind
mutual
theorem A9m:∀s:St,1<=(stT s).length/\(stT s).length<=11*s.sz
 |.mk k n t a x y p=>by
  have h0:=D4a a 0;have h1:=D4a a 1;have hx:=A5y x;have hy:∀l,l=y->(Q1 l).length<=11*St.szs l:=λl h=>by subst h;exact A5y l
  have hq:∀q,y=[q]->(stT q).length<=11*q.sz:=λq h=>by subst h;exact(A9m q).2
  rw[St.sz];unfold stT;dsimp only;generalize agT a 0=A at h0 ⊢;generalize agT a 1=B at h1 ⊢;generalize Q1 x=X at hx ⊢;generalize A3 (B9.getD (k-2).toNat [])=W
  match y,hy,hq with
  |[],hy,hq =>
   dsimp only;rw[St.szs];repeat' split
   all_goals simp only[A0A,A0K,B6,F1]
   all_goals omega
  |[q],hy,hq =>
   have hq:=hq q rfl;dsimp only;rw[St.szs,St.szs];generalize stT q=Q at hq ⊢;repeat' split
   all_goals simp only[A0A,A0K,B6,F1]
   all_goals omega
  |q::q2::r,hy,hq =>
   have hy:=hy _ rfl;dsimp only;generalize Q1 (q::q2::r)=Y at hy ⊢;generalize St.szs (q::q2::r)=z at hy ⊢;repeat' split
   all_goals simp only[A0A,A0K,B6,F1]
   all_goals omega
theorem A5y:∀l:List St,(Q1 l).length<=11*St.szs l
 |[]=>A0P _
 |s::l=>by
  have h1:=A9m s;have h2:=A5y l;rw[Q1,St.szs,A0A];omega
end
theorem A9y(l:List St):1<=(blT l).length/\(blT l).length<=11*St.szs l+2:=by
 have:=A5y l;unfold blT
 grind
theorem C4z(d:Dc):1<=(dcT d).length/\(dcT d).length<=6:=by
 unfold dcT;dsimp only;generalize A3 (E8.getD (d.kind-1).toNat [])=W;repeat' split
 all_goals simp only[A0A,A0K,B6,E5]
 all_goals(first|omega|simp)
theorem D6p(h:Hd):1<=(hdT h).length/\(hdT h).length<=11*h.sz:=by
 have:=A9y h.body;unfold hdT Hd.sz;generalize A3 (F5.getD (h.trig-1).toNat [])=W;split
 ·simp only[A0A,A0F,A0O,B6];omega
 grind
theorem A9u{α:Type}{f : α->List Tok}{g : α->Nat}{c:Nat}:∀ {l:List α},(∀x∈l,(f x).length<=c*g x)->(l.flatMap f).length<=c*(l.map g).sum
 |[],_=>by simp
 |a::l,h=>by
  have h1:=h a A0J;have h2:=A9u (l:=l) λx hx=>h x (A0G _ hx);rw[A2C,A0A,A0W,A3C,Nat.mul_add];omega
theorem D5y(m:Md):1<=(mdT m).length/\(mdT m).length<=11*m.sz:=by
 have:=A9u (l:=m.hds) (f:=hdT) (g:=Hd.sz) (c:=11) λx _=>(D6p x).2;unfold mdT Md.sz;simp only[A0A,A0K,B6,E5];omega
theorem D4v(r:Ru):(ruT r).length<=11*r.sz+1/\(r.decls.flatMap dcT++r.modes.flatMap mdT).length<=11*r.sz:=by
 have h1:=A9u (l:=r.decls) (f:=dcT) (g:=Dc.sz) (c:=11) λx _=>by have:=C4z x;unfold Dc.sz;omega
 have h2:=A9u (l:=r.modes) (f:=mdT) (g:=Md.sz) (c:=11) λx _=>(D5y x).2;have h3:(r.decls.flatMap dcT++r.modes.flatMap mdT).length<=11*r.sz:=by
  unfold Ru.sz;rw[A0A];omega
 refine⟨?_,h3⟩;unfold ruT
 grind
section
variable {L:List Tok} {E:Int}
theorem B5l{s:Rd}{p e:Int}(he:e≠0):okR (O0 s p e)=false:=by
 unfold O0;split
 ·simp[okR,he]
 grind
theorem A7i{s:Rd}:okR (R1 L E s)=false:=B5l (by simp)
theorem H7{s:Rd}{n m e:Int}(he:e≠0)(h:okR (D0 L E s n m e)=true):okR s=true/\n<=m/\D0 L E s n m e=s:=by
 unfold D0 at h ⊢;split at h
 ·rw[B5l he]at h;cases h
 grind
theorem A3a{s:Rd}{t:List UInt8}(h:isR L E s t=true):okR s=true/\s.i<L.length:=by
 unfold isR at h;simp only[A0D,A1H,A1T]at h;refine⟨h.1.1,?_⟩;by_cases hi:s.i<L.length
 ·omega
 ·have e:B8 L E s=⟨0,[],0,E⟩:=by unfold B8;rw[A1K,A2Q (by omega)];rfl
  grind
theorem I9{s:Rd}{k:Int}(h:K9 L E s k=true):okR s=true/\(B8 L E s).kind=k:=by
 unfold K9 at h
 grind
theorem K4{s:Rd}{k:Int}(hk:k≠0)(h:(B8 L E s).kind=k):B8 L E s∈L/\s.i<L.length:=by
 by_cases hi:s.i<L.length
 ·refine⟨?_,hi⟩;unfold B8
  grind
 ·exfalso;have e:B8 L E s=⟨0,[],0,E⟩:=by unfold B8;rw[A1K,A2Q (by omega)];rfl
  grind
theorem B5m{s:Rd}{t:List UInt8}(h:okR (E4 L E s t)=true):isR L E s t=true/\E4 L E s t=A5 s:=by
 unfold E4 at h ⊢;cases hi:isR L E s t with
 |false=>rw[hi]at h;simp only[if_true]at h;rw[A7i]at h;grind
 |true=>simp
theorem A5x{s:Rd}{k:Int}(h:okR (A7 L E s k).2=true):K9 L E s k=true/\A7 L E s k=(B8 L E s,A5 s):=by
 unfold A7 at h ⊢;cases hi:K9 L E s k with
 |false=>rw[hi]at h;simp only[if_true]at h;rw[A7i]at h;grind
 |true=>simp
theorem I3{s:Rd}:∀ {l:List (List UInt8)} {k:Nat},0<=A2h L E s k l->okR s=true/\s.i<L.length/\(k:Int)<=A2h L E s k l/\A2h L E s k l<(k+l.length:Nat)
 |[],k,h=>by trivial
 |t::l,k,h=>by
  unfold A2h at h ⊢;cases hi:isR L E s t with
  |true =>
   rw[if_pos rfl];obtain⟨h1,h2⟩:=A3a hi
   grind
  |false =>
   rw[hi]at h;simp only[A1R,if_false]at h ⊢;obtain⟨h1,h2,h3,h4⟩:=I3 h
   grind
end
structure RI (L:List Tok) (s:Rd):Prop where
 i:s.i<=L.length
 o0:0<=s.ops
 o1:s.ops<=33
 o2:okR s=true->s.ops<=32
 p0:0<=s.par
 p1:s.par<=16
section
variable {L:List Tok} {E:Int}
theorem RI.fail{s:Rd}{p e:Int}(he:e≠0)(h:RI L s):RI L (O0 s p e)/\(O0 s p e).par=s.par:=by
 have hk:=B5l (s:=s) (p:=p) he;have e1:(O0 s p e).i=s.i:=by unfold O0;grind
 have e2:(O0 s p e).ops=s.ops:=by unfold O0;grind
 have e3:(O0 s p e).par=s.par:=by unfold O0;grind
 exact⟨⟨by rw[e1];exact h.i,by rw[e2];exact h.o0,by rw[e2];exact h.o1,(λk=>by grind),by rw[e3];exact h.p0,by rw[e3];exact h.p1⟩,e3⟩
theorem RI.syn{s:Rd}(h:RI L s):RI L (R1 L E s)/\(R1 L E s).par=s.par:=h.fail (by simp)
theorem RI.lim{s:Rd}{n m e:Int}(he:e≠0)(h:RI L s):RI L (D0 L E s n m e)/\(D0 L E s n m e).par=s.par:=by
 unfold D0;split
 ·exact h.fail he
 grind
theorem RI.nxt{s:Rd}(h:RI L s)(hi:s.i<L.length):RI L (A5 s):=⟨hi,h.o0,h.o1,h.o2,h.p0,h.p1⟩
theorem RI.exp{s:Rd}{x:List UInt8}(h:RI L s):RI L (E4 L E s x)/\(E4 L E s x).par=s.par:=by
 unfold E4;cases k:isR L E s x with
 |false=>rw[if_pos rfl];exact h.syn
 |true=>rw[if_neg (by simp)];exact⟨h.nxt (A3a k).2,rfl⟩
theorem RI.take{s:Rd}{x:Int}(hx:x≠0)(h:RI L s):RI L (A7 L E s x).2/\(A7 L E s x).2.par=s.par:=by
 unfold A7;cases k:K9 L E s x with
 |false=>rw[if_pos rfl];exact h.syn
 |true=>rw[if_neg (by simp)];exact⟨h.nxt (K4 hx (I9 k).2).2,rfl⟩
theorem RI.prim{s:Rd}(h:RI L s):RI L (K3 L E s).2/\(K3 L E s).2.par=s.par:=by
 unfold K3;dsimp only;split
 ·exact h.syn
 ·rename_i hc;have hok:okR s=true/\s.i<L.length:=by
   by_cases hk:0<=C0 L E s U0
   ·obtain⟨h1,h2, -⟩:=I3 hk;grind
   ·cases h3:K9 L E s 3 with
    |true=>exact⟨(I9 h3).1,(K4 (by simp) (I9 h3).2).2⟩
    |false =>
     cases h1:K9 L E s 1 with
     |true=>exact⟨(I9 h1).1,(K4 (by simp) (I9 h1).2).2⟩
     |false=>grind
  have h32:=h.o2 hok.1;have ho:=h.o0;obtain⟨s2,hs2⟩:∃s2,s2=D0 L E { s with ops:=s.ops+1 } (s.ops+1) 32 9:=⟨_,rfl⟩;rw[<- hs2];cases h2:okR s2 with
  |false =>
   rw[if_pos rfl];have e1:s2.i=s.i:=by rw[hs2];unfold D0 O0;grind
   have e2:s2.ops=s.ops+1:=by rw[hs2];unfold D0 O0;grind
   have e3:s2.par=s.par:=by rw[hs2];unfold D0 O0;grind
   refine⟨⟨?_,?_,?_,(λk=>by rw[h2]at k;cases k),?_,?_⟩,e3⟩<;>dsimp only
   ·omega
   ·omega
   ·omega
   ·rw[e3];exact h.p0
   ·rw[e3];exact h.p1
  |true =>
   rw[if_neg (by simp)];rw[hs2]at h2;obtain⟨-,h4,h5⟩:=H7 (by simp) h2;rw[h5]at hs2;have h3:RI L (A5 s2):=by
    rw[hs2];exact⟨hok.2,by show 0<=s.ops+1;omega,by show s.ops+1<=33;omega,λ_=>h4,h.p0,h.p1⟩
   have hp:(A5 s2).par=s.par:=by rw[hs2];rfl
   repeat' split
   ·exact⟨(h3.take (by simp)).1,(h3.take (by simp)).2.trans hp⟩
   all_goals exact⟨h3,hp⟩
theorem RI.all:∀f:Nat,(∀n s r,M1 L E f n s=some r->RI L s->RI L r.2/\r.2.par=s.par)/\(∀n e s r,V5 L E f n e s=some r->RI L s->RI L r.2/\r.2.par=s.par)/\(∀s r,A0e L E f s=some r->RI L s->RI L r.2/\r.2.par=s.par)
 |0=>⟨λn s r h=>by trivial,λn e s r h=>by trivial,λs r h=>by trivial⟩
 |f+1=>by
  obtain⟨i1,i2,i3⟩:=RI.all f;refine⟨λn s r h k=>?_,λn e s r h k=>?_,λs r h k=>?_⟩
  ·unfold M1 at h
   grind
  ·unfold V5 at h;dsimp only at h;split at h
   ·grind
   ·rename_i hk;have hk0:0<=C0 L E s E0:=Classical.byContradiction λg=>hk (.inl (by omega));obtain⟨-,hi, -⟩:=I3 hk0;cases hb:M1 L E f (n+1) (A5 s) with
    |none=>grind
    |some q =>
     obtain⟨x,s1⟩:=q;rw[hb]at h;obtain⟨a1,a2⟩:=i1 _ _ _ hb (k.nxt hi);dsimp only at h;split at h
     ·cases h;trivial
     ·obtain⟨b1,b2⟩:=i2 _ _ _ _ h a1;exact⟨b1,b2.trans a2⟩
  ·unfold A0e at h;dsimp only at h;split at h
   ·cases h;exact k.prim
   ·rename_i hk;have hk0:0<=C0 L E s R2:=by omega
    obtain⟨-,hi, -⟩:=I3 hk0;split at h
    ·cases h;exact k.lim (by simp)
    ·rename_i hl;have hl:okR (D0 L E s (s.par+1) 16 50)=true:=by simpa using hl
     obtain⟨h1,h2,h3⟩:=H7 (by decide) hl;rw[h3]at h;have k2:RI L { s with i:=s.i+1,par:=s.par+1 }:=⟨hi,k.o0,k.o1,k.o2,by have:=k.p0;show 0<=s.par+1;omega,h2⟩;have fin:∀z:Rd,RI L z->z.par=s.par+1->RI L { z with par:=z.par-1 }/\z.par-1=s.par:=λz hz hp =>
      ⟨⟨hz.i,hz.o0,hz.o1,hz.o2,by have:=k.p0;show 0<=z.par-1;omega,by have:=k.p1;show z.par-1<=16;omega⟩,by omega⟩
     split at h
     ·cases hb:M1 L E f 1 { s with i:=s.i+1,par:=s.par+1 } with
      |none=>rw[hb]at h;cases h
      |some q =>
       obtain⟨e,s3⟩:=q;rw[hb]at h;cases h;obtain⟨a1,a2⟩:=i1 _ _ _ hb k2;obtain⟨b1,b2⟩:=a1.exp (E:=E) (x:=[41]);exact fin _ b1 (b2.trans a2)
     grind
theorem D2h{s:Rd}{p e:Int}:(O0 s p e).i=s.i:=by unfold O0;grind
theorem U9{s:Rd}:(R1 L E s).i=s.i:=D2h
theorem H4{s:Rd}{n m e:Int}:(D0 L E s n m e).i=s.i:=by unfold D0;split;exact D2h;rfl
theorem K8{s:Rd}{x:List UInt8}(h:s.i<=L.length):(E4 L E s x).i<=L.length:=by
 unfold E4;cases k:isR L E s x with
 |false=>rw[if_pos rfl,U9];omega
 |true=>rw[if_neg (by simp)];exact(A3a k).2
theorem N4{s:Rd}{x:Int}(hx:x≠0)(h:s.i<=L.length):(A7 L E s x).2.i<=L.length:=by
 unfold A7;cases k:K9 L E s x with
 |false=>rw[if_pos rfl,U9];omega
 |true=>rw[if_neg (by simp)];exact(K4 hx (I9 k).2).2
theorem S5{f:Nat}{s:Rd}{r:Ex × Rd}(h:S6 L E f s=some r)(hi:s.i<=L.length):r.2.i<=L.length :=
 ((RI.all f).1 1 { s with ops:=0,par:=0 } r h ⟨hi,A3L 0,(by simp:(0:Int)<=33),λ_=>(by simp:(0:Int)<=32),A3L 0,(by simp:(0:Int)<=16)⟩).1.i
theorem D9z{f:Nat}{k p:Int}{s:Rd}{r:St × Rd}(h:O2 L E f k p s=some r)(hi:s.i<=L.length):r.2.i<=L.length:=by
 unfold O2 at h;dsimp only at h;split at h
 ·split at h
  ·grind
  ·rename_i he;cases h;exact K8 (S5 he hi)
 split at h
 ·split at h
  ·grind
  ·rename_i he;cases h;exact K8 (S5 he (K8 (N4 (by simp) hi)))
 split at h
 ·cases h;exact K8 hi
 have h0:=N4 (E:=E) (x:=1) (by simp) hi;split at h
 ·split at h
  ·grind
  ·rename_i he;split at h
   ·split at h
    ·grind
    ·rename_i he2;cases h;exact K8 (S5 he2 (K8 (S5 he h0)))
   ·cases h;exact K8 (S5 he h0)
 ·cases h;exact K8 h0
theorem E0b{f:Nat}{d:Int}{s:Rd}{r:St × Rd}(h:X6 L E f d s=some r)(ho:okR s=false):okR r.2=false:=by
 cases f with
 |zero=>trivial
 |succ f =>
  have hl:okR (D0 L E s d 8 50)=false:=by
   cases k:okR (D0 L E s d 8 50) with
   |false=>rfl
   |true=>rw[(H7 (by decide) k).1]at ho;cases ho
  unfold X6 at h
  grind
theorem II.all:∀f:Nat,(∀d s r,Q9 L E f d s=some r->s.i<=L.length->r.2.i<=L.length)/\(∀d l s r,X5 L E f d l s=some r->s.i<=L.length->r.2.i<=L.length)/\(∀d s r,X6 L E f d s=some r->s.i<=L.length->r.2.i<=L.length)/\(∀d s r,X3 L E f d s=some r->s.i<=L.length->r.2.i<=L.length)
 |0=>⟨λd s r h=>by trivial,λd l s r h=>by trivial,λd s r h=>by trivial,λd s r h=>by trivial⟩
 |f+1=>by
  obtain⟨i1,i2,i3,i4⟩:=II.all f;refine⟨λd s r h k=>?_,λd l s r h k=>?_,λd s r h k=>?_,λd s r h k=>?_⟩
  ·unfold Q9 at h;exact i2 _ _ _ _ h (K8 k)
  ·unfold X5 at h;split at h
   ·split at h
    ·cases h;rw[U9];omega
    ·split at h
     ·grind
     ·rename_i he;exact i2 _ _ _ _ h (i3 _ _ _ he (by rw[H4];omega))
   ·cases h;exact K8 k
  ·unfold X6 at h;dsimp only at h;split at h
   ·cases h;rw[H4];omega
   ·split at h
    ·split at h
     ·grind
     ·rename_i he;cases h;exact K8 (S5 he (K8 (N4 (by simp) (by rw[H4];omega))))
    ·rename_i hk;have hn:(A5 (D0 L E s d 8 50)).i<=L.length:=(I3 (show 0<=C0 L E (D0 L E s d 8 50) B9 by omega)).2.1;split at h
     ·split at h
      ·grind
      ·rename_i he;split at h
       ·grind
       ·rename_i hb;have h3:=i1 _ _ _ hb (S5 he hn);split at h
        ·rename_i hc;split at h
         ·cases h
         ·rename_i ho;cases h;exact i4 _ _ _ ho (A3a hc.2).2
        grind
     ·exact D9z h hn
  ·unfold X3 at h
   grind
end
def J4(k:Int):Nat:=if B0 k=6 then 1 else if B0 k<6 then 2 else 0
def B7p(k:Int):Bool:=k==5||(k==6||k==7)
def kOk(k:Int):Bool:=decide (B0 k<7)||(decide (1<=k)&&decide (k<=24))
def A5i(k:Int)(n:List UInt8):Bool:=if k=2\/B7p k=true then D7 n else n == []
def A2v(k v:Int):Bool:=v==0||(k==1&&(decide (0<v)&&decide (v<=2147483647)))
def A0x(k q:Int)(i:Nat):Bool:=decide (B0 q<B0 k)||(B0 q==B0 k&&(i==1||B0 k==3))
mutual
def msM:Ex->Option (Nat × Nat)
 |.mk k v n a p =>
  if kOk k=false\/a.length≠J4 k\/A5i k n=false\/A2v k v=false then none
  else if J4 k=0 then some (1,0)
  else match msL k 0 a with
   |none=>none
   |some (o,d)=>some (o,if J4 k=1 then d+1 else d)
def msL(k:Int):Nat->List Ex->Option (Nat × Nat)
 |_,[]=>some (0,0)
 |i,e::l=>match msM e with
  |none=>none
  |some (o,d)=>match msL k (i+1) l with
   |none=>none
   |some (o2,d2)=>some (o+o2,max (if A0x k e.kind i=true then d+1 else d) d2)
end
def T7(e:Ex):Bool:=match msM e with
 |some (o,d)=>decide (o<=32)&&decide (d<=16)
 |none=>false
structure Shp where
 name:Bool
 text:Bool
 args:Nat
 thn:Bool
 els:Bool
def K2(k:Int):Shp :=
 if k=1\/k=8\/k=10 then⟨true,false,1,false,false⟩
 else if k=9 then⟨true,false,2,false,false⟩
 else if k=2 then⟨false,false,1,true,true⟩
 else if k=3 then⟨false,false,1,true,false⟩
 else if k=4 then⟨false,false,1,false,false⟩
 else if k=18 then⟨false,true,1,false,false⟩
 else if k=19 then⟨false,false,0,false,false⟩
 else⟨true,false,0,false,false⟩
def S3(s:List UInt8):Bool:=s.all txB&&decide (s.length<=32)
mutual
def O6:Nat->St->Bool
 |d,.mk k n t a x y p =>
  (decide (1<=k)&&decide (k<=19))&&(a.length==(K2 k).args&&a.all T7) &&
   ((if(K2 k).name=true then D7 n else n == [])&&(if(K2 k).text=true then S3 t else t == [])) &&
   (((K2 k).thn||x.isEmpty)&&((K2 k).els||y.isEmpty)) &&
   ((decide (x.length<=64)&&(x.isEmpty||decide (d+1<=8))&&G6 (d+1) x)&&(decide (y.length<=64)&&(y.isEmpty||decide (d+1<=8))&&G6 (d+1) y))
def G6:Nat->List St->Bool
 |_,[]=>true
 |d,s::l=>O6 d s&&G6 d l
end
def N3(l:List St)(d:Nat):Bool:=decide (l.length<=64)&&(l.isEmpty||decide (d<=8))&&G6 d l
def A0d(d:Dc):Bool:=decide (1<=d.kind)&&decide (d.kind<=8)&&D7 d.name&&decide ((if d.kind=6 then -2147483647 else 0)<=d.value)&&decide (d.value<=(if d.kind=7\/d.kind=8 then 0 else 2147483647))
def A1q(h:Hd):Bool:=decide (1<=h.trig)&&decide (h.trig<=6)&&(if 3<=h.trig then D7 h.name else h.name == [])&&N3 h.body 1
def R0(m:Md):Bool:=D7 m.name&&decide (0<=m.prio)&&decide (m.prio<=2147483647)&&decide (m.hds.length<=32)&&m.hds.all A1q
def L9(r:Ru):Bool:=decide (r.decls.length<=128)&&decide (r.modes.length<=16)&&r.decls.all A0d&&r.modes.all R0
def I8(t:Tok):Prop:=(t.kind=1->D7 t.text=true)/\(t.kind=3->0<=t.value/\t.value<=2147483647)/\(t.kind=4->S3 t.text=true)
def SE(n:Int)(s:Rd)(e:Ex)(s':Rd):Prop :=
 okR s=true/\s'.par=s.par/\∃o d,msM e=some (o,d)/\s'.ops=s.ops+(o:Int)/\s'.ops<=32/\((n<=B0 e.kind/\s.par+(d:Int)<=16)\/s.par+(d:Int)+1<=16)
theorem Y8(k:Int):1<=B0 k/\B0 k<=7:=by
 unfold B0;omega
theorem B5g{k:Int}(h:B0 k<7):10<=k/\k<=24:=by
 unfold B0 at h;omega
theorem D5z{k:Int}(h0:0<=k)(h1:k<13):B0 (12+k)<6:=by
 unfold B0;omega
theorem A6l{k:Int}(h:k=10\/k=11):B0 k=6:=by
 rcases h with rfl|rfl<;>rfl
theorem E1x{k:Int}{a b:Ex}{o1 d1 o2 d2:Nat}{p:Int}(hk:B0 k<6)(ha:msM a=some (o1,d1))(hb:msM b=some (o2,d2)):
  msM (.mk k 0 [] [a,b] p)=some (o1+o2,max (if A0x k a.kind 0=true then d1+1 else d1) (if A0x k b.kind 1=true then d2+1 else d2)):=by
 have hl:=B5g (k:=k) (by omega);have h1:kOk k=true:=by simp[kOk];omega
 have h2:J4 k=2:=by unfold J4;grind
 have h3:A5i k []=true:=by
  unfold A5i;rw[if_neg]
  ·rfl
  ·simp only[B7p,A1H,A1T];omega
 have h4:A2v k 0=true:=by rfl
 unfold msM;rw[if_neg (by grind),h2,if_neg (by omega)];simp only[msL,ha,hb,A3A,A1J,Nat.max_zero,if_neg (show ¬ 2=1 by omega)]
theorem E5p{k:Int}{a:Ex}{o d:Nat}{p:Int}(hk:k=10\/k=11)(ha:msM a=some (o,d)):
  msM (.mk k 0 [] [a] p)=some (o,(if A0x k a.kind 0=true then d+1 else d)+1):=by
 have hl:=A6l hk;have h1:kOk k=true:=by simp[kOk];omega
 have h2:J4 k=1:=by unfold J4;grind
 have h3:A5i k []=true:=by
  unfold A5i;rw[if_neg]
  ·rfl
  ·simp only[B7p,A1H,A1T];omega
 have h4:A2v k 0=true:=by rfl
 unfold msM;rw[if_neg (by grind),h2,if_neg (by omega)];simp only[msL,ha,A3A,Nat.max_zero,if_true]
theorem D5u{k v:Int}{n:List UInt8}{p:Int}(hk:B0 k=7)(h1:kOk k=true)(h3:A5i k n=true)(h4:A2v k v=true):msM (.mk k v n [] p)=some (1,0):=by
 have h2:J4 k=0:=by unfold J4;rw[if_neg (by omega),if_neg (by omega)]
 unfold msM
 grind
section
variable {L:List Tok} {E:Int}
theorem J1{s:Rd}{t:List UInt8}(h:okR (E4 L E s t)=true):okR s=true:=(A3a (B5m h).1).1
theorem Z5{s:Rd}{k:Int}(h:okR (A7 L E s k).2=true):okR s=true:=(I9 (A5x h).1).1
theorem C3j{s:Rd}(h:okR (K3 L E s).2=true):okR s=true:=by
 unfold K3 at h;dsimp only at h;split at h
 ·rw[A7i]at h;grind
 ·split at h
  ·grind
  ·rename_i h1;have h2:okR (D0 L E { s with ops:=s.ops+1 } (s.ops+1) 32 9)=true:=by grind
   exact(H7 (by simp) h2).1
theorem C0g(hG:∀t∈L,I8 t){s s':Rd}{e:Ex}(h:K3 L E s=(e,s'))(hok:okR s'=true)(hp:s.par<=16):SE 7 s e s':=by
 have hs:okR s=true:=C3j (L:=L) (E:=E) (by grind);have leaf:∀(k v:Int) (n:List UInt8) (p:Int),B0 k=7->kOk k=true->A5i k n=true->A2v k v=true->s.ops+1<=32->∀s2:Rd,s2.par=s.par->s2.ops=s.ops+1->SE 7 s (.mk k v n [] p) s2:=by
  intro k v n p q1 q2 q3 q4 q6 s2 q7 q8;refine⟨hs,q7,1,0,D5u q1 q2 q3 q4,by omega,by omega,.inl ⟨?_,by omega⟩⟩;show 7<=B0 k;omega
 unfold K3 at h;dsimp only at h;split at h
 ·cases h;rw[A7i]at hok;grind
 rename_i hc;split at h
 ·grind
 rename_i h1;have h2:okR (D0 L E { s with ops:=s.ops+1 } (s.ops+1) 32 9)=true:=by grind
 obtain⟨-,h3,h4⟩:=H7 (by simp) h2;rw[h4]at h;split at h
 ·rename_i hk;obtain⟨-, -, -,hk7⟩:=I3 hk;have hk7:C0 L E s U0<7:=hk7;generalize C0 L E s U0=k at h hk hk7;split at h
  ·rename_i hk4;cases h;obtain⟨t1,t2⟩:=A5x hok;obtain⟨t3,t4⟩:=I9 t1;have hn:=(hG _ (K4 (by simp) t4).1).1 t4;rw[t2];have:k=4\/k=5\/k=6:=by omega
   rcases this with rfl|rfl|rfl
   ·exact leaf 5 _ _ _ (by rfl) (by rfl) hn (by rfl) h3 _ rfl rfl
   ·exact leaf 6 _ _ _ (by rfl) (by rfl) hn (by rfl) h3 _ rfl rfl
   ·exact leaf 7 _ _ _ (by rfl) (by rfl) hn (by rfl) h3 _ rfl rfl
  ·rename_i hk4;cases h;have:k=0\/k=1\/k=2\/k=3:=by omega
   rcases this with rfl|rfl|rfl|rfl
   all_goals exact leaf _ _ _ _ (by decide) (by decide) (by decide) (by decide) h3 _ rfl rfl
 ·rename_i hk;split at h
  ·rename_i hk3;cases h;have hn:=(hG _ (K4 (by decide) hk3).1).2.1 hk3;refine leaf 1 _ _ _ (by decide) (by decide) (by decide) ?_ h3 _ rfl rfl;simp only[A2v,A1H,A0D,A1T,A0I]
   grind
  ·rename_i hk3;cases h;have h1k:K9 L E s 1=true:=by
    cases hz:K9 L E s 1 with
    |true=>rfl
    |false =>
     refine absurd ⟨by omega,?_,hz⟩ hc;cases hy:K9 L E s 3 with
     |false=>rfl
     |true=>exact absurd (I9 hy).2 hk3
   have hn:=(hG _ (K4 (by simp) (I9 h1k).2).1).1 (I9 h1k).2;exact leaf 2 _ _ _ (by rfl) (by rfl) hn (by rfl) h3 _ rfl rfl
theorem OB.all:∀f:Nat,(∀n s r,M1 L E f n s=some r->okR r.2=true->okR s=true)/\(∀n e s r,V5 L E f n e s=some r->okR r.2=true->okR s=true)/\(∀s r,A0e L E f s=some r->okR r.2=true->okR s=true)
 |0=>⟨λn s r h=>by trivial,λn e s r h=>by trivial,λs r h=>by trivial⟩
 |f+1=>by
  obtain⟨i1,i2,i3⟩:=OB.all f;refine⟨λn s r h k=>?_,λn e s r h k=>?_,λs r h k=>?_⟩
  ·unfold M1 at h
   grind
  ·unfold V5 at h;dsimp only at h;split at h
   ·grind
   ·rename_i hk;exact(I3 (show 0<=C0 L E s E0 from Classical.byContradiction λg=>hk (.inl (by omega)))).1
  ·unfold A0e at h;dsimp only at h;split at h
   ·cases h;exact C3j k
   ·rename_i hk;exact(I3 (show 0<=C0 L E s R2 by omega)).1
theorem SE.weak{m n:Int}{s s':Rd}{e:Ex}(hmn:n<=m)(h:SE m s e s'):SE n s e s':=by
 obtain⟨h1,h2,o,d,h3,h4,h5,h6⟩:=h;exact⟨h1,h2,o,d,h3,h4,h5,h6.imp (λh=>⟨by omega,h.2⟩) id⟩
theorem SE.all(hG:∀t∈L,I8 t):∀f:Nat,(∀n s r,1<=n->n<=6->M1 L E f n s=some r->okR r.2=true->s.par<=16->SE n s r.1 r.2) /\
  (∀n m e s s0 r,1<=n->n<=5->(m=n+1\/m=n/\n≠3)->V5 L E f n e s=some r->okR r.2=true->SE m s0 e s->s0.par<=16->SE n s0 r.1 r.2) /\
  (∀s r,A0e L E f s=some r->okR r.2=true->s.par<=16->SE 6 s r.1 r.2)
 |0=>⟨λn s r _ _ h=>by trivial,λn m e s s0 r _ _ _ h=>by trivial,λs r h=>by trivial⟩
 |f+1=>by
  obtain⟨i1,i2,i3⟩:=SE.all hG f;refine⟨λn s r n1 n6 h k hp=>?_,λn m e s s0 r n1 n5 hm h k he hp=>?_,λs r h k hp=>?_⟩
  ·unfold M1 at h;split at h
   ·grind
   ·rename_i hn;split at h
    ·grind
    ·rename_i e s1 hb;have k1:=(OB.all f).2.1 _ _ _ _ h k;have h1:=i1 _ _ _ (by omega) (by omega) hb k1 hp
     grind
  ·unfold V5 at h;dsimp only at h;split at h
   ·cases h;exact he.weak (by omega)
   ·rename_i hk;have hk0:0<=C0 L E s E0:=Classical.byContradiction λg=>hk (.inl (by omega));have hlv:B0 (12+C0 L E s E0)=n:=Classical.byContradiction λg=>hk (.inr g);split at h
    ·grind
    ·rename_i x s1 hb;obtain⟨e1,e2,o1,d1,e3,e4,e5,e6⟩:=he;have step:okR s1=true->SE n s0 (.mk (12+C0 L E s E0) 0 [] [e,x] (B8 L E s).pos) s1:=by
      intro k1;obtain⟨x1,x2,o2,d2,x3,x4,x5,x6⟩:=i1 _ _ _ (by omega) (by omega) hb k1 (by show s.par<=16;omega);have x2':s1.par=s.par:=x2;have x4':s1.ops=s.ops+(o2:Int):=x4;have x6':((n+1<=B0 x.kind/\s.par+(d2:Int)<=16)\/s.par+(d2:Int)+1<=16):=x6;refine⟨e1,by omega,_,_,E1x (by omega) e3 x3,by omega,x5,.inl ⟨?_,?_⟩⟩
      ·show n<=B0 (12+C0 L E s E0);omega
      ·have w1:s0.par+((if A0x (12+C0 L E s E0) e.kind 0=true then d1+1 else d1:Nat):Int)<=16:=by
        split
        ·rename_i hw;simp only[A0x,A1H,A0D,A0I,A1T,hlv]at hw;omega
        omega
       have w2:s0.par+((if A0x (12+C0 L E s E0) x.kind 1=true then d2+1 else d2:Nat):Int)<=16:=by
        split
        ·rename_i hw;simp only[A0x,A1H,A0D,A0I,A1T,hlv]at hw;omega
        omega
       omega
     split at h
     ·grind
     ·rename_i hn3;have k1:=(OB.all f).2.1 _ _ _ _ h k
      grind
  ·unfold A0e at h;dsimp only at h;split at h
   ·cases h;exact(C0g hG rfl k hp).weak (by simp)
   ·rename_i hk;obtain⟨hs,hi, -,hk3⟩:=I3 (show 0<=C0 L E s R2 by omega);have hk3:C0 L E s R2<3:=hk3;split at h
    ·grind
    rename_i hl;have hl:okR (D0 L E s (s.par+1) 16 50)=true:=by grind
    obtain⟨-,h2,h3⟩:=H7 (by simp) hl;rw[h3]at h;split at h
    ·split at h
     ·grind
     ·rename_i e s3 hb;cases h;have k3:okR (E4 L E s3 [41])=true:=k;obtain⟨-,x2⟩:=B5m k3;obtain⟨e1,e2,o,d,e3,e4,e5,e6⟩:=i1 1 _ _ (by simp) (by simp) hb (J1 k3) (show s.par+1<=16 from h2);have e2':s3.par=s.par+1:=e2;have e4':s3.ops=s.ops+(o:Int):=e4;have e6':((1<=B0 e.kind/\s.par+1+(d:Int)<=16)\/s.par+1+(d:Int)+1<=16):=e6;rw[x2];refine⟨hs,by show s3.par-1=s.par;omega,o,d,e3,e4',e5,.inr (by omega)⟩
    ·rename_i hk2;split at h
     ·grind
     ·rename_i e s3 hb;cases h;have k3:okR s3=true:=k;obtain⟨e1,e2,o,d,e3,e4,e5,e6⟩:=i3 _ _ hb k3 (show s.par+1<=16 from h2);have e2':s3.par=s.par+1:=e2;have e4':s3.ops=s.ops+(o:Int):=e4;have e6':((6<=B0 e.kind/\s.par+1+(d:Int)<=16)\/s.par+1+(d:Int)+1<=16):=e6;have hk10:10+C0 L E s R2=10\/10+C0 L E s R2=11:=by omega
      refine⟨hs,by grind,o,_,E5p hk10 e3,e4',e5,.inl ⟨?_,?_⟩⟩
      ·show 6<=B0 (10+C0 L E s R2);rw[A6l hk10];simp
      ·split
       ·rename_i hw;simp only[A0x,A1H,A0D,A0I,A1T,A6l hk10]at hw;omega
       omega
theorem O5(hG:∀t∈L,I8 t){f:Nat}{s:Rd}{r:Ex × Rd}(h:S6 L E f s=some r)(hok:okR r.2=true):okR s=true/\T7 r.1=true:=by
 obtain⟨h1,h2,o,d,h3,h4,h5,h6⟩:=(SE.all hG f).1 1 _ _ (by decide) (by decide) h hok (by decide:(0:Int)<=16);refine⟨h1,?_⟩;have h4':r.2.ops=0+(o:Int):=h4;have h6':((1<=B0 r.1.kind/\0+(d:Int)<=16)\/0+(d:Int)+1<=16):=h6;unfold T7
 grind
end
section
variable {L:List Tok} {E:Int}
theorem Q4(hG:∀t∈L,I8 t){s:Rd}(h:okR (A7 L E s 1).2=true):D7 (A7 L E s 1).1.text=true:=by
 obtain⟨h1,h2⟩:=A5x h;rw[h2];exact(hG _ (K4 (by simp) (I9 h1).2).1).1 (I9 h1).2
theorem B6m(hG:∀t∈L,I8 t){s:Rd}(h:okR (A7 L E s 3).2=true):0<=(A7 L E s 3).1.value/\(A7 L E s 3).1.value<=2147483647:=by
 obtain⟨h1,h2⟩:=A5x h;rw[h2];exact(hG _ (K4 (by simp) (I9 h1).2).1).2.1 (I9 h1).2
theorem C8l(hG:∀t∈L,I8 t){s:Rd}(h:okR (A7 L E s 4).2=true):S3 (A7 L E s 4).1.text=true:=by
 obtain⟨h1,h2⟩:=A5x h;rw[h2];exact(hG _ (K4 (by simp) (I9 h1).2).1).2.2 (I9 h1).2
theorem A1p{d:Nat}{k p:Int}{n t:List UInt8}{a:List Ex}(h1:1<=k)(h2:k<=19)(h3:a.length=(K2 k).args)(h4:a.all T7=true)
  (h5:(if(K2 k).name=true then D7 n else n == [])=true) (h6:(if(K2 k).text=true then S3 t else t == [])=true):O6 d (.mk k n t a [] [] p)=true:=by
 unfold O6;simp only[A0D,A0I,A1T];exact⟨⟨⟨⟨⟨h1,h2⟩,h3,h4⟩,h5,h6⟩,by simp⟩,by trivial⟩
theorem B9s(hG:∀t∈L,I8 t){f:Nat}{k p:Int}{s:Rd}{r:St × Rd}(d:Nat)(hk4:4<=k)(hk:k<=19)(h:O2 L E f k p s=some r)(hok:okR r.2=true):okR s=true/\O6 d r.1=true:=by
 unfold O2 at h;dsimp only at h;split at h
 ·rename_i hk;subst hk;split at h
  ·grind
  ·rename_i e s1 he;cases h;obtain⟨h1,h2⟩:=O5 hG he (J1 hok);exact⟨h1,A1p (by simp) (by simp) rfl (by grind) rfl rfl⟩
 split at h
 ·rename_i hk;subst hk;split at h
  ·grind
  ·rename_i e s1 he;cases h;obtain⟨h1,h2⟩:=O5 hG he (J1 hok);have h3:=J1 h1;exact⟨Z5 h3,A1p (by simp) (by simp) rfl (by grind) rfl (C8l hG h3)⟩
 split at h
 ·rename_i hk;subst hk;cases h;exact⟨J1 hok,A1p (by simp) (by simp) rfl rfl rfl rfl⟩
 rename_i n4 n18 n19;split at h
 ·rename_i hk;split at h
  ·grind
  ·rename_i e s1 he;split at h
   ·rename_i hk9;subst hk9;split at h
    ·grind
    ·rename_i e2 s2 he2;cases h;obtain⟨h1,h2⟩:=O5 hG he2 (J1 hok);obtain⟨h3,h4⟩:=O5 hG he (J1 h1);exact⟨Z5 h3,A1p (by simp) (by simp) rfl (by grind) (Q4 hG h3) rfl⟩
   ·rename_i hk9;cases h;obtain⟨h1,h2⟩:=O5 hG he (J1 hok);have:k=8\/k=10:=by omega
    rcases this with rfl|rfl
    all_goals exact⟨Z5 h1,A1p (by decide) (by decide) rfl (by simp[h2]) (Q4 hG h1) rfl⟩
 ·rename_i hk8;cases h;have h1:=J1 hok;have hs:K2 k=⟨true,false,0,false,false⟩:=by
   unfold K2
   grind
  exact⟨Z5 h1,A1p (by omega) hk (by grind) rfl (by rw[hs];exact Q4 hG h1) (by grind)⟩
theorem A9z{d:Nat}:∀ {l:List St} {x:St},G6 d (l++[x])=(G6 d l&&O6 d x)
 |[],x=>by simp[G6]
 |a::l,x=>by rw[List.cons_append,G6,G6,A9z,Bool.and_assoc]
theorem B6f{d:Nat}{k p:Int}{e:Ex}{t o:List St}(hk:k=2\/k=3)(he:T7 e=true)(ht:N3 t (d+1)=true)(ho:N3 o (d+1)=true)(h3:k=3->o=[]):O6 d (.mk k [] [] [e] t o p)=true:=by
 unfold N3 at ht ho;unfold O6;rcases hk with rfl|rfl
 ·simp only[K2]
  grind
 ·obtain rfl:=h3 rfl;simp only[K2]
  grind
theorem SS.all(hG:∀t∈L,I8 t):∀f:Nat,(∀(d:Nat) s r,Q9 L E f d s=some r->okR r.2=true->okR s=true/\N3 r.1 d=true) /\
  (∀(d:Nat) l s r,X5 L E f d l s=some r->okR r.2=true->okR s=true/\(G6 d l=true->l.length<=64->(l=[]\/d<=8)->N3 r.1 d=true)) /\
  (∀(d:Nat) s r,X6 L E f d s=some r->okR r.2=true->okR s=true/\d<=8/\O6 d r.1=true) /\
  (∀(d:Nat) s r,X3 L E f d s=some r->okR r.2=true->okR s=true/\N3 r.1 (d+1)=true)
 |0=>⟨λd s r h=>by trivial,λd l s r h=>by trivial,λd s r h=>by trivial,λd s r h=>by trivial⟩
 |f+1=>by
  obtain⟨i1,i2,i3,i4⟩:=SS.all hG f;have hd1:∀d:Nat,(d:Int)+1=((d+1:Nat):Int):=λd=>by rfl
  refine⟨λd s r h k=>?_,λd l s r h k=>?_,λd s r h k=>?_,λd s r h k=>?_⟩
  ·unfold Q9 at h;obtain⟨h1,h2⟩:=i2 _ _ _ _ h k;exact⟨J1 h1,h2 rfl (by simp) (.inl rfl)⟩
  ·unfold X5 at h;split at h
   ·rename_i hc;refine⟨hc.1,λh1 h2 h3=>?_⟩;split at h
    ·cases h;rfl
    ·split at h
     ·grind
     ·rename_i x s1 he;obtain⟨h4,h5⟩:=i2 _ _ _ _ h k;obtain⟨h6,h7,h8⟩:=i3 _ _ _ he h4;obtain⟨-,h9, -⟩:=H7 (by simp) h6;exact h5 (by rw[A9z,h1,h8];rfl) (by grind) (.inr h7)
   ·cases h;refine⟨J1 k,λh1 h2 h3=>?_⟩;unfold N3
    grind
  ·unfold X6 at h;dsimp only at h;split at h
   ·grind
   rename_i hl;have hl:okR (D0 L E s d 8 50)=true:=by grind
   obtain⟨hs,hd,hle⟩:=H7 (by simp) hl;rw[hle]at h;refine⟨hs,by omega,?_⟩;split at h
   ·split at h
    ·grind
    ·rename_i e s1 he;cases h;obtain⟨h1,h2⟩:=O5 hG he (J1 k);exact A1p (by simp) (by simp) rfl (by grind) (Q4 hG (J1 h1)) rfl
   ·rename_i hk;obtain⟨-,hi, -,hk18⟩:=I3 (show 0<=C0 L E s B9 by omega);have hk18:C0 L E s B9<18:=hk18;generalize C0 L E s B9=q at h hk hk18;split at h
    ·rename_i hq;split at h
     ·grind
     ·rename_i e s2 he;split at h
      ·grind
      ·rename_i t s3 ht;rw[hd1]at ht;split at h
       ·rename_i hc;split at h
        ·grind
        ·rename_i o s4 ho;cases h;obtain⟨o1,o2⟩:=i4 _ _ _ ho k;obtain⟨t1,t2⟩:=i1 _ _ _ ht (show okR s3=true from o1);obtain⟨e1,e2⟩:=O5 hG he t1;exact B6f (.inl rfl) e2 t2 o2 (λh=>absurd h (by simp))
       ·cases h;obtain⟨t1,t2⟩:=i1 _ _ _ ht k;obtain⟨e1,e2⟩:=O5 hG he t1;exact B6f (by omega) e2 t2 (by rfl) (λ_=>rfl)
    ·rename_i hq;exact(B9s hG d (by omega) (by omega) h k).2
  ·unfold X3 at h;rw[hd1]at h;split at h
   ·split at h
    ·grind
    ·rename_i x s1 he;cases h;obtain⟨h1,h2,h3⟩:=i3 _ _ _ he k;refine⟨h1,?_⟩;unfold N3;simp only[A0D,A1H,A0I];exact⟨⟨by simp,.inr h2⟩,by rw[G6,G6,h3];rfl⟩
   ·exact i1 _ _ _ h k
theorem C7l(hG:∀t∈L,I8 t){k:Int}{s:Rd}(h0:0<=k)(h8:k<8)(h:okR (U5 L E k s).2=true):A0d (U5 L E k s).1=true:=by
 have key:∀d:Dc,1<=d.kind->d.kind<=8->D7 d.name=true->(if d.kind=6 then -2147483647 else 0)<=d.value->d.value<=(if d.kind=7\/d.kind=8 then 0 else 2147483647)->A0d d=true:=by
  intro d a1 a2 a3 a4 a5;simp only[A0d,A0D,A0I]
  grind
 unfold U5 at h ⊢;dsimp only at h ⊢;split at h
 ·rename_i hk;rw[if_pos hk];have h1:=J1 h;obtain⟨n0,n1⟩:=B6m hG h1;have h2:=Z5 h1;have h3:okR (A7 L E (A5 s) 1).2=true:=by
   split at h2
   ·exact h2
   ·exact h2
  refine key _ (by dsimp only;omega) (by dsimp only;omega) (Q4 hG h3) ?_ ?_
  ·dsimp only;generalize (A7 L E (if(k+1==6&&isR L E (A7 L E (A5 s) 1).2 [45])=true then A5 (A7 L E (A5 s) 1).2 else(A7 L E (A5 s) 1).2) 3).1.value=w at n0 n1 ⊢;by_cases h6:k+1=6
   ·rw[if_pos (by omega)];split<;>omega
   ·rw[if_neg (by omega),if_neg (by simp[h6])];exact n0
  grind
 ·rename_i hk;rw[if_neg hk];have h3:=J1 h;refine key _ (by dsimp only;omega) (by dsimp only;omega) (Q4 hG h3) ?_ ?_
  ·dsimp only;rw[if_neg (by omega)];decide
  grind
theorem B3f(hG:∀t∈L,I8 t):∀(f:Nat) (l:List Hd) (s:Rd) (r:List Hd × Rd),A1g L E f l s=some r->okR r.2=true->okR s=true/\(l.length<=32->l.all A1q=true->r.1.length<=32/\r.1.all A1q=true)
 |0,l,s,r,h,_=>by trivial
 |f+1,l,s,r,h,k=>by
  unfold A1g at h;dsimp only at h;split at h
  ·rename_i hc;refine⟨hc.1,λh1 h2=>?_⟩;split at h
   ·grind
   split at h
   ·grind
   rename_i hk;obtain⟨hok2,hi2, -,hk6⟩:=I3 (show 0<=C0 L E (E4 L E (D0 L E s ((l.length:Int)+1) 32 9) [111,110]) F5 by omega);have hk6:C0 L E (E4 L E (D0 L E s ((l.length:Int)+1) 32 9) [111,110]) F5<6:=hk6;obtain⟨-,hll, -⟩:=H7 (by simp) (J1 hok2);generalize C0 L E (E4 L E (D0 L E s ((l.length:Int)+1) 32 9) [111,110]) F5=q at h hk hk6;split at h
   ·grind
   ·rename_i b s5 hb;obtain⟨m1,m2⟩:=B3f hG f _ _ _ h k;obtain⟨b1,b2⟩:=(SS.all hG f).1 1 _ _ hb m1;refine m2 (by simp only[A0A,A0K];omega) ?_;rw[A3T,h2,A2E];simp only[A2L,List.all_nil,A2H,A1q,A0D,A0I];refine⟨⟨⟨by omega,by omega⟩,?_⟩,b2⟩;by_cases hq:2<=q
    ·rw[if_pos (by omega),if_pos hq];rw[if_pos hq]at b1;exact Q4 hG b1
    grind
  ·cases h;exact⟨J1 k,λh1 h2=>⟨h1,h2⟩⟩
theorem C6k(hG:∀t∈L,I8 t){f:Nat}{s:Rd}{r:Md × Rd}(h:A6g L E f s=some r)(k:okR r.2=true):okR s=true/\R0 r.1=true:=by
 unfold A6g at h;dsimp only at h;split at h
 ·grind
 ·rename_i l s3 hm;cases h;obtain⟨m1,m2⟩:=B3f hG _ _ _ _ hm k;obtain⟨m3,m4⟩:=m2 (by simp) rfl;have h1:=J1 m1;have h2:=Z5 h1;obtain⟨n0,n1⟩:=B6m hG h1;refine⟨J1 (Z5 h2),?_⟩;simp only[R0,A0D,A0I];exact⟨⟨⟨⟨Q4 hG h2,n0⟩,n1⟩,m3⟩,m4⟩
theorem A7m(hG:∀t∈L,I8 t):∀(f:Nat) (l:List Dc) (s:Rd) (r:List Dc × Rd),A0f L E f l s=some r->okR r.2=true->okR s=true/\(l.length<=128->l.all A0d=true->r.1.length<=128/\r.1.all A0d=true)
 |0,l,s,r,h,_=>by trivial
 |f+1,l,s,r,h,k=>by
  unfold A0f at h;dsimp only at h;split at h
  ·grind
  ·rename_i hk;obtain⟨hs,hi, -,hk8⟩:=I3 (show 0<=C0 L E s E8 by omega);have hk8:C0 L E s E8<8:=hk8;refine⟨hs,λh1 h2=>?_⟩;split at h
   ·rename_i hl;obtain⟨-,hll,hle⟩:=H7 (by simp) hl;obtain⟨m1,m2⟩:=A7m hG f _ _ _ h k;exact m2 (by grind) (by rw[A3T,h2,A2E,A2L,C7l hG (by omega) hk8 m1];rfl)
   ·rename_i hl;obtain⟨m1,m2⟩:=A7m hG f _ _ _ h k
    grind
theorem A7l(hG:∀t∈L,I8 t):∀(f:Nat) (l:List Md) (s:Rd) (r:List Md × Rd),Z1 L E f l s=some r->okR r.2=true->okR s=true/\(l.length<=16->l.all R0=true->r.1.length<=16/\r.1.all R0=true)
 |0,l,s,r,h,_=>by trivial
 |f+1,l,s,r,h,k=>by
  unfold Z1 at h;dsimp only at h;split at h
  ·rename_i hc;refine⟨hc.1,λh1 h2=>?_⟩;split at h
   ·cases h;rw[A7i]at k;cases k
   split at h
   ·rename_i hl;split at h
    ·cases h
    ·rename_i m s2 hm;obtain⟨m1,m2⟩:=A7l hG f _ _ _ h k;obtain⟨q1,q2⟩:=C6k hG hm m1;obtain⟨-,hll,hle⟩:=H7 (by decide) hl;exact m2 (by simp only[A0A,A0K];omega) (by rw[A3T,h2,A2E,A2L,q2];rfl)
   ·rename_i hl;obtain⟨m1,m2⟩:=A7l hG f _ _ _ h k;exact absurd m1 hl
  grind
theorem C5x(hG:∀t∈L,I8 t){f:Nat}{s:Rd}{r:Ru × Rd}(h:B0k L E f s=some r)(k:okR r.2=true):L9 r.1=true:=by
 unfold B0k at h;split at h
 ·grind
 ·rename_i d s1 hd;split at h
  ·grind
  ·rename_i m s2 hm;cases h;obtain⟨m1,m2⟩:=A7l hG _ _ _ _ hm k;obtain⟨m3,m4⟩:=m2 (by simp) rfl;obtain⟨d1,d2⟩:=A7m hG _ _ _ _ hd m1;obtain⟨d3,d4⟩:=d2 (by simp) rfl;simp only[L9,A0D,A0I]
   grind
end
section
variable {L:List Tok} {E:Int}
theorem D8s{k:Int}{s:Rd}(hi:s.i<L.length):(U5 L E k s).2.i<=L.length:=by
 have hn:(A5 s).i<=L.length:=hi;have h2:=N4 (E:=E) (x:=1) (by simp) hn;unfold U5;dsimp only;split
 ·refine K8 (N4 (by decide) ?_);split
  ·rename_i hm;rw[A0D]at hm;exact(A3a hm.2).2
  omega
 ·exact K8 h2
theorem D8e:∀(f:Nat) (l:List Hd) (s:Rd) (r:List Hd × Rd),A1g L E f l s=some r->s.i<=L.length->r.2.i<=L.length
 |0,l,s,r,h,hi=>by trivial
 |f+1,l,s,r,h,hi=>by
  unfold A1g at h;dsimp only at h;split at h
  ·split at h
   ·cases h;rw[U9];omega
   ·have h1:(D0 L E s ((l.length:Int)+1) 32 9).i<=L.length:=by rw[H4];omega
    have h2:=K8 (E:=E) (x:=[111,110]) h1;split at h
    ·cases h;rw[U9];omega
    ·rename_i hk;have h3:(A5 (E4 L E (D0 L E s ((l.length:Int)+1) 32 9) [111,110])).i<=L.length:=(I3 (show 0<=C0 L E (E4 L E (D0 L E s ((l.length:Int)+1) 32 9) [111,110]) F5 by omega)).2.1;split at h
     ·grind
     ·rename_i hb;refine D8e f _ _ _ h ((II.all f).1 _ _ _ hb ?_);split
      ·exact N4 (by decide) h3
      omega
  ·cases h;exact K8 hi
theorem D8d{f:Nat}{s:Rd}{r:Md × Rd}(h:A6g L E f s=some r)(hi:s.i<=L.length):r.2.i<=L.length:=by
 unfold A6g at h;dsimp only at h;split at h
 ·grind
 ·rename_i hm;cases h;exact D8e f _ _ _ hm (K8 (N4 (by simp) (N4 (by simp) (K8 hi))))
theorem C9l:∀(f:Nat) (l:List Dc) (s:Rd) (r:List Dc × Rd),A0f L E f l s=some r->s.i<=L.length->r.2.i<=L.length
 |0,l,s,r,h,hi=>by trivial
 |f+1,l,s,r,h,hi=>by
  unfold A0f at h;dsimp only at h;split at h
  ·grind
  ·rename_i hk;have hlt:=(I3 (show 0<=C0 L E s E8 by omega)).2.1;split at h
   ·exact C9l f _ _ _ h (D8s (by rw[H4];omega))
   ·exact C9l f _ _ _ h (by rw[H4];omega)
theorem C9k:∀(f:Nat) (l:List Md) (s:Rd) (r:List Md × Rd),Z1 L E f l s=some r->s.i<=L.length->r.2.i<=L.length
 |0,l,s,r,h,hi=>by trivial
 |f+1,l,s,r,h,hi=>by
  unfold Z1 at h;dsimp only at h;split at h
  ·split at h
   ·cases h;rw[U9];exact hi
   ·split at h
    ·split at h
     ·cases h
     ·rename_i hm;exact C9k f _ _ _ h (D8d hm (by rw[H4];exact hi))
    ·exact C9k f _ _ _ h (by rw[H4];exact hi)
  grind
end
def Evt{α:Type}(g:Nat->Option α)(r : α):Prop:=∃N, ∀f,N<=f->g f=some r
theorem Evt.one{α:Type}{g:Nat->Option α}{r : α}(h:∀f,g (f+1)=some r):Evt g r :=
 ⟨1,λf hf=>by obtain⟨k,rfl⟩:∃k,f=k+1:=⟨f-1,by omega⟩;grind⟩
theorem Evt.ext{α β:Type}{g:Nat->Option α}{h:Nat->Option β}{r : α}{q : β}(hg:Evt g r)(e:∀f,g f=some r->h (f+1)=some q):Evt h q:=by
 obtain⟨N,hg⟩:=hg;exact⟨N+1,λf hf=>by obtain⟨k,rfl⟩:∃k,f=k+1:=⟨f-1,by omega⟩;grind⟩
theorem Evt.map{α β:Type}{g:Nat->Option α}{h:Nat->Option β}{r : α}{q : β}(hg:Evt g r)(e:∀f,g f=some r->h f=some q):Evt h q:=by
 obtain⟨N,hg⟩:=hg;exact⟨N,λf hf=>e f (hg f hf)⟩
theorem Evt.and{α β:Type}{g:Nat->Option α}{h:Nat->Option β}{r : α}{q : β}(hg:Evt g r)(hh:Evt h q):Evt (λf=>match g f,h f with|some a,some b=>some (a,b)|_,_=>none) (r,q):=by
 obtain⟨N,hg⟩:=hg;obtain⟨M,hh⟩:=hh;exact⟨max N M,λf hf=>by grind⟩
theorem Evt.ext2{α β γ:Type}{g:Nat->Option α}{h:Nat->Option β}{k:Nat->Option γ}{r : α}{q : β}{w : γ}(hg:Evt g r)(hh:Evt h q)(e:∀f,g f=some r->h f=some q->k (f+1)=some w):Evt k w:=by
 obtain⟨N,hg⟩:=hg;obtain⟨M,hh⟩:=hh;exact⟨max N M+1,λf hf=>by obtain⟨j,rfl⟩:∃j,f=j+1:=⟨f-1,by omega⟩;grind⟩
theorem Evt.map2{α β γ:Type}{g:Nat->Option α}{h:Nat->Option β}{k:Nat->Option γ}{r : α}{q : β}{w : γ}(hg:Evt g r)(hh:Evt h q)(e:∀f,g f=some r->h f=some q->k f=some w):Evt k w:=by
 obtain⟨N,hg⟩:=hg;obtain⟨M,hh⟩:=hh;exact⟨max N M,λf hf=>e f (hg f (by omega)) (hh f (by omega))⟩
theorem Evt.uniq{α:Type}{g:Nat->Option α}{r q : α}(h1:Evt g r)(h2:Evt g q):r=q:=by
 obtain⟨N,h1⟩:=h1;obtain⟨M,h2⟩:=h2;exact Option.some.inj ((h1 (max N M) (by omega)).symm.trans (h2 (max N M) (by omega)))
theorem Evt.get{α:Type}{g:Nat->Option α}{r : α}(h:Evt g r):∃f,g f=some r:=by
 obtain⟨N,h⟩:=h;exact⟨N,h N (A0E _)⟩
section
variable {L:List Tok} {E:Int}
abbrev Bin(L:List Tok)(E n:Int)(s:Rd)(r:Ex × Rd):Prop:=Evt (λf=>M1 L E f n s) r
abbrev Lop(L:List Tok)(E n:Int)(e:Ex)(s:Rd)(r:Ex × Rd):Prop:=Evt (λf=>V5 L E f n e s) r
abbrev Un(L:List Tok)(E:Int)(s:Rd)(r:Ex × Rd):Prop:=Evt (λf=>A0e L E f s) r
theorem Bin.un{n:Int}{s:Rd}{r:Ex × Rd}(hn:5<n)(h:Un L E s r):Bin L E n s r :=
 h.ext λf h=>by rw[M1,if_pos hn];omega
theorem Bin.go{n:Int}{s s1:Rd}{e:Ex}{r:Ex × Rd}(hn:n<=5)(h:Bin L E (n+1) s (e,s1))(h2:Lop L E n e s1 r):Bin L E n s r :=
 h.ext2 h2 λf h h2=>by rw[M1,if_neg (by omega),h];omega
theorem Lop.stop{n:Int}{e:Ex}{s:Rd}(h:C0 L E s E0<0\/B0 (12+C0 L E s E0)≠n):Lop L E n e s (e,s) :=
 Evt.one λf=>by rw[V5];grind
theorem Lop.three{n:Int}{e x:Ex}{s s1:Rd}(h0:0<=C0 L E s E0)(h1:B0 (12+C0 L E s E0)=n)(hn:n=3)(hb:Bin L E (n+1) (A5 s) (x,s1)):Lop L E n e s (.mk (12+C0 L E s E0) 0 [] [e,x] (B8 L E s).pos,s1) :=
 hb.ext λf h=>by rw[V5];grind
theorem Lop.more{n:Int}{e x:Ex}{s s1:Rd}{r:Ex × Rd}(h0:0<=C0 L E s E0)(h1:B0 (12+C0 L E s E0)=n)(hn:n≠3)(hb:Bin L E (n+1) (A5 s) (x,s1))(hl:Lop L E n (.mk (12+C0 L E s E0) 0 [] [e,x] (B8 L E s).pos) s1 r):Lop L E n e s r :=
 hb.ext2 hl λf h h2=>by rw[V5];grind
theorem Un.prim{s:Rd}(h:C0 L E s R2<0):Un L E s (K3 L E s) :=
 Evt.one λf=>by rw[A0e];grind
theorem Un.bad{s:Rd}(h:0<=C0 L E s R2)(hl:okR (D0 L E s (s.par+1) 16 50)=false):Un L E s (Ex0,D0 L E s (s.par+1) 16 50) :=
 Evt.one λf=>by rw[A0e];grind
theorem Un.par{s s3:Rd}{e:Ex}(h:C0 L E s R2=2)(hl:okR (D0 L E s (s.par+1) 16 50)=true)(hb:Bin L E 1 { s with i:=s.i+1,par:=s.par+1 } (e,s3)):Un L E s (e, { E4 L E s3 [41] with par:=(E4 L E s3 [41]).par-1 }) :=
 hb.ext λf hf=>by
  have e0:=(H7 (by decide) hl).2.2;rw[A0e];grind
theorem Un.pre{s s3:Rd}{e:Ex}(h0:0<=C0 L E s R2)(h:C0 L E s R2≠2)(hl:okR (D0 L E s (s.par+1) 16 50)=true)(hb:Un L E { s with i:=s.i+1,par:=s.par+1 } (e,s3)):Un L E s (.mk (10+C0 L E s R2) 0 [] [e] (B8 L E s).pos, { s3 with par:=s3.par-1 }) :=
 hb.ext λf hf=>by
  have e0:=(H7 (by decide) hl).2.2;rw[A0e];grind
theorem F4{s:Rd}{x:List UInt8}:s.i<=(E4 L E s x).i:=by
 unfold E4;cases k:isR L E s x with
 |false=>rw[if_pos rfl,U9];omega
 |true=>rw[if_neg (by simp)];exact A2R _
theorem J7{s:Rd}{x:Int}:s.i<=(A7 L E s x).2.i:=by
 unfold A7;cases k:K9 L E s x with
 |false=>rw[if_pos rfl];show s.i<=(R1 L E s).i;rw[U9];omega
 |true=>rw[if_neg (by simp)];exact A2R _
theorem C3k{s:Rd}:s.i<=(K3 L E s).2.i:=by
 unfold K3;dsimp only;have h2:(D0 L E { s with ops:=s.ops+1 } (s.ops+1) 32 9).i=s.i:=H4;have h3:(A5 (D0 L E { s with ops:=s.ops+1 } (s.ops+1) 32 9)).i=s.i+1:=by show(D0 L E { s with ops:=s.ops+1 } (s.ops+1) 32 9).i+1=_;omega
 split
 ·show s.i<=(R1 L E s).i;rw[U9];omega
 ·split
  ·grind
  ·have:=J7 (L:=L) (E:=E) (s:=A5 (D0 L E { s with ops:=s.ops+1 } (s.ops+1) 32 9)) (x:=1)
   grind
theorem ET.all:∀(m:Nat),(∀s:Rd,L.length-s.i<=m->∃r,Un L E s r/\s.i<=r.2.i)/\(∀(n:Int) e (s:Rd),n<=5->1<=n->L.length-s.i<=m->∃r,Lop L E n e s r/\s.i<=r.2.i)/\(∀(n:Int) (s:Rd),1<=n->L.length-s.i<=m->∃r,Bin L E n s r/\s.i<=r.2.i):=by
 intro m
 induction m using Nat.strongRecOn with
 |_ m ih =>
  have A:∀s:Rd,L.length-s.i<=m->∃r,Un L E s r/\s.i<=r.2.i:=by
   intro s hs;by_cases hk:C0 L E s R2<0
   ·exact⟨_,Un.prim hk,C3k⟩
   ·obtain⟨-,hi, -⟩:=I3 (show 0<=C0 L E s R2 by omega);cases hl:okR (D0 L E s (s.par+1) 16 50) with
    |false=>exact⟨_,Un.bad (by omega) hl,by show s.i<=(D0 L E s (s.par+1) 16 50).i;rw[H4];omega⟩
    |true =>
     by_cases h2:C0 L E s R2=2
     ·obtain⟨⟨e,s3⟩,hb,hge⟩:=(ih (m-1) (by omega)).2.2 1 { s with i:=s.i+1,par:=s.par+1 } (by decide) (by show L.length-(s.i+1)<=m-1;omega);refine⟨_,Un.par h2 hl hb,?_⟩;have h4:=F4 (L:=L) (E:=E) (s:=s3) (x:=[41])
      grind
     ·obtain⟨⟨e,s3⟩,hb,hge⟩:=(ih (m-1) (by omega)).1 { s with i:=s.i+1,par:=s.par+1 } (by show L.length-(s.i+1)<=m-1;omega);refine⟨_,Un.pre (by omega) h2 hl hb,?_⟩
      grind
  have B:∀(n:Int) e (s:Rd),n<=5->1<=n->L.length-s.i<=m->∃r,Lop L E n e s r/\s.i<=r.2.i:=by
   intro n e s h5 h1 hs;by_cases hk:C0 L E s E0<0\/B0 (12+C0 L E s E0)≠n
   ·exact⟨_,Lop.stop hk,A0E _⟩
   ·have h0:0<=C0 L E s E0:=by omega
    obtain⟨-,hi, -⟩:=I3 h0;obtain⟨⟨x,s1⟩,hb,hge⟩:=(ih (m-1) (by omega)).2.2 (n+1) (A5 s) (by omega) (by show L.length-(s.i+1)<=m-1;omega);have hge:s.i+1<=s1.i:=hge;by_cases h3:n=3
    ·exact⟨_,Lop.three h0 (by omega) h3 hb,by grind⟩
    ·obtain⟨r,hl,hg2⟩:=(ih (m-1) (by omega)).2.1 n (.mk (12+C0 L E s E0) 0 [] [e,x] (B8 L E s).pos) s1 h5 h1 (by omega);exact⟨_,Lop.more h0 (by omega) h3 hb hl,by omega⟩
  refine⟨A,B,?_⟩;have C:∀(j:Nat) (n:Int) (s:Rd),6-n<=j->1<=n->L.length-s.i<=m->∃r,Bin L E n s r/\s.i<=r.2.i:=by
   intro j
   induction j with
   |zero =>
    intro n s hj h1 hs;obtain⟨r,h,hg⟩:=A s hs;exact⟨r,Bin.un (by omega) h,hg⟩
   |succ j ihj =>
    intro n s hj h1 hs;by_cases h5:5<n
    ·grind
    ·obtain⟨⟨e,s1⟩,h,hg⟩:=ihj (n+1) s (by omega) (by omega) hs;have hg:s.i<=s1.i:=hg;obtain⟨r,h2,hg2⟩:=B n e s1 (by omega) h1 (by omega);exact⟨r,Bin.go (by omega) h h2,by omega⟩
  exact λn s h1 hs=>C (6-n).toNat n s (by omega) h1 hs
abbrev Xpn(L:List Tok)(E:Int)(s:Rd)(r:Ex × Rd):Prop:=Evt (λf=>S6 L E f s) r
theorem A3p(s:Rd):∃r,Xpn L E s r/\s.i<=r.2.i:=by
 obtain⟨r,h,hg⟩:=(ET.all (L:=L) (E:=E) (L.length-s.i)).2.2 1 { s with ops:=0,par:=0 } (by simp) (A0E _);exact⟨r,h,hg⟩
theorem C8m(k p:Int)(s:Rd):∃r,Evt (λf=>O2 L E f k p s) r/\s.i<=r.2.i:=by
 by_cases h4:k=4
 ·obtain⟨⟨e,s1⟩,h,hg⟩:=A3p (L:=L) (E:=E) s;exact⟨_,h.map λf h=>by unfold O2;rw[if_pos h4,h],A1D hg F4⟩
 by_cases h18:k=18
 ·obtain⟨⟨e,s1⟩,h,hg⟩:=A3p (L:=L) (E:=E) (E4 L E (A7 L E s 4).2 [44]);exact⟨_,h.map λf h=>by unfold O2;rw[if_neg h4,if_pos h18,h],A1D (A1D J7 (A1D F4 hg)) F4⟩
 by_cases h19:k=19
 ·exact⟨_,Evt.one λf=>by unfold O2;rw[if_neg h4,if_neg h18,if_pos h19],F4⟩
 by_cases h8:k=8\/k=9\/k=10
 ·obtain⟨⟨e,s1⟩,h,hg⟩:=A3p (L:=L) (E:=E) (A7 L E s 1).2;by_cases h9:k=9
  ·obtain⟨⟨e2,s2⟩,h2,hg2⟩:=A3p (L:=L) (E:=E) (E4 L E s1 [44]);exact⟨_,h.map2 h2 λf h h2=>by unfold O2;rw[if_neg h4,if_neg h18,if_neg h19];dsimp only;rw[if_pos h8,h];dsimp only;rw[if_pos h9,h2],A1D (A1D J7 (A1D hg (A1D F4 hg2))) F4⟩
  ·exact⟨_,h.map λf h=>by unfold O2;rw[if_neg h4,if_neg h18,if_neg h19];dsimp only;rw[if_pos h8,h];dsimp only;rw[if_neg h9],A1D (A1D J7 hg) F4⟩
 ·exact⟨_,Evt.one λf=>by unfold O2;rw[if_neg h4,if_neg h18,if_neg h19];dsimp only;rw[if_neg h8],A1D J7 F4⟩
abbrev A9e(L:List Tok)(E d:Int)(s:Rd)(r:List St × Rd):Prop:=Evt (λf=>Q9 L E f d s) r
abbrev A1b(L:List Tok)(E d:Int)(l:List St)(s:Rd)(r:List St × Rd):Prop:=Evt (λf=>X5 L E f d l s) r
abbrev T1(L:List Tok)(E d:Int)(s:Rd)(r:St × Rd):Prop:=Evt (λf=>X6 L E f d s) r
abbrev A9c(L:List Tok)(E d:Int)(s:Rd)(r:List St × Rd):Prop:=Evt (λf=>X3 L E f d s) r
theorem A9e.mk{d:Int}{s:Rd}{r:List St × Rd}(h:A1b L E d [] (E4 L E s [123]) r):A9e L E d s r :=
 h.ext λf h=>by assumption
theorem A1b.stop{d:Int}{l:List St}{s:Rd}(h:¬(okR s=true/\isR L E s [125]=false)):A1b L E d l s (l,E4 L E s [125]) :=
 Evt.one λf=>by rw[X5,if_neg h]
theorem A1b.bad{d:Int}{l:List St}{s:Rd}(h:okR s=true/\isR L E s [125]=false)(h2:C0 L E s B9<0/\K9 L E s 1=false):A1b L E d l s ([],R1 L E s) :=
 Evt.one λf=>by rw[X5,if_pos h,if_pos h2]
theorem A1b.more{d:Int}{l:List St}{s s1:Rd}{x:St}{r:List St × Rd}(h:okR s=true/\isR L E s [125]=false)(h2:¬(C0 L E s B9<0/\K9 L E s 1=false))(hx:T1 L E d (D0 L E s ((l.length:Int)+1) 64 9) (x,s1))(hl:A1b L E d (l++[x]) s1 r):A1b L E d l s r :=
 hx.ext2 hl λf hx hl=>by rw[X5,if_pos h,if_neg h2,hx];omega
theorem T1.bad{d:Int}{s:Rd}(h:okR (D0 L E s d 8 50)=false):T1 L E d s (St0,D0 L E s d 8 50) :=
 Evt.one λf=>by rw[X6];grind
theorem T1.set{d:Int}{s s1:Rd}{e:Ex}(h:okR (D0 L E s d 8 50)=true)(hk:C0 L E s B9<0)(he:Xpn L E (E4 L E (A7 L E s 1).2 [61]) (e,s1)):T1 L E d s (.mk 1 (A7 L E s 1).1.text [] [e] [] [] (B8 L E s).pos,E4 L E s1 [59]) :=
 he.ext λf hf=>by
  have e0:=(H7 (by decide) h).2.2;rw[X6];grind
theorem T1.els{d:Int}{s s2 s3 s4:Rd}{e:Ex}{t o:List St}(h:okR (D0 L E s d 8 50)=true)(hk:C0 L E s B9=0)(he:Xpn L E (A5 s) (e,s2))(ht:A9e L E (d+1) s2 (t,s3))(hi:isR L E s3 [101,108,115,101]=true)(ho:A9c L E d (A5 s3) (o,s4)):T1 L E d s (.mk 2 [] [] [e] t o (B8 L E s).pos,s4) :=
 (he.and ht).ext2 ho λf hf h2=>by
  have e0:=(H7 (by simp) h).2.2;cases h3:S6 L E f (A5 s) with
  |none=>grind
  |some q =>
   cases h4:Q9 L E f (d+1) s2 with
   |none=>grind
   |some w =>
    rw[h3,h4]at hf;obtain⟨rfl,rfl⟩:=Prod.mk.inj (Option.some.inj hf);rw[X6];grind
theorem T1.blk{d:Int}{s s2 s3:Rd}{e:Ex}{t:List St}(h:okR (D0 L E s d 8 50)=true)(hk:C0 L E s B9=0\/C0 L E s B9=1)(he:Xpn L E (A5 s) (e,s2))(ht:A9e L E (d+1) s2 (t,s3))(hi:¬(C0 L E s B9=0/\isR L E s3 [101,108,115,101]=true)):T1 L E d s (.mk (2+C0 L E s B9) [] [] [e] t [] (B8 L E s).pos,s3) :=
 he.ext2 ht λf h3 h4=>by
  have e0:=(H7 (by decide) h).2.2;rw[X6];grind
theorem T1.tail{d:Int}{s:Rd}{r:St × Rd}(h:okR (D0 L E s d 8 50)=true)(hk:2<=C0 L E s B9)(he:Evt (λf=>O2 L E f (2+C0 L E s B9) (B8 L E s).pos (A5 s)) r):T1 L E d s r :=
 he.ext λf h3=>by
  have e0:=(H7 (by decide) h).2.2;rw[X6];grind
theorem A9c.iff{d:Int}{s s1:Rd}{x:St}(h:isR L E s [105,102]=true)(hs:T1 L E (d+1) s (x,s1)):A9c L E d s ([x],s1) :=
 hs.ext λf hf=>by rw[X3,if_pos h,hf]
theorem A9c.blk{d:Int}{s:Rd}{r:List St × Rd}(h:isR L E s [105,102]=false)(hs:A9e L E (d+1) s r):A9c L E d s r :=
 hs.ext λf hf=>by rw[X3,if_neg (by rw[h];decide)];omega
theorem ST.all:∀(m:Nat),(∀d (s:Rd),L.length-s.i<=m->∃r,T1 L E d s r/\s.i<=r.2.i/\(okR (D0 L E s d 8 50)=true->(0<=C0 L E s B9\/K9 L E s 1=true)->s.i<r.2.i)) /\
  (∀d l (s:Rd),L.length-s.i<=m->∃r,A1b L E d l s r/\s.i<=r.2.i):=by
 intro m
 induction m using Nat.strongRecOn with
 |_ m ih =>
  have blk:∀d (s:Rd),L.length-s.i<m->∃r,A9e L E d s r/\s.i<=r.2.i:=by
   intro d s hs;have h0:=F4 (L:=L) (E:=E) (s:=s) (x:=[123]);obtain⟨r,h,hg⟩:=(ih _ hs).2 d [] (E4 L E s [123]) (by omega);exact⟨r,A9e.mk h,by omega⟩
  have oth:∀d (s:Rd),L.length-s.i<m->∃r,A9c L E d s r/\s.i<=r.2.i:=by
   intro d s hs;cases hi:isR L E s [105,102] with
   |true =>
    obtain⟨⟨x,s1⟩,h,hg, -⟩:=(ih _ hs).1 (d+1) s (A0E _);exact⟨_,A9c.iff hi h,hg⟩
   |false =>
    obtain⟨r,h,hg⟩:=blk (d+1) s hs;exact⟨r,A9c.blk hi h,hg⟩
  have A:∀d (s:Rd),L.length-s.i<=m->∃r,T1 L E d s r/\s.i<=r.2.i/\(okR (D0 L E s d 8 50)=true->(0<=C0 L E s B9\/K9 L E s 1=true)->s.i<r.2.i):=by
   intro d s hs;cases hl:okR (D0 L E s d 8 50) with
   |false=>exact⟨_,T1.bad hl,by show s.i<=(D0 L E s d 8 50).i;rw[H4];omega,λh=>by grind⟩
   |true =>
    by_cases hk:C0 L E s B9<0
    ·obtain⟨⟨e,s1⟩,he,hg⟩:=A3p (L:=L) (E:=E) (E4 L E (A7 L E s 1).2 [61]);have hg:(E4 L E (A7 L E s 1).2 [61]).i<=s1.i:=hg;have h1:=F4 (L:=L) (E:=E) (s:=s1) (x:=[59]);have h2:=F4 (L:=L) (E:=E) (s:=(A7 L E s 1).2) (x:=[61]);have h3:=J7 (L:=L) (E:=E) (s:=s) (x:=1);refine⟨_,T1.set hl hk he,by show s.i<=(E4 L E s1 [59]).i;omega,λ_ hc=>?_⟩;have h4:K9 L E s 1=true:=hc.resolve_left (by omega);have h5:(A7 L E s 1).2.i=s.i+1:=by unfold A7;rw[if_neg (by rw[h4];decide)];rfl
     grind
    ·obtain⟨-,hi, -,hk18⟩:=I3 (show 0<=C0 L E s B9 by omega);by_cases h01:C0 L E s B9=0\/C0 L E s B9=1
     ·obtain⟨⟨e,s2⟩,he,hg⟩:=A3p (L:=L) (E:=E) (A5 s);have hg:s.i+1<=s2.i:=hg;obtain⟨⟨t,s3⟩,ht,hg3⟩:=blk (d+1) s2 (by omega);have hg3:s2.i<=s3.i:=hg3;by_cases hc:C0 L E s B9=0/\isR L E s3 [101,108,115,101]=true
      ·have hi3:=(A3a hc.2).2;obtain⟨⟨o,s4⟩,ho,hg4⟩:=oth d (A5 s3) (by show L.length-(s3.i+1)<m;omega);have hg4:s3.i+1<=s4.i:=hg4;exact⟨_,T1.els hl hc.1 he ht hc.2 ho,by grind,λ_ _=>by grind⟩
      ·exact⟨_,T1.blk hl h01 he ht hc,by grind,λ_ _=>by grind⟩
     ·obtain⟨r,hr,hg⟩:=C8m (L:=L) (E:=E) (2+C0 L E s B9) (B8 L E s).pos (A5 s);have hg:s.i+1<=r.2.i:=hg;exact⟨_,T1.tail hl (by omega) hr,by omega,λ_ _=>by omega⟩
  refine⟨A,λd l s hs=>?_⟩;by_cases hc:okR s=true/\isR L E s [125]=false
  ·by_cases h2:C0 L E s B9<0/\K9 L E s 1=false
   ·exact⟨_,A1b.bad hc h2,by show s.i<=(R1 L E s).i;rw[U9];omega⟩
   ·have hlt:s.i<L.length:=by
     by_cases hk:0<=C0 L E s B9
     ·exact(I3 hk).2.1
     ·cases h1:K9 L E s 1 with
      |false=>grind
      |true=>exact(K4 (by simp) (I9 h1).2).2
    cases hl:okR (D0 L E s ((l.length:Int)+1) 64 9) with
    |false =>
     have hb:okR (D0 L E (D0 L E s ((l.length:Int)+1) 64 9) d 8 50)=false:=by
      cases hz:okR (D0 L E (D0 L E s ((l.length:Int)+1) 64 9) d 8 50) with
      |false=>rfl
      |true=>rw[(H7 (by decide) hz).1]at hl;cases hl
     have hx:=T1.bad hb;refine⟨_,A1b.more hc h2 hx (A1b.stop (by rw[hb];simp)),?_⟩;have h1:=F4 (L:=L) (E:=E) (s:=D0 L E (D0 L E s ((l.length:Int)+1) 64 9) d 8 50) (x:=[125]);rw[H4,H4]at h1;omega
    |true =>
     have e0:=(H7 (by simp) hl).2.2;obtain⟨⟨x,s1⟩,hx,hg,hprog⟩:=A d s hs;have hg:s.i<=s1.i:=hg;cases hd:okR (D0 L E s d 8 50) with
     |false =>
      have hx:=T1.bad hd;refine⟨_,A1b.more hc h2 (by rw[e0];exact hx) (A1b.stop (by rw[hd];simp)),?_⟩;have h1:=F4 (L:=L) (E:=E) (s:=D0 L E s d 8 50) (x:=[125]);rw[H4]at h1;omega
     |true =>
      have hlt2:s.i<s1.i:=hprog hd (by
       grind)
      obtain⟨r,hr,hg2⟩:=(ih (L.length-s1.i) (by omega)).2 d (l++[x]) s1 (A0E _);exact⟨r,A1b.more hc h2 (by grind) hr,by omega⟩
  ·exact⟨_,A1b.stop hc,F4⟩
theorem D7l(d:Int)(s:Rd):∃r,A9e L E d s r/\s.i<=r.2.i:=by
 obtain⟨r,h,hg⟩:=(ST.all (L:=L) (E:=E) _).2 d [] (E4 L E s [123]) (A0E _);exact⟨r,A9e.mk h,A1D F4 hg⟩
theorem D5w:∀(m:Nat) (l:List Hd) (s:Rd),L.length-s.i<=m->∃r,Evt (λf=>A1g L E f l s) r/\s.i<=r.2.i:=by
 intro m
 induction m using Nat.strongRecOn with
 |_ m ih =>
  intro l s hs;by_cases hc:okR s=true/\isR L E s [125]=false
  ·cases hon:isR L E s [111,110] with
   |false=>exact⟨_,Evt.one λf=>by rw[A1g,if_pos hc,if_pos hon],by show s.i<=(R1 L E s).i;rw[U9];omega⟩
   |true =>
    have hi:=(A3a hon).2;have h1:(D0 L E s ((l.length:Int)+1) 32 9).i=s.i:=H4;generalize hl:D0 L E s ((l.length:Int)+1) 32 9=s1 at h1;have h2:=F4 (L:=L) (E:=E) (s:=s1) (x:=[111,110]);generalize he:E4 L E s1 [111,110]=s2 at h2;by_cases hk:C0 L E s2 F5<0
    ·exact⟨_,Evt.one λf=>by rw[A1g,if_pos hc,if_neg (by grind),hl];dsimp only;rw[he,if_pos hk],by show s.i<=(R1 L E s2).i;rw[U9];omega⟩
    ·have hi2:=(I3 (show 0<=C0 L E s2 F5 by omega)).2.1;have h4:s2.i+1<=(if 2<=C0 L E s2 F5 then(A7 L E (A5 s2) 1).2 else A5 s2).i:=by
      split
      ·exact J7 (L:=L) (E:=E) (s:=A5 s2) (x:=1)
      ·exact A0E _
     obtain⟨⟨b,s5⟩,hb,hg⟩:=D7l (L:=L) (E:=E) 1 (if 2<=C0 L E s2 F5 then(A7 L E (A5 s2) 1).2 else A5 s2);have hg:(if 2<=C0 L E s2 F5 then(A7 L E (A5 s2) 1).2 else A5 s2).i<=s5.i:=hg;obtain⟨r,hr,hg2⟩:=ih (L.length-s5.i) (by omega) (l++[⟨1+C0 L E s2 F5,if 2<=C0 L E s2 F5 then(A7 L E (A5 s2) 1).1.text else [],b,(B8 L E s1).pos⟩]) s5 (A0E _);exact⟨r,hb.ext2 hr λf hb hr=>by rw[A1g,if_pos hc,if_neg (by rw[hon];decide),hl];grind,by omega⟩
  ·exact⟨_,Evt.one λf=>by rw[A1g,if_neg hc],F4⟩
theorem D5v(s:Rd):∃r,Evt (λf=>A6g L E f s) r/\s.i<=r.2.i/\(isR L E s [109,111,100,101]=true->s.i<r.2.i):=by
 obtain⟨⟨l,s3⟩,h,hg⟩:=D5w (L:=L) (E:=E) _ [] (E4 L E (A7 L E (A7 L E (E4 L E s [109,111,100,101]) 1).2 3).2 [123]) (A0E _);have hg:(E4 L E (A7 L E (A7 L E (E4 L E s [109,111,100,101]) 1).2 3).2 [123]).i<=s3.i:=hg;have h1:=F4 (L:=L) (E:=E) (s:=(A7 L E (A7 L E (E4 L E s [109,111,100,101]) 1).2 3).2) (x:=[123]);have h2:=J7 (L:=L) (E:=E) (s:=(A7 L E (E4 L E s [109,111,100,101]) 1).2) (x:=3);have h3:=J7 (L:=L) (E:=E) (s:=E4 L E s [109,111,100,101]) (x:=1);have h4:=F4 (L:=L) (E:=E) (s:=s) (x:=[109,111,100,101]);refine⟨_,h.map λf h=>by unfold A6g;dsimp only;rw[h],by show s.i<=s3.i;omega,λhi=>?_⟩;have h5:(E4 L E s [109,111,100,101]).i=s.i+1:=by unfold E4;rw[if_neg (by rw[hi];decide)];rfl
 grind
theorem D3i{k:Int}{s:Rd}:s.i+1<=(U5 L E k s).2.i:=by
 unfold U5;dsimp only;have h1:=J7 (L:=L) (E:=E) (s:=A5 s) (x:=1);have h0:(A5 s).i=s.i+1:=rfl;split
 ·generalize (A7 L E (A5 s) 1).2=s2 at h1 ⊢;have h3:s2.i<=(if(k+1==6&&isR L E s2 [45])=true then A5 s2 else s2).i:=by
   split
   ·exact A2R _
   ·exact A0E _
  generalize (if(k+1==6&&isR L E s2 [45])=true then A5 s2 else s2)=s3 at h3 ⊢;have h4:=J7 (L:=L) (E:=E) (s:=s3) (x:=3);have h5:=F4 (L:=L) (E:=E) (s:=(A7 L E s3 3).2) (x:=[59])
  grind
 ·have h5:=F4 (L:=L) (E:=E) (s:=(A7 L E (A5 s) 1).2) (x:=[59])
  grind
theorem C5f{s:Rd}(h:okR s=false):∀(l:List (List UInt8)) (k:Nat),A2h L E s k l = -1
 |[],k=>rfl
 |t::l,k=>by rw[A2h,show isR L E s t=false by unfold isR;grind,if_neg (by simp),C5f h l]
theorem D4x:∀(m:Nat) (l:List Dc) (s:Rd),L.length-s.i<=m->∃r,Evt (λf=>A0f L E f l s) r/\s.i<=r.2.i:=by
 intro m
 induction m using Nat.strongRecOn with
 |_ m ih =>
  intro l s hs;by_cases hk:C0 L E s E8<0
  ·exact⟨_,Evt.one λf=>by rw[A0f];dsimp only;rw[if_pos hk],A0E _⟩
  ·have hi:=(I3 (show 0<=C0 L E s E8 by omega)).2.1;have h1:(D0 L E s ((l.length:Int)+1) 128 9).i=s.i:=H4;cases hl:okR (D0 L E s ((l.length:Int)+1) 128 9) with
   |false =>
    have hz:C0 L E (D0 L E s ((l.length:Int)+1) 128 9) E8<0:=by
     show A2h L E _ 0 E8<0;rw[C5f hl];simp
    have h2:Evt (λf=>A0f L E f l (D0 L E s ((l.length:Int)+1) 128 9)) (l,D0 L E s ((l.length:Int)+1) 128 9):=Evt.one λf=>by rw[A0f];grind
    exact⟨_,h2.ext λf h=>by rw[A0f];dsimp only;rw[if_neg hk,if_neg (by grind)];exact h,by grind⟩
   |true =>
    have h3:=D3i (L:=L) (E:=E) (k:=C0 L E s E8) (s:=D0 L E s ((l.length:Int)+1) 128 9);obtain⟨r,hr,hg⟩:=ih (L.length-(U5 L E (C0 L E s E8) (D0 L E s ((l.length:Int)+1) 128 9)).2.i) (by omega) (l++[(U5 L E (C0 L E s E8) (D0 L E s ((l.length:Int)+1) 128 9)).1]) _ (A0E _);exact⟨r,hr.ext λf h=>by rw[A0f];grind,by omega⟩
theorem D4w:∀(m:Nat) (l:List Md) (s:Rd),L.length-s.i<=m->∃r,Evt (λf=>Z1 L E f l s) r/\s.i<=r.2.i:=by
 intro m
 induction m using Nat.strongRecOn with
 |_ m ih =>
  intro l s hs;by_cases hc:okR s=true/\s.i<L.length
  ·cases hm:isR L E s [109,111,100,101] with
   |false=>exact⟨_,Evt.one λf=>by rw[Z1,if_pos hc,if_pos hm],by show s.i<=(R1 L E s).i;rw[U9];omega⟩
   |true =>
    have h1:(D0 L E s ((l.length:Int)+1) 16 9).i=s.i:=H4;cases hl:okR (D0 L E s ((l.length:Int)+1) 16 9) with
    |false =>
     have h2:Evt (λf=>Z1 L E f l (D0 L E s ((l.length:Int)+1) 16 9)) (l,D0 L E s ((l.length:Int)+1) 16 9):=Evt.one λf=>by rw[Z1,if_neg (by grind)]
     exact⟨_,h2.ext λf h=>by rw[Z1,if_pos hc,if_neg (by grind)];dsimp only;rw[if_neg (by grind)];exact h,by grind⟩
    |true =>
     have e0:=(H7 (by simp) hl).2.2;obtain⟨⟨md,s2⟩,h2,hg,hlt⟩:=D5v (L:=L) (E:=E) s;have hlt:s.i<s2.i:=hlt hm;obtain⟨r,hr,hg2⟩:=ih (L.length-s2.i) (by omega) (l++[md]) s2 (A0E _);exact⟨r,h2.ext2 hr λf h2 hr=>by rw[Z1,if_pos hc,if_neg (by rw[hm];decide)];grind,by omega⟩
  ·exact⟨_,Evt.one λf=>by rw[Z1,if_neg hc],A0E _⟩
theorem C2s(s:Rd):∃r,Evt (λf=>B0k L E f s) r:=by
 obtain⟨⟨d,s1⟩,h1, -⟩:=D4x (L:=L) (E:=E) _ [] s (A0E _);obtain⟨⟨m,s2⟩,h2, -⟩:=D4w (L:=L) (E:=E) _ [] s1 (A0E _);exact⟨_,h1.map2 h2 λf h1 h2=>by unfold B0k;rw[h1];dsimp only;rw[h2]⟩
end
def C5j(t:Tok):Prop:=I8 t/\0<=t.value/\t.value<=2147483647
abbrev D8(l:List Tok):Prop:=∀t∈l,C5j t
theorem A8r:C5j Y9:=⟨⟨λh=>by trivial,λh=>by trivial,λh=>by rfl⟩,by trivial,by trivial⟩
theorem T5(s:List UInt8):C5j (A3 s):=by
 refine⟨⟨λh=>?_,λh=>?_,λh=>?_⟩,by simp[A3],by simp[A3]⟩;all_goals simp only[A3]at h ⊢
 all_goals(by_cases h1:I6 s=true)
 all_goals(by_cases h2:D7 s=true)
 all_goals(simp_all)
theorem A1j(s:List UInt8):D8 (D6 s):=by
 intro t ht;unfold D6 at ht;split at ht
 ·rw[A1L]at ht;subst ht;trivial
 ·rename_i h;rw[A1L]at ht;subst ht;exact⟨⟨λ_=>by grind,λh=>by simp,λh=>by grind⟩,by simp,by simp⟩
theorem C4u(n:Int):D8 (V3 n):=by
 intro t ht;unfold V3 at ht;split at ht
 ·rw[A1L]at ht;subst ht;trivial
 ·rename_i h;rw[A1L]at ht;subst ht;refine⟨⟨λh=>by simp at h,λ_=>?_,λh=>by simp at h⟩,?_,?_⟩<;>simp only<;>omega
theorem E6k(s:List UInt8):D8 (A2i s):=by
 intro t ht;unfold A2i at ht;split at ht
 ·rw[A1L]at ht;subst ht;trivial
 ·rename_i h;rw[A1L]at ht;subst ht;refine⟨⟨λh=>by simp at h,λh=>by simp at h,λ_=>?_⟩,by simp,by simp⟩;simp only[S3,A0D,A0I]
  grind
theorem D8.app{a b:List Tok}(ha:D8 a)(hb:D8 b):D8 (a++b):=λt ht=>(A1A.1 ht).elim (ha t) (hb t)
theorem D8.one{t:Tok}(h:C5j t):D8 [t]:=λx hx=>by grind
theorem D8.nil:D8 []:=λx hx=>by grind
theorem D8.flat{α:Type}{f : α->List Tok}{l:List α}(h:∀x∈l,D8 (f x)):D8 (l.flatMap f):=λt ht=>by
 grind
theorem D2b{q:Int × List Tok}(n:Int)(h:D8 q.2):D8 (F0 q n):=by
 unfold F0;split
 ·exact((D8.one (T5 _)).app h).app (D8.one (T5 _))
 omega
theorem E6l{k v:Int}{n:List UInt8}{as1:List (Int × List Tok)}(h:∀q∈as1,D8 q.2):D8 (L7 k v n as1):=by
 unfold L7;dsimp only;by_cases h1:k=1
 ·rw[if_pos h1];exact C4u _
 rw[if_neg h1];by_cases h2:k=2
 ·rw[if_pos h2];exact A1j _
 rw[if_neg h2];by_cases h3:k=3
 ·rw[if_pos h3];exact D8.one (T5 _)
 rw[if_neg h3];by_cases h4:k=4
 ·rw[if_pos h4];exact D8.one (T5 _)
 rw[if_neg h4];by_cases h8:k=8
 ·rw[if_pos h8];exact D8.one (T5 _)
 rw[if_neg h8];by_cases h9:k=9
 ·rw[if_pos h9];exact D8.one (T5 _)
 rw[if_neg h9];by_cases h5:k=5
 ·rw[if_pos h5];exact(D8.one (T5 _)).app (A1j _)
 rw[if_neg h5];by_cases h6:k=6
 ·rw[if_pos h6];exact(D8.one (T5 _)).app (A1j _)
 rw[if_neg h6];by_cases h7:k=7
 ·rw[if_pos h7];exact(D8.one (T5 _)).app (A1j _)
 rw[if_neg h7]
 match as1,h with
 |[],_=>exact D8.one A8r
 |[q],h =>
  dsimp only;split
  ·exact(D8.one (T5 _)).app (D2b _ (h q A0J))
  ·exact D8.one A8r
 |[q,r],h =>
  dsimp only;split
  ·exact((D2b _ (h q A0J)).app (D8.one (T5 _))).app (D2b _ (h r (A0G _ A0J)))
  ·exact D8.one A8r
 |_::_::_::_,_=>exact D8.one A8r
theorem D8k:∀e:Ex,D8 (exT e)
 |.mk k v n a p=>by
  have ih:∀x∈a,D8 (exT x):=λx hx=>D8k x;rw[exT,A6v];exact E6l λq hq=>by
   grind
theorem B1g(l:List Ex)(i:Nat):D8 (agT l i):=by
 unfold agT;cases h:l[i]? with
 |none=>exact D8.one A8r
 |some e=>exact D8k e
mutual
theorem D1z:∀s:St,D8 (stT s)
 |.mk k n t a x y p=>by
  have hx:=A9t x;have hy:∀l,l=y->D8 (Q1 l):=λl h=>by subst h;exact A9t l
  have hq:∀q,y=[q]->D8 (stT q):=λq h=>by subst h;exact D1z q
  have w:∀s,D8 [A3 s]:=λs=>D8.one (T5 s);unfold stT;split
  ·exact(((A1j _).app (w _)).app (B1g _ _)).app (w _)
  split
  ·exact D8.one A8r
  dsimp only;split
  ·have ho:D8 ([A3 (B9.getD (k-2).toNat [])]++agT a 0++([A3 [123]]++Q1 x++[A3 [125]])):=((w _).app (B1g _ _)).app (((w _).app hx).app (w _))
   match y,hy,hq with
   |[],_,_=>omega
   |[q],_,hq =>
    dsimp only;split
    ·exact(ho.app (w _)).app (hq q rfl)
    grind
   |q::q2::r,hy,_=>grind
  split
  ·exact((w _).app (B1g _ _)).app (w _)
  split
  ·exact((((w _).app (E6k _)).app (w _)).app (B1g _ _)).app (w _)
  split
  ·exact(((w _).app (A1j _)).app (B1g _ _)).app (w _)
  split
  ·exact(((((w _).app (A1j _)).app (B1g _ _)).app (w _)).app (B1g _ _)).app (w _)
  split
  ·grind
  ·exact((w _).app (A1j _)).app (w _)
theorem A9t:∀l:List St,D8 (Q1 l)
 |[]=>by rw[Q1];grind
 |s::l=>by rw[Q1];exact(D1z s).app (A9t l)
end
theorem E2x(l:List St):D8 (blT l):=((D8.one (T5 _)).app (A9t l)).app (D8.one (T5 _))
theorem E2w(d:Dc):D8 (dcT d):=by
 have w:∀s,D8 [A3 s]:=λs=>D8.one (T5 s);unfold dcT;split
 ·exact D8.one A8r
 ·dsimp only;refine D8.app ?_ (w _);split
  ·exact(w _).app (A1j _)
  split
  ·exact(((w _).app (A1j _)).app (w _)).app (C4u _)
  ·exact((w _).app (A1j _)).app (C4u _)
theorem E2v(h:Hd):D8 (hdT h):=by
 unfold hdT;refine D8.app (D8.app ?_ ?_) (E2x _)
 ·exact(D8.one (T5 _)).app (D8.one (T5 _))
 ·split
  ·exact A1j _
  grind
theorem E2u(m:Md):D8 (mdT m):=by
 have w:∀s,D8 [A3 s]:=λs=>D8.one (T5 s);unfold mdT;exact(((((w _).app (A1j _)).app (C4u _)).app (w _)).app (D8.flat λx _=>E2v x)).app (w _)
theorem D2a(r:Ru):D8 (ruT r):=by
 unfold ruT;split
 ·exact D8.one A8r
 ·exact(D8.flat λx _=>E2w x).app (D8.flat λx _=>E2u x)
section
variable {L:List Tok} {E:Int}
theorem C3x{s:List UInt8}(h:D7 s=true):s.length<=12:=by
 unfold D7 at h
 grind
theorem A3r(hG:∀t∈L,I8 t){s:Rd}:(A7 L E s 1).1.text.length<=12:=by
 cases h:K9 L E s 1 with
 |false=>unfold A7;rw[if_pos h];exact A0P _
 |true =>
  unfold A7;rw[if_neg (by grind)];exact C3x ((hG _ (K4 (by simp) (I9 h).2).1).1 (I9 h).2)
theorem D4k(hG:∀t∈L,I8 t){s:Rd}:(A7 L E s 4).1.text.length<=32:=by
 cases h:K9 L E s 4 with
 |false=>unfold A7;rw[if_pos h];exact A0P _
 |true =>
  unfold A7;rw[if_neg (by rw[h];decide)];have:=(hG _ (K4 (by decide) (I9 h).2).1).2.2 (I9 h).2;unfold S3 at this
  grind
theorem D5e(hG:∀t∈L,I8 t){s:Rd}:(K3 L E s).1.sz+13*s.i<=13*(K3 L E s).2.i+1:=by
 have hge:=C3k (L:=L) (E:=E) (s:=s);have h2:(D0 L E { s with ops:=s.ops+1 } (s.ops+1) 32 9).i=s.i:=H4;unfold K3 at hge ⊢;dsimp only at hge ⊢;split
 ·rename_i hc;rw[if_pos hc]at hge;show 1+0+0+_<=_;omega
 ·rename_i hc;rw[if_neg hc]at hge;split
  ·show 1+0+0+13*s.i<=13*(D0 L E { s with ops:=s.ops+1 } (s.ops+1) 32 9).i+1;omega
  ·have h3:(A5 (D0 L E { s with ops:=s.ops+1 } (s.ops+1) 32 9)).i=s.i+1:=by show(D0 L E { s with ops:=s.ops+1 } (s.ops+1) 32 9).i+1=_;omega
   generalize A5 (D0 L E { s with ops:=s.ops+1 } (s.ops+1) 32 9)=s3 at h3;have h4:=J7 (L:=L) (E:=E) (s:=s3) (x:=1);have h5:=A3r (L:=L) (E:=E) hG (s:=s3);split
   ·split
    ·show 1+(A7 L E s3 1).1.text.length+0+13*s.i<=13*(A7 L E s3 1).2.i+1;omega
    ·show 1+0+0+13*s.i<=13*s3.i+1;omega
   ·rename_i hk;split
    ·show 1+0+0+13*s.i<=13*s3.i+1;omega
    ·rename_i hk3;have h1k:K9 L E s 1=true:=by
      cases hz:K9 L E s 1 with
      |true=>rfl
      |false =>
       refine absurd ⟨by omega,?_,hz⟩ hc;cases hy:K9 L E s 3 with
       |false=>rfl
       |true=>exact absurd (I9 hy).2 hk3
     have:=C3x ((hG _ (K4 (by simp) (I9 h1k).2).1).1 (I9 h1k).2);show 1+(B8 L E s).text.length+0+13*s.i<=13*s3.i+1;omega
theorem EZ.all(hG:∀t∈L,I8 t):∀f:Nat,(∀n s r,M1 L E f n s=some r->r.1.sz+13*s.i<=13*r.2.i+1)/\(∀n e s r,V5 L E f n e s=some r->r.1.sz+13*s.i<=13*r.2.i+e.sz)/\(∀s r,A0e L E f s=some r->r.1.sz+13*s.i<=13*r.2.i+1)
 |0=>⟨λn s r h=>by trivial,λn e s r h=>by trivial,λs r h=>by trivial⟩
 |f+1=>by
  obtain⟨i1,i2,i3⟩:=EZ.all hG f;refine⟨λn s r h=>?_,λn e s r h=>?_,λs r h=>?_⟩
  ·unfold M1 at h
   grind
  ·unfold V5 at h;dsimp only at h;split at h
   ·grind
   ·split at h
    ·grind
    ·rename_i x s1 hb;have h1:=i1 _ _ _ hb;have h1:x.sz+13*(s.i+1)<=13*s1.i+1:=h1;have h3:(Ex.mk (12+C0 L E s E0) 0 [] [e,x] (B8 L E s).pos).sz=1+e.sz+x.sz:=by rw[Ex.sz,Ex.szs,Ex.szs,Ex.szs];simp;omega
     grind
  ·unfold A0e at h;dsimp only at h;split at h
   ·cases h;exact D5e hG
   ·split at h
    ·cases h;show 1+0+0+13*s.i<=13*(D0 L E s (s.par+1) 16 50).i+1;rw[H4];omega
    ·rename_i hl;have hl:okR (D0 L E s (s.par+1) 16 50)=true:=by grind
     obtain⟨-, -,h3⟩:=H7 (by simp) hl;rw[h3]at h;split at h
     ·split at h
      ·grind
      ·rename_i e s3 hb;cases h;have h1:=i1 _ _ _ hb;have h1:e.sz+13*(s.i+1)<=13*s3.i+1:=h1;have h2:=F4 (L:=L) (E:=E) (s:=s3) (x:=[41])
       grind
     ·split at h
      ·grind
      ·rename_i e s3 hb;cases h;have h1:=i3 _ _ hb;have h1:e.sz+13*(s.i+1)<=13*s3.i+1:=h1;have h4:(Ex.mk (10+C0 L E s R2) 0 [] [e] (B8 L E s).pos).sz=1+e.sz:=by rw[Ex.sz,Ex.szs,Ex.szs];simp
       grind
theorem A4a(hG:∀t∈L,I8 t){f:Nat}{s:Rd}{r:Ex × Rd}(h:S6 L E f s=some r):r.1.sz+13*s.i<=13*r.2.i+1:=(EZ.all hG f).1 1 { s with ops:=0,par:=0 } r h
theorem A8n(k p:Int)(n t:List UInt8)(a:List Ex)(x y:List St):(St.mk k n t a x y p).sz=1+n.length+t.length+Ex.szs a+St.szs x+St.szs y:=by rfl
theorem D4m(hG:∀t∈L,I8 t){f:Nat}{k p:Int}{s:Rd}{r:St × Rd}(h:O2 L E f k p s=some r):r.1.sz+100*s.i<=100*r.2.i+40:=by
 have t1:=A3r (L:=L) (E:=E) hG (s:=s);have t4:=D4k (L:=L) (E:=E) hG (s:=s);have g1:=J7 (L:=L) (E:=E) (s:=s) (x:=1);have g4:=J7 (L:=L) (E:=E) (s:=s) (x:=4);unfold O2 at h;dsimp only at h;split at h
 ·split at h
  ·grind
  ·rename_i e s1 he;cases h;have h1:=A4a hG he;have h2:=F4 (L:=L) (E:=E) (s:=s1) (x:=[59]);rw[A8n,Ex.szs,Ex.szs,St.szs]
   grind
 split at h
 ·split at h
  ·grind
  ·rename_i e s1 he;cases h;have h1:=A4a hG he;have h2:=F4 (L:=L) (E:=E) (s:=s1) (x:=[59]);have h3:=F4 (L:=L) (E:=E) (s:=(A7 L E s 4).2) (x:=[44]);rw[A8n,Ex.szs,Ex.szs,St.szs]
   grind
 split at h
 ·cases h;have h2:=F4 (L:=L) (E:=E) (s:=s) (x:=[59]);rw[A8n,Ex.szs,St.szs]
  grind
 split at h
 ·split at h
  ·grind
  ·rename_i e s1 he;have h1:=A4a hG he;split at h
   ·split at h
    ·grind
    ·rename_i e2 s2 he2;cases h;have h4:=A4a hG he2;have h2:=F4 (L:=L) (E:=E) (s:=s2) (x:=[59]);have h3:=F4 (L:=L) (E:=E) (s:=s1) (x:=[44]);rw[A8n,Ex.szs,Ex.szs,Ex.szs,St.szs]
     grind
   ·cases h;have h2:=F4 (L:=L) (E:=E) (s:=s1) (x:=[59]);rw[A8n,Ex.szs,Ex.szs,St.szs]
    grind
 ·cases h;have h2:=F4 (L:=L) (E:=E) (s:=(A7 L E s 1).2) (x:=[59]);rw[A8n,Ex.szs,St.szs]
  grind
theorem C2k:∀(l:List St) (x:St),St.szs (l++[x])=St.szs l+x.sz
 |[],x=>by simp[St.szs]
 |a::l,x=>by rw[List.cons_append,St.szs,St.szs,C2k l x];omega
theorem SZ.all(hG:∀t∈L,I8 t):∀f:Nat,(∀d s r,Q9 L E f d s=some r->St.szs r.1+100*s.i<=100*r.2.i+40) /\
  (∀d l s r,X5 L E f d l s=some r->St.szs r.1+100*s.i<=100*r.2.i+St.szs l+40/\(okR s=false->St.szs r.1<=St.szs l)) /\
  (∀d s r,X6 L E f d s=some r->r.1.sz+100*s.i<=100*r.2.i+40/\(r.1.sz+100*s.i<=100*r.2.i\/okR r.2=false/\r.1.sz<=40)/\s.i<=r.2.i) /\
  (∀d s r,X3 L E f d s=some r->St.szs r.1+100*s.i<=100*r.2.i+40)
 |0=>⟨λd s r h=>by trivial,λd l s r h=>by trivial,λd s r h=>by trivial,λd s r h=>by trivial⟩
 |f+1=>by
  obtain⟨i1,i2,i3,i4⟩:=SZ.all hG f;refine⟨λd s r h=>?_,λd l s r h=>?_,λd s r h=>?_,λd s r h=>?_⟩
  ·unfold Q9 at h;have h1:=(i2 _ _ _ _ h).1;have h2:=F4 (L:=L) (E:=E) (s:=s) (x:=[123]);rw[St.szs]at h1;omega
  ·unfold X5 at h;split at h
   ·rename_i hc;refine⟨?_,λh0=>by grind⟩;split at h
    ·cases h;show St.szs []+100*s.i<=100*(R1 L E s).i+St.szs l+40;rw[U9,St.szs];omega
    ·split at h
     ·grind
     ·rename_i x s1 he;obtain⟨h1,h2⟩:=i2 _ _ _ _ h;obtain⟨h3,h4,h5⟩:=i3 _ _ _ he;rw[H4]at h3 h4 h5;rw[C2k]at h1 h2;dsimp only at h3 h4 h5;rcases h4 with h4|⟨h4,h6⟩
      ·omega
      ·have h7:=h2 h4;have h8:s1.i<=r.2.i:=by
        obtain⟨N,hN⟩:=(ST.all (L:=L) (E:=E) _).2 d (l++[x]) s1 (A0E _);obtain⟨⟨M,hM⟩,hg⟩:=hN;have h9:okR s1=false:=h4;have hfr:A1b L E d (l++[x]) s1 (l++[x],E4 L E s1 [125]):=A1b.stop (by grind);cases f with
        |zero=>trivial
        |succ f =>
         rw[X5,if_neg (by grind)]at h;cases h;exact F4
       omega
   ·rename_i hc;cases h;have h2:=F4 (L:=L) (E:=E) (s:=s) (x:=[125])
    grind
  ·have hst:=(ST.all (L:=L) (E:=E) (L.length-s.i)).1 d s (A0E _);unfold X6 at h;dsimp only at h;split at h
   ·rename_i hl;cases h;have e1:St0.sz=1:=by rfl
    refine⟨?_,.inr ⟨hl,by grind⟩,?_⟩
    ·show St0.sz+100*s.i<=100*(D0 L E s d 8 50).i+40;rw[H4];omega
    ·show s.i<=(D0 L E s d 8 50).i;rw[H4];omega
   rename_i hl;have hl:okR (D0 L E s d 8 50)=true:=by grind
   obtain⟨hs,hd,hle⟩:=H7 (by simp) hl;rw[hle]at h;split at h
   ·split at h
    ·grind
    ·rename_i e s1 he;cases h;have h1:=A4a hG he;have h2:=F4 (L:=L) (E:=E) (s:=s1) (x:=[59]);have h3:=F4 (L:=L) (E:=E) (s:=(A7 L E s 1).2) (x:=[61]);have h4:=J7 (L:=L) (E:=E) (s:=s) (x:=1);have h5:=A3r (L:=L) (E:=E) hG (s:=s);have hsz:(St.mk 1 (A7 L E s 1).1.text [] [e] [] [] (B8 L E s).pos).sz=1+(A7 L E s 1).1.text.length+e.sz:=by
      rfl
     rw[hsz];dsimp only at h1 ⊢;refine⟨by omega,?_,by omega⟩;by_cases ht:K9 L E s 1=true
     ·have h6:(A7 L E s 1).2.i=s.i+1:=by unfold A7;rw[if_neg (by rw[ht];decide)];rfl
      omega
     ·have ht:K9 L E s 1=false:=by grind
      have h6:(A7 L E s 1).2=R1 L E s:=by unfold A7;grind
      by_cases hp:1<=(E4 L E s1 [59]).i-s.i
      ·omega
      ·refine .inr ⟨?_,by omega⟩;cases hz:okR (E4 L E s1 [59]) with
       |false=>rfl
       |true =>
        have h7:=(B5m hz).2;have h8:(E4 L E s1 [59]).i=s1.i+1:=by rw[h7];rfl
        omega
   ·rename_i hk;obtain⟨-,hi, -,hk18⟩:=I3 (show 0<=C0 L E s B9 by omega);have hn:(A5 s).i=s.i+1:=rfl;split at h
    ·split at h
     ·grind
     ·rename_i e s2 he;split at h
      ·grind
      ·rename_i t s3 ht;have h1:=A4a hG he;have h2:=i1 _ _ _ ht;rw[hn]at h1;dsimp only at h1 h2;split at h
       ·split at h
        ·grind
        ·rename_i o s4 ho;cases h;have h3:=i4 _ _ _ ho;have h3:St.szs o+100*(s3.i+1)<=100*s4.i+40:=h3;have hsz:(St.mk 2 [] [] [e] t o (B8 L E s).pos).sz=1+e.sz+St.szs t+St.szs o:=by
          rw[A8n,Ex.szs,Ex.szs];simp
         grind
       ·cases h;have hsz:(St.mk (2+C0 L E s B9) [] [] [e] t [] (B8 L E s).pos).sz=1+e.sz+St.szs t:=by
         rw[A8n,Ex.szs,Ex.szs,St.szs];simp
        grind
    ·have h1:=D4m hG h;omega
  ·unfold X3 at h;split at h
   ·split at h
    ·cases h
    ·rename_i x s1 he;cases h;have h1:=(i3 _ _ _ he).1;rw[St.szs,St.szs];dsimp only at h1 ⊢;omega
   grind
end
def okN(kind:Int)(text:List UInt8)(value:Int)(i n:Nat):DV:=.tup [.agg [I64 kind,.str text,I64 value,I64 i],I64 ((i+n:Nat):Int),I64 0]
def W5(e:Int)(i:Nat):DV:=.tup [.agg [I64 0,.str [],I64 0,I64 0],I64 i,I64 e]
def nxR(x:Nx)(i:Nat):DV:=if x.err=0 then okN x.kind x.text x.value i x.n else W5 x.err i
theorem C0l(x:Nx)(i:Nat):(nxR x i).nl=true:=by unfold nxR;split<;>rfl
theorem B0r{k:Int}{t:List UInt8}{v:Int}{n i:Nat}:nxR ⟨k,t,v,n,0⟩ i=okN k t v i n:=if_pos rfl
theorem A9p{e:Int}{i:Nat}(h:e≠0):nxR (nxE e) i=W5 e i:=if_neg h
def B5z(s:List UInt8):Bool:=decide (2147483647<U1 s)
def smV(s:List UInt8):Nat:=if 2147483647<U1 s then 0 else U1 s
theorem C8y(s:List UInt8):smV s<=2147483647:=by unfold smV;grind
theorem C8z{s:List UInt8}(h:¬ 2147483647<U1 s):smV s=U1 s:=if_neg h
theorem D7x{s:List UInt8}(h:2147483647<U1 s):smV s=0:=if_pos h
theorem B0h{p:UInt8->Bool}{s:List UInt8}{i j:Nat}{c:UInt8}(h:s[i+j]? = some c)(hj:j<=E1 p (s.drop i)):(p c=true->j+1<=E1 p (s.drop i))/\(p c=false->E1 p (s.drop i)=j) :=
 A9n (by grind) hj
theorem A7j{p:UInt8->Bool}{s:List UInt8}{i j:Nat}(h:s.length<=i+j)(hj:j<=E1 p (s.drop i)):E1 p (s.drop i)=j :=
 B6q (by grind) hj
theorem B6r{s:List UInt8}{i n:Nat}(h:i+n<=s.length):slsR s (some (.int .i64 (i:Int))) (some (.int .i64 ((i+n:Nat):Int)))=some (.str ((s.drop i).take n)):=by
 have b1:∀k:Nat,boundOf s.length (some (.int .i64 (k:Int)))=some k:=λk=>by simp[boundOf]
 have b2:∀k:Nat,boundOf 0 (some (.int .i64 (k:Int)))=some k:=λk=>by simp[boundOf]
 simp only[slsR,b1,b2]
 grind
theorem C6f(x:Nx)(i:Nat):∃(k:Int) (t:List UInt8) (v p n e:Int),nxR x i=.tup [.agg [I64 k,.str t,I64 v,I64 p],I64 n,I64 e]:=by
 unfold nxR;split
 ·exact⟨_,_,_,_,_,_,rfl⟩
 ·exact⟨_,_,_,_,_,_,rfl⟩
def D3t:Blk:=⟨0,true,[I64 0,.str [],I64 0,I64 0]⟩
def quR(i:Nat):Option (List UInt8 × Nat)->DV
 |none=>W5 48 i
 |some x=>if 32<x.1.length then W5 9 i else .tup [.agg [I64 4,.str x.1,I64 0,I64 i],I64 (x.2:Int),I64 0]
theorem E1g(i:Nat)(q:Option (List UInt8 × Nat)):(quR i q).nl=true:=by
 cases q with
 |none=>rfl
 |some x=>simp only[quR];split<;>rfl
theorem C9s{s:List UInt8}{i:Nat}{c:UInt8}(h:s[i]? = some c)(h1:ltB c=false)(h2:dgB c=false)(h3:c.toNat=34):quR i (quA [] (i+1) (quM (s.drop (i+1))))=nxR (C9 (s.drop i)) i:=by
 rw[O1 h,C9,if_neg (by grind),if_neg (by grind),if_pos h3];cases hq:quM (s.drop (i+1)) with
 |none=>rfl
 |some x =>
  simp only[quA,A3I,List.nil_append,quR];split
  ·rfl
  ·rw[B0r,okN]
   grind
theorem A9j{X:Hp}{o:Option Nat}{c:Nat}{b b2 b3 b3':Blk}(hX:∀j q,X j=some q->j<c)(ho:∀i,o=some i->X i=none)(h:b3=b3'):
  Sub (optH X (some (c+1)) b3) ((delO ((optH X o b).upd c b2) o).upd (c+1) b3'):=by
 subst h;intro j q hj;simp only[optH]at hj;by_cases e:j=c+1
 ·subst e;rw[A0]at hj ⊢;omega
 ·rw[h_ne e]at hj ⊢;have h1:=hX j q hj;have h2:∀i,o=some i->¬j=i:=λi hi e2=>by rw[e2,ho i hi]at hj;cases hj
  rw[A8 h2,hnO,B5 h2];omega
theorem A9h{b:Blk}{c j:Nat}{q:Blk}(hc:1<=c)(h:(Sym.nil.upd 0 b) j=some q):j<c:=by
 by_cases e:j=0
 ·omega
 ·rw[h_ne e]at h;cases h
theorem A9g{b:Blk}{i:Nat}(h:¬i=0):(Sym.nil.upd 0 b) i=none:=by rw[h_ne h];rfl
def R5:List (List UInt8):=[[60,61],[62,61],[61,61],[33,61],[38,38],[124,124],[123],[125],[40],[41],[59],[44],[61],[43],[45],[42],[47],[37],[33],[60],[62]]
theorem C9e:∀k:Nat,k<6->∃a b,R5.getD k []=[a,b]/\B4h a b=true:=by
 intro k hk;have:∀k:Nat,k<6->(match R5.getD k [] with |[a,b]=>B4h a b|_=>false)=true:=by decide
 grind
theorem C9f:∀k:Nat,6<=k->k<21->∃a,R5.getD k []=[a]/\B7g a=true:=by
 intro k h6 hk;have:∀k:Nat,k<21->6<=k->(match R5.getD k [] with |[a]=>B7g a|_=>false)=true:=by decide
 grind
theorem C8h{c d:UInt8}(h:B4h c d=true):∃k,k<6/\R5.getD k []=[c,d]:=by
 rw[D4h]at h;simp only[A1H,A1T]at h;rcases h with ((((h|h)|h)|h)|h)|h
 ·exact⟨0,by omega,h.symm⟩
 ·exact⟨1,by omega,h.symm⟩
 ·exact⟨2,by omega,h.symm⟩
 ·exact⟨3,by omega,h.symm⟩
 ·exact⟨4,by omega,h.symm⟩
 ·exact⟨5,by omega,h.symm⟩
theorem E1m{c:UInt8}(h:B7g c=true):∃k,6<=k/\k<21/\R5.getD k []=[c]:=by
 have key:∀n:Nat,n<256->B7g (UInt8.ofNat n)=true->∃k,k<21/\6<=k/\R5.getD k []=[UInt8.ofNat n]:=by decide +kernel
 obtain⟨k,h1,h2,h3⟩:=key c.toNat c.toNat_lt (by rw[UInt8.ofNat_toNat];exact h);rw[UInt8.ofNat_toNat]at h3
 grind
def A7p(l s:List UInt8):Bool:=decide (l.length<=s.length)&&(s.take l.length==l)
theorem C5u{s:List UInt8}{k:Nat}(hk:k<21)(hno:∀j,j<k->A7p (R5.getD j []) s=false)(h:A7p (R5.getD k []) s=true):Q5 s=(R5.getD k []).length/\(R5.getD k [])=s.take (R5.getD k []).length:=by
 simp only[A7p,A0D,A0I,A1T]at h;refine⟨?_,h.2.symm⟩;by_cases h6:k<6
 ·obtain⟨a,b,e,ht⟩:=C9e k h6;rw[e]at h ⊢
  match s,h with
  |[],h=>grind
  |[x],h=>grind
  |x::y::r,h =>
   simp at h;obtain⟨rfl,rfl⟩:=h;simp[Q5,ht]
 ·obtain⟨a,e,ho⟩:=C9f k (by omega) hk;rw[e]at h ⊢
  match s,h with
  |[],h=>grind
  |[x],h =>
   simp at h;subst h;simp[Q5,ho]
  |x::y::r,h =>
   simp at h;subst h;have h2:B4h x y=false:=by
    cases ht:B4h x y with
    |false=>rfl
    |true =>
     obtain⟨j,hj,e2⟩:=C8h ht;have:=hno j (by omega);rw[e2]at this;simp[A7p]at this
   simp[Q5,h2,ho]
theorem C9d{s:List UInt8}(hno:∀j,j<21->A7p (R5.getD j []) s=false):Q5 s=0:=by
 have h1:∀x r,s=x::r->B7g x=false:=by
  intro x r e;cases ho:B7g x with
  |false=>rfl
  |true =>
   obtain⟨j, -,hj,e2⟩:=E1m ho;have:=hno j hj;rw[e2,e]at this;simp[A7p]at this
 match s,hno,h1 with
 |[],_,_=>rfl
 |[x],_,h1=>simp[Q5,h1 x [] rfl]
 |x::y::r,hno,h1 =>
  have h2:B4h x y=false:=by
   cases ht:B4h x y with
   |false=>rfl
   |true =>
    obtain⟨j,hj,e2⟩:=C8h ht;have:=hno j (by omega);rw[e2]at this;simp[A7p]at this
  simp[Q5,h2,h1 x _ rfl]
def T0:Tok:=⟨0,[],0,0⟩
theorem D8r{g:Bool}{a b d a' b' d':Int}{s t:List UInt8}:B1o g [0,2,0,0] (.agg [I64 a,.str s,I64 b,I64 d]) (.agg [I64 a',.str t,I64 b',I64 d'])=some (.bool (g != (a==a'&&(s==t&&(b==b'&&d==d'))))):=by
 simp only[B1o,P0,A3j,if_true]
 grind
theorem B2u:∀(f:Nat) (s:List UInt8) (k:Nat) (acc:List Tok),acc.length<=k->k<=s.length->(R6 f s k acc).1.length<=s.length
 |0,s,k,acc,h1,h2=>by simp only[R6];omega
 |f+1,s,k,acc,h1,h2=>by
  rw[R6];split
  ·grind
  ·split
   ·simp
   ·rename_i h3 h4;have h4:(C9 (s.drop k)).err=0:=by omega
    have hn:=B5d h4;rw[A2M]at hn;have hk:=A1t false (s.drop (k+(C9 (s.drop k)).n));rw[A2M]at hk;exact B2u f s _ _ (by grind) (by omega)
theorem C5w(s:List UInt8):(J0 s).1.length<=s.length:=by
 unfold J0;split
 ·simp
 ·have:=A1t false s;exact B2u _ _ _ _ (by simp) this
def nxT(x:Nx)(p:Int):Tok:=⟨x.kind,x.text,x.value,p⟩
def B4e(s:List UInt8):Nat->List Tok->Prop
 |k,[]=>s.length<=k
 |k,t::l=>k<s.length/\(C9 (s.drop k)).err=0/\t=nxT (C9 (s.drop k)) (k:Int)/\B4e s (k+(C9 (s.drop k)).n+skM false (s.drop (k+(C9 (s.drop k)).n))) l
theorem A8p:∀(f:Nat) (s:List UInt8) (k:Nat) (acc:List Tok),s.length+1<=k+f->(R6 f s k acc).2.2=0->∃l,(R6 f s k acc).1=acc++l/\B4e s k l
 |0,s,k,acc,hf,h=>⟨[],by simp[R6],by show s.length<=k;omega⟩
 |f+1,s,k,acc,hf,h=>by
  rw[R6]at h ⊢;by_cases h1:s.length<=k
  ·rw[if_pos h1];exact⟨[],by simp,h1⟩
  ·rw[if_neg h1]at h ⊢;by_cases h2:(C9 (s.drop k)).err=0
   ·rw[if_neg (by simpa using h2)]at h ⊢;have hn:=B5d h2;obtain⟨l,e,hr⟩:=A8p f s _ _ (by omega) h;exact⟨_::l,by rw[e,A0Q];rfl,by omega,h2,rfl,hr⟩
   grind
theorem A8q{s:List UInt8}(h:(J0 s).2.2=0):s.length<=20000/\B4e s (skM false s) (J0 s).1:=by
 unfold J0 at h ⊢;by_cases h1:20000<s.length
 ·grind
 ·rw[if_neg h1]at h ⊢;have:=A1t false s;obtain⟨l,e,hr⟩:=A8p _ s _ [] (by omega) h
  grind
def TOk(t:Tok):Prop:=∃s p,(C9 s).err=0/\t=nxT (C9 s) p
theorem B4e.ok{s:List UInt8}:∀ {k:Nat} {l:List Tok},B4e s k l->∀t∈l,TOk t
 |k,[],_,t,h=>by grind
 |k,x::l,h,t,ht=>by
  rcases A1C.1 ht with rfl|ht
  ·exact⟨_,_,h.2.1,h.2.2.1⟩
  ·exact B4e.ok h.2.2.2 t ht
theorem C2q{s:List UInt8}(h:(J0 s).2.2=0):∀t∈(J0 s).1,TOk t:=(A8q h).2.ok
theorem B2t{p:UInt8->Bool}:∀(s:List UInt8),E1 p (s.take (E1 p s))=E1 p s
 |[]=>rfl
 |c::r=>by
  have ih:=B2t (p:=p) r;by_cases h:p c=true
  ·simp only[E1,h,if_true,A1E];omega
  ·simp only[E1,h,if_false,A1I,A1R]
theorem B4t:∀ {s t:List UInt8} {n:Nat},quM s=some (t,n)->t.all txB=true
 |[],t,n,h=>by trivial
 |c::r,t,n,h=>by
  rw[Z2]at h;split at h
  ·grind
  ·split at h
   ·grind
   ·rename_i h34 hr;split at h
    ·cases r with
     |nil=>grind
     |cons d q =>
      simp only at h;split at h
      ·rename_i hd;obtain⟨⟨t',n'⟩,h1,h2⟩:=A0V.1 h;have:=B4t h1;cases h2;simp only[A2L,this,A2H,txB,A0D,A0I];omega
      grind
    ·obtain⟨⟨t',n'⟩,h1,h2⟩:=A0V.1 h;have:=B4t h1;cases h2;simp only[A2L,this,A2H,txB,A0D,A0I];omega
theorem C0n{s:List UInt8}{p:Int}(h:(C9 s).err=0):I8 (nxT (C9 s) p)/\0<=(C9 s).value/\(C9 s).value<=2147483647:=by
 unfold I8;cases s with
 |nil=>trivial
 |cons c q =>
  by_cases hl:ltB c=true
  ·by_cases h12:12<E1 ptB (c::q)
   ·rw[C9,if_pos hl,if_pos h12]at h;trivial
   ·rw[C9,if_pos hl,if_neg h12,nxT];refine⟨⟨λhk=>?_,λhk=>?_,λhk=>?_⟩,by simp,by simp⟩
    ·simp only at hk ⊢;have hw:I6 ((c::q).take (E1 ptB (c::q)))=false:=by
      cases hz:I6 ((c::q).take (E1 ptB (c::q))) with
      |false=>rfl
      |true=>rw[hz]at hk;simp at hk
     have hp:ptB c=true:=by unfold ptB;rw[hl];rfl
     have h1:1<=E1 ptB (c::q):=by simp only[E1,hp,if_true];omega
     have hle:=A0l ptB (c::q);have hlen:((c::q).take (E1 ptB (c::q))).length=E1 ptB (c::q):=by rw[A0Y];omega
     have hhd:∃r,(c::q).take (E1 ptB (c::q))=c::r:=by
      obtain⟨k,hk⟩:∃k,E1 ptB (c::q)=k+1:=⟨E1 ptB (c::q)-1,by omega⟩;rw[hk];exact⟨_,rfl⟩
     unfold D7;rw[hlen,hw,B2t];obtain⟨r,hr⟩:=hhd;rw[hr];simp only[hl,A2H,Bool.not_false,A0D,A0I];exact⟨⟨h1,by omega⟩,trivial⟩
    ·simp only at hk;split at hk<;>simp at hk
    grind
  ·by_cases hd:dgB c=true
   ·by_cases h3:1<E1 dgB (c::q)/\c.toNat=48
    ·rw[C9,if_neg hl,if_pos hd,if_pos h3]at h;trivial
    ·by_cases h2:2147483647<U1 ((c::q).take (E1 dgB (c::q)))
     ·rw[C9,if_neg hl,if_pos hd,if_neg h3,if_pos h2]at h;trivial
     ·rw[C9,if_neg hl,if_pos hd,if_neg h3,if_neg h2,nxT]
      grind
   ·by_cases h34:c.toNat=34
    ·cases hq:quM q with
     |none=>rw[C9,if_neg hl,if_neg hd,if_pos h34,hq]at h;trivial
     |some x =>
      obtain⟨t,m⟩:=x;by_cases h32:32<t.length
      ·rw[C9,if_neg hl,if_neg hd,if_pos h34,hq]at h;simp only at h;rw[if_pos h32]at h;trivial
      ·rw[C9,if_neg hl,if_neg hd,if_pos h34,hq];simp only;rw[if_neg h32,nxT];refine⟨⟨λhk=>by grind,λhk=>by simp,λhk=>?_⟩,by simp,by simp⟩;simp only[S3,B4t hq,A2E,A0I];omega
    ·by_cases hs:Q5 (c::q)=0
     ·rw[C9,if_neg hl,if_neg hd,if_neg h34,if_pos hs]at h;trivial
     ·rw[C9,if_neg hl,if_neg hd,if_neg h34,if_neg hs,nxT];simp
theorem TOk.good{t:Tok}(h:TOk t):I8 t/\0<=t.value/\t.value<=2147483647:=by
 obtain⟨s,p,h1,rfl⟩:=h;obtain⟨h2,h3⟩:=C0n (p:=p) h1
 trivial
theorem B9x{s:List UInt8}(h:(J0 s).2.2=0):∀t∈(J0 s).1,I8 t:=λt ht=>(C2q h t ht).good.1
theorem C9g{s:List UInt8}(h:(J0 s).2.2=0):∀t∈(J0 s).1,0<=t.value/\t.value<=9223372036854775807:=λt ht=>by
 have:=(C2q h t ht).good.2;omega
theorem C2r{s:List UInt8}(h:(J0 s).2.2=0):(J0 s).1.length<=20000:=A1D (C5w s) (A8q h).1
def rd0:Rd:=⟨0,0,0,0,0⟩
def A0y(L:List Tok)(E:Int):Ru × Rd:=Classical.choose (C2s (L:=L) (E:=E) rd0)
theorem B0l(L:List Tok)(E:Int):Evt (λf=>B0k L E f rd0) (A0y L E):=Classical.choose_spec (C2s (L:=L) (E:=E) rd0)
def Ru0:Ru:=⟨[],[]⟩
def A1x(s:List UInt8):Ru × Int × Int :=
 let q:=J0 s
 if q.2.2≠0 then(Ru0,q.2.1,q.2.2)
 else if okR (A0y q.1 s.length).2=false then(Ru0,(A0y q.1 s.length).2.pos,(A0y q.1 s.length).2.e)
 else((A0y q.1 s.length).1,0,0)
abbrev D5k(q:Ru × Int × Int):DV:=.tup [q.1.v,I64 q.2.1,I64 q.2.2]
theorem D5j(q:Ru × Int × Int):(D5k q).nl=true:=by
 simp only[DV.nl,DV.nlL,K7,K6,A2H]
section
variable {L:List Tok} {E:Int}
theorem E3j(hG:∀t∈L,I8 t){k:Int}{s:Rd}:(U5 L E k s).1.sz<=13:=by
 have h:=A3r (L:=L) (E:=E) hG (s:=A5 s);unfold U5 Dc.sz
 grind
theorem B4p{α:Type}(f : α->Nat)(l:List α)(x : α):((l++[x]).map f).sum=(l.map f).sum+f x:=by simp
theorem D1a(hG:∀t∈L,I8 t):∀(f:Nat) (l:List Hd) (s:Rd) (r:List Hd × Rd),A1g L E f l s=some r->(r.1.map Hd.sz).sum+100*s.i<=100*r.2.i+(l.map Hd.sz).sum
 |0,l,s,r,h=>by trivial
 |f+1,l,s,r,h=>by
  unfold A1g at h;dsimp only at h;split at h
  ·split at h
   ·cases h;show(l.map Hd.sz).sum+100*s.i<=100*(R1 L E s).i+_;rw[U9];omega
   ·have h1:(D0 L E s ((l.length:Int)+1) 32 9).i=s.i:=H4;generalize D0 L E s ((l.length:Int)+1) 32 9=s1 at h h1;split at h
    ·cases h;have h2:=F4 (L:=L) (E:=E) (s:=s1) (x:=[111,110]);show(l.map Hd.sz).sum+100*s.i<=100*(R1 L E (E4 L E s1 [111,110])).i+_;rw[U9];omega
    ·rename_i hk;obtain⟨hok,hi, -⟩:=I3 (show 0<=C0 L E (E4 L E s1 [111,110]) F5 by omega);have h3:(E4 L E s1 [111,110]).i=s1.i+1:=by rw[(B5m hok).2];rfl
     generalize E4 L E s1 [111,110]=s2 at h hk h3;have h4:=J7 (L:=L) (E:=E) (s:=A5 s2) (x:=1);have h5:=A3r (L:=L) (E:=E) hG (s:=A5 s2);have h6:(A5 s2).i=s2.i+1:=rfl;split at h
     ·grind
     ·rename_i b s5 hb;have h7:=(SZ.all hG f).1 _ _ _ hb;have h8:=D1a hG f _ _ _ h;rw[B4p]at h8;have h9:s2.i+1<=(if 2<=C0 L E s2 F5 then(A7 L E (A5 s2) 1).2 else A5 s2).i:=by
       split
       ·omega
       ·omega
      have h10:(if 2<=C0 L E s2 F5 then(A7 L E (A5 s2) 1).1.text else []).length<=12:=by
       split
       ·exact h5
       ·exact A0P _
      have h11:Hd.sz ⟨1+C0 L E s2 F5,if 2<=C0 L E s2 F5 then(A7 L E (A5 s2) 1).1.text else [],b,(B8 L E s1).pos⟩<=13+St.szs b:=by
       unfold Hd.sz;dsimp only;omega
      grind
  ·cases h;have h2:=F4 (L:=L) (E:=E) (s:=s) (x:=[125])
   grind
theorem E1z(hG:∀t∈L,I8 t){f:Nat}{s:Rd}{r:Md × Rd}(h:A6g L E f s=some r)(hm:isR L E s [109,111,100,101]=true):r.1.sz+100*s.i<=100*r.2.i:=by
 unfold A6g at h;dsimp only at h;split at h
 ·grind
 ·rename_i l s3 hml;cases h;have h1:=D1a hG _ _ _ _ hml;have h2:(E4 L E s [109,111,100,101]).i=s.i+1:=by unfold E4;rw[if_neg (by rw[hm];decide)];rfl
  generalize E4 L E s [109,111,100,101]=s1 at h1 h2 ⊢;have h3:=A3r (L:=L) (E:=E) hG (s:=s1);have h4:=J7 (L:=L) (E:=E) (s:=s1) (x:=1);have h5:=J7 (L:=L) (E:=E) (s:=(A7 L E s1 1).2) (x:=3);have h6:=F4 (L:=L) (E:=E) (s:=(A7 L E (A7 L E s1 1).2 3).2) (x:=[123]);unfold Md.sz
  grind
theorem C0a(hG:∀t∈L,I8 t):∀(f:Nat) (l:List Dc) (s:Rd) (r:List Dc × Rd),A0f L E f l s=some r->(r.1.map Dc.sz).sum+100*s.i<=100*r.2.i+(l.map Dc.sz).sum
 |0,l,s,r,h=>by trivial
 |f+1,l,s,r,h=>by
  unfold A0f at h;dsimp only at h;split at h
  ·grind
  ·have h1:(D0 L E s ((l.length:Int)+1) 128 9).i=s.i:=H4;split at h
   ·have h2:=C0a hG f _ _ _ h;rw[B4p]at h2;have h3:=E3j (L:=L) (E:=E) hG (k:=C0 L E s E8) (s:=D0 L E s ((l.length:Int)+1) 128 9);have h4:=D3i (L:=L) (E:=E) (k:=C0 L E s E8) (s:=D0 L E s ((l.length:Int)+1) 128 9);omega
   ·have h2:=C0a hG f _ _ _ h;omega
theorem B9z(hG:∀t∈L,I8 t):∀(f:Nat) (l:List Md) (s:Rd) (r:List Md × Rd),Z1 L E f l s=some r->(r.1.map Md.sz).sum+100*s.i<=100*r.2.i+(l.map Md.sz).sum
 |0,l,s,r,h=>by trivial
 |f+1,l,s,r,h=>by
  unfold Z1 at h;dsimp only at h;split at h
  ·split at h
   ·cases h;show(l.map Md.sz).sum+100*s.i<=100*(R1 L E s).i+_;rw[U9];omega
   ·rename_i hm;have hm:isR L E s [109,111,100,101]=true:=by simpa using hm
    split at h
    ·rename_i hl;have e0:=(H7 (by decide) hl).2.2;rw[e0]at h;split at h
     ·cases h
     ·rename_i m s2 hmd;have h1:=E1z hG hmd hm;have h2:=B9z hG f _ _ _ h;rw[B4p]at h2;dsimp only at h1;omega
    ·have h1:(D0 L E s ((l.length:Int)+1) 16 9).i=s.i:=H4;have h2:=B9z hG f _ _ _ h;omega
  grind
theorem E0j(hG:∀t∈L,I8 t){f:Nat}{s:Rd}{r:Ru × Rd}(h:B0k L E f s=some r)(hi:s.i<=L.length):r.1.sz<=100*L.length:=by
 unfold B0k at h;split at h
 ·grind
 ·rename_i d s1 hd;split at h
  ·grind
  ·rename_i m s2 hm;cases h;have h1:=C0a hG _ _ _ _ hd;have h2:=B9z hG _ _ _ _ hm;have h3:=C9k _ _ _ _ hm (C9l _ _ _ _ hd hi);unfold Ru.sz
   grind
end
theorem C2t{L:List Tok}{E:Int}(hG:∀t∈L,I8 t):(A0y L E).1.sz<=100*L.length:=by
 obtain⟨f,hf⟩:=(B0l L E).get;exact E0j hG hf (A0P _)
theorem C3n(s:List UInt8):(A1x s).1.sz<=2000000:=by
 unfold A1x;dsimp only;split
 ·show 0+0<=_;omega
 ·rename_i h;have h:(J0 s).2.2=0:=by omega
  have h1:=C2r h;split
  ·show 0+0<=_;omega
  ·have:=C2t (E:=s.length) (B9x h)
   grind
mutual
theorem Ex.plain_sz:∀e:Ex,e.plain.sz=e.sz
 |.mk k v n a p=>by rw[Ex.plain,Ex.sz,Ex.sz,Ex.plains_sz a]
theorem Ex.plains_sz:∀l:List Ex,Ex.szs (Ex.plains l)=Ex.szs l
 |[]=>rfl
 |e::l=>by rw[Ex.plains,Ex.szs,Ex.szs,Ex.plain_sz e,Ex.plains_sz l]
end
mutual
theorem St.plain_sz:∀e:St,e.plain.sz=e.sz
 |.mk k n t a x y p=>by rw[St.plain,St.sz,St.sz,Ex.plains_sz a,St.plains_sz x,St.plains_sz y]
theorem St.plains_sz:∀l:List St,St.szs (St.plains l)=St.szs l
 |[]=>rfl
 |e::l=>by rw[St.plains,St.szs,St.szs,St.plain_sz e,St.plains_sz l]
end
theorem Md.plain_sz(m:Md):m.plain.sz=m.sz:=by
 unfold Md.sz Md.plain;dsimp only;rw[A3Q]
 congr 2
 refine A4M λh _=>?_;show Hd.sz h.plain=Hd.sz h;unfold Hd.sz Hd.plain;dsimp only;rw[St.plains_sz]
theorem Ru.plain_sz(r:Ru):r.plain.sz=r.sz:=by
 unfold Ru.sz Ru.plain;dsimp only;rw[A3Q,A3Q]
 congr 2
 exact A4M λm _=>Md.plain_sz m
def C5o(r:Ru):Bool:=okR (A0y (ruT r) 0).2 && @decide ((A0y (ruT r) 0).1.plain=r.plain) (Classical.propDecidable _)
def T9(t:Tok):Bool:=t.kind==5||t.kind==2
def ixA:Nat->List (List UInt8)->List UInt8->Int
 |_,[],_ => -1
 |k,t::l,x=>if x==t then(k:Int) else ixA (k+1) l x
def amT(t:Tok)(l:List (List UInt8)):Int:=if T9 t=true then ixA 0 l t.text else -1
def hd0(E:Int)(ts:List Tok):Tok:=ts.headD ⟨0,[],0,E⟩
def A2k(t:Tok):Int:=if amT t E0<0 then 0 else B0 (12+amT t E0)
abbrev lvo(E:Int)(ts:List Tok):Int:=A2k (hd0 E ts)
section
variable {L:List Tok} {E:Int}
theorem A9o(s:Rd):B8 L E s=hd0 E (L.drop s.i):=by
 unfold B8 hd0;simp
theorem C5{s:Rd}{t:Tok}{ts:List Tok}(h:L.drop s.i=t::ts):B8 L E s=t:=by rw[A9o,h];rfl
theorem F7{s:Rd}{t:Tok}{ts:List Tok}(h:L.drop s.i=t::ts):L.drop (s.i+1)=ts:=by
 rw[<- A3Y,h];rfl
theorem H8{i:Nat}{a b:List Tok}(h:L.drop i=a++b):L.drop (i+a.length)=b:=by
 rw[<- A3Y,h,List.drop_left]
theorem D8v{s:Rd}(hok:okR s=true):∀(l:List (List UInt8)) (k:Nat),A2h L E s k l=if T9 (B8 L E s)=true then ixA k l (B8 L E s).text else -1
 |[],k=>by simp[A2h,ixA]
 |t::l,k=>by
  have ih:=D8v hok l (k+1);have hi:isR L E s t=(T9 (B8 L E s)&&(B8 L E s).text==t):=by unfold isR T9;rw[hok,A2E]
  rw[A2h,ixA,ih,hi]
  grind
theorem W6{s:Rd}(hok:okR s=true)(l:List (List UInt8)):C0 L E s l=amT (B8 L E s) l:=D8v hok l 0
theorem A4m{s:Rd}(hok:okR s=true)(t:List UInt8):isR L E s t=(T9 (B8 L E s)&&(B8 L E s).text==t):=by unfold isR T9;grind
theorem B3k{s:Rd}(hok:okR s=true)(k:Int):K9 L E s k=((B8 L E s).kind==k):=by unfold K9;grind
theorem D8p{s:Rd}{t:List UInt8}(hok:okR s=true)(h1:T9 (B8 L E s)=true)(h2:(B8 L E s).text=t):E4 L E s t=A5 s:=by
 unfold E4;rw[A4m hok,h1,h2,if_neg (by simp)]
theorem B4n{s:Rd}{k:Int}(hok:okR s=true)(h1:(B8 L E s).kind=k):A7 L E s k=(B8 L E s,A5 s):=by
 unfold A7;rw[B3k hok,if_neg (by grind)]
def adv(s:Rd)(k:Nat)(o:Nat):Rd:={ s with i:=s.i+k,ops:=s.ops+(o:Int) }
theorem A3n{s:Rd}{k o:Nat}(h:okR s=true):okR (adv s k o)=true:=h
theorem Z7{n:Int}{e:Ex}{s:Rd}(hok:okR s=true)(hn:1<=n)(h:lvo E (L.drop s.i)≠n):Lop L E n e s (e,s):=by
 refine Lop.stop ?_;rw[W6 hok,A9o];unfold lvo A2k at h;omega
theorem B2b{s s1:Rd}{e:Ex}(hok:okR s1=true):∀(j:Nat) {m n:Int} {r:Ex × Rd},m-n<=j->Bin L E m s (e,s1)->1<=n->n<m->m<=6->lvo E (L.drop s1.i)<=n->Lop L E n e s1 r->Bin L E n s r
 |0,m,n,r,hj,h,h1,h2,h3,h4,hr=>by omega
 |j+1,m,n,r,hj,h,h1,h2,h3,h4,hr=>by
  by_cases he:n+1=m
  ·exact Bin.go (by omega) (by grind) hr
  ·refine Bin.go (by omega) ?_ hr;exact B2b hok j (m:=m) (n:=n+1) (by omega) h (by omega) (by omega) h3 (by omega) (Z7 hok (by omega) (by omega))
theorem B4g{s s1:Rd}{e:Ex}{n:Int}{r:Ex × Rd}(hok:okR s1=true)(h:Un L E s (e,s1))(h1:1<=n)(h2:n<=5)(h4:lvo E (L.drop s1.i)<=n)(hr:Lop L E n e s1 r):Bin L E n s r :=
 B2b hok 6 (m:=6) (by omega) (Bin.un (by simp) h) h1 (by omega) (by omega) h4 hr
theorem D9k{s s1:Rd}{e:Ex}{n:Int}(hok:okR s1=true)(h:Un L E s (e,s1))(h1:1<=n)(h2:n<=5)(h4:lvo E (L.drop s1.i)<n):Bin L E n s (e,s1) :=
 B4g hok h h1 h2 (by omega) (Z7 hok h1 (by omega))
theorem C5g{t:Tok}(l:List (List UInt8))(h:T9 t=false):amT t l = -1:=by unfold amT;grind
theorem D0b{s:Rd}{v:Int}{ts:List Tok}(hok:okR s=true)(h:L.drop s.i=⟨3,[],v,0⟩::ts)(ho:s.ops+1<=32):Un L E s (.mk 1 v [] [] 0,adv s 1 1):=by
 have hp:=C5 (E:=E) h;have ha:∀l,C0 L E s l = -1:=λl=>by rw[W6 hok,hp];exact C5g l rfl
 have h1:=Un.prim (L:=L) (E:=E) (s:=s) (by rw[ha];decide);have h2:K3 L E s=(.mk 1 v [] [] 0,adv s 1 1):=by
  unfold K3;dsimp only;rw[ha,hp,B3k hok,B3k hok,hp,if_neg (by simp),show D0 L E { s with ops:=s.ops+1 } (s.ops+1) 32 9 = { s with ops:=s.ops+1 } from if_neg (by omega),if_neg (by show ¬okR s=false;rw[hok];decide),if_neg (by decide),if_pos rfl];rfl
 grind
theorem D0a{s:Rd}{n:List UInt8}{ts:List Tok}(hok:okR s=true)(h:L.drop s.i=⟨1,n,0,0⟩::ts)(ho:s.ops+1<=32):Un L E s (.mk 2 0 n [] 0,adv s 1 1):=by
 have hp:=C5 (E:=E) h;have ha:∀l,C0 L E s l = -1:=λl=>by rw[W6 hok,hp];exact C5g l rfl
 have h1:=Un.prim (L:=L) (E:=E) (s:=s) (by rw[ha];decide);have h2:K3 L E s=(.mk 2 0 n [] 0,adv s 1 1):=by
  unfold K3;dsimp only;rw[ha,hp,B3k hok,B3k hok,hp,if_neg (by simp),show D0 L E { s with ops:=s.ops+1 } (s.ops+1) 32 9 = { s with ops:=s.ops+1 } from if_neg (by omega),if_neg (by show ¬okR s=false;rw[hok];decide),if_neg (by decide),if_neg (by show ¬(1:Int)=3;decide)];rfl
 grind
theorem A3u{s:Rd}{w:List UInt8}{ts:List Tok}{j:Nat}(hok:okR s=true)(h:L.drop s.i=A3 w::ts)(ho:s.ops+1<=32)(hj:j<4)(hi:amT (A3 w) U0=(j:Int))(hpre:amT (A3 w) R2<0):
  Un L E s (.mk (A7o.getD j 0) 0 [] [] 0,adv s 1 1):=by
 have hp:=C5 (E:=E) h;have h1:=Un.prim (L:=L) (E:=E) (s:=s) (by rw[W6 hok,hp];exact hpre);have ha:C0 L E s U0=(j:Int):=by rw[W6 hok,hp];exact hi
 have h2:K3 L E s=(.mk (A7o.getD j 0) 0 [] [] 0,adv s 1 1):=by
  unfold K3;dsimp only;rw[ha,hp,if_neg (by omega),show D0 L E { s with ops:=s.ops+1 } (s.ops+1) 32 9 = { s with ops:=s.ops+1 } from if_neg (by omega),if_neg (by show ¬okR s=false;rw[hok];decide),if_pos (by omega),if_neg (by omega)];rfl
 grind
theorem A7n{s:Rd}{w n:List UInt8}{ts:List Tok}{j:Nat}(hok:okR s=true)(h:L.drop s.i=A3 w::⟨1,n,0,0⟩::ts)(ho:s.ops+1<=32)(hj4:4<=j)(hj:j<7)(hi:amT (A3 w) U0=(j:Int))(hpre:amT (A3 w) R2<0):
  Un L E s (.mk (A7o.getD j 0) 0 n [] 0,adv s 2 1):=by
 have hp:=C5 (E:=E) h;have hd:=F7 h;have h1:=Un.prim (L:=L) (E:=E) (s:=s) (by rw[W6 hok,hp];exact hpre);have ha:C0 L E s U0=(j:Int):=by rw[W6 hok,hp];exact hi
 have hp2:B8 L E (A5 { s with ops:=s.ops+1 })=⟨1,n,0,0⟩:=C5 hd;have ht:A7 L E (A5 { s with ops:=s.ops+1 }) 1=(⟨1,n,0,0⟩,A5 (A5 { s with ops:=s.ops+1 })):=by
  rw[B4n (show okR (A5 { s with ops:=s.ops+1 })=true from hok) (by rw[hp2]),hp2]
 have h2:K3 L E s=(.mk (A7o.getD j 0) 0 n [] 0,adv s 2 1):=by
  unfold K3;dsimp only;rw[ha,hp,if_neg (by omega),show D0 L E { s with ops:=s.ops+1 } (s.ops+1) 32 9 = { s with ops:=s.ops+1 } from if_neg (by omega),if_neg (by show ¬okR s=false;rw[hok];decide),if_pos (by omega),if_pos (by omega),ht];rfl
 grind
def CE(L:List Tok)(E:Int)(e:Ex):Prop:=∀o d,msM e=some (o,d)->∀(s:Rd) (post:List Tok),L.drop s.i=exT e++post->okR s=true->s.ops+(o:Int)<=32->s.par+(d:Int)<=16 ->
 ∃e',e'.plain=e.plain/\(6<=B0 e.kind->Un L E s (e',adv s (exT e).length o)) /\
  (∀n,1<=n->n<=5->n<=B0 e.kind->lvo E post<=n->(n=3->lvo E post≠3)->∀r,Lop L E n e' (adv s (exT e).length o) r->Bin L E n s r)
theorem E3w:amT (A3 [40]) R2=2:=by rfl
theorem D3x:amT (A3 [45]) R2=0:=by rfl
theorem D7n:amT (A3 [33]) R2=1:=by rfl
theorem C4d:A2k (A3 [41])=0:=by rfl
theorem D4u:T9 (A3 [41])=true:=by rfl
theorem A5j{s:Rd}{n m e:Int}(h:n<=m):D0 L E s n m e=s:=if_neg (by omega)
theorem D8b{x:Ex}(hx:CE L E x){o d:Nat}(hm:msM x=some (o,d)){s:Rd}{post:List Tok}(h:L.drop s.i=[A3 [40]]++exT x++[A3 [41]]++post)(hok:okR s=true)(ho:s.ops+(o:Int)<=32)(hp:s.par+((d+1:Nat):Int)<=16):
  ∃x',x'.plain=x.plain/\Un L E s (x',adv s ([A3 [40]]++exT x++[A3 [41]]).length o):=by
 have h0:L.drop s.i=A3 [40]::(exT x++([A3 [41]]++post)):=by rw[h];simp
 have h1:=F7 h0;have hpk:=C5 (E:=E) h0;obtain⟨x',e1, -,e3⟩:=hx o d hm { s with i:=s.i+1,par:=s.par+1 } ([A3 [41]]++post) h1 hok ho (by show s.par+1+(d:Int)<=16;omega);have hd2:L.drop (s.i+1+(exT x).length)=A3 [41]::post:=H8 h1;have hb:=e3 1 (by decide) (by decide) (by have:=Y8 x.kind;omega) (by show A2k (A3 [41])<=1;rw[C4d];decide) (λh=>absurd h (by decide)) _ (Z7 (show okR s=true from hok) (by decide) (by show A2k (hd0 E (L.drop (s.i+1+(exT x).length)))≠1;rw[hd2];show A2k (A3 [41])≠1;rw[C4d];decide));have hu:=Un.par (by rw[W6 hok,hpk];exact E3w) (by rw[A5j (by omega)];exact hok) hb;refine⟨x',e1,?_⟩;have hpk2:B8 L E (adv { s with i:=s.i+1,par:=s.par+1 } (exT x).length o)=A3 [41]:=C5 hd2;rw[D8p (show okR (adv { s with i:=s.i+1,par:=s.par+1 } (exT x).length o)=true from hok) (by rw[hpk2];exact D4u) (by rw[hpk2];rfl)]at hu;have e4:({ A5 (adv { s with i:=s.i+1,par:=s.par+1 } (exT x).length o) with par:=(A5 (adv { s with i:=s.i+1,par:=s.par+1 } (exT x).length o)).par-1 }:Rd)=adv s ([A3 [40]]++exT x++[A3 [41]]).length o:=by
  have a1:s.i+1+(exT x).length+1=s.i+([A3 [40]]++exT x++[A3 [41]]).length:=by simp;omega
  have a2:s.par+1-1=s.par:=by omega
  show Rd.mk (s.i+1+(exT x).length+1) s.e s.pos (s.ops+(o:Int)) (s.par+1-1)=Rd.mk (s.i+([A3 [40]]++exT x++[A3 [41]]).length) s.e s.pos (s.ops+(o:Int)) s.par;rw[a1,a2]
 grind
theorem B4y{x:Ex}(hx:CE L E x){o d:Nat}{least:Int}(hm:msM x=some (o,d)){s:Rd}{post:List Tok}(h:L.drop s.i=F0 (x.kind,exT x) least++post)(hok:okR s=true)(ho:s.ops+(o:Int)<=32)(hp:s.par+((if B0 x.kind<least then d+1 else d:Nat):Int)<=16)(h1:1<=least)(h6:least<=6)(hl:lvo E post<least):
  ∃x',x'.plain=x.plain/\(least<=5->Bin L E least s (x',adv s (F0 (x.kind,exT x) least).length o))/\(least=6->Un L E s (x',adv s (F0 (x.kind,exT x) least).length o)):=by
 have hdp:=H8 h;unfold F0 at h hdp ⊢;dsimp only at h hdp ⊢;by_cases hlt:B0 x.kind<least
 ·rw[if_pos hlt]at h hp hdp ⊢;obtain⟨x',e1,e2⟩:=D8b hx hm h hok ho hp;exact⟨x',e1,λh5=>D9k (A3n hok) e2 h1 h5 (by show lvo E (L.drop (s.i+_))<least;grind),λ_=>e2⟩
 ·rw[if_neg hlt]at h hp hdp ⊢;obtain⟨x',e1,e2,e3⟩:=hx o d hm s post h hok ho hp;refine⟨x',e1,λh5=>?_,λh=>e2 (by omega)⟩;refine e3 least h1 h5 (by omega) (by omega) (by omega) _ (Z7 (A3n hok) h1 ?_);show lvo E (L.drop (s.i+_))≠least
  grind
theorem D6a{x:Ex}(hx:CE L E x){o d:Nat}{q:Int}(hm:msM x=some (o,d)){s:Rd}{post:List Tok}(h:L.drop s.i=F0 (x.kind,exT x) (if q=3 then 4 else q)++post)(hok:okR s=true)(ho:s.ops+(o:Int)<=32)(hp:s.par+((if B0 x.kind<(if q=3 then 4 else q) then d+1 else d:Nat):Int)<=16)(h1:1<=q)(h5:q<=5)(hl:lvo E post=q):
  ∃x',x'.plain=x.plain/\∀r,Lop L E q x' (adv s (F0 (x.kind,exT x) (if q=3 then 4 else q)).length o) r->Bin L E q s r:=by
 have hdp:=H8 h;by_cases h3:q=3
 ·subst h3;rw[if_pos rfl]at h hp hdp ⊢;obtain⟨x',e1,e2, -⟩:=B4y hx hm h hok ho hp (by simp) (by simp) (by omega);exact⟨x',e1,λr hr=>Bin.go (by simp) (e2 (by simp)) hr⟩
 ·rw[if_neg h3]at h hp hdp ⊢;unfold F0 at h hdp ⊢;dsimp only at h hdp ⊢;by_cases hlt:B0 x.kind<q
  ·rw[if_pos hlt]at h hp hdp ⊢;obtain⟨x',e1,e2⟩:=D8b hx hm h hok ho hp;exact⟨x',e1,λr hr=>B4g (A3n hok) e2 h1 h5 (by show lvo E (L.drop (s.i+_))<=q;grind) hr⟩
  ·rw[if_neg hlt]at h hp hdp ⊢;obtain⟨x',e1,e2,e3⟩:=hx o d hm s post h hok ho hp
   grind
theorem B0v{k v:Int}{n:List UInt8}{a:List Ex}{p:Int}{o d:Nat}(h:msM (.mk k v n a p)=some (o,d)):
  kOk k=true/\a.length=J4 k/\A5i k n=true/\A2v k v=true/\(J4 k=0->o=1/\d=0)/\(J4 k≠0->∃d',msL k 0 a=some (o,d')/\d=if J4 k=1 then d'+1 else d'):=by
 unfold msM at h
 grind
theorem C9a:∀j:Nat,j<13->amT (A3 (E0.getD j [])) E0=(j:Int)/\T9 (A3 (E0.getD j []))=true:=by trivial
theorem nm0{k:Int}{n:List UInt8}(h:A5i k n=true)(h2:k≠2)(h5:B7p k=false):n=[]:=by
 unfold A5i at h
 grind
theorem vl0{k v:Int}(h:A2v k v=true)(h1:k≠1):v=0:=by
 unfold A2v at h
 grind
theorem C4j{α:Type}{l:List α}(h:l.length=2):∃x y,l=[x,y]:=by
 match l,h with
 |[x,y],_=>simp
theorem B8i:∀(m:Nat) (e:Ex),e.sz<m->CE L E e:=by
 intro m
 induction m with
 |zero=>omega
 |succ m ih =>
 intro e hm o d hms s post h hok ho hp;cases e with|mk k v n a p =>
 obtain⟨h1,h2,h3,h4,h5,h6⟩:=B0v hms;have hlr:=Y8 k
 have viaUn:∀e':Ex,e'.plain=(Ex.mk k v n a p).plain->Un L E s (e',adv s (exT (.mk k v n a p)).length o) ->
   ∃e',e'.plain=(Ex.mk k v n a p).plain/\(6<=B0 k->Un L E s (e',adv s (exT (.mk k v n a p)).length o)) /\
    (∀n',1<=n'->n'<=5->n'<=B0 k->lvo E post<=n'->(n'=3->lvo E post≠3)->∀r,Lop L E n' e' (adv s (exT (.mk k v n a p)).length o) r->Bin L E n' s r):=λe' he hu =>
  ⟨e',he,λ_=>hu,λn' q1 q2 _ q4 _ r hr=>B4g (A3n hok) hu q1 q2 (by show lvo E (L.drop (s.i+_))<=n';rw[H8 h];omega) hr⟩
 by_cases hc0:J4 k=0
 ·obtain⟨rfl,rfl⟩:=h5 hc0;have ha:a=[]:=A2A (by omega);subst ha;have hl7:B0 k=7:=by
   unfold J4 at hc0
   grind
  have hk9:1<=k/\k<=9:=by
   unfold kOk at h1;simp only[A1H,A0D,A0I]at h1;have hk24:1<=k/\k<=24:=by omega
   refine⟨hk24.1,?_⟩;apply Classical.byContradiction;intro hc;unfold B0 at hl7;omega
  refine(show ∃e',_ from ?_);have hT:exT (.mk k v n [] p)=L7 k v n []:=by rfl
  rw[hT]at h viaUn ⊢;have ho1:s.ops+1<=32:=ho;have:k=1\/k=2\/k=3\/k=4\/k=5\/k=6\/k=7\/k=8\/k=9:=by omega
  rcases this with rfl|rfl|rfl|rfl|rfl|rfl|rfl|rfl|rfl
  ·have hn:=nm0 h3 (by simp) (by rfl);subst hn;have hv:¬(v<0\/2147483647<v):=by
    unfold A2v at h4
    grind
   have hb:L7 1 v [] []=[⟨3,[],v,0⟩]:=by unfold L7;dsimp only;rw[if_pos rfl];unfold V3;grind
   rw[hb]at h viaUn ⊢;exact viaUn (.mk 1 v [] [] 0) rfl (D0b hok h ho1)
  ·have hv:=vl0 h4 (by simp);subst hv;have hn:D7 n=true:=h3;have hb:L7 2 0 n []=[⟨1,n,0,0⟩]:=by unfold L7;dsimp only;rw[if_neg (by decide),if_pos rfl];unfold D6;grind
   rw[hb]at h viaUn ⊢;exact viaUn (.mk 2 0 n [] 0) rfl (D0a hok h ho1)
  ·have hv:=vl0 h4 (by simp);have hn:=nm0 h3 (by simp) (by rfl);subst hv hn;have hb:L7 3 0 [] []=[A3 [116,114,117,101]]:=rfl;rw[hb]at h viaUn ⊢;exact viaUn (.mk 3 0 [] [] 0) rfl (A3u (j:=0) hok h ho1 (by simp) (by rfl) (by trivial))
  ·have hv:=vl0 h4 (by simp);have hn:=nm0 h3 (by simp) (by rfl);subst hv hn;have hb:L7 4 0 [] []=[A3 [102,97,108,115,101]]:=rfl;rw[hb]at h viaUn ⊢;exact viaUn (.mk 4 0 [] [] 0) rfl (A3u (j:=1) hok h ho1 (by simp) (by rfl) (by trivial))
  ·have hv:=vl0 h4 (by simp);subst hv;have hn:D7 n=true:=h3;have hb:L7 5 0 n []=[A3 [99,108,111,115,101,100],⟨1,n,0,0⟩]:=by
    show [A3 [99,108,111,115,101,100]]++D6 n=_;unfold D6;grind
   rw[hb]at h viaUn ⊢;exact viaUn (.mk 5 0 n [] 0) rfl (A7n (j:=4) hok h ho1 (by simp) (by simp) (by rfl) (by trivial))
  ·have hv:=vl0 h4 (by simp);subst hv;have hn:D7 n=true:=h3;have hb:L7 6 0 n []=[A3 [97,99,116,105,118,101],⟨1,n,0,0⟩]:=by
    show [A3 [97,99,116,105,118,101]]++D6 n=_;unfold D6;grind
   rw[hb]at h viaUn ⊢;exact viaUn (.mk 6 0 n [] 0) rfl (A7n (j:=5) hok h ho1 (by simp) (by simp) (by rfl) (by trivial))
  ·have hv:=vl0 h4 (by simp);subst hv;have hn:D7 n=true:=h3;have hb:L7 7 0 n []=[A3 [108,101,102,116],⟨1,n,0,0⟩]:=by
    show [A3 [108,101,102,116]]++D6 n=_;unfold D6;grind
   rw[hb]at h viaUn ⊢;exact viaUn (.mk 7 0 n [] 0) rfl (A7n (j:=6) hok h ho1 (by simp) (by simp) (by rfl) (by trivial))
  ·have hv:=vl0 h4 (by simp);have hn:=nm0 h3 (by simp) (by rfl);subst hv hn;have hb:L7 8 0 [] []=[A3 [112,108,97,121,101,114]]:=rfl;rw[hb]at h viaUn ⊢;exact viaUn (.mk 8 0 [] [] 0) rfl (A3u (j:=2) hok h ho1 (by simp) (by rfl) (by trivial))
  ·have hv:=vl0 h4 (by simp);have hn:=nm0 h3 (by simp) (by rfl);subst hv hn;have hb:L7 9 0 [] []=[A3 [98,97,108,108]]:=rfl;rw[hb]at h viaUn ⊢;exact viaUn (.mk 9 0 [] [] 0) rfl (A3u (j:=3) hok h ho1 (by simp) (by rfl) (by trivial))
 obtain⟨d',hl,hd'⟩:=h6 hc0;clear h5 h6;have hv:=vl0 h4 (by rintro rfl;trivial);have hn:=nm0 h3 (by rintro rfl;trivial) (by
  cases hz:B7p k with
  |false=>rfl
  |true =>
   unfold B7p at hz;simp only[A1H,A1T]at hz;rcases hz with rfl|rfl|rfl<;>exact absurd rfl hc0)
 subst hv hn;by_cases hl6:B0 k=6
 ·
  have hk:k=10\/k=11:=by
   unfold B0 at hl6;omega
  have hc1:J4 k=1:=by unfold J4;grind
  rw[hc1]at h2 hd';rw[if_pos rfl]at hd';obtain⟨x,rfl⟩:∃x,a=[x]:=List.length_eq_one_iff.1 h2;have hxc:=ih x (by rw[Ex.sz,Ex.szs,Ex.szs]at hm;omega);unfold msL at hl;cases hx:msM x with
  |none=>grind
  |some q =>
   obtain⟨o1,d1⟩:=q;rw[hx]at hl;dsimp only at hl;unfold msL at hl;dsimp only at hl;simp only[Option.some.injEq,Prod.mk.injEq,A3A,Nat.max_zero]at hl;obtain⟨rfl,hd1⟩:=hl;have hwr:A0x k x.kind 0=decide (B0 x.kind<6):=by
    unfold A0x;rw[hl6];simp
   rw[hwr]at hd1;have hT:exT (.mk k 0 [] [x] p)=[A3 (if k=10 then [45] else [33])]++F0 (x.kind,exT x) 6:=by
    rw[exT,B1l,B1l];rcases hk with rfl|rfl<;>rfl
   rw[hT]at h viaUn ⊢;have h0:L.drop s.i=A3 (if k=10 then [45] else [33])::(F0 (x.kind,exT x) 6++post):=by rw[h];simp
   have hdn:=F7 h0;have hpk:=C5 (E:=E) h0;have ham:C0 L E s R2=k-10:=by
    rw[W6 hok,hpk];rcases hk with rfl|rfl
    ·exact D3x
    ·exact D7n
   have hlt6:lvo E post<6:=by
    unfold lvo A2k;split
    ·decide
    ·rename_i hz;have:=Y8 (12+amT (hd0 E post) E0);have h13:amT (hd0 E post) E0<13:=by
      have gen:∀(l:List (List UInt8)) (j:Nat) (w:List UInt8),ixA j l w<((j+l.length:Nat):Int):=by
       intro l
       induction l with
       |nil=>intro j w;simp[ixA];omega
       |cons a l ih =>
        intro j w;have:=ih (j+1) w;simp only[ixA,A0F];split<;>omega
      unfold amT;split
      ·exact gen E0 0 _
      ·decide
     exact D5z (by omega) h13
   obtain⟨x',e1, -,e3⟩:=B4y (least:=6) hxc hx (s:={ s with i:=s.i+1,par:=s.par+1 }) hdn hok ho (by
    show s.par+1+_<=16;have:((if B0 x.kind<6 then d1+1 else d1:Nat):Int)=(d':Int):=by
     rw[<- hd1];by_cases hz:B0 x.kind<6
     ·rw[if_pos hz,if_pos (by simpa using hz)]
     ·rw[if_neg hz,if_neg (by simpa using hz)]
    rw[this];omega) (by decide) (by decide) hlt6
   have hu:=Un.pre (L:=L) (E:=E) (s:=s) (by rw[ham];omega) (by rw[ham];omega) (by rw[A5j (by omega)];exact hok) (e3 rfl);rw[ham,hpk]at hu;have e4:({ adv { s with i:=s.i+1,par:=s.par+1 } (F0 (x.kind,exT x) 6).length o1 with par:=(adv { s with i:=s.i+1,par:=s.par+1 } (F0 (x.kind,exT x) 6).length o1).par-1 }:Rd)=adv s ([A3 (if k=10 then [45] else [33])]++F0 (x.kind,exT x) 6).length o1:=by
    have a1:s.i+1+(F0 (x.kind,exT x) 6).length=s.i+([A3 (if k=10 then [45] else [33])]++F0 (x.kind,exT x) 6).length:=by simp;omega
    have a2:s.par+1-1=s.par:=by omega
    show Rd.mk (s.i+1+(F0 (x.kind,exT x) 6).length) s.e s.pos (s.ops+(o1:Int)) (s.par+1-1)=Rd.mk (s.i+_) s.e s.pos (s.ops+(o1:Int)) s.par;rw[a1,a2]
   rw[e4]at hu;refine viaUn _ ?_ hu;rw[Ex.plain,Ex.plain,Ex.plains,Ex.plains,Ex.plains,Ex.plains,e1]
   grind
 ·
  have hl5:B0 k<=5:=by
   unfold J4 at hc0
   grind
  have hc2:J4 k=2:=by unfold J4;grind
  rw[hc2]at h2 hd';rw[if_neg (by simp)]at hd';subst hd';obtain⟨x,y,rfl⟩:∃x y,a=[x,y]:=C4j h2;have hxc:=ih x (by rw[Ex.sz,Ex.szs,Ex.szs]at hm;omega);have hyc:=ih y (by rw[Ex.sz,Ex.szs,Ex.szs,Ex.szs]at hm;omega);unfold msL at hl;cases hx:msM x with
  |none=>grind
  |some q =>
   obtain⟨o1,d1⟩:=q;rw[hx]at hl;dsimp only at hl;unfold msL at hl;cases hy:msM y with
   |none=>grind
   |some q2 =>
    obtain⟨o2,d2⟩:=q2;rw[hy]at hl;dsimp only at hl;unfold msL at hl;dsimp only at hl;simp only[Option.some.injEq,Prod.mk.injEq,A3A,Nat.max_zero]at hl;obtain⟨rfl,hdd⟩:=hl;have hlk:=B5g (k:=k) (by omega);have hk12:12<=k:=by
     apply Classical.byContradiction;intro hc;have:k=10\/k=11:=by omega
     exact hl6 (A6l this)
    obtain⟨j,hj⟩:∃j:Nat,k=12+(j:Int):=⟨(k-12).toNat,by omega⟩;have hj13:j<13:=by omega
    have hjn:(k-12).toNat=j:=by omega
    obtain⟨hs1,hs2⟩:=C9a j hj13;have hT:exT (.mk k 0 [] [x,y] p)=F0 (x.kind,exT x) (if B0 k=3 then 4 else B0 k)++[A3 (E0.getD j [])]++F0 (y.kind,exT y) (B0 k+1):=by
     rw[exT,B1l,B1l,B1l];unfold L7
     grind
    rw[hT]at h ⊢;generalize A3 (E0.getD j [])=sg at hs1 hs2 hT h ⊢;have hsl:A2k sg=B0 k:=by unfold A2k;grind
    have hdx:((if B0 x.kind<(if B0 k=3 then 4 else B0 k) then d1+1 else d1:Nat):Int)<=(d:Int):=by
     have hwr:(A0x k x.kind 0=true)↔B0 x.kind<(if B0 k=3 then 4 else B0 k):=by
      unfold A0x;simp only[A1H,A0D,A0I,A1T];by_cases h3:B0 k=3
      ·rw[if_pos h3];omega
      ·rw[if_neg h3];omega
     grind
    have hdy:((if B0 y.kind<B0 k+1 then d2+1 else d2:Nat):Int)<=(d:Int):=by
     have hwr:(A0x k y.kind (0+1)=true)↔B0 y.kind<B0 k+1:=by
      unfold A0x;rw[show((0+1:Nat)==1)=true from rfl,Bool.true_or,A2H];simp only[A1H,A0I,A1T];omega
     grind
    have h0:L.drop s.i=F0 (x.kind,exT x) (if B0 k=3 then 4 else B0 k)++(sg::(F0 (y.kind,exT y) (B0 k+1)++post)):=by grind
    obtain⟨x',e1,e2⟩:=D6a hxc hx h0 hok (by omega) (by omega) hlr.1 hl5 (by assumption);have hd1:=H8 h0;have hpk:B8 L E (adv s (F0 (x.kind,exT x) (if B0 k=3 then 4 else B0 k)).length o1)=sg:=C5 hd1;have hd2:=F7 (s:=adv s (F0 (x.kind,exT x) (if B0 k=3 then 4 else B0 k)).length o1) hd1;have ham:C0 L E (adv s (F0 (x.kind,exT x) (if B0 k=3 then 4 else B0 k)).length o1) E0=(j:Int):=by rw[W6 (A3n hok),hpk];omega
    have hfin:s.i+(F0 (x.kind,exT x) (if B0 k=3 then 4 else B0 k)).length+1+(F0 (y.kind,exT y) (B0 k+1)).length=s.i+(F0 (x.kind,exT x) (if B0 k=3 then 4 else B0 k)++[sg]++F0 (y.kind,exT y) (B0 k+1)).length:=by grind
    have hadv:adv (A5 (adv s (F0 (x.kind,exT x) (if B0 k=3 then 4 else B0 k)).length o1)) (F0 (y.kind,exT y) (B0 k+1)).length o2=adv s (F0 (x.kind,exT x) (if B0 k=3 then 4 else B0 k)++[sg]++F0 (y.kind,exT y) (B0 k+1)).length (o1+o2):=by
     have a2:s.ops+(o1:Int)+(o2:Int)=s.ops+((o1+o2:Nat):Int):=by omega
     show Rd.mk (s.i+_+1+_) s.e s.pos (s.ops+(o1:Int)+(o2:Int)) s.par=Rd.mk (s.i+_) s.e s.pos (s.ops+((o1+o2:Nat):Int)) s.par
     grind
    have hdr:=H8 h;have main:lvo E post<=B0 k->∃y',y'.plain=y.plain/\Bin L E (B0 k+1) (A5 (adv s (F0 (x.kind,exT x) (if B0 k=3 then 4 else B0 k)).length o1)) (y',adv s (F0 (x.kind,exT x) (if B0 k=3 then 4 else B0 k)++[sg]++F0 (y.kind,exT y) (B0 k+1)).length (o1+o2)):=by
     intro hlv;obtain⟨y',f1,f2,f3⟩:=B4y (least:=B0 k+1) hyc hy (s:=A5 (adv s (F0 (x.kind,exT x) (if B0 k=3 then 4 else B0 k)).length o1)) hd2 hok (by show s.ops+(o1:Int)+(o2:Int)<=32;omega) (by show s.par+_<=16;omega) (by omega) (by omega) (by omega);rw[hadv]at f2 f3;refine⟨y',f1,?_⟩;by_cases h5':B0 k+1<=5
     ·grind
     ·exact Bin.un (by omega) (f3 (by omega))
    by_cases hlv:lvo E post<=B0 k
    ·obtain⟨y',f1,f2⟩:=main hlv;refine⟨.mk k 0 [] [x',y'] sg.pos,?_,λh=>absurd h (by show ¬ 6<=B0 k;omega),?_⟩
     ·rw[Ex.plain,Ex.plain,Ex.plains,Ex.plains,Ex.plains,Ex.plains,Ex.plains,Ex.plains,e1,f1]
     ·intro n' q1 q2 q3 q4 q5 r hr;have q3:n'<=B0 k:=q3;have key:∀r',Lop L E (B0 k) (.mk k 0 [] [x',y'] sg.pos) (adv s (F0 (x.kind,exT x) (if B0 k=3 then 4 else B0 k)++[sg]++F0 (y.kind,exT y) (B0 k+1)).length (o1+o2)) r'->(B0 k=3->lvo E post≠3)->Bin L E (B0 k) s r':=by
       intro r' hr' h33;refine e2 r' ?_;by_cases h3:B0 k=3
       ·have hst:=Z7 (L:=L) (E:=E) (n:=B0 k) (e:=.mk k 0 [] [x',y'] sg.pos) (s:=adv s (F0 (x.kind,exT x) (if B0 k=3 then 4 else B0 k)++[sg]++F0 (y.kind,exT y) (B0 k+1)).length (o1+o2)) (A3n hok) hlr.1 (by show lvo E (L.drop (s.i+_))≠B0 k;rw[hdr,h3];exact h33 h3);have:=Evt.uniq hr' hst;rw[this];have ht:=Lop.three (L:=L) (E:=E) (n:=B0 k) (e:=x') (x:=y') (s:=adv s (F0 (x.kind,exT x) (if B0 k=3 then 4 else B0 k)).length o1) (by rw[ham];omega) (by rw[ham, <- hj]) h3 f2
        grind
       ·refine Lop.more (by rw[ham];omega) (by rw[ham, <- hj]) h3 f2 ?_
        grind
      by_cases hnq:n'=B0 k
      ·simp_all
      ·refine B2b (A3n hok) 6 (m:=B0 k) (by omega) (key _ (Z7 (A3n hok) hlr.1 ?_) (by omega)) q1 (by omega) (by omega) ?_ hr
       ·show lvo E (L.drop (s.i+_))≠B0 k
        grind
       ·show lvo E (L.drop (s.i+_))<=n'
        grind
    ·refine⟨.mk k 0 [] [x,y] p,rfl,λh=>absurd h (by show ¬ 6<=B0 k;omega),?_⟩;intro n' q1 q2 q3 q4 q5 r hr;have q3:n'<=B0 k:=q3;omega
theorem M2{e:Ex}(hv:T7 e=true){s:Rd}{post:List Tok}(h:L.drop s.i=exT e++post)(hok:okR s=true)(hl:lvo E post=0):
  ∃e' s',e'.plain=e.plain/\Xpn L E s (e',s')/\s'.i=s.i+(exT e).length/\okR s'=true:=by
 unfold T7 at hv;cases hms:msM e with
 |none=>grind
 |some q =>
  obtain⟨o,d⟩:=q;rw[hms]at hv;simp only[A0D,A0I]at hv;obtain⟨e',e1, -,e3⟩:=B8i (L:=L) (E:=E) (e.sz+1) e (by omega) o d hms { s with ops:=0,par:=0 } post h hok (by grind) (by grind);refine⟨e',adv { s with ops:=0,par:=0 } (exT e).length o,e1,?_,rfl,hok⟩;refine e3 1 (by simp) (by simp) (Y8 _).1 (by omega) (λh=>absurd h (by simp)) _ (Z7 (show okR s=true from hok) (by simp) ?_);show lvo E (L.drop (s.i+_))≠1;rw[H8 h];omega
end
section
variable {L:List Tok} {E:Int}
theorem S7{s:Rd}{w:List UInt8}{ts:List Tok}(h:L.drop s.i=A3 w::ts)(hok:okR s=true)(hs:T9 (A3 w)=true):E4 L E s w=A5 s :=
 D8p hok (by rw[C5 h];omega) (by rw[C5 h];rfl)
theorem A5a{s:Rd}{n:List UInt8}{ts:List Tok}(h:L.drop s.i=D6 n++ts)(hok:okR s=true)(hn:D7 n=true):A7 L E s 1=(⟨1,n,0,0⟩,A5 s):=by
 have h0:L.drop s.i=⟨1,n,0,0⟩::ts:=by rw[h];unfold D6;grind
 rw[B4n hok (by rw[C5 h0]),C5 h0]
theorem B4l{s:Rd}{v:Int}{ts:List Tok}(h:L.drop s.i=V3 v++ts)(hok:okR s=true)(h0:0<=v)(h1:v<=2147483647):A7 L E s 3=(⟨3,[],v,0⟩,A5 s):=by
 have h2:L.drop s.i=⟨3,[],v,0⟩::ts:=by rw[h];unfold V3;grind
 rw[B4n hok (by rw[C5 h2]),C5 h2]
theorem D4l{s:Rd}{t:List UInt8}{ts:List Tok}(h:L.drop s.i=A2i t++ts)(hok:okR s=true)(ht:S3 t=true):A7 L E s 4=(⟨4,t,0,0⟩,A5 s):=by
 unfold S3 at ht;simp only[A0D,A0I]at ht;have h0:L.drop s.i=⟨4,t,0,0⟩::ts:=by rw[h];unfold A2i;grind
 rw[B4n hok (by rw[C5 h0]),C5 h0]
theorem A0a{s:Rd}{a ts:List Tok}(h:L.drop s.i=a++ts)(ha:a.length=1):L.drop (s.i+1)=ts:=by
 rw[<- ha];exact H8 h
def D6v(E:Int)(ts:List Tok):Bool:=T9 (hd0 E ts)&&(hd0 E ts).text == [101,108,115,101]
theorem B9t:∀j:Nat,j<18->amT (A3 (B9.getD j [])) B9=(j:Int)/\T9 (A3 (B9.getD j []))=true/\(A3 (B9.getD j [])).text≠[125]/\(A3 (B9.getD j [])).text≠[101,108,115,101]:=by trivial
theorem w61:T9 (A3 [61])=true:=by rfl
theorem w59:T9 (A3 [59])=true/\A2k (A3 [59])=0:=by trivial
theorem w44:T9 (A3 [44])=true/\A2k (A3 [44])=0:=by trivial
theorem w123:T9 (A3 [123])=true/\A2k (A3 [123])=0/\(A3 [123]).text≠[105,102]:=by trivial
theorem w125:T9 (A3 [125])=true/\(A3 [125]).text≠[101,108,115,101]:=by trivial
theorem D9f:T9 (A3 [101,108,115,101])=true:=by rfl
def HdS(t:Tok):Prop:=t.kind=1\/∃j,j<18/\t=A3 (B9.getD j [])
theorem HdS.facts{t:Tok}(h:HdS t):(T9 t&&t.text == [125])=false/\(T9 t&&t.text == [101,108,115,101])=false/\(0<=amT t B9\/t.kind=1):=by
 rcases h with h|⟨j,hj,rfl⟩
 ·have:T9 t=false:=by unfold T9;rw[h];rfl
  grind
 ·obtain⟨h1,h2,h3,h4⟩:=B9t j hj
  grind
theorem C7y{d:Nat}{k p:Int}{n t:List UInt8}{a:List Ex}{x y:List St}(h:O6 d (.mk k n t a x y p)=true):
  (1<=k/\k<=19)/\(a.length=(K2 k).args/\a.all T7=true)/\((if(K2 k).name=true then D7 n else n == [])=true/\(if(K2 k).text=true then S3 t else t == [])=true) /\
   (((K2 k).thn=true\/x=[])/\((K2 k).els=true\/y=[]))/\N3 x (d+1)=true/\N3 y (d+1)=true:=by
 unfold O6 at h;simp only[A0D,A0I,A1T,A1H,List.isEmpty_iff]at h;obtain⟨⟨⟨⟨⟨h1,h2⟩,h3,h4⟩,h5,h6⟩,h7,h8⟩,h9,h10⟩:=h;refine⟨⟨h1,h2⟩,⟨h3,h4⟩,⟨h5,h6⟩,⟨h7,h8⟩,?_,?_⟩
 ·unfold N3
  grind
 ·unfold N3
  grind
theorem C2n{d:Nat}{x:St}(h:O6 d x=true):∃t ts,stT x=t::ts/\HdS t:=by
 cases x with|mk k n t a x y p =>
 obtain⟨⟨k1,k2⟩, -,⟨hn, -⟩, -⟩:=C7y h;unfold stT;by_cases h1:k=1
 ·subst h1;rw[if_pos rfl];have hn:D7 n=true:=hn;refine⟨⟨1,n,0,0⟩,[A3 [61]]++agT a 0++[A3 [59]],?_,.inl rfl⟩;unfold D6;grind
 rw[if_neg h1,if_neg (by omega)];dsimp only;have hw:HdS (A3 (B9.getD (k-2).toNat [])):=.inr ⟨(k-2).toNat,by omega,rfl⟩;generalize A3 (B9.getD (k-2).toNat [])=w at hw;by_cases h23:k=2\/k=3
 ·rw[if_pos h23]
  match y with
  |[]=>simp_all
  |[q] =>
   dsimp only;split
   ·exact⟨w,_,rfl,hw⟩
   simp_all
  |q::q2::l=>simp_all
 rw[if_neg h23];repeat' split
 all_goals exact⟨w,_,rfl,hw⟩
def CSt(L:List Tok)(E:Int)(x:St):Prop:=∀(d:Nat) (s:Rd) (post:List Tok),O6 d x=true->d<=8->L.drop s.i=stT x++post->okR s=true->D6v E post=false ->
 ∃x' s',x'.plain=x.plain/\T1 L E d s (x',s')/\s'.i=s.i+(stT x).length/\okR s'=true
theorem A4v:∀(l:List St),(∀x∈l,CSt L E x)->∀(acc:List St) (d:Nat) (s:Rd) (post:List Tok),G6 d l=true->acc.length+l.length<=64->(l=[]\/d<=8)->L.drop s.i=Q1 l++([A3 [125]]++post)->okR s=true ->
  ∃l' s',St.plains l'=St.plains l/\A1b L E d acc s (acc++l',s')/\s'.i=s.i+(Q1 l).length+1/\okR s'=true
 |[],_,acc,d,s,post,hv,hl,hd,h,hok=>by
  have h0:L.drop s.i=A3 [125]::post:=by trivial
  have hi:isR L E s [125]=true:=by rw[A4m hok,C5 h0,w125.1];rfl
  have hb:=A1b.stop (L:=L) (E:=E) (d:=d) (l:=acc) (s:=s) (by grind);rw[S7 h0 hok w125.1]at hb;exact⟨[],A5 s,rfl,by grind,rfl,hok⟩
 |x::l,hx,acc,d,s,post,hv,hl,hd,h,hok=>by
  rw[G6,A0D]at hv;have hd8:d<=8:=hd.resolve_left (by simp);obtain⟨t,ts,e1,e2⟩:=C2n hv.1;obtain⟨f1,f2,f3⟩:=e2.facts;have h0:L.drop s.i=stT x++(Q1 l++([A3 [125]]++post)):=by rw[h,Q1,A0Q]
  have hp:B8 L E s=t:=C5 (ts:=ts++(Q1 l++([A3 [125]]++post))) (by grind);have hels:D6v E (Q1 l++([A3 [125]]++post))=false:=by
   unfold D6v;cases l with
   |nil =>
    rfl
   |cons y l =>
    have hv2:=hv.2;rw[G6,A0D]at hv2;obtain⟨u,us,g1,g2⟩:=C2n hv2.1;rw[Q1,g1];exact g2.facts.2.1
  obtain⟨x',s1,p1,p2,p3,p4⟩:=hx x A0J d s _ hv.1 hd8 h0 hok hels;have hdr:L.drop s1.i=Q1 l++([A3 [125]]++post):=by rw[p3];exact H8 h0
  obtain⟨l',s',q1,q2,q3,q4⟩:=A4v l (λy hy=>hx y (A0G _ hy)) (acc++[x']) d s1 post hv.2 (by grind) (.inr hd8) hdr p4;refine⟨x'::l',s',by rw[St.plains,St.plains,p1,q1],?_,by rw[q3,p3,Q1,A0A];omega,q4⟩;refine A1b.more (s1:=s1) (x:=x') ⟨hok,by rw[A4m hok,hp];omega⟩ ?_ ?_ (by grind)
  ·rintro⟨g1,g2⟩;rw[W6 hok,hp]at g1;rw[B3k hok,hp]at g2
   grind
  ·rw[A5j (by simp only[A0F]at hl;omega)];omega
theorem S9{l:List St}(hx:∀x∈l,CSt L E x){d:Nat}{s:Rd}{post:List Tok}(hv:N3 l d=true)(h:L.drop s.i=blT l++post)(hok:okR s=true):
  ∃l' s',St.plains l'=St.plains l/\A9e L E d s (l',s')/\s'.i=s.i+(blT l).length/\okR s'=true:=by
 unfold N3 at hv;simp only[A0D,A0I,A1H,List.isEmpty_iff]at hv;have h0:L.drop s.i=A3 [123]::(Q1 l++([A3 [125]]++post)):=by rw[h];unfold blT;simp
 have he:=S7 (E:=E) h0 hok w123.1;obtain⟨l',s',q1,q2,q3,q4⟩:=A4v l hx [] d (A5 s) post hv.2 (by grind) hv.1.2 (F7 h0) hok;refine⟨l',s',q1,A9e.mk (by grind),?_,q4⟩;rw[q3];unfold blT;simp only[A0A,A0K];show s.i+1+_+1=_;omega
theorem A7b{a:List Ex}(h:a.length=1)(hv:a.all T7=true):∃e,a=[e]/\T7 e=true:=by
 obtain⟨e,rfl⟩:=List.length_eq_one_iff.1 h
 grind
theorem ag0(e:Ex)(l:List Ex):agT (e::l) 0=exT e:=rfl
theorem ag1(e e2:Ex)(l:List Ex):agT (e::e2::l) 1=exT e2:=rfl
theorem C5t{k:Int}(h1:k≠1)(h2:k≠2)(h3:k≠3)(h4:k≠4)(h8:k≠8)(h9:k≠9)(h10:k≠10)(h18:k≠18)(h19:k≠19):K2 k=⟨true,false,0,false,false⟩:=by
 unfold K2
 grind
def C2y:List St->List Tok
 |[]=>[]
 |[q]=>if q.kind=2 then [A3 [101,108,115,101]]++stT q else [A3 [101,108,115,101]]++blT [q]
 |q::q2::r=>[A3 [101,108,115,101]]++blT (q::q2::r)
theorem B6p:∀(m:Nat) (x:St),x.sz<m->CSt L E x:=by
 intro m
 induction m with
 |zero=>omega
 |succ m ih =>
 intro x hm d s post hv hd h hok hels;cases x with|mk k n t a x y p =>
 obtain⟨⟨k1,k2⟩,⟨ha,hav⟩,⟨hn,ht⟩,⟨hx,hy⟩,hbx,hby⟩:=C7y hv;have hcx:∀q∈x,CSt L E q:=λq hq=>ih q (by rw[St.sz]at hm;have:=St.szs_mem hq;omega);have hcy:∀q∈y,CSt L E q:=λq hq=>ih q (by rw[St.sz]at hm;have:=St.szs_mem hq;omega);have hlim:okR (D0 L E s (d:Int) 8 50)=true:=by rw[A5j (by omega)];omega
 have hcast:((d+1:Nat):Int)=(d:Int)+1:=by rfl
 by_cases hk1:k=1
 ·
  subst hk1;have hn:D7 n=true:=hn;have ht:t=[]:=by have h':(t == [])=true:=ht;grind
  have hx:x=[]:=hx.resolve_left (by decide);have hy:y=[]:=hy.resolve_left (by decide);subst ht hx hy;obtain⟨e,rfl,he⟩:=A7b ha hav;have hT:stT (.mk 1 n [] [e] [] [] p)=D6 n++[A3 [61]]++exT e++[A3 [59]]:=by rfl
  rw[hT]at h ⊢;have h0:L.drop s.i=D6 n++(A3 [61]::(exT e++(A3 [59]::post))):=by grind
  have h1:=A0a h0 (B6 n);have hpk:B8 L E s=⟨1,n,0,0⟩:=C5 (ts:=A3 [61]::(exT e++(A3 [59]::post))) (by rw[h0];unfold D6;grind);have htk:=A5a (E:=E) h0 hok hn;have h2:=F7 (s:=A5 s) h1;have he1:=S7 (E:=E) (s:=A5 s) h1 hok w61;obtain⟨e',s1,p1,p2,p3,p4⟩:=M2 (L:=L) (E:=E) he (s:=A5 (A5 s)) h2 hok (by rfl);have h3:L.drop s1.i=A3 [59]::post:=by rw[p3];exact H8 h2
  have hst:=T1.set (L:=L) (E:=E) (d:=d) (s:=s) (s1:=s1) (e:=e') hlim (by rw[W6 hok,hpk];assumption) (by grind);rw[htk,S7 h3 p4 w59.1]at hst;refine⟨_,_,?_,hst,?_,p4⟩
  ·rw[St.plain,St.plain,Ex.plains,Ex.plains,Ex.plains,Ex.plains,p1]
  ·show s1.i+1=_;rw[p3];simp only[A0A,A0K,B6];show s.i+1+1+_+1=_;omega
 obtain⟨j,hj⟩:∃j:Nat,k=2+(j:Int):=⟨(k-2).toNat,by omega⟩;have hj18:j<18:=by omega
 have hjn:(k-2).toNat=j:=by omega
 obtain⟨a1,a2, -, -⟩:=B9t j hj18;by_cases h23:k=2\/k=3
 ·
  have hsh:(K2 k).args=1/\(K2 k).name=false/\(K2 k).text=false/\(k=3->(K2 k).els=false):=by
   rcases h23 with rfl|rfl
   ·exact⟨rfl,rfl,rfl,λh=>absurd h (by decide)⟩
   trivial
  rw[hsh.1]at ha;rw[hsh.2.1]at hn;rw[hsh.2.2.1]at ht;have hn:n=[]:=by grind
  have ht:t=[]:=by grind
  subst hn ht;have hy3:k=3->y=[]:=λh=>hy.resolve_left (by grind);obtain⟨e,rfl,he⟩:=A7b ha hav;obtain⟨rest,hrest,hT⟩:∃rest,rest=C2y y/\stT (.mk k [] [] [e] x y p)=[A3 (B9.getD j [])]++exT e++blT x++rest:=by
   refine⟨_,rfl,?_⟩;clear hy hy3 hv hm h hby hcy;rw[stT,if_neg hk1,if_neg (by omega)];dsimp only;rw[if_pos h23,hjn,ag0]
   match y with
   |[]=>simp[blT,C2y]
   |[q] =>
    unfold C2y;dsimp only;split
    ·simp[blT]
    ·simp[blT,Q1]
   |q::q2::r=>simp[blT,C2y]
  rw[hT]at h ⊢;generalize A3 (B9.getD j [])=w at a1 a2 h hT ⊢;have h0:L.drop s.i=w::(exT e++(blT x++(rest++post))):=by grind
  have hpk:=C5 (E:=E) h0;have ham:C0 L E s B9=(j:Int):=by rw[W6 hok,hpk];omega
  have h1:=F7 h0;obtain⟨e',s2,p1,p2,p3,p4⟩:=M2 (L:=L) (E:=E) he (s:=A5 s) h1 hok (by rfl);have h2:L.drop s2.i=blT x++(rest++post):=by rw[p3];exact H8 h1
  obtain⟨t',s3,b1,b2,b3,b4⟩:=S9 hcx hbx h2 p4;rw[hcast]at b2;have h3:L.drop s3.i=rest++post:=by rw[b3];exact H8 h2
  have hi3:s3.i=s.i+1+(exT e).length+(blT x).length:=by rw[b3,p3];rfl
  have blkCase:¬(C0 L E s B9=0/\isR L E s3 [101,108,115,101]=true)->y=[]->rest=[]->∃x' s',x'.plain=(St.mk k [] [] [e] x y p).plain/\T1 L E d s (x',s')/\s'.i=s.i+([w]++exT e++blT x++rest).length/\okR s'=true:=by
   intro hc hy0 hr0;subst hy0 hr0;have hst:=T1.blk (L:=L) (E:=E) (d:=d) (s:=s) hlim (by rw[ham];omega) p2 b2 hc;refine⟨_,_,?_,hst,?_,b4⟩
   ·rw[ham, <- hj,St.plain,St.plain,Ex.plains,Ex.plains,Ex.plains,Ex.plains,p1,b1]
   grind
  by_cases hk3:k=3
  ·have hy0:=hy3 hk3;subst hy0;exact blkCase (by omega) rfl hrest
  ·have hk2:k=2:=by omega
   have hj0:j=0:=by omega
   have hd1:y≠[]->d+1<=8:=λhne=>by
    unfold N3 at hby
    grind
   have elsCase:∀(o':List St) (s4:Rd),St.plains o'=St.plains y->A9c L E d (A5 s3) (o',s4)->isR L E s3 [101,108,115,101]=true->s4.i=s3.i+rest.length->okR s4=true->∃x' s',x'.plain=(St.mk k [] [] [e] x y p).plain/\T1 L E d s (x',s')/\s'.i=s.i+([w]++exT e++blT x++rest).length/\okR s'=true:=by
    intro o' s4 c1 c2 c3 c4 c5;have hst:=T1.els (L:=L) (E:=E) (d:=d) (s:=s) hlim (by rw[ham,hj0];rfl) p2 b2 c3 c2;refine⟨_,_,?_,hst,?_,c5⟩
    ·rw[hk2,St.plain,St.plain,Ex.plains,Ex.plains,Ex.plains,Ex.plains,p1,b1,c1]
    grind
   clear hy hy3 hv hm hT h h0
   match y,hcy,hby,hd1,hrest,blkCase,elsCase with
   |[],_,_,_,hrest,blkCase,_ =>
    refine blkCase ?_ rfl hrest;rintro⟨-,g⟩;rw[hrest]at h3;rw[A4m b4,A9o,h3]at g;have g:D6v E post=true:=g
    grind
   |[q],hcy,hby,hd1,hrest,_,elsCase =>
    have hrest:rest=if q.kind=2 then [A3 [101,108,115,101]]++stT q else [A3 [101,108,115,101]]++blT [q]:=hrest
    have hd1:=hd1 (by simp);by_cases hq2:q.kind=2
    ·rw[if_pos hq2]at hrest;subst hrest;have h4:L.drop s3.i=A3 [101,108,115,101]::(stT q++post):=by grind
     have hi:isR L E s3 [101,108,115,101]=true:=by rw[A4m b4,C5 h4,D9f];rfl
     have hvq:O6 (d+1) q=true:=by
      unfold N3 at hby;simp only[A0D]at hby;have:=hby.2;rw[G6,A0D]at this
      grind
     obtain⟨q',s4,c1,c2,c3,c4⟩:=hcy q A0J (d+1) (A5 s3) post hvq hd1 (F7 h4) b4 hels;rw[hcast]at c2;have hif:isR L E (A5 s3) [105,102]=true:=by
      have h5:=F7 h4;have:∃ts,stT q=A3 (B9.getD 0 [])::ts:=by
       cases q with|mk kq nq tq aq xq yq pq =>
       have hq2:kq=2:=hq2;subst hq2;unfold stT;rw[if_neg (by simp),if_neg (by simp)];dsimp only;rw[if_pos (.inl rfl)]
       match yq with
       |[]=>simp
       |[q3] =>
        dsimp only;split
        ·exact⟨_,rfl⟩
        simp
       |_::_::_=>simp
      obtain⟨ts,hts⟩:=this;rw[A4m (show okR (A5 s3)=true from b4),C5 (s:=A5 s3) (t:=A3 (B9.getD 0 [])) (ts:=ts++post) (by show L.drop (s3.i+1)=_;grind),(B9t 0 (by simp)).2.1];rfl
     refine elsCase [q'] s4 (by rw[St.plains,St.plains,St.plains,St.plains,c1]) (A9c.iff hif c2) hi ?_ c4;rw[c3];simp only[A0A,A0K];show s3.i+1+_=_;omega
    ·rw[if_neg hq2]at hrest;subst hrest;have h4:L.drop s3.i=A3 [101,108,115,101]::(blT [q]++post):=by grind
     have hi:isR L E s3 [101,108,115,101]=true:=by rw[A4m b4,C5 h4,D9f];rfl
     obtain⟨o',s4,c1,c2,c3,c4⟩:=S9 hcy hby (s:=A5 s3) (F7 h4) b4;rw[hcast]at c2;have hif:isR L E (A5 s3) [105,102]=false:=by
      rw[A4m (show okR (A5 s3)=true from b4),C5 (s:=A5 s3) (t:=A3 [123]) (ts:=Q1 [q]++[A3 [125]]++post) (by show L.drop (s3.i+1)=_;rw[F7 h4];unfold blT;simp),w123.1,A2E];rfl
     refine elsCase o' s4 c1 (A9c.blk hif c2) hi ?_ c4;rw[c3];simp only[A0A,A0K];show s3.i+1+_=_;omega
   |q::q2::r,hcy,hby,hd1,hrest,_,elsCase =>
    have hrest:rest=[A3 [101,108,115,101]]++blT (q::q2::r):=hrest;subst hrest;have h4:L.drop s3.i=A3 [101,108,115,101]::(blT (q::q2::r)++post):=by grind
    have hi:isR L E s3 [101,108,115,101]=true:=by rw[A4m b4,C5 h4,D9f];rfl
    obtain⟨o',s4,c1,c2,c3,c4⟩:=S9 hcy hby (s:=A5 s3) (F7 h4) b4;rw[hcast]at c2;have hif:isR L E (A5 s3) [105,102]=false:=by
     rw[A4m (show okR (A5 s3)=true from b4),C5 (s:=A5 s3) (t:=A3 [123]) (ts:=Q1 (q::q2::r)++[A3 [125]]++post) (by show L.drop (s3.i+1)=_;rw[F7 h4];unfold blT;simp),w123.1,A2E];rfl
    refine elsCase o' s4 c1 (A9c.blk hif c2) hi ?_ c4;rw[c3];simp only[A0A,A0K];show s3.i+1+_=_;omega
 have hshx:(K2 k).thn=false/\(K2 k).els=false:=by
  unfold K2
  grind
 have hx:x=[]:=hx.resolve_left (by grind);have hy:y=[]:=hy.resolve_left (by grind);subst hx hy;have tailGo:∀(toks:List Tok) (n' t':List UInt8) (a':List Ex) (s':Rd),stT (.mk k n t a [] [] p)=[A3 (B9.getD j [])]++toks->n'=n->t'=t->Ex.plains a'=Ex.plains a->s'.i=s.i+1+toks.length->okR s'=true ->
   (L.drop (s.i+1)=toks++post->Evt (λf=>O2 L E f k (B8 L E s).pos (A5 s)) (.mk k n' t' a' [] [] (B8 L E s).pos,s'))->∃x' s',x'.plain=(St.mk k n t a [] [] p).plain/\T1 L E d s (x',s')/\s'.i=s.i+(stT (.mk k n t a [] [] p)).length/\okR s'=true:=by
  intro toks n' t' a' s' c1 c2 c3 c4 c5 c6 c7;subst c2 c3;rw[c1]at h ⊢;have h0:L.drop s.i=A3 (B9.getD j [])::(toks++post):=by rw[h];simp
  have hpk:=C5 (E:=E) h0;have ham:C0 L E s B9=(j:Int):=by rw[W6 hok,hpk];exact a1
  have hst:=T1.tail (L:=L) (E:=E) (d:=d) (s:=s) hlim (by rw[ham];omega) (by rw[ham, <- hj];exact c7 (F7 h0));refine⟨_,_,?_,hst,?_,c6⟩
  ·rw[St.plain,St.plain,c4]
  grind
 have hT:stT (.mk k n t a [] [] p)=[A3 (B9.getD j [])]++(if k=4 then agT a 0++[A3 [59]] else if k=18 then A2i t++[A3 [44]]++agT a 0++[A3 [59]] else if k=8\/k=10 then D6 n++agT a 0++[A3 [59]] else if k=9 then D6 n++agT a 0++[A3 [44]]++agT a 1++[A3 [59]] else if k=19 then [A3 [59]] else D6 n++[A3 [59]]):=by
  unfold stT
  grind
 by_cases h4:k=4
 ·subst h4;have hn:n=[]:=by have h':(n == [])=true:=hn;grind
  have ht:t=[]:=by have h':(t == [])=true:=ht;grind
  subst hn ht;obtain⟨e,rfl,he⟩:=A7b ha hav;rw[if_pos rfl,ag0]at hT;have h0:L.drop (s.i+1)=exT e++(A3 [59]::post):=by
   rw[hT]at h;have:L.drop s.i=A3 (B9.getD j [])::(exT e++(A3 [59]::post)):=by grind
   exact F7 this
  obtain⟨e',s1,p1,p2,p3,p4⟩:=M2 (L:=L) (E:=E) he (s:=A5 s) h0 hok (by rfl);have h3:L.drop s1.i=A3 [59]::post:=by rw[p3];exact H8 h0
  refine tailGo _ [] [] [e'] (A5 s1) hT rfl rfl (by rw[Ex.plains,Ex.plains,Ex.plains,Ex.plains,p1]) (by show s1.i+1=_;grind) p4 (λ_=>p2.map λf hf=>?_);unfold O2;rw[if_pos rfl,hf];dsimp only;rw[S7 h3 p4 w59.1]
 rw[if_neg h4]at hT;by_cases h18:k=18
 ·subst h18;have hn:n=[]:=by have h':(n == [])=true:=hn;grind
  have ht:S3 t=true:=ht;subst hn;obtain⟨e,rfl,he⟩:=A7b ha hav;rw[if_pos rfl,ag0]at hT;have h0:L.drop (s.i+1)=A2i t++(A3 [44]::(exT e++(A3 [59]::post))):=by
   rw[hT]at h;have:L.drop s.i=A3 (B9.getD j [])::(A2i t++(A3 [44]::(exT e++(A3 [59]::post)))):=by grind
   exact F7 this
  have htk:=D4l (E:=E) (s:=A5 s) h0 hok ht;have h1:=A0a (s:=A5 s) h0 (F1 t);have he1:=S7 (E:=E) (s:=A5 (A5 s)) h1 hok w44.1;have h2:=F7 (s:=A5 (A5 s)) h1;obtain⟨e',s1,p1,p2,p3,p4⟩:=M2 (L:=L) (E:=E) he (s:=A5 (A5 (A5 s))) h2 hok (by rfl);have h3:L.drop s1.i=A3 [59]::post:=by rw[p3];exact H8 h2
  refine tailGo _ [] t [e'] (A5 s1) hT rfl rfl (by rw[Ex.plains,Ex.plains,Ex.plains,Ex.plains,p1]) (by show s1.i+1=_;grind) p4 (λ_=>p2.map λf hf=>?_);unfold O2;rw[if_neg (by simp),if_pos rfl,htk,he1,hf];dsimp only;rw[S7 h3 p4 w59.1]
 rw[if_neg h18]at hT;by_cases h8:k=8\/k=10
 ·have hsh:K2 k=⟨true,false,1,false,false⟩:=by rcases h8 with rfl|rfl<;>rfl
  rw[hsh]at ha hn ht;have hn:D7 n=true:=hn;have ht:t=[]:=by grind
  subst ht;obtain⟨e,rfl,he⟩:=A7b ha hav;rw[if_pos h8,ag0]at hT;have h0:L.drop (s.i+1)=D6 n++(exT e++(A3 [59]::post)):=by
   rw[hT]at h;have:L.drop s.i=A3 (B9.getD j [])::(D6 n++(exT e++(A3 [59]::post))):=by grind
   exact F7 this
  have htk:=A5a (E:=E) (s:=A5 s) h0 hok hn;have h1:=A0a (s:=A5 s) h0 (B6 n);obtain⟨e',s1,p1,p2,p3,p4⟩:=M2 (L:=L) (E:=E) he (s:=A5 (A5 s)) h1 hok (by rfl);have h3:L.drop s1.i=A3 [59]::post:=by rw[p3];exact H8 h1
  refine tailGo _ n [] [e'] (A5 s1) hT rfl rfl (by rw[Ex.plains,Ex.plains,Ex.plains,Ex.plains,p1]) (by show s1.i+1=_;grind) p4 (λ_=>p2.map λf hf=>?_);unfold O2;rw[if_neg h4,if_neg h18,if_neg (by omega)];dsimp only;rw[if_pos (by omega),htk];dsimp only;rw[hf];dsimp only;rw[if_neg (by omega),S7 h3 p4 w59.1]
 rw[if_neg h8]at hT;by_cases h9:k=9
 ·subst h9;have hn:D7 n=true:=hn;have ht:t=[]:=by have h':(t == [])=true:=ht;grind
  subst ht;obtain⟨e,e2,rfl⟩:=C4j ha;simp only[A2L,List.all_nil,A2H,A0D]at hav;rw[if_pos rfl,ag0,ag1]at hT;have h0:L.drop (s.i+1)=D6 n++(exT e++(A3 [44]::(exT e2++(A3 [59]::post)))):=by
   rw[hT]at h;have:L.drop s.i=A3 (B9.getD j [])::(D6 n++(exT e++(A3 [44]::(exT e2++(A3 [59]::post))))):=by grind
   exact F7 this
  have htk:=A5a (E:=E) (s:=A5 s) h0 hok hn;have h1:=A0a (s:=A5 s) h0 (B6 n);obtain⟨e',s1,p1,p2,p3,p4⟩:=M2 (L:=L) (E:=E) hav.1 (s:=A5 (A5 s)) h1 hok (by rfl);have h3:L.drop s1.i=A3 [44]::(exT e2++(A3 [59]::post)):=by rw[p3];exact H8 h1
  have hx1:=S7 (E:=E) h3 p4 w44.1;obtain⟨e2',s2,r1,r2,r3,r4⟩:=M2 (L:=L) (E:=E) hav.2 (s:=A5 s1) (F7 h3) p4 (by rfl);have h5:L.drop s2.i=A3 [59]::post:=by rw[r3];exact H8 (F7 h3)
  refine tailGo _ n [] [e',e2'] (A5 s2) hT rfl rfl (by rw[Ex.plains,Ex.plains,Ex.plains,Ex.plains,Ex.plains,Ex.plains,p1,r1]) (by show s2.i+1=_;grind) r4 (λ_=>p2.map2 r2 λf hf hf2=>?_);unfold O2;rw[if_neg h4,if_neg h18,if_neg (by simp)];dsimp only;rw[if_pos (by simp),htk];dsimp only;rw[hf];dsimp only;rw[if_pos rfl,hx1,hf2];dsimp only;rw[S7 h5 r4 w59.1]
 rw[if_neg h9]at hT;by_cases h19:k=19
 ·subst h19;have hn:n=[]:=by have h':(n == [])=true:=hn;grind
  have ht:t=[]:=by have h':(t == [])=true:=ht;grind
  have ha:a=[]:=A2A ha;subst hn ht ha;rw[if_pos rfl]at hT;have h0:L.drop (s.i+1)=A3 [59]::post:=by
   rw[hT]at h;have:L.drop s.i=A3 (B9.getD j [])::(A3 [59]::post):=by grind
   exact F7 this
  refine tailGo _ [] [] [] (A5 (A5 s)) hT rfl rfl rfl rfl hok (λ_=>Evt.one λf=>?_);unfold O2;rw[if_neg (by simp),if_neg (by simp),if_pos rfl,S7 (s:=A5 s) h0 hok w59.1]
 rw[if_neg h19]at hT;have hsh:=C5t hk1 (λh=>h23 (.inl h)) (λh=>h23 (.inr h)) h4 (λh=>h8 (.inl h)) h9 (λh=>h8 (.inr h)) h18 h19;rw[hsh]at ha hn ht;have hn:D7 n=true:=hn;have ht:t=[]:=by grind
 have ha:a=[]:=A2A ha;subst ht ha;have h0:L.drop (s.i+1)=D6 n++(A3 [59]::post):=by
  rw[hT]at h;have:L.drop s.i=A3 (B9.getD j [])::(D6 n++(A3 [59]::post)):=by grind
  exact F7 this
 have htk:=A5a (E:=E) (s:=A5 s) h0 hok hn;have h1:=A0a (s:=A5 s) h0 (B6 n);refine tailGo _ n [] [] (A5 (A5 (A5 s))) hT rfl rfl rfl (by simp only[A0A,A0K,B6];rfl) hok (λ_=>Evt.one λf=>?_);unfold O2;rw[if_neg h4,if_neg h18,if_neg h19];dsimp only;rw[if_neg (by omega),htk];dsimp only;rw[S7 (s:=A5 (A5 s)) h1 hok w59.1]
theorem B5y{l:List St}{d:Nat}{s:Rd}{post:List Tok}(hv:N3 l d=true)(h:L.drop s.i=blT l++post)(hok:okR s=true):
  ∃l' s',St.plains l'=St.plains l/\A9e L E d s (l',s')/\s'.i=s.i+(blT l).length/\okR s'=true :=
 S9 (λx hx=>B6p (x.sz+1) x (by omega)) hv h hok
end
end Go.Pb
end
