/-
  HELPERS of the claim: part 4 of its texts.
-/
import Derived.Test.YtnkkfehegdplgaaGreatDoorCcdc
import Derived.ReadAgain
import Derived.ChangeBears
import Derived.Deep.Slices
import Derived.Below
import Derived.OpenShut
import Derived.Lib.LaidTab
import Derived.Lib.ParseIntB
import Derived.Lib.Bytealg
import Derived.KernelRfl
import Derived.Lib.Join
noncomputable section
set_option linter.unusedVariables false
set_option linter.unusedSectionVars false
set_option linter.unusedSimpArgs false
namespace Go.Sym
variable [Go.Sym.Tab]
open Go.RowKit Go.Pb Go.Deep
section
variable {H:Type} {enc:TypeId × Value->H} {P:Program} {T:TypeId->Prop} {W W':World} {hT:TabOk W}
theorem arg_kept(K:Kids P T)(hz:∀t e,T t->P.underlying t=some (.slice e)->0<P.cellsOf e)(hb:Below W.heap.size W W'){sp:Nat->Bool}:
  ∀ {ts:List TypeId} {vs:List Value} {ds:List (DataW H)} {ps:List MemPlace},(∀t∈ts,T t)->DataW.TrodAll enc P W 0 (λ_=>true) true ts vs ds ps->(∀p∈ps,sp p.block=true)->DataW.TrodAll enc P W' 0 sp true ts vs ds ps
 |[],[],[],_,_,h,_=>h
 |t::ts,v::vs,d::ds,ps,hT,⟨p,q,h1,h2,e⟩,hs=>by
  have hlt:=h1;refine⟨p,q,?_,arg_kept K hz hb (λt ht=>hT t (A0U.2 (Or.inr ht))) h2 (λx hx=>hs x (by rw[e];exact A4H _ hx)),e⟩;have h3:=h1.respare K hz (hT _ (A0U.2 (Or.inl rfl))) (spare':=sp) (λx hx=>hs x (by rw[e];exact A3G _ hx));obtain⟨n,hn⟩:=h3;obtain⟨m,hm⟩:=h1;exact⟨n,DataW.trod_carry n _ _ _ hn λx hx=>hb.same (DataW.trod_lt m _ _ _ hm x hx)⟩
theorem u8_of{n:Int}(h:(Lit.int .u8 n).wf=true):n=((UInt8.ofNat n.toNat).toNat:Int):=by
 have:=bounds_u8 h;simp;omega
theorem open_bytes{t e:TypeId}{v:Value}{d:DataW H}{ps:List MemPlace}(ht:P.underlying t=some (.slice e))(he:P.underlying e=some (.int .u8))(hc:P.cellsOf e=1)
  (h:DataW.Trod enc P W 0 (λ_=>true) true t v d ps) (hv:v.cells = #[v]):∃l:List UInt8,l.length<=9223372036854775807/\VRel (topR W hT) (.lst (bytesC l)) v:=by
 obtain⟨n,hn⟩:=h;rcases open_slice1 ht hc hn with ⟨h1, -⟩|⟨a,len,cap,m,n',V,D,Pl,h1,h2,h3,h4,h5,h6,h7⟩
 ·rw[hv]at h1;have:v=.slice none 0 0:=by simpa using h1
  subst this;exact⟨[],by simp,.lnil0⟩
 ·rw[hv]at h1;have hva:v=.slice (some a) len cap:=by simpa using h1
  subst hva;simp only[if_true]at h5;have hk:∀i,i<len->∃k:Int,V i=.int .u8 k/\(Lit.int .u8 k).wf=true:=by
   intro i hi;obtain⟨k,q1,q2,q3⟩:=DataW.trod_int he (h7 i (by omega)).2;exact⟨k,by simpa using q1,q3⟩
  by_cases hl0:len=0
  ·subst hl0;exact⟨[],by simp,.lnil a cap⟩
  have hcell:=(h7 0 (by omega)).1;have hadd0:a.add 0=a:=by simp[Addr.add]
  rw[hadd0]at hcell;obtain⟨b,off,spot⟩:=a;have hspot:spot=none:=by
   simp only[World.cell?]at hcell;split at hcell
   ·split at hcell
    ·cases hcell
    ·rename_i h;cases spot with
     |none=>rfl
     |some s=>simp at h
   ·cases hcell
  subst hspot;have hrow:∃row ty fr,W.heap[b]? = some (.cells row ty fr):=by
   simp only[World.cell?]at hcell;split at hcell
   ·rename_i row ty fr h;exact⟨row,ty,fr,h⟩
   ·cases hcell
  obtain⟨row,ty,fr,hb⟩:=hrow;have hget:∀i,i<len->row[off+i]? = some (V i):=by
   intro i hi;have h8:=(h7 i (by omega)).1;have e1:(⟨b,off,none⟩:Addr).add i=⟨b,off+i,none⟩:=by
    unfold Addr.add;split
    ·rename_i h0;subst h0;rfl
    ·rfl
   rw[e1]at h8;simp only[World.cell?,hb]at h8;exact h8
  obtain⟨F,hF⟩:∃F:Nat->UInt8, ∀i,i<len->V i=.int .u8 ((F i).toNat:Int):=by
   have:∀i, ∃f:UInt8,i<len->V i=.int .u8 (f.toNat:Int):=λi=>by
    by_cases hi:i<len
    ·obtain⟨k,q1,q2⟩:=hk i hi;exact⟨UInt8.ofNat k.toNat,λ_=>by rw[q1, <- u8_of q2]⟩
    ·exact⟨0,λh=>absurd h hi⟩
   exact⟨λi=>Classical.choose (this i),λi hi=>Classical.choose_spec (this i) hi⟩
  refine⟨(List.range len).map F,by simp only[A0N,List.length_range];simp only[maxLen]at h4;omega,?_⟩;have hcl:cellsL (bytesC ((List.range len).map F))=bytesC ((List.range len).map F):=A2x (λ_=>rfl) _;have hlen:(bytesC ((List.range len).map F)).length=len:=by rw[B5f];simp
  refine .lst _ _ 1 b off cap row (C3w hb) hlen.symm h3 h4 (λx hx=>by obtain⟨y, -,rfl⟩:=A0X.1 hx;rfl) ?_ ?_ ?_
  ·rw[hcl,hlen];have:=(A0Z.1 (hget (len-1) (by omega))).1;omega
  ·rw[hcl];intro x hx;obtain⟨y, -,rfl⟩:=A0X.1 hx;rfl
  ·rw[hcl];intro k x y hx hy;have hkl:k<len:=by have:=(A1G.1 hx).1;omega
   rw[hget k hkl,hF k hkl]at hy;cases hy;have hx2:(bytesC ((List.range len).map F))[k]? = some (DV.int .u8 ((F k).toNat:Int)):=by simp[bytesC,hkl]
   rw[hx2]at hx;cases hx;exact .int _ _
end
end Go.Sym
namespace Go.Pb
variable [Go.Sym.Tab]
open Go.Sym
abbrev Sm(n:Int):Prop := -4611686018427387904<=n/\n<=4611686018427387903
structure Bnd (c:Prg):Prop where
 ins:∀i∈c.instrs,Sm i.op/\Sm i.A
 ent:∀e∈c.entries,Sm e.mode/\Sm e.trigger/\Sm e.index/\Sm e.pos
 pri:∀n∈c.prios,Sm n
 var:∀n∈c.vars,Sm n
 tim:Sm c.timers
 evt:Sm c.events
 str:∀s∈c.strings,s.length<=32
theorem A2q{n lo hi:Int}(h:inM n lo hi=true)(h1 : -4611686018427387904<=lo)(h2:hi<=4611686018427387903):Sm n:=by
 simp_all[inM];omega
theorem E4x{op:Int}(h:(D4 op).2.2 ≠ -1):1<=op/\op<=31:=by
 by_cases h2:1<=op/\op<=31
 ·omega
 ·exfalso;apply h;have h101:¬op=1:=by omega
  have h102:¬op=2:=a8
  have h103:¬op=3:=a8
  have h104:¬op=4:=a8
  have h105:¬op=5:=a8
  have h106:¬op=6:=a8
  have h107:¬op=7:=a8
  have h108:¬op=8:=a8
  have h109:¬op=9:=a8
  have h110:¬op=10:=a8
  have h111:¬op=11:=a8
  have h112:¬op=12:=a8
  have h113:¬op=13:=a8
  have h114:¬op=14:=a8
  have h115:¬op=15:=a8
  have h116:¬op=16:=a8
  have h117:¬op=17:=a8
  have h118:¬op=18:=a8
  have h119:¬op=19:=a8
  have h120:¬op=20:=a8
  have h121:¬op=21:=a8
  have h122:¬op=22:=a8
  have h123:¬op=23:=a8
  have h124:¬op=24:=a8
  have h125:¬op=25:=a8
  have h126:¬op=26:=a8
  have h127:¬op=27:=a8
  have h128:¬op=28:=a8
  have h129:¬op=29:=a8
  have h130:¬op=30:=a8
  have h131:¬op=31:=a8
  simp_all[D4]
theorem Lim.dims{c:Prg}(h:P2 c=true):c.instrs.length<=4000/\c.strings.length<=200/\c.entries.length<=512/\c.prios.length<=16/\c.vars.length<=128/\0<=c.timers/\c.timers<=128/\0<=c.events/\c.events<=128:=by
 simp_all[P2,inM]
theorem E2d{c:Prg}(hL:P2 c=true){k a:Int}(hJ:k≠7)(h:I1 c k a=true):Sm a:=by
 obtain⟨d1,d2,d3,d4,d5,d6,d7,d8,d9⟩:=Lim.dims hL;by_cases e0:k=0
 ·subst e0;have h':decide (a=0)=true:=h;simp only[A0L]at h';exact⟨a8,by omega⟩
 by_cases e1:k=1
 ·subst e1;exact A2q (lo:=(-2147483647)) (hi:=2147483647) h (by omega) (by omega)
 by_cases e2:k=2
 ·subst e2;exact A2q (lo:=0) (hi:=(c.vars.length-1)) h (by omega) (by omega)
 by_cases e3:k=3
 ·subst e3;exact A2q (lo:=0) (hi:=63) h (by omega) (by omega)
 by_cases e9:k=9
 ·subst e9;exact A2q (lo:=0) (hi:=63) h (by omega) (by omega)
 by_cases e4:k=4
 ·subst e4;exact A2q (lo:=0) (hi:=(c.prios.length-1)) h (by omega) (by omega)
 by_cases e5:k=5
 ·subst e5;exact A2q (lo:=0) (hi:=(c.timers-1)) h (by omega) (by omega)
 by_cases e6:k=6
 ·subst e6;exact A2q (lo:=12) (hi:=24) h (by omega) (by omega)
 by_cases e8:k=8
 ·subst e8;exact A2q (lo:=0) (hi:=31) h (by omega) (by omega)
 by_cases e10:k=10
 ·subst e10;exact A2q (lo:=0) (hi:=(c.events-1)) h (by omega) (by omega)
 by_cases e11:k=11
 ·subst e11;exact A2q (lo:=0) (hi:=(c.strings.length-1)) h (by omega) (by omega)
 simp_all[I1]
theorem Bnd.of{c:Prg}(hL:P2 c=true)(hp:A0d c=true)(hj:K9 c=true):Bnd c:=by
 obtain⟨d1,d2,d3,d4,d5,d6,d7,d8,d9⟩:=Lim.dims hL;simp only[A0d,A0G,A0R]at hp;obtain⟨⟨⟨⟨p1,p2⟩,p3⟩,p4⟩,p5⟩:=hp;refine⟨λi hi=>?_,λe he=>?_,λn hn=>A2q (p2 n hn) (by omega) (by omega),λn hn=>A2q (p3 n hn) (by omega) (by omega),⟨a8,by omega⟩,⟨a8,by omega⟩,λs hs=>?_⟩
 ·have h:=p5 i hi;have h7:=B8q hj i hi;have hk:(D4 i.op).2.2 ≠ -1:=by
   intro e;rw[D2,e]at h;simp[I1]at h
  obtain⟨o1,o2⟩:=E4x hk;refine⟨⟨a8,by omega⟩,?_⟩;by_cases hJ:(D4 i.op).2.2=7
  ·have hop:i.op=12\/i.op=13\/i.op=14:=by
    have:=A5k i.op;rw[hJ]at this;simpa[isJ] using this
   have:=h7 hop;exact⟨a8,by omega⟩
  ·exact E2d hL hJ h
 ·have h:=p4 e he;have h7:=C5v hj e he;simp only[A4q,A0G]at h;obtain⟨h1,h2⟩:=h;refine⟨A2q h1 (by omega) (by omega),?_,?_,⟨a8,by omega⟩⟩
  ·repeat' split at h2
   all_goals first
    |cases h2;done
    |exact⟨a8,by omega⟩
  ·repeat' split at h2
   all_goals first
    |exact A2q h2 (by omega) (by omega)
    |(simp only[A0L]at h2;exact⟨a8,by omega⟩)
    |cases h2
 simp_all[U0]
theorem A1p{c:Prg}(h0:H6 c=0):P2 c=true/\A0d c=true/\K9 c=true/\Z4 c.entries=true/\∃h,hR c=some h:=by
 unfold H6 at h0;split at h0
 ·omega
 split at h0
 ·omega
 split at h0
 ·omega
 split at h0
 ·omega
 split at h0
 ·omega
 ·rename_i h1 h2 h3 h4 h5;refine⟨w9,by simpa using h2,by simpa using h3,by simpa using h4,?_⟩;cases hh:hR c<;>simp_all
theorem Bnd.valid{c:Prg}(h0:H6 c=0):Bnd c :=
 let ⟨a,b,d,_⟩:=A1p h0
 Bnd.of a b d
theorem F5{n:Int}(h:Sm n):(J0 n).length<=10:=C1d 9 _ (by grind[D2w])
theorem A6f(n:Int):J0 n≠[]:=by
 grind[J0,A8q,B2t]
def B3y(l:List Int):List UInt8:=J0 l.length++l.flatMap J0
def A3h(i:Ins):List UInt8:=J0 i.op++J0 i.A
def A1u(s:List UInt8):List UInt8:=J0 s.length++s
def A3u(e:Ent):List UInt8:=J0 e.mode++J0 e.trigger++J0 e.index++J0 e.pos
def B5x(c:Prg):List UInt8 :=
 J0 c.instrs.length++c.instrs.flatMap A3h++J0 c.strings.length++c.strings.flatMap A1u++J0 c.entries.length++c.entries.flatMap A3u++B3y c.prios++B3y c.vars++J0 c.timers++J0 c.events
theorem O4{α:Type}(f : α->List UInt8)(m:Nat):∀(l:List α),(∀x∈l,(f x).length<=m)->(l.flatMap f).length<=m*l.length
 |[],_=>by simp
 |x::l,h=>by
  have h1:=h x A0H;have h2:=O4 f m l (λy hy=>h y (A0D _ hy))
  grind[Nat.mul_succ]
theorem A6k{α:Type}(f : α->List UInt8)(m:Nat)(l:List α)(h:∀x∈l,(f x).length<=m)(k:Nat):((l.take k).flatMap f).length<=m*l.length:=by
 have h1:=O4 f m (l.take k) (λx hx=>h x (A3U hx));have h2:m*(l.take k).length<=m*l.length:=Nat.mul_le_mul_left _ (by grind);omega
theorem A6l{α:Type}(f : α->List UInt8){l:List α}{k:Nat}{x : α}(h:l[k]? = some x):(l.take (k+1)).flatMap f=(l.take k).flatMap f++f x:=by
 grind[List.take_add_one]
theorem Q9{s t:List UInt8}(h:s.length+t.length<=9223372036854775807):binR .add (.str s) (.str t)=some (.str (s++t)):=D5c (by assumption)
theorem B6k{l:List Int}(h:∀n∈l,Sm n)(hl:l.length<=100000):(B3y l).length<=10+10*l.length:=by
 have h1:=F5 (n:=(l.length:Int)) ⟨a8,by omega⟩;have h2:=O4 J0 10 l (λx hx=>F5 (h x hx))
 grind[B3y]
def B1w(c:Prg):List UInt8:=if H6 c=0 then B5x c else []
def EH(c:Prg)(o:Option Nat)(bs:List UInt8):Hp :=
 optH ((Sym.nil.upd 0 ⟨0,true,c.cs⟩).upd 1 ⟨0,true,[todoV o bs.length]⟩) o ⟨1,true,bytesC bs⟩
theorem B1f{c:Prg}{o:Option Nat}{bs:List UInt8}{cc:Nat}(h:∀i,o=some i->2<=i/\i<cc):EH c o bs 0=some ⟨0,true,c.cs⟩:=by
 cases o with
 |none=>rfl
 |some i=>have:=h i rfl;simp only[EH,optH];rw[hnO];rfl
theorem B2d{c:Prg}{o:Option Nat}{bs:List UInt8}{x:Nat}(h0:2<=x)(h:o≠some x):EH c o bs x=none:=by
 cases o with
 |none=>simp only[EH,optH];rw[hnO,hnO];rfl
 |some i =>
  have:¬x=i:=λe=>h (by rw[e]);simp only[EH,optH];rw[h_ne this,hnO,hnO];rfl
theorem F4y{c:Prg}{o:Option Nat}{bs:List UInt8}{H:Hp}{x:Nat}{l:List Int}(hS:Sub (EH c o bs) H)(hx:H x=some ⟨1,true,l.map I64⟩)(h0:2<=x)(ho:o≠some x):
  GL H [.ptr 1 0,.slc x 0 l.length] (EH c o bs) [.ptr 1 0,J5 l]:=by
 refine GL.frz hx rfl (FzH.less (λj=>?_)) (.cons _ _ _ _ (.same _) (.cons _ _ _ _ (.slc 0 l.length 1 (l.map I64) (by simp) (B0s l) (by simp) (by simp[A2f,A0J])) .nil));cases hj:EH c o bs j with
 |none=>simp
 |some b =>
  refine .inr ⟨λe=>?_,(hS j b hj).symm⟩
  grind[B2d]
def A4s(d:Nat):UInt8:=UInt8.ofNat (48+d)
def B9e(n:Nat):List UInt8:=if n<10 then [A4s n] else B9e (n / 10)++[A4s (n%10)]
termination_by n
decreasing_by omega
theorem B3b{n:Nat}(h:n<10):B9e n=[A4s n]:=by simp_all[B9e]
theorem B9d{n:Nat}(h:¬n<10):B9e n=B9e (n / 10)++[A4s (n%10)]:=by rw[B9e,if_neg h]
theorem C2r:∀(k n:Nat),n<10 ^ (k+1)->(B9e n).length<=k+1
 |0,n,h=>by grind[B3b]
 |k+1,n,h=>by
  by_cases h0:n<10
  ·grind[B3b]
  ·rw[B9d h0,A0A];have:=C2r k (n / 10) (by rw[Nat.pow_succ]at h;omega)
   grind
def A4t(n:Int):List UInt8:=if n<0 then 45::B9e n.natAbs else B9e n.natAbs
theorem C2q{n:Int}(h1 : -9223372036854775808<=n)(h2:n<=9223372036854775807):(A4t n).length<=21:=by
 have:=C2r 19 n.natAbs (by omega)
 grind[A4t]
theorem F1e{d:Nat}(h:d<10):IntKind.u8.wrap (IntKind.i64.wrap (48+(d:Int)))=((A4s d).toNat:Int):=by
 rw[w6z,wu8 (by omega) (by omega),A4s];simp;omega
def Z7(n:Int):Nat:=n.natAbs%10
def A2d(n:Int):Nat:=n.natAbs / 10
theorem C8s(n:Int):Z7 n<10:=by grind[Z7]
theorem C9b{n:Int}(h:n≠0):A2d n<n.natAbs:=by grind[A2d]
theorem E1j{n:Int}(h:n<0):n.tdiv 10 = -((A2d n:Nat):Int):=by
 grind[A2d]
theorem E1i{n:Int}(h:n<0):n.tmod 10 = -((Z7 n:Nat):Int):=by
 grind[Z7]
theorem E0w{n:Int}(h:0<=n):n.tdiv 10=((A2d n:Nat):Int):=by
 grind[A2d]
theorem E0v{n:Int}(h:0<=n):n.tmod 10=((Z7 n:Nat):Int):=by
 grind[Z7]
theorem D2c{n:Int}(h:n<0)(h1:A2d n=0):A4t n=[45]++[A4s (Z7 n)]:=by
 unfold A2d at h1;have h2:n.natAbs<10:=a8
 have h3:Z7 n=n.natAbs:=by unfold Z7;omega
 simp_all[A4t,B3b]
theorem D8r{n:Int}(h:n<0)(h1:A2d n≠0):A4t n=A4t (-(A2d n:Int))++[A4s (Z7 n)]:=by
 have h2:¬n.natAbs<10:=by grind[A2d]
 rw[A4t,if_pos h,B9d h2,A4t,if_pos (by omega),Int.natAbs_neg,Int.natAbs_natCast];rfl
theorem B9c{n:Int}(h:0<=n)(h1:n<10):A4t n=[A4s (Z7 n)]:=by
 have h3:Z7 n=n.natAbs:=by grind[Z7]
 rw[A4t,if_neg (by omega),B3b (by omega),h3]
theorem C9o{n:Int}(h:¬n<10):A4t n=A4t (A2d n:Int)++[A4s (Z7 n)]:=by
 rw[A4t,if_neg (by omega),B9d (by omega),A4t,if_neg (by omega),Int.natAbs_natCast];rfl
structure Tok where
 kind:Int
 text:List UInt8
 value:Int
 pos:Int
deriving DecidableEq
abbrev Tok.v(t:Tok):DV:=.agg [I64 t.kind,.str t.text,I64 t.value,I64 t.pos]
abbrev D0(l:List Tok):DV:=.lst (l.map Tok.v)
theorem G8(l:List Tok):∀x∈l.map Tok.v,x.cells.length=4:=by
 intro x hx;obtain⟨y, -,rfl⟩:=A0X.1 hx;rfl
@[simp]theorem Q5(l:List Tok):DV.nlL (l.map Tok.v)=true:=P1 (λ_=>rfl) l
def ltB(c:UInt8):Bool:=(decide (97<=c.toNat)&&decide (c.toNat<=122))||(decide (65<=c.toNat)&&decide (c.toNat<=90))
def dgB(c:UInt8):Bool:=decide (48<=c.toNat)&&decide (c.toNat<=57)
def ptB(c:UInt8):Bool:=ltB c||dgB c||decide (c.toNat=95)
def F3(p:UInt8->Bool):List UInt8->Nat
 |[]=>0
 |c::r=>if p c=true then F3 p r+1 else 0
theorem A2o(p:UInt8->Bool):∀s:List UInt8,F3 p s<=s.length
 |[]=>A0E _
 |c::r=>by
  have:=A2o p r
  grind[F3]
theorem B2o{p:UInt8->Bool}:∀ {s:List UInt8} {k:Nat} {c:UInt8},s[k]? = some c->k<=F3 p s->(p c=true->k+1<=F3 p s)/\(p c=false->F3 p s=k)
 |[],k,c,h,_=>j8
 |x::r,0,c,h,_=>by
  simp_all[F3]
 |x::r,k+1,c,h,hk=>by
  simp only[F3]at hk ⊢;split at hk
  ·rename_i hx;rw[if_pos hx];have:=B2o (p:=p) (s:=r) (k:=k) (c:=c) (by simpa using h) (by omega);exact⟨λh=>by have:=this.1 h;omega,λh=>by have:=this.2 h;omega⟩
  omega
theorem C0e{p:UInt8->Bool}{s:List UInt8}{k:Nat}(h:s.length<=k)(hk:k<=F3 p s):F3 p s=k:=by
 grind[A2o]
def A4j(c:UInt8):Bool:=decide (c.toNat=9)||decide (c.toNat=10)||decide (c.toNat=13)||decide (c.toNat=32)
def skM:Bool->List UInt8->Nat
 |_,[]=>0
 |true,c::r=>if c.toNat=10 then skM false r+1 else skM true r+1
 |false,c::r=>if A4j c=true then skM false r+1 else if c.toNat=35 then skM true r+1 else 0
theorem A4i:∀(b:Bool) (s:List UInt8),skM b s<=s.length
 |_,[]=>by simp[skM]
 |true,c::r=>by
  have h1:=A4i true r;have h2:=A4i false r
  grind[skM]
 |false,c::r=>by
  have h1:=A4i true r;have h2:=A4i false r
  grind[skM]
theorem C0h:∀(s:List UInt8),skM true s=F3 (λc=>decide (c.toNat≠10)) s+skM false (s.drop (F3 (λc=>decide (c.toNat≠10)) s))
 |[]=>by rfl
 |c::r=>by
  by_cases h:c.toNat=10
  ·grind[skM,F3,A4j]
  ·have ih:=C0h r
   simp_all[skM,F3];omega
def w8(l:List Nat):List UInt8:=l.map UInt8.ofNat
def H8:List (List UInt8):=[w8 [115,119,105,116,99,104],w8 [99,111,105,108],w8 [108,97,109,112],w8 [115,111,117,110,100],w8 [115,104,111,119],w8 [118,97,114],w8 [116,105,109,101,114],w8 [101,118,101,110,116],w8 [109,111,100,101],w8 [111,110],w8 [115,116,97,114,116],w8 [115,116,111,112],w8 [99,108,111,115,101],w8 [111,112,101,110],w8 [105,102],w8 [101,108,115,101],w8 [114,101,112,101,97,116],w8 [115,99,111,114,101],w8 [102,105,114,101],w8 [104,111,108,100],w8 [114,101,108,101,97,115,101],w8 [108,105,103,104,116],w8 [98,108,105,110,107],w8 [98,101,103,105,110],w8 [101,110,100],w8 [112,111,115,116],w8 [112,108,97,121],w8 [114,117,110],w8 [104,97,108,116],w8 [116,101,120,116],w8 [99,111,110,115,117,109,101],w8 [99,108,111,115,101,100],w8 [97,99,116,105,118,101],w8 [108,101,102,116],w8 [112,108,97,121,101,114],w8 [98,97,108,108],w8 [116,114,117,101],w8 [102,97,108,115,101]]
def L7(s:List UInt8):Bool:=H8.contains s
def D8(s:List UInt8):Bool:=decide (1<=s.length)&&decide (s.length<=12)&&(match s with|c::_=>ltB c |[]=>false)&&decide (F3 ptB s=s.length) && !L7 s
def quM:List UInt8->Option (List UInt8 × Nat)
 |[]=>none
 |c::r =>
  if c.toNat=34 then some ([],1)
  else if c.toNat<32\/126<c.toNat then none
  else if c.toNat=92 then match r with
   |[]=>none
   |d::q=>if d.toNat=34\/d.toNat=92 then(quM q).map λx=>(d::x.1,x.2+2) else none
  else(quM r).map λx=>(c::x.1,x.2+1)
def Y3(s:List UInt8):Nat:=s.foldl (λn c=>10*n+(c.toNat-48)) 0
theorem D0y{s:List UInt8}{k:Nat}{c:UInt8}(h:s[k]? = some c):Y3 (s.take (k+1))=10*Y3 (s.take k)+(c.toNat-48):=by
 grind[Y3,List.take_add_one]
def A9x(c d:UInt8):Bool:=[(60,61),(62,61),(61,61),(33,61),(38,38),(124,124)].contains (c.toNat,d.toNat)
def B0i(c:UInt8):Bool:=[123,125,40,41,59,44,61,43,45,42,47,37,33,60,62].contains c.toNat
def I4:List UInt8->Nat
 |c::d::_=>if A9x c d=true then 2 else if B0i c=true then 1 else 0
 |[c]=>if B0i c=true then 1 else 0
 |[]=>0
structure Nx where
 kind:Int
 text:List UInt8
 value:Int
 n:Nat
 err:Int
def nxE(e:Int):Nx:=⟨0,[],0,0,e⟩
def A7:List UInt8->Nx
 |[]=>nxE 47
 |c::r =>
  if ltB c=true then
   if 12<F3 ptB (c::r) then nxE 9 else⟨if L7 ((c::r).take (F3 ptB (c::r)))=true then 2 else 1,(c::r).take (F3 ptB (c::r)),0,F3 ptB (c::r),0⟩
  else if dgB c=true then
   if 1<F3 dgB (c::r)/\c.toNat=48 then nxE 47
   else if 2147483647<Y3 ((c::r).take (F3 dgB (c::r))) then nxE 5
   else⟨3,[],(Y3 ((c::r).take (F3 dgB (c::r))):Int),F3 dgB (c::r),0⟩
  else if c.toNat=34 then match quM r with
   |none=>nxE 48
   |some x=>if 32<x.1.length then nxE 9 else⟨4,x.1,0,x.2+1,0⟩
  else if I4 (c::r)=0 then nxE 47 else⟨5,(c::r).take (I4 (c::r)),0,I4 (c::r),0⟩
def T8:Nat->List UInt8->Nat->List Tok->List Tok × Int × Int
 |0,_,_,acc=>(acc,0,0)
 |f+1,src,at_,acc =>
  if src.length<=at_ then(acc,0,0)
  else if(A7 (src.drop at_)).err≠0 then([],(at_:Int),(A7 (src.drop at_)).err)
  else T8 f src (at_+(A7 (src.drop at_)).n+skM false (src.drop (at_+(A7 (src.drop at_)).n)))
   (acc++[⟨(A7 (src.drop at_)).kind,(A7 (src.drop at_)).text,(A7 (src.drop at_)).value,(at_:Int)⟩])
def J2(s:List UInt8):List Tok × Int × Int:=if 20000<s.length then([],0,9) else T8 (s.length+1) s (skM false s) []
abbrev D4t(q:List Tok × Int × Int):DV:=.tup [D0 q.1,I64 q.2.1,I64 q.2.2]
theorem D5j:∀ {s t:List UInt8} {n:Nat},quM s=some (t,n)->1<=n/\n<=s.length/\t.length<=n
 |[],t,n,h=>l9
 |c::r,t,n,h=>by
  unfold quM at h;split at h
  ·grind
  ·split at h
   ·grind
   ·split at h
    ·cases r with
     |nil=>grind
     |cons d q =>
      simp only at h;split at h
      ·obtain⟨⟨t',n'⟩,h1,h2⟩:=A0T.1 h;have:=D5j h1;cases h2;simp only[A0C];omega
      grind
    ·obtain⟨⟨t',n'⟩,h1,h2⟩:=A0T.1 h;have:=D5j h1
     grind
theorem D4l:∀s:List UInt8,I4 s<=s.length
 |[]=>l9
 |[c]=>by grind[I4]
 |c::d::r=>by grind[I4]
theorem A8s{s:List UInt8}(h:(A7 s).err=0):1<=(A7 s).n/\(A7 s).n<=s.length:=by
 cases s with
 |nil=>trivial
 |cons c r =>
  have hp:=A2o ptB (c::r);have hd:=A2o dgB (c::r);have hs:=D4l (c::r);simp only[A7]at h ⊢;split
  ·rename_i hc;rw[if_pos hc]at h;split<;>simp_all[nxE,F3,ptB]
  ·rename_i hc;rw[if_neg hc]at h;split
   ·rename_i hc2;rw[if_pos hc2]at h;split
    ·simp_all[nxE]
    ·rename_i h1;rw[if_neg h1]at h;split<;>simp_all[nxE,F3]
   ·rename_i hc2;rw[if_neg hc2]at h;split
    ·rename_i hc3;rw[if_pos hc3]at h;cases hq:quM r with
     |none=>grind[nxE]
     |some x =>
      obtain⟨t,n⟩:=x;rw[hq]at h;simp only at h ⊢;have:=D5j hq;split<;>simp_all[nxE]
    ·rename_i hc3;rw[if_neg hc3]at h;split
     ·rename_i h1;rw[if_pos h1]at h;simp[nxE]at h
     grind
end Go.Pb
namespace Go.Sym
variable [Go.Sym.Tab]
open Go.RowKit Go.Pb Go.Deep Go.ChangeShapes
theorem B9w{P:Program}{w:World}{n:String}{g:Nat}{cs:Array Value}(e1:P.globalNamed n=some g)(e3:w.var? P n=some cs):B9x w g=some cs:=by
 unfold World.var? at e3;rw[e1,Option.bind_some]at e3;unfold B9x;split at e3
 ·rename_i r ty fr hh;cases e3;rw[hh]
 ·cases e3
theorem B4j{P:Program}{w:World}{n:String}{d:DataW Unit}:∀ {l:List (String × DataW Unit)} {ps:List MemPlace},DataW.LaidVars P w l ps->(n,d)∈l ->
  ∃g t cs fuel p,P.globalNamed n=some g/\(P.globals[g]?).map (·.type)=some t/\w.var? P n=some cs/\DataW.trod (λ_=>()) P w 0 (λ_=>true) false fuel t cs.toList=some (d,p)
 |[],ps,_,hm=>by cases hm
 |(n',d')::l,ps,h,hm=>by
  obtain⟨g,t,cs,fuel,p,q,h1,h2,h3,h4,h5, -⟩:=h;rcases A0U.1 hm with e|hm
  ·cases e;exact⟨g,t,cs,fuel,p,h1,h2,h3,h4⟩
  ·exact B4j h5 hm
theorem laid_tab{P:Program}{w:World}{n:String}{d:DataW Unit}{l:List (String × DataW Unit)}{g t e m:Nat}{k:IntKind}{zs:List Int}(h:laidMet P l w)(hm:(n,d)∈l)(hg:P.globalNamed n=some g)
  (ht:(P.globals[g]?).map (·.type)=some t) (hu:P.underlying t=some (.array m e)) (he:P.underlying e=some (.int k)) (hce:P.cellsOf e=1) (hct:P.cellsOf t=m) (hd:d=Lib.tabData k zs) :
  ∃r,B9x w g=some r/\r=(zs.map λz=>Value.int k z).toArray:=by
 obtain⟨ps,h1, -⟩:=h;obtain⟨g',t',cs,fuel,p,e1,e2,e3,e4⟩:=B4j h1 hm;rw[hg]at e1;cases e1;rw[ht]at e2;cases e2;rw[hd]at e4;have hc:=Lib.cells_of_tab hu he hce hct e4;exact⟨cs,B9w hg e3,Array.toList_inj.1 (hc.trans (by simp))⟩
theorem B9u{P:Program}{w:World}{fuel:Nat}{t:TypeId}{ms}{cs:List Value}{nm:String}{d:DataW Unit}{p:List MemPlace}(hu:P.underlying t=some (.interface ms))
  (h:DataW.trod (λ_=>()) P w 0 (λ_=>true) false fuel t cs=some (.iface nm d,p)):∃te pe,cs=[.iface te pe]:=by
 cases fuel with
 |zero=>simp[DataW.trod]at h
 |succ fuel =>
  simp only[DataW.trod,hu]at h;split at h<;>first|exact⟨_,_,rfl⟩|(simp_all;done)
theorem laid_err{P:Program}{w:World}{n:String}{nm:String}{d:DataW Unit}{l:List (String × DataW Unit)}{g t:Nat}{ms}(h:laidMet P l w)(hm:(n,DataW.iface nm d)∈l)(hg:P.globalNamed n=some g)
  (ht:(P.globals[g]?).map (·.type)=some t) (hu:P.underlying t=some (.interface ms)):∃r,B9x w g=some r/\∃te pe,r = #[.iface te pe]:=by
 obtain⟨ps,h1, -⟩:=h;obtain⟨g',t',cs,fuel,p,e1,e2,e3,e4⟩:=B4j h1 hm;rw[hg]at e1;cases e1;rw[ht]at e2;cases e2;obtain⟨te,pe,e5⟩:=B9u hu e4;exact⟨cs,B9w hg e3,te,pe,Array.toList_inj.1 e5⟩
section
variable {H:Type} {enc:TypeId × Value->H} {P:Program} {W W':World} {hT:TabOk W}
end
open Go.Eng (IC)
def B9p(p:Prop):Prop:=p
theorem O8{p:Prop}(h:B9p p):p:=h
theorem IW.stage{P:Program}{N:Nat}{x:IC}{T:Tm}{H:Hp}{c:Nat}{Q:Exit->St->Prop}{L:List (Nat × DV)}(hT:B5 L T)(h:IW P N x ⟨tm L,H,c⟩ Q):B9p (IW P N x ⟨T,H,c⟩ Q):=IW.weaken (E4j hT) (Sub.refl _) h
open Go.Eng (Opd FOp AOp EOp IOp IOper DReg IC RV IFn trC B1q P0 K4)
def pre:IC->List IC
 |.seq x y=>.seq x y::(pre x++pre y)
 |.cond o x y=>.cond o x y::(pre x++pre y)
 |.blk i x=>.blk i x::pre x
 |.loop x=>.loop x::pre x
 |x=>[x]
def szC:IC->Nat
 |.seq x y=>szC x+szC y+1
 |.cond o x y=>szC x+szC y+1
 |.blk i x=>szC x+1
 |.loop x=>szC x+1
 |x=>1
theorem D5q(t:IC):(pre t).length=szC t:=by
 induction t<;>simp_all[pre,szC]
def C5h(k:Nat):List Nat->List Nat
 |[]=>[k]
 |a::l=>match Nat.blt k a with
  |true=>k::a::l
  |false=>match Nat.beq k a with
   |true=>a::l
   |false=>a::C5h k l
def D0h:List Nat->List Nat->List Nat
 |[],m=>m
 |a::l,m=>C5h a (D0h l m)
def rmS(k:Nat):List Nat->List Nat
 |[]=>[]
 |a::l=>match Nat.beq k a with
  |true=>l
  |false=>a::rmS k l
def opS:Opd->List Nat
 |.t n=>[n]
 |_=>[]
def B8g:List IOper->List Nat->List Nat
 |[],out=>out
 |o::r,out=>D0h o.sees (match o.dst with
  |some d=>rmS d (B8g r out)
  |none=>B8g r out)
def slR:List RV->List Nat
 |[]=>[]
 |.tmp t::r=>C5h t (slR r)
 |.cell a _ _::r=>C5h a (slR r)
def upE(ex:Nat->List Nat)(i:Nat)(L:List Nat)(j:Nat):List Nat:=match Nat.beq i j with
 |true=>L
 |false=>ex j
def rgS:Eng.Rg->List Nat->List Nat
 |.bad,_=>[]
 |.r1 io m it,out=>B8g io (C5h m (rmS it out))
 |.r2 it n io,out=>C5h it (rmS n (B8g io out))
 |.r3 it e io,out=>C5h it (rmS e (B8g io out))
def lvC(rl:List Nat):IC->List Nat->(Nat->List Nat)->List Nat
 |.skip,out,_=>out
 |.exit i,_,ex=>ex i
 |.ret,_,_=>rl
 |.bad,_,_=>[]
 |.rg r,out,_=>rgS r out
 |.reg r,out,_=>B8g r out
 |.drw _ d,out,_=>B8g d.ops out
 |.seq x y,out,ex=>lvC rl x (lvC rl y out ex) ex
 |.cond o x y,out,ex=>D0h (opS o) (D0h (lvC rl x out ex) (lvC rl y out ex))
 |.blk i x,out,ex=>lvC rl x out (upE ex i out)
 |.loop x,_,ex=>lvC rl x [] ex
def chC(h:Nat->IC)(k:Nat):IC->IC
 |.skip=>.skip
 |.exit i=>.exit i
 |.ret=>.ret
 |.bad=>.bad
 |.rg r=>.rg r
 |.loop _=>.loop (h (k+1))
 |_=>h k
def E1m:Nat->List (Nat × Option (List Nat))->List IOper->Nat
 |k,(_,some [])::p,⟨_,.pur _,_⟩::r=>2 ^ k+E1m (k+1) p r
 |k,_::p,_::r=>E1m (k+1) p r
 |_,_,_=>0
def eqO:Option (List Nat)->Option (List Nat)->Bool
 |none,none=>true
 |some [],some []=>true
 |_,_=>false
def eqP:List (Nat × Option (List Nat))->List (Nat × Option (List Nat))->Bool
 |[],[]=>true
 |(a,x)::p,(b,y)::q=>Nat.beq a b&&eqO x y&&eqP p q
 |_,_=>false
theorem F0x{x y:Option (List Nat)}(h:eqO x y=true):x=y:=by
 unfold eqO at h;grind
theorem D8j:∀ {p q:List (Nat × Option (List Nat))},eqP p q=true->p=q
 |[],[],_=>rfl
 |(a,x)::p,(b,y)::q,h=>by
  simp only[eqP,A0G]at h;rw[A3Q h.1.1,F0x h.1.2,D8j h.2]
 |[],_::_,h=>l9
 |_::_,[],h=>l9
def asM(r:List IOper)(p:List (Nat × Option (List Nat)))(m:Nat):Option Nat:=match eqP (B5l m 0 r) p with
 |true=>some m
 |false=>none
inductive PD where
 |S (r:List IOper) (y:IC) (L:List Nat)
 |E (r:List IOper) (L:List Nat)
 |P (r:List IOper) (y:IC) (e n:Nat) (L:List Nat)
 |F (r:List IOper) (e n:Nat) (L:List Nat)
 |D (r:List IOper) (y:IC) (p:List (Nat × Option (List Nat))) (n:Nat) (L:List Nat)
 |G (r:List IOper) (p:List (Nat × Option (List Nat))) (n:Nat) (L:List Nat)
 |C (x y z:IC) (o:Opd) (L:List Nat)
 |K (x z:IC) (o:Opd) (L:List Nat)
 |B (x y:IC) (i:Nat) (L:List Nat)
 |J (x:IC) (i:Nat) (L:List Nat)
 |Q (x y:IC) (L:List Nat)
 |X (x:IC)
def PD.ic:PD->IC
 |.S r y _=>.seq (.reg r) y
 |.E r _=>.reg r
 |.P r y e n _=>.seq (.drw n (dQ r e)) y
 |.F r e n _=>.drw n (dQ r e)
 |.D r y p n _=>.seq (.drw n ⟨r,[],p⟩) y
 |.G r p n _=>.drw n ⟨r,[],p⟩
 |.C x y z o _=>.seq (.cond o x z) y
 |.K x z o _=>.cond o x z
 |.B x y i _=>.seq (.blk i x) y
 |.J x i _=>.blk i x
 |.Q x y _=>.seq x y
 |.X x=>x
def fuC(h:Nat->IC)(k:Nat)(x y:IC)(L:List Nat):PD:=match x with
 |.reg r=>.S r y L
 |.drw n ⟨r,[],p⟩=>match asM r p (E1m 0 p r) with
  |some m=>.P r y m n L
  |none=>.D r y p n L
 |.cond o a b=>.C (chC h (k+1) a) y (chC h (k+1+szC a) b) o L
 |.blk i a=>.B (chC h (k+1) a) y i L
 |x=>.Q (chC h k x) y L
def D0v(h:Nat->IC)(k:Nat)(x:IC)(L:List Nat):PD:=match x with
 |.reg r=>.E r L
 |.drw n ⟨r,[],p⟩=>match asM r p (E1m 0 p r) with
  |some m=>.F r m n L
  |none=>.G r p n L
 |.cond o a b=>.K (chC h (k+1) a) (chC h (k+1+szC a) b) o L
 |.blk i a=>.J (chC h (k+1) a) i L
 |x=>.X x
def F9n:IC->Bool
 |.reg _=>true
 |.drw _ _=>true
 |.cond _ _ _=>true
 |.blk _ _=>true
 |_=>false
def tlC(b:Bool)(l:List (Nat × PD)):List (Nat × PD):=match b with
 |true=>l.tail
 |false=>l
def flC(h:Nat->IC)(rl:List Nat):IC->Nat->List Nat->(Nat->List Nat)->List Nat × List (Nat × PD)
 |.skip,_,out,_=>(out,[])
 |.exit i,_,_,ex=>(ex i,[])
 |.ret,_,_,_=>(rl,[])
 |.bad,_,_,_=>([],[])
 |.rg r,_,out,_=>(rgS r out,[])
 |.reg r,k,out,_=>match B8g r out with
  |L=>(L,[(k,D0v h k (.reg r) L)])
 |.drw n d,k,out,_=>match B8g d.ops out with
  |L=>(L,[(k,D0v h k (.drw n d) L)])
 |.seq x y,k,out,ex=>match flC h rl y (k+1+szC x) out ex with
  |(Ly,ly)=>match flC h rl x (k+1) Ly ex with
   |(Lx,lx)=>(Lx,(k,fuC h (k+1) x (chC h (k+1+szC x) y) Lx)::(tlC (F9n x) lx++ly))
 |.cond o x y,k,out,ex=>match flC h rl x (k+1) out ex with
  |(Lx,lx)=>match flC h rl y (k+1+szC x) out ex with
   |(Ly,ly)=>match D0h (opS o) (D0h Lx Ly) with
    |L=>(L,(k,D0v h k (.cond o x y) L)::(lx++ly))
 |.blk i x,k,out,ex=>match flC h rl x (k+1) out (upE ex i out) with
  |(L,l)=>(L,(k,D0v h k (.blk i x) L)::l)
 |.loop x,k,_,ex=>match lvC rl x [] ex with
  |L=>(L,(flC h rl x (k+1) L ex).2)
def Num(h:Nat->IC)(k:Nat)(t:IC):Prop:=∀j x,(pre t)[j]? = some x->h (k+j)=x
section
variable {h:Nat->IC} {k:Nat} {x y t:IC}
theorem Num.self(n:Num h k t):h k=t:=by
 have:=n 0 t (by cases t<;>simp[pre]);omega
theorem Num.sub{l:List IC}{i:Nat}(n:Num h k t)(e:∀j x,(pre y)[j]? = some x->(pre t)[i+j]? = some x):Num h (k+i) y:=λj x hx=>by
 rw[A2P];exact n (i+j) x (e j x hx)
theorem G0x{a:IC}{l r:List IC}(j:Nat)(z:IC)(hz:l[j]? = some z):(a::(l++r))[1+j]? = some z:=by
 grind
theorem E4m{a:IC}{l r:List IC}{n:Nat}(hn:l.length=n)(j:Nat)(z:IC)(hz:r[j]? = some z):(a::(l++r))[1+n+j]? = some z:=by
 grind
theorem Num.s1(n:Num h k (.seq x y)):Num h (k+1) x:=n.sub (l:=[]) λj z hz=>by rw[pre];grind
theorem Num.s2(n:Num h k (.seq x y)):Num h (k+1+szC x) y:=by
 rw[A2P];exact n.sub (l:=[]) λj z hz=>by rw[pre];exact E4m (D5q x) j z hz
theorem Num.c1{o:Opd}(n:Num h k (.cond o x y)):Num h (k+1) x:=n.sub (l:=[]) λj z hz=>by rw[pre];grind
theorem Num.c2{o:Opd}(n:Num h k (.cond o x y)):Num h (k+1+szC x) y:=by
 rw[A2P];exact n.sub (l:=[]) λj z hz=>by rw[pre];exact E4m (D5q x) j z hz
theorem Num.b1{i:Nat}(n:Num h k (.blk i x)):Num h (k+1) x:=n.sub (l:=[]) λj z hz=>by rw[pre,Nat.add_comm,A2N,hz]
theorem Num.l1(n:Num h k (.loop x)):Num h (k+1) x:=n.sub (l:=[]) λj z hz=>by rw[pre,Nat.add_comm,A2N,hz]
theorem A9l(n:Num h k t):chC h k t=t:=by
 cases t<;>simp only[chC]<;>first|rfl|exact n.self|rw[n.l1.self]
theorem D9j{r:List IOper}{p:List (Nat × Option (List Nat))}{m m':Nat}(e:asM r p m=some m'):B5l m' 0 r=p:=by
 unfold asM at e;split at e<;>cases e;rename_i q;exact D8j q
theorem B8i{L:List Nat}(n:Num h k x):(D0v h k x L).ic=x:=by
 unfold D0v;split
 ·rfl
 ·split
  ·rename_i m e;simp only[PD.ic,dQ,D9j e]
  ·rfl
 ·simp only[PD.ic,A9l n.c1,A9l n.c2]
 ·simp only[PD.ic,A9l n.b1]
 rfl
theorem F5g{L:List Nat}(n:Num h k x):(fuC h k x y L).ic=.seq x y:=by
 unfold fuC;split
 ·rfl
 ·split
  ·rename_i m e;simp only[PD.ic,dQ,D9j e]
  rfl
 ·simp only[PD.ic,A9l n.c1,A9l n.c2]
 ·simp only[PD.ic,A9l n.b1]
 ·simp only[PD.ic,A9l n]
theorem E6x{b:Bool}{l:List (Nat × PD)}{e:Nat × PD}(hm:e∈tlC b l):e∈l:=by
 unfold tlC at hm;split at hm
 ·exact List.mem_of_mem_tail hm
 omega
theorem F5j(rl:List Nat):∀(t:IC) (k:Nat) (out:List Nat) (ex:Nat->List Nat),Num h k t->∀e∈(flC h rl t k out ex).2,h e.1=e.2.ic:=by
 intro t
 induction t with
 |skip=>intro k out ex n e he;trivial
 |exit i=>intro k out ex n e he;trivial
 |ret=>intro k out ex n e he;trivial
 |bad=>intro k out ex n e he;trivial
 |rg r=>intro k out ex n e he;trivial
 |reg r=>intro k out ex n e he;simp only[flC,A1N]at he;subst he;simp only[B8i n];exact n.self
 |drw m d=>intro k out ex n e he;simp only[flC,A1N]at he;subst he;simp only[B8i n];exact n.self
 |seq x y ihx ihy =>
  intro k out ex n e he;simp only[flC,A0U,A1A]at he;rcases he with rfl|he|he
  ·simp only[F5g n.s1,A9l n.s2];exact n.self
  ·exact ihx _ _ _ n.s1 e (E6x he)
  ·exact ihy _ _ _ n.s2 e he
 |cond o x y ihx ihy =>
  intro k out ex n e he;simp only[flC,A0U,A1A]at he;rcases he with rfl|he|he
  ·simp only[B8i n];exact n.self
  ·exact ihx _ _ _ n.c1 e he
  ·exact ihy _ _ _ n.c2 e he
 |blk i x ih =>
  intro k out ex n e he;simp only[flC,A0U]at he;rcases he with rfl|he
  ·simp only[B8i n];exact n.self
  ·exact ih _ _ _ n.b1 e he
 |loop x ih =>
  intro k out ex n e he;simp only[flC]at he;exact ih _ _ _ n.l1 e he
end
inductive Ps where
 |h
 |o (p:Ps)
 |i (p:Ps)
def Ps.n:Ps->Nat
 |.h=>1
 |.o p=>2*p.n
 |.i p=>2*p.n+1
def Ps.s:Ps->Ps
 |.h=>.o .h
 |.o p=>.i p
 |.i p=>.o p.s
theorem Ps.s_n:∀p:Ps,p.s.n=p.n+1
 |.h=>rfl
 |.o p=>rfl
 |.i p=>by simp only[Ps.s,Ps.n,Ps.s_n p];rfl
def Ps.of:Nat->Ps
 |0=>.h
 |k+1=>(Ps.of k).s
theorem Ps.of_n:∀k:Nat,(Ps.of k).n=k+1
 |0=>rfl
 |k+1=>by rw[Ps.of,Ps.s_n,Ps.of_n k]
def Ps.frc:Ps->(Ps->IC)->IC
 |.h,K=>K .h
 |.o p,K=>Ps.frc p λq=>K (.o q)
 |.i p,K=>Ps.frc p λq=>K (.i q)
theorem Ps.frc_eq:∀(p:Ps) (K:Ps->IC),p.frc K=K p
 |.h,K=>rfl
 |.o p,K=>by rw[Ps.frc,Ps.frc_eq p]
 |.i p,K=>by rw[Ps.frc,Ps.frc_eq p]
def hk(h:Ps->IC)(k:Nat):IC:=(Ps.of k).frc h
inductive Tr where
 |e
 |d (x:Option PD) (l r:Tr)
def Tr.get:Tr->Ps->Option PD
 |.e,_=>none
 |.d x _ _,.h=>x
 |.d _ l _,.o p=>l.get p
 |.d _ _ r,.i p=>r.get p
def Tr.put(y:PD):Ps->Tr->Tr
 |.h,.e=>.d (some y) .e .e
 |.o p,.e=>.d none (Tr.put y p .e) .e
 |.i p,.e=>.d none .e (Tr.put y p .e)
 |.h,.d _ l r=>.d (some y) l r
 |.o p,.d x l r=>.d x (Tr.put y p l) r
 |.i p,.d x l r=>.d x l (Tr.put y p r)
theorem Tr.get_put(y:PD):∀(p:Ps) (t:Tr) (q:Ps) (z:PD),(Tr.put y p t).get q=some z->(q=p/\z=y)\/t.get q=some z:=by
 intro p
 induction p with
 |h=>intro t q z h;cases t<;>cases q<;>simp_all[Tr.put,Tr.get]
 |o p ih =>
  intro t q z h;cases t<;>cases q<;>simp only[Tr.put,Tr.get]at h ⊢ <;> first|exact .inr h|(cases h;done)|skip
  ·rcases ih _ _ _ h with ⟨rfl,rfl⟩|h
   ·exact .inl ⟨rfl,rfl⟩
   ·cases h
  grind
 |i p ih =>
  intro t q z h;cases t<;>cases q<;>simp only[Tr.put,Tr.get]at h ⊢ <;> first|exact .inr h|(cases h;done)|skip
  ·rcases ih _ _ _ h with ⟨rfl,rfl⟩|h
   ·exact .inl ⟨rfl,rfl⟩
   ·cases h
  grind
def E9m:List (Nat × PD)->Tr->Tr
 |[],t=>t
 |e::l,t=>E9m l (Tr.put e.2 (Ps.of e.1) t)
theorem C1j:∀(l:List (Nat × PD)) (t:Tr) (q:Ps) (z:PD),(E9m l t).get q=some z->(∃k,q=Ps.of k/\(k,z)∈l)\/t.get q=some z
 |[],t,q,z,h=>.inr h
 |e::l,t,q,z,h=>by
  rcases C1j l _ q z h with ⟨k,h1,h2⟩|h
  ·grind
  ·rcases Tr.get_put _ _ _ _ _ h with ⟨rfl,rfl⟩|h
   ·exact .inl ⟨e.1,rfl,A0H⟩
   grind
def pz(P:Program)(f:Nat)(p:Ps):IC:=match(P.funcs[f]?).bind (B1q P) with
 |some i=>(pre i.body).getD (p.n-1) .bad
 |none=>.bad
theorem D5k{P:Program}{f:Nat}{i:IFn}(h:P0 P f i):Num (hk (pz P f)) 0 i.body:=λj x hx=>by
 rw[hk,Ps.frc_eq];unfold pz;unfold P0 at h;rw[h];simp only[A1F,A1L,Ps.of_n,A4B,hx,A4I]
inductive TD where
 |mk (n:Nat) (rs:List RV) (top:IC) (l:Tr)
 |no
def TD.l:TD->Tr
 |.mk _ _ _ l=>l
 |.no=>.e
def mkT(h:Ps->IC)(i:IFn):TD:=.mk i.n i.res (chC (hk h) 0 i.body) (E9m (flC (hk h) (slR i.res) i.body 0 (slR i.res) (λ_=>[])).2 .e)
structure XT (P:Program) (f:Nat) where
 d:(Ps->IC)->TD
 i:IFn
 hi:P0 P f i
 hd:∀h,mkT h i=d h
class FT (P:Program) (f:Nat) (D:outParam ((Ps->IC)->TD)):Prop where
 of:∃i,P0 P f i/\∀h,mkT h i=D h
theorem XT.ft{P:Program}{f:Nat}(x:XT P f):FT P f x.d:=⟨⟨x.i,x.hi,x.hd⟩⟩
theorem u8n(n:Nat):UInt8.ofBitVec (BitVec.ofNat 8 n)=UInt8.ofNat n:=rfl
abbrev mkF{P:Program}{f:Nat}{i:IFn}{d:(Ps->IC)->TD}(hi:P0 P f i:=by unfold P0;conv=>lhs;reduce;simp only[seval,u8n])(hd:∀h,mkT h i=d h:=by intro h;conv=>lhs;cbv):XT P f:=⟨d,i,hi,hd⟩
class LkI (t:Tr) (p:Ps) (x:outParam PD):Prop where
 get:t.get p=some x
instance lkTh {x:PD} {l r:Tr}:LkI (.d (some x) l r) .h x:=⟨rfl⟩
instance lkTo {x:PD} {y:Option PD} {l r:Tr} {p:Ps} [k:LkI l p x]:LkI (.d y l r) (.o p) x:=⟨k.get⟩
instance lkTi {x:PD} {y:Option PD} {l r:Tr} {p:Ps} [k:LkI r p x]:LkI (.d y l r) (.i p) x:=⟨k.get⟩
class WDp (P:Program) (N:Nat) (u:PD) (r:outParam Rl):Prop where
 out:∀ {Q:Exit->St->Prop} {T:Tm} {H:Hp} {c:Nat},r P N Q T H c->IW P N u.ic ⟨T,H,c⟩ Q
section
variable {P:Program} {N n i e:Nat} {x y z:IC} {r:List IOper} {p:List (Nat × Option (List Nat))} {L:List Nat} {o:Opd}
instance dS:WDp P N (.S r y L) (rS r y L):=⟨mkS⟩
instance dE:WDp P N (.E r L) (rE r L):=⟨mkE⟩
instance dP:WDp P N (.P r y e n L) (rP r y n L):=⟨mkP (d:=dQ r e) (A2g e r 0)⟩
instance dF:WDp P N (.F r e n L) (rPE r n L):=⟨F8h (d:=dQ r e) (A2g e r 0)⟩
instance dD:WDp P N (.D r y p n L) (rD r p y n L):=⟨mkD (d:=⟨r,[],p⟩)⟩
instance dG:WDp P N (.G r p n L) (rDE r p n L):=⟨F8i (d:=⟨r,[],p⟩)⟩
instance dC:WDp P N (.C x y z o L) (rC o x z y L):=⟨mkC⟩
instance dK:WDp P N (.K x z o L) (rCE o x z L):=⟨F8j⟩
instance dB:WDp P N (.B x y i L) (rB i x y L):=⟨mkB⟩
instance dJ:WDp P N (.J x i L) (rBE i x L):=⟨F8k⟩
instance dQQ:WDp P N (.Q x y L) (rQ x y L):=⟨mkQ⟩
end
class LkD (t:TD) (p:Ps) (x:outParam PD):Prop where
 get:t.l.get p=some x
instance lkTd {n:Nat} {rs:List RV} {top:IC} {x:PD} {l:Tr} {p:Ps} [k:LkI l p x]:LkD (.mk n rs top l) p x:=⟨k.get⟩
section
variable {P:Program} {f:Nat} {D:(Ps->IC)->TD} [F:FT P f D]
theorem wz{p:Ps}{x:PD}(e:(D (pz P f)).l.get p=some x):pz P f p=x.ic:=by
 obtain⟨i,hi,hd⟩:=F.of;rw[<- hd]at e;simp only[mkT,TD.l]at e;rcases C1j _ _ _ _ e with ⟨k,rfl,h⟩|h
 ·have:=F5j (slR i.res) i.body 0 (slR i.res) (λ_=>[]) (D5k hi) _ h;rw[hk,Ps.frc_eq]at this;exact this
 trivial
instance wZ {N:Nat} {p:Ps} {x:PD} {w:Rl} [g:LkD (D (pz P f)) p x] [k:WDp P N x w]:WR P N (pz P f p) w:=⟨λh=>by rw[wz g.get];exact k.out h⟩
theorem FT.eqs{n:Nat}{rs:List RV}{top:IC}{l:Tr}(e:D (pz P f)=.mk n rs top l):P0 P f ⟨n,top,rs⟩:=by
 obtain⟨i,hi,hd⟩:=F.of;rw[<- hd]at e;simp only[mkT,A9l (D5k hi),TD.mk.injEq]at e;rw[<- e.1, <- e.2.1, <- e.2.2.1];omega
theorem PC.ofT(hm:P.follows .mixedOrders=true){n:Nat}{rs:List RV}{top:IC}{l:Tr}(e:D (pz P f)=.mk n rs top l){args:List DV}(hn:args.length<=n){r:DV}(na:DV.nlL args=true)(nr:r.nl=true)
  (h:IW P n top ⟨A5d args,nil,0⟩ (rt rs λv H' _ => ∃H2,GL H' [v] H2 [r])):PC P f args r :=
 PC.of hm (i:=⟨n,top,rs⟩) (FT.eqs e) hn na nr h
theorem AC.go(hm:P.follows .mixedOrders=true){n:Nat}{rs:List RV}{top:IC}{l:Tr}{args:List DV}{H:Hp}{c:Nat}{Q:DV->Hp->Nat->Prop}(h:(∀id,c<=id->H id=none)->IW P n top ⟨A5d args,H,c⟩ (rt rs λv H2 c2 => ∃v2 H3,GL H2 [v] H3 [v2]/\Q v2 H3 c2))(e:D (pz P f)=.mk n rs top l:=by rfl)(hn:args.length<=n:=by exact A0F rfl):AC P f args H c Q:=AC.body hm (i:=⟨n,top,rs⟩) (FT.eqs e) hn h
theorem PC.go(hm:P.follows .mixedOrders=true){n:Nat}{rs:List RV}{top:IC}{l:Tr}{args:List DV}{r:DV}(h:IW P n top ⟨A5d args,nil,0⟩ (rt rs λv H' _ => ∃H2,GL H' [v] H2 [r]))(e:D (pz P f)=.mk n rs top l:=by rfl)(hn:args.length<=n:=by exact A0F rfl)(na:DV.nlL args=true:=by first|(simp[DV.nlL,DV.nl];done)|rfl)(nr:r.nl=true:=by first|rfl|simp[DV.nlL,DV.nl]):PC P f args r:=PC.ofT hm e hn na nr h
theorem AC.bodyT(hm:P.follows .mixedOrders=true){n:Nat}{rs:List RV}{top:IC}{l:Tr}(e:D (pz P f)=.mk n rs top l){args:List DV}(hn:args.length<=n){H:Hp}{c:Nat}{Q:DV->Hp->Nat->Prop}
  (h:(∀id,c<=id->H id=none)->IW P n top ⟨A5d args,H,c⟩ (rt rs λv H' c' => ∃v2 H2,GL H' [v] H2 [v2]/\Q v2 H2 c')):AC P f args H c Q :=
 AC.body hm (i:=⟨n,top,rs⟩) (FT.eqs e) hn h
end
end Go.Sym
namespace Go.Pb
variable [Go.Sym.Tab]
open Go.Sym
def C1e(n:Nat)(s:List UInt8):Nat:=s.foldl (λn c=>10*n+(c.toNat-48)) n
theorem C8b:∀(s:List UInt8) (n:Nat),n<=C1e n s
 |[],n=>A0E _
 |c::r,n=>by
  have:=C8b r (10*n+(c.toNat-48))
  grind[C1e]
theorem D0z(c:UInt8)(r:List UInt8)(n:Nat):C1e n (c::r)=C1e (10*n+(c.toNat-48)) r:=by rfl
theorem F3p{M acc d v w:Nat}(hM:M=18446744073709551615)(hd:d<=9)(hv:10*acc+d<=v)(hw:w=1844674407370955162):
  (w<=acc->M<v)/\(M<acc*10+d->M<v):=by
 omega
theorem D5m(M acc:Nat)(c:UInt8)(r:List UInt8):Lib.parseUintM M acc (c::r) =
  if 48<=c.toNat/\c.toNat<=57 then
   if 1844674407370955162<=acc then .range
   else if M<acc*10+(c.toNat-48) then .range
   else Lib.parseUintM M (acc*10+(c.toNat-48)) r
  else .syntax:=by rfl
theorem pum{M:Nat}(hM:M=18446744073709551615):∀(l:List UInt8) (acc:Nat),(∀c∈l,dgB c=true)->acc<=M ->
  Lib.parseUintM M acc l=if C1e acc l<=M then .ok (C1e acc l) else .range:=by
 intro l
 induction l with
 |nil =>
  simp_all[C1e,Lib.parseUintM]
 |cons c r ih =>
  intro acc h ha;have hc:=h c A0H;simp only[dgB,A0G,A0L]at hc;have hg:=C8b r (10*acc+(c.toNat-48));rw[D5m,if_pos hc,D0z]
  grind
theorem pib{l:List UInt8}(h:∀c∈l,dgB c=true)(h0:l≠[]):
  Lib.parseIntB 64 l=if Y3 l<=9223372036854775807 then .ok (Y3 l:Int) else .range:=by
 cases l with
 |nil=>grind
 |cons c r =>
  have hc:=h c A0H;simp only[dgB,A0G,A0L]at hc;have e1:¬c.toNat=43:=a8
  have e2:¬c.toNat=45:=a8
  have hp:=pum (M:=2 ^ 64-1) (by decide) (c::r) 0 h (A0Q _);have hv:C1e 0 (c::r)=Y3 (c::r):=rfl;rw[hv]at hp;unfold Lib.parseIntB;simp only[e1,e2,or_self,if_false,not_false_eq_true,true_and,false_and];unfold Lib.parseUintB
  grind
def V1(l:List Ins):List DV:=cellsL (l.map Ins.v)
theorem A3t(a b:List Ins):V1 (a++b)=V1 a++V1 b:=by simp[V1,C4]
theorem A8z(i:Ins):V1 [i]=[I64 i.op,I64 i.A]:=by rfl
theorem A9a(l:List Ins):(V1 l).length=l.length*2:=by
 unfold V1;rw[C3 (u:=2)]
 ·simp
 ·intro x hx;obtain⟨y, -,rfl⟩:=A0X.1 hx;rfl
theorem D1m(l:List Ins):(V1 l).length=l.length*2:=A9a l
theorem F1u(b:UInt8):bits .and .u8 (b.toNat:Int) 127=((b.toNat%128:Nat):Int):=by
 have key:∀n:Nat,n<256->bits .and .u8 (n:Int) 127=((n%128:Nat):Int):=by decide +kernel
 exact key _ (by have:=b.toNat_lt;omega)
theorem F8c{k z x:Nat}(hz:z<2 ^ (7*k))(hx:x<128)(hk:k<=7):bits .or .u64 (z:Int) ((x*2 ^ (7*k):Nat):Int)=((z+x*2 ^ (7*k):Nat):Int):=by
 have h1:2 ^ (7*k)<=2 ^ 49:=A3S (by omega) (by omega);have h2:x*2 ^ (7*k)<=127*2 ^ 49:=Nat.mul_le_mul (by omega) h1;have e0:(z ||| x*2 ^ (7*k))=z+x*2 ^ (7*k):=by
  rw[Nat.or_comm, <- Nat.shiftLeft_eq, <- Nat.shiftLeft_add_eq_or_of_lt hz,Nat.add_comm]
 have e1:BitVec.ofInt 64 (z:Int)=BitVec.ofNat 64 z:=by simp
 have e2:BitVec.ofInt 64 ((x*2 ^ (7*k):Nat):Int)=BitVec.ofNat 64 (x*2 ^ (7*k)):=BitVec.ofInt_natCast ..;show IntKind.u64.wrap (((BitVec.ofInt 64 (z:Int)) ||| (BitVec.ofInt 64 ((x*2 ^ (7*k):Nat):Int))).toNat:Int)=_
 grind[B9r]
theorem F2u{k x:Nat}(hx:x<128)(hk:k<=7):binR .shl (.int .u64 (x:Int)) (.int .i64 ((7*k:Nat):Int))=some (.int .u64 ((x*2 ^ (7*k):Nat):Int)):=by
 have h1:2 ^ (7*k)<=2 ^ 49:=A3S (by omega) (by omega);have h2:x*2 ^ (7*k)<=127*2 ^ 49:=Nat.mul_le_mul (by omega) h1;have e:min (((7*k:Nat):Int).toNat) IntKind.u64.bits=7*k:=by
  show min (((7*k:Nat):Int).toNat) 64=7*k;omega
 grind[F2y,B9r]
theorem F8a{z:Nat}(h:z<18446744073709551616):IntKind.u64.wrap ((z:Int).tdiv 2)=((z / 2:Nat):Int):=by
 grind[B9r]
theorem F7s(z:Nat):(z:Int).tmod 2=((z%2:Nat):Int):=by rfl
theorem C0g{s:List UInt8}{k:Nat}(h:k<=s.length):slsR s (some (.int .i64 (k:Int))) none=some (.str (s.drop k)):=by
 simp_all[E4q,boundOf,A0J]
theorem E7d{s:List UInt8}{k:Nat}(h:k<=s.length):slsR s none (some (.int .i64 (k:Int)))=some (.str (s.take k)):=by
 simp_all[E4q,boundOf]
def B1p:Nat->Nat->Nat->List UInt8->Option (Nat × List UInt8)
 |0,_,_,_=>none
 |_+1,_,_,[]=>none
 |n+1,k,z,b::r=>if b.toNat<128 then some (z+b.toNat%128*2 ^ (7*k),r) else B1p n (k+1) (z+b.toNat%128*2 ^ (7*k)) r
def A8e(z:Nat):Int:=if z%2=1 then -((z / 2:Nat):Int)-1 else((z / 2:Nat):Int)
abbrev RS:=List UInt8 × Bool
def C8(s:RS):Int × RS:=match B1p 8 0 0 s.1 with
 |some (z,r)=>(A8e z,(r,s.2))
 |none=>(0,([],true))
def I9(s:RS):Nat × RS:=if(C8 s).1<0\/(C8 s).1>(C8 s).2.1.length then(0,([],true)) else((C8 s).1.toNat,(C8 s).2)
def A6{α:Type}(f:RS -> α × RS):Nat->RS->List α × RS
 |0,s=>([],s)
 |n+1,s=>((A6 f n s).1++[(f (A6 f n s).2).1],(f (A6 f n s).2).2)
def N8(s:RS):Ins × RS:=(⟨(C8 s).1,(C8 (C8 s).2).1⟩,(C8 (C8 s).2).2)
def M0(s:RS):List UInt8 × RS:=((I9 s).2.1.take (I9 s).1,((I9 s).2.1.drop (I9 s).1,(I9 s).2.2))
def K6(s:RS):Ent × RS :=
 let a:=C8 s;let b:=C8 a.2;let c:=C8 b.2;let d:=C8 c.2
 (⟨a.1,b.1,c.1,d.1⟩,d.2)
def W1(s:RS):List Int × RS:=A6 C8 (I9 s).1 (I9 s).2
def B3r(s:RS):Prg × RS :=
 let a:=A6 N8 (I9 s).1 (I9 s).2
 let b:=A6 M0 (I9 a.2).1 (I9 a.2).2
 let c:=A6 K6 (I9 b.2).1 (I9 b.2).2
 let d:=W1 c.2
 let e:=W1 d.2
 let f:=C8 e.2
 let g:=C8 f.2
 (⟨a.1,b.1,c.1,d.1,e.1,f.1,g.1⟩,g.2)
def Prg.none:Prg:=⟨[],[],[],[],[],0,0⟩
def D8q(s:List UInt8):Option Prg:=if(B3r (s,false)).2.2=true\/H6 (B3r (s,false)).1≠0\/B1w (B3r (s,false)).1≠s then Option.none else some (B3r (s,false)).1
def E3g:Option Prg->DV
 |Option.none=>.tup [Prg.none.v,I64 51]
 |some c=>.tup [c.v,I64 0]
abbrev rdB(s:RS):Blk:=⟨0,true,[.str s.1,.bool s.2]⟩
theorem B7r:∀(n k z:Nat) (s:List UInt8) (z':Nat) (r:List UInt8),z<2 ^ (7*k)->B1p n k z s=some (z',r)->z'<2 ^ (7*(k+n))/\r.length<s.length
 |0,_,_,_,_,_,_,h=>y8
 |_+1,_,_,[],_,_,_,h=>y8
 |n+1,k,z,b::s,z',r,hz,h=>by
  have hb:b.toNat%128<128:=Nat.mod_lt _ (by omega);have h1:z+b.toNat%128*2 ^ (7*k)<2 ^ (7*(k+1)):=by
   have e:2 ^ (7*(k+1))=128*2 ^ (7*k):=j8
   have:b.toNat%128*2 ^ (7*k)<=127*2 ^ (7*k):=A2X _ (by omega);omega
  simp only[B1p]at h;split at h
  ·grind[Nat.lt_of_lt_of_le,Nat.pow_le_pow_right]
  ·obtain⟨a,b⟩:=B7r n (k+1) _ s z' r h1 h<;>grind
theorem D0f{n k z:Nat}{s:List UInt8}{b:UInt8}(h:s[k]? = some b):B1p (n+1) k z (s.drop k)=if b.toNat<128 then some (z+b.toNat%128*2 ^ (7*k),s.drop (k+1)) else B1p n (k+1) (z+b.toNat%128*2 ^ (7*k)) (s.drop (k+1)):=by
 have hk:k<s.length:=(A1G.1 h).1;rw[A1I hk];rw[A0B hk]at h;cases h;rfl
theorem D3e{n k z:Nat}{s:List UInt8}(h:¬(k<s.length/\n≠0)):B1p n k z (s.drop k)=none:=by
 cases n with
 |zero=>rfl
 |succ n =>
  rw[A2S (by omega)];rfl
theorem F3q(k:Nat):2 ^ (7*(k+1))=128*2 ^ (7*k):=j8
theorem D3i{z:Nat}(h:z<2 ^ 56): -36028797018963968<=A8e z/\A8e z<36028797018963968:=by
 grind[A8e]
theorem D5a(s:RS): -36028797018963968<=(C8 s).1/\(C8 s).1<36028797018963968:=by
 unfold C8;split
 ·rename_i z r h;exact D3i (B7r 8 0 0 s.1 z r (by decide) h).1
 omega
theorem U9(s:RS):(C8 s).2.1.length<=s.1.length:=by
 unfold C8;split
 ·rename_i z r h;have:=(B7r 8 0 0 s.1 z r (by decide) h).2;simp only;omega
 simp
theorem A0c(s:RS):(I9 s).2.1.length<=s.1.length/\(I9 s).1<=(I9 s).2.1.length:=by
 grind[U9,I9]
theorem W3{α:Type}{f:RS -> α × RS}(hf:∀s,(f s).2.1.length<=s.1.length):∀(n:Nat) (s:RS),(A6 f n s).2.1.length<=s.1.length/\(A6 f n s).1.length=n
 |0,s=>⟨A0E _,rfl⟩
 |n+1,s=>by
  obtain⟨a,b⟩:=W3 hf n s<;>grind[A6]
theorem B3t{α:Type}{f:RS -> α × RS}{p : α->Prop}{m:Nat}(hf:∀s:RS,s.1.length<=m->p (f s).1/\(f s).2.1.length<=s.1.length):∀(n:Nat) (s:RS),s.1.length<=m->(∀x∈(A6 f n s).1,p x)/\(A6 f n s).2.1.length<=s.1.length
 |0,s,_=>⟨λx hx=>(by cases hx),A0E _⟩
 |n+1,s,h=>by
  obtain⟨a,b⟩:=B3t hf n s h<;>grind[A6]
theorem D0q(s:RS):(N8 s).2.1.length<=s.1.length:=by
 grind[U9,N8]
theorem B6i(s:RS):(M0 s).2.1.length<=s.1.length:=by
 grind[A0c,M0]
theorem D0r(s:RS):(K6 s).2.1.length<=s.1.length:=by
 grind[U9,K6]
theorem B3s(s:RS):(W1 s).2.1.length<=s.1.length:=by
 grind[W3,U9,I9,W1]
theorem C4h(s:RS):A6 C8 4 s=([(K6 s).1.mode,(K6 s).1.trigger,(K6 s).1.index,(K6 s).1.pos],(K6 s).2):=rfl
theorem D1k(s:RS)(n:Nat):V1 (A6 N8 (n+1) s).1=V1 (A6 N8 n s).1++[I64 (C8 (A6 N8 n s).2).1,I64 (C8 (C8 (A6 N8 n s).2).2).1]:=by
 grind[A6,A3t,A8z,N8]
theorem D3x(l:List (List UInt8)):(cellsL (l.map DV.str)).length=l.length*1:=by
 rw[C3 (u:=1)]
 ·simp
 ·intro x hx;obtain⟨y, -,rfl⟩:=A0X.1 hx;rfl
theorem D0j(s:RS)(n:Nat):cellsL ((A6 M0 (n+1) s).1.map DV.str)=cellsL ((A6 M0 n s).1.map DV.str)++[.str (M0 (A6 M0 n s).2).1]:=by
 simp only[A6,A0S,C4];rfl
theorem B7g(l:List Ent):(cellsL (l.map Ent.v)).length=l.length*4:=by
 rw[C3 (u:=4)]
 ·simp
 ·intro x hx;obtain⟨y, -,rfl⟩:=A0X.1 hx;rfl
theorem D1z(s:RS)(n:Nat):cellsL ((A6 K6 (n+1) s).1.map Ent.v)=cellsL ((A6 K6 n s).1.map Ent.v)++(K6 (A6 K6 n s).2).1.v.cells:=by
 grind[A6,cellsL]
theorem D0p(n:Nat)(s:RS)(h:s.1.length<=1000000):∀x∈(A6 M0 n s).1,x.length<=1000000 :=
 (B3t (p:=λx=>x.length<=1000000) (m:=1000000) (λs hs=>⟨by
  grind[A0c,M0],B6i s⟩) n s h).1
theorem D6x(l:List Ins):∀x∈l.map Ins.v,x.cells.length=2:=by
 intro x hx;obtain⟨y, -,rfl⟩:=A0X.1 hx;rfl
theorem T7(l:List (List UInt8)):∀x∈l.map DV.str,x.cells.length=1:=by
 intro x hx;obtain⟨y, -,rfl⟩:=A0X.1 hx;rfl
theorem D8k(l:List Ent):∀x∈l.map Ent.v,x.cells.length=4:=by
 intro x hx;obtain⟨y, -,rfl⟩:=A0X.1 hx;rfl
theorem D4q{l:List Int}{n k:Nat}{a:Int}(hl:l.length=k)(hk:k<n):(l++List.replicate (n-k) 0).set k a=l++[a]++List.replicate (n-(k+1)) 0:=by
 obtain⟨m,hm⟩:∃m,n-k=m+1:=⟨n-k-1,by omega⟩
 simp_all[A3X];omega
theorem A2v{α:Type}{l:List α}(h:l=[]):l.length=0:=j8
def delO(H:Hp):Option Nat->Hp
 |none=>H
 |some i=>H.del i
theorem A1q{o:Option Nat}{n:Nat}(h:o=none->n=0):B1t (todoV o n)=some (I64 (n:Int)):=by
 cases o with
 |none=>rw[h rfl];rfl
 |some i=>rfl
theorem F9{H:Hp}{c sz bytes n m:Nat}{o:Option Nat}{cs src:List DV}(hn:o=none->n=0/\cs=[])(hb:∀i,o=some i->H i=some ⟨sz,true,cs⟩)(hl:cs.length=n*sz)(hm:1<=m)(h2:(n+m)*bytes<=140737488355328)(h3:n+m<=9223372036854775807):
  A9p H c sz bytes (todoV o n) m src=some (.slc c 0 (n+m),(delO H o).upd c ⟨sz,true,cs++src⟩,c+1):=by
 cases o<;>grind[B7w,A0l,delO,A9y,D5g,Z6]
theorem C5{H:Hp}{o:Option Nat}{j:Nat}(h:∀i,o=some i->¬j=i):delO H o j=H j:=by
 cases o with
 |none=>rfl
 |some i=>exact I7 (h i rfl)
theorem B9{H:Hp}{o:Option Nat}{b:Blk}{j:Nat}(h:∀i,o=some i->¬j=i):optH H o b j=H j:=by
 cases o with
 |none=>rfl
 |some i=>exact h_ne (h i rfl)
section
variable {l:List UInt8} {k p:Nat} {S P V:DV} {I:List Ins} {E:List Ent} {o1 o2:Option Nat} {cc:Nat}
end
theorem C3d{a b:Nat}(h:((a:Int)==(b:Int))=true):a=b:=j8
theorem B1z{a b:Nat}(h:((a:Int)==(b:Int))=false):a≠b:=λe=>j8
theorem E3v{a b:Nat}(h:((a:Int) != (b:Int))=true):a≠b:=λe=>j8
theorem F1p{a b:Nat}(h:((a:Int) != (b:Int))=false):a=b:=by
 grind
theorem D1r{a b:Nat}(h:decide ((a:Int)>(b:Int))=true):b<a:=j8
theorem B5v{a b:Nat}(h:decide ((a:Int)>(b:Int))=false):¬b<a:=j8
theorem S9{α:Type}{s:List α}{i:Nat}{c : α}(h:s[i]? = some c):s.drop i=c::s.drop (i+1):=by
 grind[List.drop_eq_getElem_cons]
theorem E7e{s:List UInt8}{i:Nat}{c:UInt8}(h:s[i]? = some c)(hc:A4j c=true):skM false (s.drop i)=skM false (s.drop (i+1))+1:=by
 simp_all[S9,skM]
theorem E7g{s:List UInt8}{i:Nat}{c:UInt8}(h:s[i]? = some c)(hc:c.toNat=35):
  skM false (s.drop i)=F3 (λc=>decide (c.toNat≠10)) (s.drop i)+skM false (s.drop (i+F3 (λc=>decide (c.toNat≠10)) (s.drop i))):=by
 have hs:¬A4j c=true:=by simp[A4j,hc]
 have e1:skM false (s.drop i)=skM true (s.drop i):=by
  rw[S9 h];simp only[skM];rw[if_neg hs,if_pos hc,if_neg (by omega)]
 grind[C0h,List.drop_drop]
theorem E0i{s:List UInt8}{i:Nat}{c:UInt8}(h:s[i]? = some c)(h1:¬A4j c=true)(h2:¬c.toNat=35):skM false (s.drop i)=0:=by
 simp_all[S9,skM]
theorem E7f{s:List UInt8}{i:Nat}(h:s.length<=i):skM false (s.drop i)=0:=by
 rw[A2S h];rfl
theorem E0j{s:List UInt8}{i:Nat}{c:UInt8}(h:s[i]? = some c)(hc:c.toNat=35):1<=F3 (λc=>decide (c.toNat≠10)) (s.drop i):=by
 simp_all[S9,F3]
def quA(acc:List UInt8)(k:Nat)(q:Option (List UInt8 × Nat)):Option (List UInt8 × Nat):=q.map λx=>(acc++x.1,x.2+k)
theorem T9(c:UInt8)(r:List UInt8):quM (c::r)=if c.toNat=34 then some ([],1)
  else if c.toNat<32\/126<c.toNat then none
  else if c.toNat=92 then match r with
   |[]=>none
   |d::q=>if d.toNat=34\/d.toNat=92 then(quM q).map λx=>(d::x.1,x.2+2) else none
  else(quM r).map λx=>(c::x.1,x.2+1):=by grind[quM.eq_def]
theorem A8l{s acc:List UInt8}{k:Nat}{c:UInt8}(h:s[k]? = some c)(hc:c.toNat=34):quA acc k (quM (s.drop k))=some (acc,k+1):=by
 simp_all[S9,T9,quA];omega
theorem B8c{s acc:List UInt8}{k:Nat}{c:UInt8}(h:s[k]? = some c)(h0:c.toNat≠34)(hc:c.toNat<32\/126<c.toNat):quA acc k (quM (s.drop k))=none:=by
 rw[S9 h,T9,if_neg h0,if_pos hc];rfl
theorem E8l{s acc:List UInt8}{k:Nat}(h:s.length<=k):quA acc k (quM (s.drop k))=none:=by
 rw[A2S h,quM];rfl
theorem C7o{s acc:List UInt8}{k:Nat}{c:UInt8}(h:s[k]? = some c)(h0:c.toNat≠34)(h1:32<=c.toNat)(h2:c.toNat<=126)(h3:c.toNat≠92):
  quA acc k (quM (s.drop k))=quA (acc++[c]) (k+1) (quM (s.drop (k+1))):=by
 rw[S9 h,T9,if_neg h0,if_neg (by omega),if_neg h3];cases quM (s.drop (k+1))<;>grind[quA]
theorem D5h{s acc:List UInt8}{k:Nat}{c d:UInt8}(h:s[k]? = some c)(h3:c.toNat=92)(hd:s[k+1]? = some d)(h4:d.toNat=34\/d.toNat=92):
  quA acc k (quM (s.drop k))=quA (acc++[d]) (k+2) (quM (s.drop (k+2))):=by
 rw[S9 h,S9 hd,T9,if_neg (by omega),if_neg (by omega),if_pos h3];simp only;rw[if_pos h4];cases quM (s.drop (k+1+1))<;>grind[quA]
theorem C7n{s acc:List UInt8}{k:Nat}{c:UInt8}(h:s[k]? = some c)(h3:c.toNat=92)(hd:∀d,s[k+1]? = some d->d.toNat≠34/\d.toNat≠92):
  quA acc k (quM (s.drop k))=none:=by
 rw[S9 h];cases hq:s.drop (k+1) with
 |nil=>rw[T9,if_neg (by omega),if_neg (by omega),if_pos h3];rfl
 |cons d q =>
  have h5:s[k+1]? = some d:=by
   have:=congrArg List.head? hq
   grind[List.head?_drop]
  have h6:=hd d h5;rw[T9,if_neg (by omega),if_neg (by omega),if_pos h3];simp only;rw[if_neg (by omega)];rfl
theorem D5f{H:Hp}{o:Option Nat}{u:Nat}{acc:List UInt8}(hn:o=none->acc=[])(hb:∀i,o=some i->H i=some ⟨u,true,bytesC acc⟩):A5a H (todoV o acc.length)=some (.str acc):=by
 cases o with
 |none=>rw[hn rfl];rfl
 |some i=>exact B1b (hb i rfl) rfl rfl
theorem A4h{X:Hp}{id:Nat}{b b':Blk}(h:b=b'):Sub (optH Sym.nil (some id) b) (X.upd id b'):=by
 intro j q hj;simp only[optH]at hj;by_cases e:j=id
 ·grind[A0]
 ·rw[h_ne e]at hj;cases hj
theorem D0s{X:Hp}{o:Option Nat}{c sz bytes n m:Nat}{cs src:List DV}{b2:Blk}(hn:o=none->n=0/\cs=[])(ho:∀i,o=some i->i<c)(hl:cs.length=n*sz)(hm:1<=m)
  (h2:(n+m)*bytes<=140737488355328) (h3:n+m<=9223372036854775807) :
  A9p ((optH X o ⟨sz,true,cs⟩).upd c b2) (c+1) sz bytes (todoV o n) m src=some (.slc (c+1) 0 (n+m),(delO ((optH X o ⟨sz,true,cs⟩).upd c b2) o).upd (c+1) ⟨sz,true,cs++src⟩,c+1+1) :=
 F9 hn (λi hi=>by have:=ho i hi;rw[hnO];subst hi;exact A0) hl hm h2 h3
theorem C0t{X:Hp}{o:Option Nat}{c:Nat}{acc:List UInt8}(hn:o=none->acc=[])(ho:∀i,o=some i->i<c)(hl:acc.length<=10000000)(b2:Blk)(x:UInt8):
  A9p ((optH X o ⟨1,true,bytesC acc⟩).upd c b2) (c+1) 1 1 (todoV o acc.length) 1 [.int .u8 (x.toNat:Int)]=some (.slc (c+1) 0 (acc.length+1),(delO ((optH X o ⟨1,true,bytesC acc⟩).upd c b2) o).upd (c+1) ⟨1,true,bytesC (acc++[x])⟩,c+1+1):=by
 rw[A0j];exact D0s (λe=>by rw[hn e];trivial) ho (A2y acc) (by omega) (by omega) (by omega)
theorem D4s(q:List Tok × Int × Int):(D4t q).nl=true:=by
 simp[DV.nl,DV.nlL,Q5]
theorem C0w{H:Hp}{a b:DV}:∃H2,GL H [.tup [.snil,a,b]] H2 [.tup [.lst [],a,b]] :=
 ⟨H,GL.view fun ρ vs hA=>⟨hA.1,λi x y hx hy=>by
  match i with
  |0 =>
   cases hx;have:=hA.2 0 _ y rfl hy;obtain⟨b',rfl,k1,k2⟩:=this.tup_inv;refine .tup _ _ k1 λj x' y' hx' hy'=>?_
   match j with
   |0=>cases hx';exact(k2 0 _ y' rfl hy').snil_lst
   |1=>grind
   |2=>grind
   |_+3=>grind
  |_+1=>grind⟩⟩
theorem C0j{H:Hp}{a b:Int}:∃H2,GL H [.tup [.snil,I64 a,I64 b]] H2 [D4t ([],a,b)]:=C0w
theorem D5s{o:Option Nat}{xs:List DV}{u n:Nat}{a b:DV}(hno:o=none->xs=[])(hl:xs.length=n)(hu:∀x∈xs,x.cells.length=u):
  ∃H2,GL (optH Sym.nil o ⟨u,true,cellsL xs⟩) [.tup [todoV o n,a,b]] H2 [.tup [.lst xs,a,b]]:=by
 cases o with
 |none=>rw[hno rfl];exact C0w
 |some i=>exact⟨nil,GL.one (id:=i) A0 rfl (.cons _ _ _ _ (.tup _ _ (.cons _ _ _ _ (U3 hl hu ⟨[],by simp⟩) (.cons _ _ _ _ (.same _) (.cons _ _ _ _ (.same _) .nil)))) .nil)⟩
theorem A5i{X:Hp}{o:Option Nat}{b:Blk}{i:Nat}(hi:o=some i):optH X o b i=some b:=u5
theorem u8_eq(c:UInt8)(n:Nat)(h:n<256):(c==UInt8.ofNat n)=decide (c.toNat=n):=by
 rw[A2G,A1S,decide_eq_true_iff, <- UInt8.toNat_inj];simp;omega
theorem D9y(c d:UInt8):A9x c d=([c,d] == [60,61] || [c,d] == [62,61] || [c,d] == [61,61] || [c,d] == [33,61] || [c,d] == [38,38] || [c,d] == [124,124]):=by
 have hk:∀a b:UInt8,([c,d] == [a,b])=(c==a&&d==b):=λa b=>by simp[List.cons_beq_cons]
 rw[hk,hk,hk,hk,hk,hk];have hu:∀(x:UInt8) (n:Nat),n<256->(x==UInt8.ofNat n)=(x.toNat==n):=λx n h=>by rw[u8_eq x n h];rfl
 have e:∀n:Nat,(OfNat.ofNat n:UInt8)=UInt8.ofNat n:=λ_=>rfl;show([(60,61),(62,61),(61,61),(33,61),(38,38),(124,124)]:List (Nat × Nat)).contains (c.toNat,d.toNat)=(c==UInt8.ofNat 60&&d==UInt8.ofNat 61||c==UInt8.ofNat 62&&d==UInt8.ofNat 61||c==UInt8.ofNat 61&&d==UInt8.ofNat 61||c==UInt8.ofNat 33&&d==UInt8.ofNat 61||c==UInt8.ofNat 38&&d==UInt8.ofNat 38||c==UInt8.ofNat 124&&d==UInt8.ofNat 124);rw[hu c 60 (by omega),hu c 61 (by omega),hu c 62 (by omega),hu c 33 (by omega),hu c 38 (by omega),hu c 124 (by omega),hu d 61 (by omega),hu d 38 (by omega),hu d 124 (by omega)]
 grind
inductive Ex where
 |mk (kind value:Int) (name:List UInt8) (args:List Ex) (pos:Int)
def Ex.kind:Ex->Int |.mk k _ _ _ _=>k
def Ex.value:Ex->Int |.mk _ v _ _ _=>v
def Ex.name:Ex->List UInt8 |.mk _ _ n _ _=>n
def Ex.args:Ex->List Ex |.mk _ _ _ a _=>a
def Ex.pos:Ex->Int |.mk _ _ _ _ p=>p
mutual
def Ex.v:Ex->DV
 |.mk k v n a p=>.agg [I64 k,I64 v,.str n,.lst (Ex.vs a),I64 p]
def Ex.vs:List Ex->List DV
 |[]=>[]
 |e::l=>Ex.v e::Ex.vs l
end
theorem Ex.vs_map:∀l:List Ex,Ex.vs l=l.map Ex.v
 |[]=>rfl
 |e::l=>by rw[Ex.vs,Ex.vs_map l];rfl
abbrev L9(l:List Ex):DV:=.lst (l.map Ex.v)
abbrev Ex.w(e:Ex):DV:=.agg [I64 e.kind,I64 e.value,.str e.name,L9 e.args,I64 e.pos]
theorem Ex.v_w(e:Ex):e.v=e.w:=by
 cases e with|mk k v n a p=>rw[Ex.v,Ex.vs_map];rfl
theorem A9g(l:List Ex):∀x∈l.map Ex.v,x.cells.length=5:=λx hx=>by
 obtain⟨y, -,rfl⟩:=A0X.1 hx;rw[Ex.v_w];rfl
mutual
@[simp]theorem Ex.nl:∀e:Ex,e.v.nl=true
 |.mk k v n a p=>by
  simp[Ex.nls,Ex.v,DV.nl,DV.nlL]
theorem Ex.nls:∀l:List Ex,DV.nlL (Ex.vs l)=true
 |[]=>rfl
 |e::l=>by rw[Ex.vs,DV.nlL,Ex.nl e,Ex.nls l];rfl
end
@[simp]theorem A4n(l:List Ex):DV.nlL (l.map Ex.v)=true:=by rw[<- Ex.vs_map];exact Ex.nls l
def Ex0:Ex:=.mk 0 0 [] [] 0
inductive St where
 |mk (kind:Int) (name text:List UInt8) (args:List Ex) (thn els:List St) (pos:Int)
def St.kind:St->Int |.mk k _ _ _ _ _ _=>k
def St.name:St->List UInt8 |.mk _ n _ _ _ _ _=>n
def St.text:St->List UInt8 |.mk _ _ t _ _ _ _=>t
def St.args:St->List Ex |.mk _ _ _ a _ _ _=>a
def St.thn:St->List St |.mk _ _ _ _ t _ _=>t
def St.els:St->List St |.mk _ _ _ _ _ e _=>e
def St.pos:St->Int |.mk _ _ _ _ _ _ p=>p
mutual
def St.v:St->DV
 |.mk k n t a x y p=>.agg [I64 k,.str n,.str t,L9 a,.lst (St.vs x),.lst (St.vs y),I64 p]
def St.vs:List St->List DV
 |[]=>[]
 |e::l=>St.v e::St.vs l
end
theorem St.vs_map:∀l:List St,St.vs l=l.map St.v
 |[]=>rfl
 |e::l=>by rw[St.vs,St.vs_map l];rfl
abbrev G7(l:List St):DV:=.lst (l.map St.v)
abbrev St.w(s:St):DV:=.agg [I64 s.kind,.str s.name,.str s.text,L9 s.args,G7 s.thn,G7 s.els,I64 s.pos]
theorem St.v_w(s:St):s.v=s.w:=by
 cases s with|mk k n t a x y p=>rw[St.v,St.vs_map,St.vs_map];rfl
theorem B2m(l:List St):∀x∈l.map St.v,x.cells.length=7:=λx hx=>by
 obtain⟨y, -,rfl⟩:=A0X.1 hx;rw[St.v_w];rfl
mutual
@[simp]theorem St.nl:∀e:St,e.v.nl=true
 |.mk k n t a x y p=>by
  simp[A4n,St.nls,St.v,DV.nl,DV.nlL]
theorem St.nls:∀l:List St,DV.nlL (St.vs l)=true
 |[]=>rfl
 |e::l=>by rw[St.vs,DV.nlL,St.nl e,St.nls l];rfl
end
@[simp]theorem A2t(l:List St):DV.nlL (l.map St.v)=true:=by rw[<- St.vs_map];exact St.nls l
def St0:St:=.mk 0 [] [] [] [] [] 0
structure Dc where
 kind:Int
 name:List UInt8
 value:Int
 pos:Int
deriving DecidableEq
abbrev Dc.v(d:Dc):DV:=.agg [I64 d.kind,.str d.name,I64 d.value,I64 d.pos]
abbrev D7(l:List Dc):DV:=.lst (l.map Dc.v)
structure Hd where
 trig:Int
 name:List UInt8
 body:List St
 pos:Int
abbrev Hd.v(h:Hd):DV:=.agg [I64 h.trig,.str h.name,G7 h.body,I64 h.pos]
abbrev W0(l:List Hd):DV:=.lst (l.map Hd.v)
structure Md where
 name:List UInt8
 prio:Int
 hds:List Hd
 pos:Int
abbrev Md.v(m:Md):DV:=.agg [.str m.name,I64 m.prio,W0 m.hds,I64 m.pos]
abbrev F6(l:List Md):DV:=.lst (l.map Md.v)
structure Ru where
 decls:List Dc
 modes:List Md
abbrev Ru.v(r:Ru):DV:=.agg [D7 r.decls,F6 r.modes]
theorem A9k(l:List Dc):∀x∈l.map Dc.v,x.cells.length=4:=λx hx=>w7
theorem A6i(l:List Hd):∀x∈l.map Hd.v,x.cells.length=4:=λx hx=>w7
theorem B8m(l:List Md):∀x∈l.map Md.v,x.cells.length=4:=λx hx=>w7
@[simp]theorem S6(l:List Dc):DV.nlL (l.map Dc.v)=true:=P1 (λ_=>rfl) l
@[simp]theorem B2u(l:List Hd):DV.nlL (l.map Hd.v)=true:=P1 (λh=>by simp[DV.nl,DV.nlL,A2t]) l
@[simp]theorem S0(l:List Md):DV.nlL (l.map Md.v)=true:=P1 (λh=>by simp[DV.nl,DV.nlL,B2u]) l
theorem Ru.nl(r:Ru):r.v.nl=true:=by grind[DV.nl,DV.nlL,S6,S0]
structure Rd where
 i:Nat
 e:Int
 pos:Int
 ops:Int
 par:Int
section
variable (L:List Tok) (E:Int)
abbrev csR(s:Rd):List DV:=[D0 L,I64 E,I64 s.i,I64 s.e,I64 s.pos,I64 s.ops,I64 s.par]
abbrev rdR(s:Rd):Blk:=⟨0,true,csR L E s⟩
def okR(s:Rd):Bool:=s.e==0
def S8(s:Rd)(p e:Int):Rd:=if okR s=true then { s with e:=e,pos:=p } else s
def B1(s:Rd):Tok:=L.getD s.i ⟨0,[],0,E⟩
def isR(s:Rd)(t:List UInt8):Bool:=okR s&&((B1 L E s).kind==5||(B1 L E s).kind==2)&&(B1 L E s).text==t
def N9(s:Rd)(k:Int):Bool:=okR s&&(B1 L E s).kind==k
def X6(s:Rd):Rd:=S8 s (B1 L E s).pos 4
def C6(s:Rd)(n most e:Int):Rd:=if most<n then S8 s (B1 L E s).pos e else s
def A5(s:Rd):Rd:={ s with i:=s.i+1 }
def D9(s:Rd)(t:List UInt8):Rd:=if isR L E s t=false then X6 L E s else A5 s
def A1t:Tok:=⟨0,[],0,0⟩
def A8(s:Rd)(k:Int):Tok × Rd:=if N9 L E s k=false then(A1t,X6 L E s) else(B1 L E s,A5 s)
def A2i(s:Rd):Nat->List (List UInt8)->Int
 |_,[] => -1
 |k,t::l=>if isR L E s t=true then(k:Int) else A2i s (k+1) l
def B8(s:Rd)(l:List (List UInt8)):Int:=A2i L E s 0 l
end
def F0:List (List UInt8):=[[115,119,105,116,99,104],[99,111,105,108],[108,97,109,112],[115,111,117,110,100],[115,104,111,119],[118,97,114],[116,105,109,101,114],[101,118,101,110,116]]
def F8:List (List UInt8):=[[115,116,97,114,116],[115,116,111,112],[99,108,111,115,101],[111,112,101,110],[116,105,109,101,114],[101,118,101,110,116]]
def B7:List (List UInt8):=[[105,102],[114,101,112,101,97,116],[115,99,111,114,101],[102,105,114,101],[104,111,108,100],[114,101,108,101,97,115,101],[108,105,103,104,116],[98,108,105,110,107],[115,116,97,114,116],[115,116,111,112],[98,101,103,105,110],[101,110,100],[112,111,115,116],[112,108,97,121],[114,117,110],[104,97,108,116],[116,101,120,116],[99,111,110,115,117,109,101]]
def C9:List (List UInt8):=[[42],[47],[37],[43],[45],[60],[60,61],[62],[62,61],[61,61],[33,61],[38,38],[124,124]]
def B0(k:Int):Int:=if k=24 then 1 else if k=23 then 2 else if 17<=k/\k<=22 then 3 else if k=15\/k=16 then 4 else if 12<=k/\k<=14 then 5 else if k=10\/k=11 then 6 else 7
section
variable (L:List Tok) (E:Int)
def A3d:List Int:=[3,4,8,9,5,6,7]
def I0:List (List UInt8):=[[116,114,117,101],[102,97,108,115,101],[112,108,97,121,101,114],[98,97,108,108],[99,108,111,115,101,100],[97,99,116,105,118,101],[108,101,102,116]]
def Q4:List (List UInt8):=[[45],[33],[40]]
def N3(s:Rd):Ex × Rd :=
 let t:=B1 L E s
 let k:=B8 L E s I0
 if k<0/\N9 L E s 3=false/\N9 L E s 1=false then(Ex0,X6 L E s)
 else
  let s1:Rd:={ s with ops:=s.ops+1 }
  let s2:=C6 L E s1 s1.ops 32 9
  if okR s2=false then(Ex0,s2)
  else
   let s3:=A5 s2
   if 0<=k then
    if 4<=k then(.mk (A3d.getD k.toNat 0) 0 (A8 L E s3 1).1.text [] t.pos,(A8 L E s3 1).2)
    else(.mk (A3d.getD k.toNat 0) 0 [] [] t.pos,s3)
   else if t.kind=3 then(.mk 1 t.value [] [] t.pos,s3)
   else(.mk 2 0 t.text [] t.pos,s3)
mutual
def Q1:Nat->Int->Rd->Option (Ex × Rd)
 |0,_,_=>none
 |f+1,n,s=>if 5<n then A2k f s else
  match Q1 f (n+1) s with
  |none=>none
  |some (e,s)=>A0t f n e s
def A0t:Nat->Int->Ex->Rd->Option (Ex × Rd)
 |0,_,_,_=>none
 |f+1,n,e,s =>
  let k:=B8 L E s C9
  if k<0\/B0 (12+k)≠n then some (e,s) else
  match Q1 f (n+1) (A5 s) with
  |none=>none
  |some (x,s1) =>
   let y:=Ex.mk (12+k) 0 [] [e,x] (B1 L E s).pos
   if n=3 then some (y,s1) else A0t f n y s1
def A2k:Nat->Rd->Option (Ex × Rd)
 |0,_=>none
 |f+1,s =>
  let t:=B1 L E s
  let k:=B8 L E s Q4
  if k<0 then some (N3 L E s) else
  let s1:=C6 L E s (s.par+1) 16 50
  if okR s1=false then some (Ex0,s1) else
  let s2:Rd:={ s1 with i:=s1.i+1,par:=s1.par+1 }
  if k=2 then
   match Q1 f 1 s2 with
   |none=>none
   |some (e,s3)=>let s4:=D9 L E s3 [41];some (e, { s4 with par:=s4.par-1 })
  else
   match A2k f s2 with
   |none=>none
   |some (e,s3)=>some (.mk (10+k) 0 [] [e] t.pos, { s3 with par:=s3.par-1 })
end
def Z0(f:Nat)(s:Rd):Option (Ex × Rd):=Q1 L E f 1 { s with ops:=0,par:=0 }
def N6(f:Nat)(k p:Int)(s:Rd):Option (St × Rd) :=
 if k=4 then
  match Z0 L E f s with
  |none=>none
  |some (e,s1)=>some (.mk k [] [] [e] [] [] p,D9 L E s1 [59])
 else if k=18 then
  match Z0 L E f (D9 L E (A8 L E s 4).2 [44]) with
  |none=>none
  |some (e,s1)=>some (.mk k [] (A8 L E s 4).1.text [e] [] [] p,D9 L E s1 [59])
 else if k=19 then some (.mk k [] [] [] [] [] p,D9 L E s [59])
 else
  let n:=(A8 L E s 1).1.text
  let s0:=(A8 L E s 1).2
  if k=8\/k=9\/k=10 then
   match Z0 L E f s0 with
   |none=>none
   |some (e,s1) =>
    if k=9 then
     match Z0 L E f (D9 L E s1 [44]) with
     |none=>none
     |some (e2,s2)=>some (.mk k n [] [e,e2] [] [] p,D9 L E s2 [59])
    else some (.mk k n [] [e] [] [] p,D9 L E s1 [59])
  else some (.mk k n [] [] [] [] p,D9 L E s0 [59])
mutual
def W8:Nat->Int->Rd->Option (List St × Rd)
 |0,_,_=>none
 |f+1,d,s=>A0z f d [] (D9 L E s [123])
def A0z:Nat->Int->List St->Rd->Option (List St × Rd)
 |0,_,_,_=>none
 |f+1,d,l,s =>
  if okR s=true/\isR L E s [125]=false then
   if B8 L E s B7<0/\N9 L E s 1=false then some ([],X6 L E s) else
   match A1l f d (C6 L E s ((l.length:Int)+1) 64 9) with
   |none=>none
   |some (x,s1)=>A0z f d (l++[x]) s1
  else some (l,D9 L E s [125])
def A1l:Nat->Int->Rd->Option (St × Rd)
 |0,_,_=>none
 |f+1,d,s0 =>
  let s:=C6 L E s0 d 8 50
  if okR s=false then some (St0,s) else
  let p:=(B1 L E s).pos
  let k:=B8 L E s B7
  if k<0 then
   match Z0 L E f (D9 L E (A8 L E s 1).2 [61]) with
   |none=>none
   |some (e,s1)=>some (.mk 1 (A8 L E s 1).1.text [] [e] [] [] p,D9 L E s1 [59])
  else
   let s1:=A5 s
   if k=0\/k=1 then
    match Z0 L E f s1 with
    |none=>none
    |some (e,s2) =>
     match W8 f (d+1) s2 with
     |none=>none
     |some (t,s3) =>
      if k=0/\isR L E s3 [101,108,115,101]=true then
       match A1h f d (A5 s3) with
       |none=>none
       |some (o,s4)=>some (.mk 2 [] [] [e] t o p,s4)
      else some (.mk (2+k) [] [] [e] t [] p,s3)
   else N6 L E f (2+k) p s1
def A1h:Nat->Int->Rd->Option (List St × Rd)
 |0,_,_=>none
 |f+1,d,s =>
  if isR L E s [105,102]=true then
   match A1l f (d+1) s with
   |none=>none
   |some (x,s1)=>some ([x],s1)
  else W8 f (d+1) s
end
def Z3(k:Int)(s:Rd):Dc × Rd :=
 let p:=(B1 L E s).pos
 let s1:=A5 s
 let n:=(A8 L E s1 1).1.text
 let s2:=(A8 L E s1 1).2
 if k+1<=6 then
  let m:=k+1==6&&isR L E s2 [45]
  let s3:=if m=true then A5 s2 else s2
  let v:=(A8 L E s3 3).1.value
  (⟨1+k,n,if m=true then -v else v,p⟩,D9 L E (A8 L E s3 3).2 [59])
 else(⟨1+k,n,0,p⟩,D9 L E s2 [59])
def A2a:Nat->List Hd->Rd->Option (List Hd × Rd)
 |0,_,_=>none
 |f+1,l,s =>
  if okR s=true/\isR L E s [125]=false then
   if isR L E s [111,110]=false then some (l,X6 L E s) else
   let s1:=C6 L E s ((l.length:Int)+1) 32 9
   let p:=(B1 L E s1).pos
   let s2:=D9 L E s1 [111,110]
   let k:=B8 L E s2 F8
   if k<0 then some (l,X6 L E s2) else
   let s3:=A5 s2
   let n:=if 2<=k then(A8 L E s3 1).1.text else []
   let s4:=if 2<=k then(A8 L E s3 1).2 else s3
   match W8 L E f 1 s4 with
   |none=>none
   |some (b,s5)=>A2a f (l++[⟨1+k,n,b,p⟩]) s5
  else some (l,D9 L E s [125])
def A6u(f:Nat)(s:Rd):Option (Md × Rd) :=
 let p:=(B1 L E s).pos
 let s1:=D9 L E s [109,111,100,101]
 let n:=(A8 L E s1 1).1.text
 let s2:=(A8 L E s1 1).2
 let v:=(A8 L E s2 3).1.value
 match A2a L E f [] (D9 L E (A8 L E s2 3).2 [123]) with
 |none=>none
 |some (l,s3)=>some (⟨n,v,l,p⟩,s3)
def A1d:Nat->List Dc->Rd->Option (List Dc × Rd)
 |0,_,_=>none
 |f+1,l,s =>
  let k:=B8 L E s F0
  if k<0 then some (l,s) else
  let s1:=C6 L E s ((l.length:Int)+1) 128 9
  if okR s1=true then A1d f (l++[(Z3 L E k s1).1]) (Z3 L E k s1).2 else A1d f l s1
def A0r:Nat->List Md->Rd->Option (List Md × Rd)
 |0,_,_=>none
 |f+1,l,s =>
  if okR s=true/\s.i<L.length then
   if isR L E s [109,111,100,101]=false then some (l,X6 L E s) else
   let s1:=C6 L E s ((l.length:Int)+1) 16 9
   if okR s1=true then
    match A6u L E f s1 with
    |none=>none
    |some (m,s2)=>A0r f (l++[m]) s2
   else A0r f l s1
  else some (l,s)
def B1r(f:Nat)(s:Rd):Option (Ru × Rd) :=
 match A1d L E f [] s with
 |none=>none
 |some (d,s1) =>
  match A0r L E f [] s1 with
  |none=>none
  |some (m,s2)=>some (⟨d,m⟩,s2)
end
def A2(s:List UInt8):Tok:=⟨if L7 s=true then 2 else if D8 s=true then 1 else 5,s,0,0⟩
def F1(s:List UInt8):List Tok:=if D8 s=false then [A1t] else [⟨1,s,0,0⟩]
def A0s(n:Int):List Tok:=if n<0\/2147483647<n then [A1t] else [⟨3,[],n,0⟩]
def txB(c:UInt8):Bool:=decide (32<=c.toNat)&&decide (c.toNat<=126)
def A4u(s:List UInt8):List Tok:=if s.all txB=false\/32<s.length then [A1t] else [⟨4,s,0,0⟩]
def H9(q:Int × List Tok)(least:Int):List Tok:=if B0 q.1<least then [A2 [40]]++q.2++[A2 [41]] else q.2
def P6(k v:Int)(n:List UInt8)(as1:List (Int × List Tok)):List Tok :=
 let lv:=B0 k
 if k=1 then A0s v
 else if k=2 then F1 n
 else if k=3 then [A2 [116,114,117,101]]
 else if k=4 then [A2 [102,97,108,115,101]]
 else if k=8 then [A2 [112,108,97,121,101,114]]
 else if k=9 then [A2 [98,97,108,108]]
 else if k=5 then [A2 [99,108,111,115,101,100]]++F1 n
 else if k=6 then [A2 [97,99,116,105,118,101]]++F1 n
 else if k=7 then [A2 [108,101,102,116]]++F1 n
 else match as1 with
  |[q]=>if lv=6 then [A2 (if k=10 then [45] else [33])]++H9 q 6 else [A1t]
  |[q,r]=>if lv<6 then H9 q (if lv=3 then 4 else lv)++[A2 (C9.getD (k-12).toNat [])]++H9 r (lv+1) else [A1t]
  |_=>[A1t]
mutual
def exT:Ex->List Tok
 |.mk k v n a p=>P6 k v n (B4u a)
def B4u:List Ex->List (Int × List Tok)
 |[]=>[]
 |e::l=>(e.kind,exT e)::B4u l
end
def agT(l:List Ex)(i:Nat):List Tok:=match l[i]? with
 |some e=>exT e
 |none=>[A1t]
mutual
def stT:St->List Tok
 |.mk k n t a x y p =>
  if k=1 then F1 n++[A2 [61]]++agT a 0++[A2 [59]]
  else if k<2\/19<k then [A1t]
  else
   let w:=A2 (B7.getD (k-2).toNat [])
   if k=2\/k=3 then
    let o:=[w]++agT a 0++([A2 [123]]++X7 x++[A2 [125]])
    match y with
    |[]=>o
    |[s]=>if s.kind=2 then o++[A2 [101,108,115,101]]++stT s else o++[A2 [101,108,115,101]]++([A2 [123]]++stT s++[A2 [125]])
    |s::s2::r=>o++[A2 [101,108,115,101]]++([A2 [123]]++X7 (s::s2::r)++[A2 [125]])
   else if k=4 then [w]++agT a 0++[A2 [59]]
   else if k=18 then [w]++A4u t++[A2 [44]]++agT a 0++[A2 [59]]
   else if k=8\/k=10 then [w]++F1 n++agT a 0++[A2 [59]]
   else if k=9 then [w]++F1 n++agT a 0++[A2 [44]]++agT a 1++[A2 [59]]
   else if k=19 then [w]++[A2 [59]]
   else [w]++F1 n++[A2 [59]]
def X7:List St->List Tok
 |[]=>[]
 |s::l=>stT s++X7 l
end
def blT(l:List St):List Tok:=[A2 [123]]++X7 l++[A2 [125]]
def dcT(d:Dc):List Tok :=
 if d.kind<1\/8<d.kind then [A1t]
 else
  let o:=[A2 (F0.getD (d.kind-1).toNat [])]++F1 d.name
  (if 6<d.kind then o
  else if d.value<0 /\ -2147483647<=d.value/\d.kind=6 then o++[A2 [45]]++A0s (-d.value)
  else o++A0s d.value)++[A2 [59]]
def hdT(h:Hd):List Tok:=[A2 [111,110],A2 (F8.getD (h.trig-1).toNat [])]++(if 2<h.trig then F1 h.name else [])++blT h.body
def A0w(h:Hd):Bool:=decide (h.trig<1)||decide (6<h.trig)
def mdT(m:Md):List Tok:=[A2 [109,111,100,101]]++F1 m.name++A0s m.prio++[A2 [123]]++m.hds.flatMap hdT++[A2 [125]]
def ruT(r:Ru):List Tok:=if(r.modes.any λm=>m.hds.any A0w)=true then [A1t] else r.decls.flatMap dcT++r.modes.flatMap mdT
mutual
def Ex.plain:Ex->Ex
 |.mk k v n a p=>.mk k v n (Ex.plains a) 0
def Ex.plains:List Ex->List Ex
 |[]=>[]
 |e::l=>e.plain::Ex.plains l
end
mutual
def St.plain:St->St
 |.mk k n t a x y p=>.mk k n t (Ex.plains a) (St.plains x) (St.plains y) 0
def St.plains:List St->List St
 |[]=>[]
 |e::l=>e.plain::St.plains l
end
def Dc.plain(d:Dc):Dc:={ d with pos:=0 }
def Hd.plain(h:Hd):Hd:=⟨h.trig,h.name,St.plains h.body,0⟩
def Md.plain(m:Md):Md:=⟨m.name,m.prio,m.hds.map Hd.plain,0⟩
def Ru.plain(r:Ru):Ru:=⟨r.decls.map Dc.plain,r.modes.map Md.plain⟩
theorem Ex.plains_map:∀l:List Ex,Ex.plains l=l.map Ex.plain
 |[]=>rfl
 |e::l=>by rw[Ex.plains,Ex.plains_map l];rfl
theorem St.plains_map:∀l:List St,St.plains l=l.map St.plain
 |[]=>rfl
 |e::l=>by rw[St.plains,St.plains_map l];rfl
mutual
def B5w(p:Bool):Ex->Ex->Bool
 |.mk k v n a q,.mk k' v' n' a' q'=>k==k'&&(v==v'&&(n==n'&&((p||q==q')&&V4 p a a')))
def V4(p:Bool):List Ex->List Ex->Bool
 |[],[]=>true
 |e::l,e'::l'=>B5w p e e'&&V4 p l l'
 |_,_=>false
end
mutual
def C3z:St->St->Bool
 |.mk k n t a x y q,.mk k' n' t' a' x' y' q'=>k==k'&&(n==n'&&(t==t'&&(q==q'&&(V4 false a a'&&(R6 x x'&&R6 y y')))))
def R6:List St->List St->Bool
 |[],[]=>true
 |e::l,e'::l'=>C3z e e'&&R6 l l'
 |_,_=>false
end
mutual
theorem D8b:∀a b:Ex,B5w false a b=true↔a=b
 |.mk k v n a q,.mk k' v' n' a' q'=>by
  have:=B0y a a';simp only[B5w,A0G,A1S,Bool.false_or,this,Ex.mk.injEq]
  grind
theorem B0y:∀a b:List Ex,V4 false a b=true↔a=b
 |[],[]=>l9
 |[],_::_=>by simp[V4]
 |_::_,[]=>by simp[V4]
 |e::l,e'::l'=>by
  have h1:=D8b e e';have h2:=B0y l l'
  simp_all[V4]
end
mutual
theorem D4e:∀a b:St,C3z a b=true↔a=b
 |.mk k n t a x y q,.mk k' n' t' a' x' y' q'=>by
  have h1:=B0y a a';have h2:=A3o x x';have h3:=A3o y y';simp only[C3z,A0G,A1S,h1,h2,h3,St.mk.injEq]
  grind
theorem A3o:∀a b:List St,R6 a b=true↔a=b
 |[],[]=>l9
 |[],_::_=>by simp[R6]
 |_::_,[]=>by simp[R6]
 |e::l,e'::l'=>by
  have h1:=D4e e e';have h2:=A3o l l'
  simp_all[R6]
end
mutual
def Ex.sz:Ex->Nat
 |.mk k v n a p=>1+n.length+Ex.szs a
def Ex.szs:List Ex->Nat
 |[]=>0
 |e::l=>e.sz+Ex.szs l
end
mutual
def St.sz:St->Nat
 |.mk k n t a x y p=>1+n.length+t.length+Ex.szs a+St.szs x+St.szs y
def St.szs:List St->Nat
 |[]=>0
 |e::l=>e.sz+St.szs l
end
def Dc.sz(d:Dc):Nat:=1+d.name.length
def Hd.sz(h:Hd):Nat:=1+h.name.length+St.szs h.body
def Md.sz(m:Md):Nat:=1+m.name.length+(m.hds.map Hd.sz).sum
def Ru.sz(r:Ru):Nat:=(r.decls.map Dc.sz).sum+(r.modes.map Md.sz).sum
theorem Ex.szs_map:∀l:List Ex,Ex.szs l=(l.map Ex.sz).sum
 |[]=>rfl
 |e::l=>by rw[Ex.szs,Ex.szs_map l];rfl
theorem St.szs_map:∀l:List St,St.szs l=(l.map St.sz).sum
 |[]=>rfl
 |e::l=>by rw[St.szs,St.szs_map l];rfl
theorem O1{α:Type}{f : α->Nat}{x : α}:∀ {l:List α},x∈l->f x<=(l.map f).sum
 |a::l,h=>by
  rw[A0P,A3D];rcases A0U.1 h with rfl|h
  ·omega
  ·have:=O1 (f:=f) h;omega
theorem K5{α:Type}{f : α->Nat}:∀ {l:List α},(∀x∈l,1<=f x)->l.length<=(l.map f).sum
 |[],h=>A0Q _
 |a::l,h=>by
  have:=K5 (f:=f) (l:=l) λx hx=>h x (A0D _ hx)
  grind
theorem Ex.sz_pos(e:Ex):1<=e.sz:=by cases e with|mk k v n a p=>rw[Ex.sz];omega
theorem St.sz_pos(e:St):1<=e.sz:=by cases e with|mk k n t a x y p=>rw[St.sz];omega
theorem Ex.sz_arg{e x:Ex}(h:x∈e.args):x.sz<e.sz:=by
 cases e with|mk k v n a p =>
 have:=O1 (f:=Ex.sz) h;rw[Ex.sz,Ex.szs_map];have h':(Ex.mk k v n a p).args=a:=rfl
 grind
theorem Ex.sz_name(e:Ex):e.name.length<e.sz:=by
 cases e with|mk k v n a p=>rw[Ex.sz];show n.length<_;omega
theorem Ex.sz_args(e:Ex):e.args.length<e.sz:=by
 cases e with|mk k v n a p =>
 have:=K5 (f:=Ex.sz) (l:=a) λx _=>x.sz_pos;rw[Ex.sz,Ex.szs_map];show a.length<_;omega
theorem St.sz_name(e:St):e.name.length<e.sz:=by
 cases e with|mk k n t a x y p=>rw[St.sz];show n.length<_;omega
theorem St.sz_text(e:St):e.text.length<e.sz:=by
 cases e with|mk k n t a x y p=>rw[St.sz];show t.length<_;omega
theorem St.sz_arg{e:St}{x:Ex}(h:x∈e.args):x.sz<e.sz:=by
 cases e with|mk k n t a u w p =>
 have:=O1 (f:=Ex.sz) h;have h':(St.mk k n t a u w p).args=a:=rfl;rw[h']at this;rw[St.sz,Ex.szs_map];omega
theorem St.sz_args(e:St):e.args.length<e.sz:=by
 cases e with|mk k n t a u w p =>
 have:=K5 (f:=Ex.sz) (l:=a) λx _=>x.sz_pos;rw[St.sz,Ex.szs_map];show a.length<_;omega
theorem St.sz_thn(e:St):St.szs e.thn<e.sz:=by
 cases e with|mk k n t a u w p=>rw[St.sz];show St.szs u<_;omega
theorem St.sz_els(e:St):St.szs e.els<e.sz:=by
 cases e with|mk k n t a u w p=>rw[St.sz];show St.szs w<_;omega
theorem St.szs_len(l:List St):l.length<=St.szs l:=by rw[St.szs_map];exact K5 λx _=>x.sz_pos
theorem St.szs_mem{l:List St}{x:St}(h:x∈l):x.sz<=St.szs l:=by rw[St.szs_map];exact O1 h
theorem Ex.szs_mem{l:List Ex}{x:Ex}(h:x∈l):x.sz<=Ex.szs l:=by rw[Ex.szs_map];exact O1 h
theorem Ex.szs_len(l:List Ex):l.length<=Ex.szs l:=by rw[Ex.szs_map];exact K5 λx _=>x.sz_pos
theorem B6(s:List UInt8):(F1 s).length=1:=by unfold F1;grind
theorem F7(n:Int):(A0s n).length=1:=by unfold A0s;grind
theorem G9(s:List UInt8):(A4u s).length=1:=by unfold A4u;grind
theorem A6e(q:Int × List Tok)(n:Int):q.2.length<=(H9 q n).length/\(H9 q n).length<=q.2.length+2:=by
 unfold H9;grind
theorem A9i:∀l:List Ex,B4u l=l.map λe=>(e.kind,exT e)
 |[]=>rfl
 |e::l=>by rw[B4u,A9i l];rfl
set_option maxHeartbeats 2000000 in
theorem C6f{k v:Int}{n:List UInt8}{as1:List (Int × List Tok)}:1<=(P6 k v n as1).length/\(P6 k v n as1).length<=5+(as1.map λq=>q.2.length).sum:=by
 unfold P6
 match as1 with
 |[] =>
  dsimp only;repeat' split
  all_goals simp only[A0A,A0I,B6,F7]
  all_goals omega
 |[q] =>
  have:=A6e q 6;dsimp only;repeat' split
  all_goals simp only[A0A,A0I,B6,F7,A0P,List.map_nil,A3D,List.sum_nil]
  all_goals omega
 |[q,r] =>
  have h1:=A6e q (if B0 k=3 then 4 else B0 k);have h2:=A6e r (B0 k+1);dsimp only;generalize H9 q (if B0 k=3 then 4 else B0 k)=A at h1 ⊢;generalize H9 r (B0 k+1)=B at h2 ⊢;generalize A2 (C9.getD (k-12).toNat [])=W;generalize B0 k=lv;repeat' split
  all_goals simp only[A0A,A0I,B6,F7,A0P,List.map_nil,A3D,List.sum_nil]
  all_goals omega
 |q::r::w::l =>
  dsimp only;repeat' split
  all_goals simp only[A0A,A0I,B6,F7]
  all_goals omega
theorem A6n:∀e:Ex,1<=(exT e).length/\(exT e).length<=5*e.sz
 |.mk k v n a p=>by
  have ih:∀x∈a,(exT x).length<=5*x.sz:=λx hx=>(A6n x).2;have h:=C6f (k:=k) (v:=v) (n:=n) (as1:=B4u a);rw[exT];refine⟨h.1,?_⟩;have h2:((B4u a).map λq=>q.2.length).sum<=5*Ex.szs a:=by
   rw[A9i,A2E,Ex.szs_map];clear h
   induction a with
   |nil=>simp
   |cons x l ihl =>
    grind
  rw[Ex.sz];omega
theorem D9n(l:List Ex)(i:Nat):1<=(agT l i).length/\(agT l i).length<=1+5*Ex.szs l:=by
 unfold agT;cases h:l[i]? with
 |none=>simp
 |some e =>
  have h1:=A6n e;have h2:=Ex.szs_mem (A0W h)
  grind
mutual
theorem B2n:∀s:St,1<=(stT s).length/\(stT s).length<=11*s.sz
 |.mk k n t a x y p=>by
  have h0:=D9n a 0;have h1:=D9n a 1;have hx:=A8h x;have hy:∀l,l=y->(X7 l).length<=11*St.szs l:=λl h=>by subst h;exact A8h l
  have hq:∀q,y=[q]->(stT q).length<=11*q.sz:=λq h=>by subst h;exact(B2n q).2
  rw[St.sz];unfold stT;dsimp only;generalize agT a 0=A at h0 ⊢;generalize agT a 1=B at h1 ⊢;generalize X7 x=X at hx ⊢;generalize A2 (B7.getD (k-2).toNat [])=W
  match y,hy,hq with
  |[],hy,hq =>
   dsimp only;rw[St.szs];repeat' split
   all_goals simp only[A0A,A0I,B6,G9]
   all_goals omega
  |[q],hy,hq =>
   have hq:=hq q rfl;dsimp only;rw[St.szs,St.szs];generalize stT q=Q at hq ⊢;repeat' split
   all_goals simp only[A0A,A0I,B6,G9]
   all_goals omega
  |q::q2::r,hy,hq =>
   have hy:=hy _ rfl;dsimp only;generalize X7 (q::q2::r)=Y at hy ⊢;generalize St.szs (q::q2::r)=z at hy ⊢;repeat' split
   all_goals simp only[A0A,A0I,B6,G9]
   all_goals omega
theorem A8h:∀l:List St,(X7 l).length<=11*St.szs l
 |[]=>A0Q _
 |s::l=>by
  have h1:=B2n s;have h2:=A8h l;rw[X7,St.szs,A0A];omega
end
theorem B3c(l:List St):1<=(blT l).length/\(blT l).length<=11*St.szs l+2:=by
 have:=A8h l;unfold blT
 grind
theorem C9p(d:Dc):1<=(dcT d).length/\(dcT d).length<=6:=by
 unfold dcT;dsimp only;generalize A2 (F0.getD (d.kind-1).toNat [])=W;repeat' split
 all_goals simp only[A0A,A0I,B6,F7]
 all_goals(first|omega|simp)
theorem E2o(h:Hd):1<=(hdT h).length/\(hdT h).length<=11*h.sz:=by
 have:=B3c h.body;unfold hdT Hd.sz;generalize A2 (F8.getD (h.trig-1).toNat [])=W;split
 ·simp only[A0A,A0C,A0M,B6];omega
 grind
theorem B2x{α:Type}{f : α->List Tok}{g : α->Nat}{c:Nat}:∀ {l:List α},(∀x∈l,(f x).length<=c*g x)->(l.flatMap f).length<=c*(l.map g).sum
 |[],_=>by simp
 |a::l,h=>by
  have h1:=h a A0H;have h2:=B2x (l:=l) λx hx=>h x (A0D _ hx);rw[A2B,A0A,A0P,A3D,Nat.mul_add];omega
theorem E1t(m:Md):1<=(mdT m).length/\(mdT m).length<=11*m.sz:=by
 have:=B2x (l:=m.hds) (f:=hdT) (g:=Hd.sz) (c:=11) λx _=>(E2o x).2;unfold mdT Md.sz;simp only[A0A,A0I,B6,F7];omega
theorem E0m(r:Ru):(ruT r).length<=11*r.sz+1/\(r.decls.flatMap dcT++r.modes.flatMap mdT).length<=11*r.sz:=by
 have h1:=B2x (l:=r.decls) (f:=dcT) (g:=Dc.sz) (c:=11) λx _=>by have:=C9p x;unfold Dc.sz;omega
 have h2:=B2x (l:=r.modes) (f:=mdT) (g:=Md.sz) (c:=11) λx _=>(E1t x).2;have h3:(r.decls.flatMap dcT++r.modes.flatMap mdT).length<=11*r.sz:=by
  unfold Ru.sz;rw[A0A];omega
 refine⟨?_,h3⟩;unfold ruT
 grind
section
variable {L:List Tok} {E:Int}
theorem B2y{s:Rd}{p e:Int}(he:e≠0):okR (S8 s p e)=false:=by
 grind[S8,okR]
theorem A4g{s:Rd}:okR (X6 L E s)=false:=B2y (by simp)
theorem J6{s:Rd}{n m e:Int}(he:e≠0)(h:okR (C6 L E s n m e)=true):okR s=true/\n<=m/\C6 L E s n m e=s:=by
 unfold C6 at h ⊢;split at h<;>simp_all[B2y,if_neg]
theorem A4w{s:Rd}{t:List UInt8}(h:isR L E s t=true):okR s=true/\s.i<L.length:=by
 unfold isR at h;simp only[A0G,A1H,A1S]at h
 grind[B1]
theorem L8{s:Rd}{k:Int}(h:N9 L E s k=true):okR s=true/\(B1 L E s).kind=k:=by
 simp_all[N9]
theorem O2{s:Rd}{k:Int}(hk:k≠0)(h:(B1 L E s).kind=k):B1 L E s∈L/\s.i<L.length:=by
 grind[B1]
theorem B4t{s:Rd}{t:List UInt8}(h:okR (D9 L E s t)=true):isR L E s t=true/\D9 L E s t=A5 s:=by
 unfold D9 at h ⊢;cases hi:isR L E s t<;>simp_all[A4g]
theorem A4f{s:Rd}{k:Int}(h:okR (A8 L E s k).2=true):N9 L E s k=true/\A8 L E s k=(B1 L E s,A5 s):=by
 unfold A8 at h ⊢;cases hi:N9 L E s k<;>simp_all[A4g]
theorem K2{s:Rd}:∀ {l:List (List UInt8)} {k:Nat},0<=A2i L E s k l->okR s=true/\s.i<L.length/\(k:Int)<=A2i L E s k l/\A2i L E s k l<(k+l.length:Nat)
 |[],k,h=>l9
 |t::l,k,h=>by
  unfold A2i at h ⊢;cases hi:isR L E s t with
  |true =>
   rw[if_pos rfl];obtain⟨h1,h2⟩:=A4w hi<;>grind
  |false =>
   rw[hi]at h;simp only[A1M,if_false]at h ⊢;obtain⟨h1,h2,h3,h4⟩:=K2 h<;>grind
end
structure RI (L:List Tok) (s:Rd):Prop where
 i:s.i<=L.length
 o0:0<=s.ops
 o1:s.ops<=33
 o2:okR s=true->s.ops<=32
 p0:0<=s.par
 p1:s.par<=16
section
variable {L:List Tok} {E:Int}
theorem RI.fail{s:Rd}{p e:Int}(he:e≠0)(h:RI L s):RI L (S8 s p e)/\(S8 s p e).par=s.par:=by
 have hk:=B2y (s:=s) (p:=p) he;have e1:(S8 s p e).i=s.i:=by grind[S8]
 have e2:(S8 s p e).ops=s.ops:=by grind[S8]
 have e3:(S8 s p e).par=s.par:=by grind[S8]
 exact⟨⟨by rw[e1];exact h.i,by rw[e2];exact h.o0,by rw[e2];exact h.o1,(λk=>by grind),by rw[e3];exact h.p0,by rw[e3];exact h.p1⟩,e3⟩
theorem RI.syn{s:Rd}(h:RI L s):RI L (X6 L E s)/\(X6 L E s).par=s.par:=h.fail (by simp)
theorem RI.lim{s:Rd}{n m e:Int}(he:e≠0)(h:RI L s):RI L (C6 L E s n m e)/\(C6 L E s n m e).par=s.par:=by
 unfold C6;split
 ·exact h.fail he
 grind
theorem RI.nxt{s:Rd}(h:RI L s)(hi:s.i<L.length):RI L (A5 s):=⟨hi,h.o0,h.o1,h.o2,h.p0,h.p1⟩
theorem RI.exp{s:Rd}{x:List UInt8}(h:RI L s):RI L (D9 L E s x)/\(D9 L E s x).par=s.par:=by
 unfold D9;cases k:isR L E s x with
 |false=>rw[if_pos rfl];exact h.syn
 |true=>rw[if_neg (by simp)];exact⟨h.nxt (A4w k).2,rfl⟩
theorem RI.take{s:Rd}{x:Int}(hx:x≠0)(h:RI L s):RI L (A8 L E s x).2/\(A8 L E s x).2.par=s.par:=by
 unfold A8;cases k:N9 L E s x with
 |false=>rw[if_pos rfl];exact h.syn
 |true=>rw[if_neg (by simp)];exact⟨h.nxt (O2 hx (L8 k).2).2,rfl⟩
theorem RI.prim{s:Rd}(h:RI L s):RI L (N3 L E s).2/\(N3 L E s).2.par=s.par:=by
 unfold N3;dsimp only;split
 ·exact h.syn
 ·rename_i hc;have hok:okR s=true/\s.i<L.length:=by
   by_cases hk:0<=B8 L E s I0
   ·obtain⟨h1,h2, -⟩:=K2 hk<;>simp_all
   ·cases h3:N9 L E s 3 with
    |true=>exact⟨(L8 h3).1,(O2 (by simp) (L8 h3).2).2⟩
    |false =>
     cases h1:N9 L E s 1 with
     |true=>exact⟨(L8 h1).1,(O2 (by simp) (L8 h1).2).2⟩
     |false=>grind
  have h32:=h.o2 hok.1;have ho:=h.o0;obtain⟨s2,hs2⟩:∃s2,s2=C6 L E { s with ops:=s.ops+1 } (s.ops+1) 32 9:=⟨_,rfl⟩;rw[<- hs2];cases h2:okR s2 with
  |false =>
   rw[if_pos rfl];have e1:s2.i=s.i:=by grind[C6,S8]
   have e2:s2.ops=s.ops+1:=by grind[C6,S8]
   have e3:s2.par=s.par:=by grind[C6,S8]
   refine⟨⟨?_,?_,?_,(λk=>by rw[h2]at k;cases k),?_,?_⟩,e3⟩<;>dsimp only
   ·omega
   ·omega
   ·omega
   ·rw[e3];exact h.p0
   ·rw[e3];exact h.p1
  |true =>
   rw[if_neg (by simp)];rw[hs2]at h2;obtain⟨-,h4,h5⟩:=J6 (by simp) h2;rw[h5]at hs2;have h3:RI L (A5 s2):=by
    rw[hs2];exact⟨hok.2,by show 0<=s.ops+1;omega,by show s.ops+1<=33;omega,λ_=>h4,h.p0,h.p1⟩
   have hp:(A5 s2).par=s.par:=by rw[hs2];rfl
   repeat' split
   ·exact⟨(h3.take (by simp)).1,(h3.take (by simp)).2.trans hp⟩
   all_goals exact⟨h3,hp⟩
theorem RI.all:∀f:Nat,(∀n s r,Q1 L E f n s=some r->RI L s->RI L r.2/\r.2.par=s.par)/\(∀n e s r,A0t L E f n e s=some r->RI L s->RI L r.2/\r.2.par=s.par)/\(∀s r,A2k L E f s=some r->RI L s->RI L r.2/\r.2.par=s.par)
 |0=>⟨λn s r h=>l9,λn e s r h=>l9,λs r h=>by trivial⟩
 |f+1=>by
  obtain⟨i1,i2,i3⟩:=RI.all f;refine⟨λn s r h k=>?_,λn e s r h k=>?_,λs r h k=>?_⟩
  ·grind[Q1]
  ·unfold A0t at h;dsimp only at h;split at h
   ·grind
   ·rename_i hk;have hk0:0<=B8 L E s C9:=Classical.byContradiction λg=>hk (.inl (by omega));obtain⟨-,hi, -⟩:=K2 hk0;cases hb:Q1 L E f (n+1) (A5 s) with
    |none=>grind
    |some q =>
     obtain⟨x,s1⟩:=q;rw[hb]at h;obtain⟨a1,a2⟩:=i1 _ _ _ hb (k.nxt hi);dsimp only at h;split at h
     ·cases h;trivial
     ·obtain⟨b1,b2⟩:=i2 _ _ _ _ h a1;exact⟨b1,b2.trans a2⟩
  ·unfold A2k at h;dsimp only at h;split at h
   ·cases h;exact k.prim
   ·rename_i hk;have hk0:0<=B8 L E s Q4:=by omega
    obtain⟨-,hi, -⟩:=K2 hk0;split at h
    ·cases h;exact k.lim (by simp)
    ·rename_i hl;have hl:okR (C6 L E s (s.par+1) 16 50)=true:=by simpa using hl
     obtain⟨h1,h2,h3⟩:=J6 (by decide) hl;rw[h3]at h;have k2:RI L { s with i:=s.i+1,par:=s.par+1 }:=⟨hi,k.o0,k.o1,k.o2,by have:=k.p0;show 0<=s.par+1;omega,h2⟩;have fin:∀z:Rd,RI L z->z.par=s.par+1->RI L { z with par:=z.par-1 }/\z.par-1=s.par:=λz hz hp =>
      ⟨⟨hz.i,hz.o0,hz.o1,hz.o2,by have:=k.p0;show 0<=z.par-1;omega,by have:=k.p1;show z.par-1<=16;omega⟩,by omega⟩
     split at h
     ·cases hb:Q1 L E f 1 { s with i:=s.i+1,par:=s.par+1 } with
      |none=>rw[hb]at h;cases h
      |some q =>
       obtain⟨e,s3⟩:=q;rw[hb]at h;cases h;obtain⟨a1,a2⟩:=i1 _ _ _ hb k2;obtain⟨b1,b2⟩:=a1.exp (E:=E) (x:=[41]);exact fin _ b1 (b2.trans a2)
     grind
theorem D7w{s:Rd}{p e:Int}:(S8 s p e).i=s.i:=by grind[S8]
theorem A0p{s:Rd}:(X6 L E s).i=s.i:=D7w
theorem J4{s:Rd}{n m e:Int}:(C6 L E s n m e).i=s.i:=by grind[C6,D7w]
theorem O5{s:Rd}{x:List UInt8}(h:s.i<=L.length):(D9 L E s x).i<=L.length:=by
 unfold D9;cases k:isR L E s x with
 |false=>simp_all[A0p]
 |true=>rw[if_neg (by simp)];exact(A4w k).2
theorem Q8{s:Rd}{x:Int}(hx:x≠0)(h:s.i<=L.length):(A8 L E s x).2.i<=L.length:=by
 unfold A8;cases k:N9 L E s x with
 |false=>simp_all[A0p]
 |true=>rw[if_neg (by simp)];exact(O2 hx (L8 k).2).2
theorem Y9{f:Nat}{s:Rd}{r:Ex × Rd}(h:Z0 L E f s=some r)(hi:s.i<=L.length):r.2.i<=L.length :=
 ((RI.all f).1 1 { s with ops:=0,par:=0 } r h ⟨hi,A2U 0,(by simp:(0:Int)<=33),λ_=>(by simp:(0:Int)<=32),A2U 0,(by simp:(0:Int)<=16)⟩).1.i
theorem E6y{f:Nat}{k p:Int}{s:Rd}{r:St × Rd}(h:N6 L E f k p s=some r)(hi:s.i<=L.length):r.2.i<=L.length:=by
 unfold N6 at h;dsimp only at h;split at h
 ·split at h
  ·cases h
  ·rename_i he;cases h;exact O5 (Y9 he hi)
 split at h
 ·split at h
  ·cases h
  ·rename_i he;cases h;exact O5 (Y9 he (O5 (Q8 (by decide) hi)))
 split at h
 ·cases h;exact O5 hi
 have h0:=Q8 (E:=E) (x:=1) (by decide) hi;split at h
 ·split at h
  ·cases h
  ·rename_i he;split at h
   ·split at h
    ·cases h
    ·rename_i he2;cases h;exact O5 (Y9 he2 (O5 (Y9 he h0)))
   ·cases h;exact O5 (Y9 he h0)
 grind[O5]
theorem E7a{f:Nat}{d:Int}{s:Rd}{r:St × Rd}(h:A1l L E f d s=some r)(ho:okR s=false):okR r.2=false:=by
 cases f with
 |zero=>trivial
 |succ f =>
  have hl:okR (C6 L E s d 8 50)=false:=by
   cases k:okR (C6 L E s d 8 50) with
   |false=>rfl
   |true=>rw[(J6 (by decide) k).1]at ho;cases ho
  unfold A1l at h
  grind
theorem II.all:∀f:Nat,(∀d s r,W8 L E f d s=some r->s.i<=L.length->r.2.i<=L.length)/\(∀d l s r,A0z L E f d l s=some r->s.i<=L.length->r.2.i<=L.length)/\(∀d s r,A1l L E f d s=some r->s.i<=L.length->r.2.i<=L.length)/\(∀d s r,A1h L E f d s=some r->s.i<=L.length->r.2.i<=L.length)
 |0=>⟨λd s r h=>l9,λd l s r h=>l9,λd s r h=>l9,λd s r h=>by trivial⟩
 |f+1=>by
  obtain⟨i1,i2,i3,i4⟩:=II.all f;refine⟨λd s r h k=>?_,λd l s r h k=>?_,λd s r h k=>?_,λd s r h k=>?_⟩
  ·unfold W8 at h;exact i2 _ _ _ _ h (O5 k)
  ·unfold A0z at h;split at h
   ·split at h
    ·cases h;rw[A0p];exact k
    ·split at h
     ·cases h
     ·rename_i he;exact i2 _ _ _ _ h (i3 _ _ _ he (by rw[J4];exact k))
   ·cases h;exact O5 k
  ·unfold A1l at h;dsimp only at h;split at h
   ·cases h;rw[J4];exact k
   ·split at h
    ·split at h
     ·cases h
     ·rename_i he;cases h;exact O5 (Y9 he (O5 (Q8 (by decide) (by rw[J4];exact k))))
    ·rename_i hk;have hn:(A5 (C6 L E s d 8 50)).i<=L.length:=(K2 (show 0<=B8 L E (C6 L E s d 8 50) B7 by omega)).2.1;split at h
     ·split at h
      ·cases h
      ·rename_i he;split at h
       ·cases h
       ·rename_i hb;have h3:=i1 _ _ _ hb (Y9 he hn);split at h
        ·rename_i hc;split at h
         ·cases h
         ·rename_i ho;cases h;exact i4 _ _ _ ho (A4w hc.2).2
        ·cases h;exact h3
     ·exact E6y h hn
  grind[A1h]
end
def N5(k:Int):Nat:=if B0 k=6 then 1 else if B0 k<6 then 2 else 0
def C1i(k:Int):Bool:=k==5||(k==6||k==7)
def kOk(k:Int):Bool:=decide (B0 k<7)||(decide (1<=k)&&decide (k<=24))
def B0k(k:Int)(n:List UInt8):Bool:=if k=2\/C1i k=true then D8 n else n == []
def A5f(k v:Int):Bool:=v==0||(k==1&&(decide (0<v)&&decide (v<=2147483647)))
def A3b(k q:Int)(i:Nat):Bool:=decide (B0 q<B0 k)||(B0 q==B0 k&&(i==1||B0 k==3))
mutual
def msM:Ex->Option (Nat × Nat)
 |.mk k v n a p =>
  if kOk k=false\/a.length≠N5 k\/B0k k n=false\/A5f k v=false then none
  else if N5 k=0 then some (1,0)
  else match msL k 0 a with
   |none=>none
   |some (o,d)=>some (o,if N5 k=1 then d+1 else d)
def msL(k:Int):Nat->List Ex->Option (Nat × Nat)
 |_,[]=>some (0,0)
 |i,e::l=>match msM e with
  |none=>none
  |some (o,d)=>match msL k (i+1) l with
   |none=>none
   |some (o2,d2)=>some (o+o2,max (if A3b k e.kind i=true then d+1 else d) d2)
end
def Z9(e:Ex):Bool:=match msM e with
 |some (o,d)=>decide (o<=32)&&decide (d<=16)
 |none=>false
structure Shp where
 name:Bool
 text:Bool
 args:Nat
 thn:Bool
 els:Bool
def O6(k:Int):Shp :=
 if k=1\/k=8\/k=10 then⟨true,false,1,false,false⟩
 else if k=9 then⟨true,false,2,false,false⟩
 else if k=2 then⟨false,false,1,true,true⟩
 else if k=3 then⟨false,false,1,true,false⟩
 else if k=4 then⟨false,false,1,false,false⟩
 else if k=18 then⟨false,true,1,false,false⟩
 else if k=19 then⟨false,false,0,false,false⟩
 else⟨true,false,0,false,false⟩
def Y7(s:List UInt8):Bool:=s.all txB&&decide (s.length<=32)
mutual
def V5:Nat->St->Bool
 |d,.mk k n t a x y p =>
  (decide (1<=k)&&decide (k<=19))&&(a.length==(O6 k).args&&a.all Z9) &&
   ((if(O6 k).name=true then D8 n else n == [])&&(if(O6 k).text=true then Y7 t else t == [])) &&
   (((O6 k).thn||x.isEmpty)&&((O6 k).els||y.isEmpty)) &&
   ((decide (x.length<=64)&&(x.isEmpty||decide (d+1<=8))&&I8 (d+1) x)&&(decide (y.length<=64)&&(y.isEmpty||decide (d+1<=8))&&I8 (d+1) y))
def I8:Nat->List St->Bool
 |_,[]=>true
 |d,s::l=>V5 d s&&I8 d l
end
def T4(l:List St)(d:Nat):Bool:=decide (l.length<=64)&&(l.isEmpty||decide (d<=8))&&I8 d l
def A2j(d:Dc):Bool:=decide (1<=d.kind)&&decide (d.kind<=8)&&D8 d.name&&decide ((if d.kind=6 then -2147483647 else 0)<=d.value)&&decide (d.value<=(if d.kind=7\/d.kind=8 then 0 else 2147483647))
def A4c(h:Hd):Bool:=decide (1<=h.trig)&&decide (h.trig<=6)&&(if 3<=h.trig then D8 h.name else h.name == [])&&T4 h.body 1
def X4(m:Md):Bool:=D8 m.name&&decide (0<=m.prio)&&decide (m.prio<=2147483647)&&decide (m.hds.length<=32)&&m.hds.all A4c
def X3(r:Ru):Bool:=decide (r.decls.length<=128)&&decide (r.modes.length<=16)&&r.decls.all A2j&&r.modes.all X4
def K8(t:Tok):Prop:=(t.kind=1->D8 t.text=true)/\(t.kind=3->0<=t.value/\t.value<=2147483647)/\(t.kind=4->Y7 t.text=true)
def SE(n:Int)(s:Rd)(e:Ex)(s':Rd):Prop :=
 okR s=true/\s'.par=s.par/\∃o d,msM e=some (o,d)/\s'.ops=s.ops+(o:Int)/\s'.ops<=32/\((n<=B0 e.kind/\s.par+(d:Int)<=16)\/s.par+(d:Int)+1<=16)
theorem A1r(k:Int):1<=B0 k/\B0 k<=7:=by
 grind[B0]
theorem B8p{k:Int}(h:B0 k<7):10<=k/\k<=24:=by
 grind[B0]
theorem E1w{k:Int}(h0:0<=k)(h1:k<13):B0 (12+k)<6:=by
 grind[B0]
theorem A8y{k:Int}(h:k=10\/k=11):B0 k=6:=by
 rcases h with rfl|rfl<;>rfl
theorem E9i{k:Int}{a b:Ex}{o1 d1 o2 d2:Nat}{p:Int}(hk:B0 k<6)(ha:msM a=some (o1,d1))(hb:msM b=some (o2,d2)):
  msM (.mk k 0 [] [a,b] p)=some (o1+o2,max (if A3b k a.kind 0=true then d1+1 else d1) (if A3b k b.kind 1=true then d2+1 else d2)):=by
 have hl:=B8p (k:=k) (by omega);have h1:kOk k=true:=by simp[kOk];left;omega
 have h2:N5 k=2:=by unfold N5;rw[if_neg (by omega),if_pos hk]
 simp_all[B0k,C1i,A5f,msM,msL];omega
theorem F3w{k:Int}{a:Ex}{o d:Nat}{p:Int}(hk:k=10\/k=11)(ha:msM a=some (o,d)):
  msM (.mk k 0 [] [a] p)=some (o,(if A3b k a.kind 0=true then d+1 else d)+1):=by
 have hl:=A8y hk;have h1:kOk k=true:=by simp[kOk];left;omega
 have h2:N5 k=1:=by unfold N5;rw[if_pos hl]
 simp_all[B0k,C1i,A5f,msM,msL];omega
theorem E1n{k v:Int}{n:List UInt8}{p:Int}(hk:B0 k=7)(h1:kOk k=true)(h3:B0k k n=true)(h4:A5f k v=true):msM (.mk k v n [] p)=some (1,0):=by
 simp_all[N5,msM]
section
variable {L:List Tok} {E:Int}
theorem L0{s:Rd}{t:List UInt8}(h:okR (D9 L E s t)=true):okR s=true:=(A4w (B4t h).1).1
theorem A1x{s:Rd}{k:Int}(h:okR (A8 L E s k).2=true):okR s=true:=(L8 (A4f h).1).1
theorem C7v{s:Rd}(h:okR (N3 L E s).2=true):okR s=true:=by
 unfold N3 at h;dsimp only at h;split at h
 ·grind[A4g]
 ·split at h
  ·grind
  ·rename_i h1;have h2:okR (C6 L E { s with ops:=s.ops+1 } (s.ops+1) 32 9)=true:=by grind
   exact(J6 (by simp) h2).1
theorem C4m(hG:∀t∈L,K8 t){s s':Rd}{e:Ex}(h:N3 L E s=(e,s'))(hok:okR s'=true)(hp:s.par<=16):SE 7 s e s':=by
 have hs:okR s=true:=C7v (L:=L) (E:=E) (by grind);have leaf:∀(k v:Int) (n:List UInt8) (p:Int),B0 k=7->kOk k=true->B0k k n=true->A5f k v=true->s.ops+1<=32->∀s2:Rd,s2.par=s.par->s2.ops=s.ops+1->SE 7 s (.mk k v n [] p) s2:=by
  intro k v n p q1 q2 q3 q4 q6 s2 q7 q8;refine⟨hs,q7,1,0,E1n q1 q2 q3 q4,a8,a8,.inl ⟨?_,by omega⟩⟩;show 7<=B0 k;omega
 unfold N3 at h;dsimp only at h;split at h
 ·grind[A4g]
 rename_i hc;split at h
 ·grind
 rename_i h1;have h2:okR (C6 L E { s with ops:=s.ops+1 } (s.ops+1) 32 9)=true:=j8
 obtain⟨-,h3,h4⟩:=J6 (by simp) h2;rw[h4]at h;split at h
 ·rename_i hk;obtain⟨-, -, -,hk7⟩:=K2 hk;have hk7:B8 L E s I0<7:=hk7;generalize B8 L E s I0=k at h hk hk7;split at h
  ·rename_i hk4;cases h;obtain⟨t1,t2⟩:=A4f hok;obtain⟨t3,t4⟩:=L8 t1;have hn:=(hG _ (O2 (by simp) t4).1).1 t4;rw[t2];have:k=4\/k=5\/k=6:=by omega
   rcases this with rfl|rfl|rfl
   ·exact leaf 5 _ _ _ (by rfl) (by rfl) hn (by rfl) h3 _ rfl rfl
   ·exact leaf 6 _ _ _ (by rfl) (by rfl) hn (by rfl) h3 _ rfl rfl
   ·exact leaf 7 _ _ _ (by rfl) (by rfl) hn (by rfl) h3 _ rfl rfl
  ·rename_i hk4;cases h;have:k=0\/k=1\/k=2\/k=3:=by omega
   rcases this with rfl|rfl|rfl|rfl
   all_goals exact leaf _ _ _ _ (by decide) (by decide) (by decide) (by decide) h3 _ rfl rfl
 ·rename_i hk;split at h
  ·rename_i hk3;cases h;have hn:=(hG _ (O2 (by decide) hk3).1).2.1 hk3;refine leaf 1 _ _ _ (by decide) (by decide) (by decide) ?_ h3 _ rfl rfl
   simp_all[A5f];omega
  ·rename_i hk3;cases h;have h1k:N9 L E s 1=true:=by
    grind[L8]
   have hn:=(hG _ (O2 (by simp) (L8 h1k).2).1).1 (L8 h1k).2;exact leaf 2 _ _ _ (by rfl) (by rfl) hn (by rfl) h3 _ rfl rfl
theorem OB.all:∀f:Nat,(∀n s r,Q1 L E f n s=some r->okR r.2=true->okR s=true)/\(∀n e s r,A0t L E f n e s=some r->okR r.2=true->okR s=true)/\(∀s r,A2k L E f s=some r->okR r.2=true->okR s=true)
 |0=>⟨λn s r h=>l9,λn e s r h=>l9,λs r h=>by trivial⟩
 |f+1=>by
  obtain⟨i1,i2,i3⟩:=OB.all f;refine⟨λn s r h k=>?_,λn e s r h k=>?_,λs r h k=>?_⟩
  ·grind[Q1]
  ·unfold A0t at h;dsimp only at h;split at h
   ·grind
   ·rename_i hk;exact(K2 (show 0<=B8 L E s C9 from Classical.byContradiction λg=>hk (.inl (by omega)))).1
  ·unfold A2k at h;dsimp only at h;split at h
   ·grind[C7v]
   ·rename_i hk;exact(K2 (show 0<=B8 L E s Q4 by omega)).1
theorem SE.weak{m n:Int}{s s':Rd}{e:Ex}(hmn:n<=m)(h:SE m s e s'):SE n s e s':=by
 obtain⟨h1,h2,o,d,h3,h4,h5,h6⟩:=h;exact⟨h1,h2,o,d,h3,h4,h5,h6.imp (λh=>⟨a8,h.2⟩) id⟩
theorem SE.all(hG:∀t∈L,K8 t):∀f:Nat,(∀n s r,1<=n->n<=6->Q1 L E f n s=some r->okR r.2=true->s.par<=16->SE n s r.1 r.2) /\
  (∀n m e s s0 r,1<=n->n<=5->(m=n+1\/m=n/\n≠3)->A0t L E f n e s=some r->okR r.2=true->SE m s0 e s->s0.par<=16->SE n s0 r.1 r.2) /\
  (∀s r,A2k L E f s=some r->okR r.2=true->s.par<=16->SE 6 s r.1 r.2)
 |0=>⟨λn s r _ _ h=>l9,λn m e s s0 r _ _ _ h=>l9,λs r h=>by trivial⟩
 |f+1=>by
  obtain⟨i1,i2,i3⟩:=SE.all hG f;refine⟨λn s r n1 n6 h k hp=>?_,λn m e s s0 r n1 n5 hm h k he hp=>?_,λs r h k hp=>?_⟩
  ·unfold Q1 at h;split at h
   ·grind
   ·rename_i hn;split at h
    ·grind
    ·rename_i e s1 hb;have k1:=(OB.all f).2.1 _ _ _ _ h k;have h1:=i1 _ _ _ (by omega) (by omega) hb k1 hp
     grind
  ·unfold A0t at h;dsimp only at h;split at h
   ·cases h;exact he.weak (by omega)
   ·rename_i hk;have hk0:0<=B8 L E s C9:=Classical.byContradiction λg=>hk (.inl (by omega));have hlv:B0 (12+B8 L E s C9)=n:=Classical.byContradiction λg=>hk (.inr g);split at h
    ·grind
    ·rename_i x s1 hb;obtain⟨e1,e2,o1,d1,e3,e4,e5,e6⟩:=he;have step:okR s1=true->SE n s0 (.mk (12+B8 L E s C9) 0 [] [e,x] (B1 L E s).pos) s1:=by
      intro k1;obtain⟨x1,x2,o2,d2,x3,x4,x5,x6⟩:=i1 _ _ _ (by omega) (by omega) hb k1 (by show s.par<=16;omega);have x2':s1.par=s.par:=x2;have x4':s1.ops=s.ops+(o2:Int):=x4;have x6':((n+1<=B0 x.kind/\s.par+(d2:Int)<=16)\/s.par+(d2:Int)+1<=16):=x6;refine⟨e1,a8,_,_,E9i (by omega) e3 x3,a8,x5,.inl ⟨?_,?_⟩⟩
      ·show n<=B0 (12+B8 L E s C9);omega
      ·have w1:s0.par+((if A3b (12+B8 L E s C9) e.kind 0=true then d1+1 else d1:Nat):Int)<=16:=by
        split
        ·rename_i hw;simp only[A3b,A1H,A0G,A0L,A1S,hlv]at hw;omega
        omega
       have w2:s0.par+((if A3b (12+B8 L E s C9) x.kind 1=true then d2+1 else d2:Nat):Int)<=16:=by
        split
        ·rename_i hw;simp only[A3b,A1H,A0G,A0L,A1S,hlv]at hw;omega
        omega
       omega
     split at h
     ·grind
     ·rename_i hn3;have k1:=(OB.all f).2.1 _ _ _ _ h k
      grind
  ·unfold A2k at h;dsimp only at h;split at h
   ·cases h;exact(C4m hG rfl k hp).weak (by simp)
   ·rename_i hk;obtain⟨hs,hi, -,hk3⟩:=K2 (show 0<=B8 L E s Q4 by omega);have hk3:B8 L E s Q4<3:=hk3;split at h
    ·grind
    rename_i hl;have hl:okR (C6 L E s (s.par+1) 16 50)=true:=j8
    obtain⟨-,h2,h3⟩:=J6 (by simp) hl;rw[h3]at h;split at h
    ·split at h
     ·grind
     ·rename_i e s3 hb;cases h;have k3:okR (D9 L E s3 [41])=true:=k;obtain⟨-,x2⟩:=B4t k3;obtain⟨e1,e2,o,d,e3,e4,e5,e6⟩:=i1 1 _ _ (by simp) (by simp) hb (L0 k3) (show s.par+1<=16 from h2);have e2':s3.par=s.par+1:=e2;have e4':s3.ops=s.ops+(o:Int):=e4;have e6':((1<=B0 e.kind/\s.par+1+(d:Int)<=16)\/s.par+1+(d:Int)+1<=16):=e6;rw[x2];refine⟨hs,by show s3.par-1=s.par;omega,o,d,e3,e4',e5,.inr (by omega)⟩
    ·rename_i hk2;split at h
     ·grind
     ·rename_i e s3 hb;cases h;have k3:okR s3=true:=k;obtain⟨e1,e2,o,d,e3,e4,e5,e6⟩:=i3 _ _ hb k3 (show s.par+1<=16 from h2);have e2':s3.par=s.par+1:=e2;have e4':s3.ops=s.ops+(o:Int):=e4;have e6':((6<=B0 e.kind/\s.par+1+(d:Int)<=16)\/s.par+1+(d:Int)+1<=16):=e6;have hk10:10+B8 L E s Q4=10\/10+B8 L E s Q4=11:=by omega
      refine⟨hs,j8,o,_,F3w hk10 e3,e4',e5,.inl ⟨?_,?_⟩⟩
      ·show 6<=B0 (10+B8 L E s Q4)
       grind[A8y]
      ·split
       ·rename_i hw;simp only[A3b,A1H,A0G,A0L,A1S,A8y hk10]at hw;omega
       omega
theorem U4(hG:∀t∈L,K8 t){f:Nat}{s:Rd}{r:Ex × Rd}(h:Z0 L E f s=some r)(hok:okR r.2=true):okR s=true/\Z9 r.1=true:=by
 obtain⟨h1,h2,o,d,h3,h4,h5,h6⟩:=(SE.all hG f).1 1 _ _ (by decide) (by decide) h hok (by decide:(0:Int)<=16);refine⟨h1,?_⟩
 simp_all[Z9];omega
end
section
variable {L:List Tok} {E:Int}
theorem W5(hG:∀t∈L,K8 t){s:Rd}(h:okR (A8 L E s 1).2=true):D8 (A8 L E s 1).1.text=true:=by
 obtain⟨h1,h2⟩:=A4f h;rw[h2];exact(hG _ (O2 (by simp) (L8 h1).2).1).1 (L8 h1).2
theorem B9z(hG:∀t∈L,K8 t){s:Rd}(h:okR (A8 L E s 3).2=true):0<=(A8 L E s 3).1.value/\(A8 L E s 3).1.value<=2147483647:=by
 obtain⟨h1,h2⟩:=A4f h;rw[h2];exact(hG _ (O2 (by simp) (L8 h1).2).1).2.1 (L8 h1).2
theorem D3u(hG:∀t∈L,K8 t){s:Rd}(h:okR (A8 L E s 4).2=true):Y7 (A8 L E s 4).1.text=true:=by
 obtain⟨h1,h2⟩:=A4f h;rw[h2];exact(hG _ (O2 (by simp) (L8 h1).2).1).2.2 (L8 h1).2
theorem A4b{d:Nat}{k p:Int}{n t:List UInt8}{a:List Ex}(h1:1<=k)(h2:k<=19)(h3:a.length=(O6 k).args)(h4:a.all Z9=true)
  (h5:(if(O6 k).name=true then D8 n else n == [])=true) (h6:(if(O6 k).text=true then Y7 t else t == [])=true):V5 d (.mk k n t a [] [] p)=true:=by
 simp_all[V5,I8]
theorem C3x(hG:∀t∈L,K8 t){f:Nat}{k p:Int}{s:Rd}{r:St × Rd}(d:Nat)(hk4:4<=k)(hk:k<=19)(h:N6 L E f k p s=some r)(hok:okR r.2=true):okR s=true/\V5 d r.1=true:=by
 unfold N6 at h;dsimp only at h;split at h
 ·rename_i hk;subst hk;split at h
  ·grind
  ·rename_i e s1 he;cases h;obtain⟨h1,h2⟩:=U4 hG he (L0 hok);exact⟨h1,A4b (by simp) (by simp) rfl (by grind) rfl rfl⟩
 split at h
 ·rename_i hk;subst hk;split at h
  ·grind
  ·rename_i e s1 he;cases h;obtain⟨h1,h2⟩:=U4 hG he (L0 hok);have h3:=L0 h1;exact⟨A1x h3,A4b (by simp) (by simp) rfl (by grind) rfl (D3u hG h3)⟩
 split at h
 ·rename_i hk;subst hk;cases h;exact⟨L0 hok,A4b (by simp) (by simp) rfl rfl rfl rfl⟩
 rename_i n4 n18 n19;split at h
 ·rename_i hk;split at h
  ·grind
  ·rename_i e s1 he;split at h
   ·rename_i hk9;subst hk9;split at h
    ·grind
    ·rename_i e2 s2 he2;cases h;obtain⟨h1,h2⟩:=U4 hG he2 (L0 hok);obtain⟨h3,h4⟩:=U4 hG he (L0 h1);exact⟨A1x h3,A4b (by simp) (by simp) rfl (by grind) (W5 hG h3) rfl⟩
   ·rename_i hk9;cases h;obtain⟨h1,h2⟩:=U4 hG he (L0 hok);have:k=8\/k=10:=by omega
    rcases this with rfl|rfl
    all_goals exact⟨A1x h1,A4b (by decide) (by decide) rfl (by simp[h2]) (W5 hG h1) rfl⟩
 ·rename_i hk8;cases h;have h1:=L0 hok;have hs:O6 k=⟨true,false,0,false,false⟩:=by
   unfold O6;rw[if_neg (by omega),if_neg (by omega),if_neg (by omega),if_neg (by omega),if_neg (by omega),if_neg (by omega),if_neg (by omega)]
  grind[A1x,A4b,W5]
theorem B3d{d:Nat}:∀ {l:List St} {x:St},I8 d (l++[x])=(I8 d l&&V5 d x)
 |[],x=>by simp[I8]
 |a::l,x=>by rw[List.cons_append,I8,I8,B3d,Bool.and_assoc]
theorem B9s{d:Nat}{k p:Int}{e:Ex}{t o:List St}(hk:k=2\/k=3)(he:Z9 e=true)(ht:T4 t (d+1)=true)(ho:T4 o (d+1)=true)(h3:k=3->o=[]):V5 d (.mk k [] [] [e] t o p)=true:=by
 grind[T4,V5,O6]
theorem SS.all(hG:∀t∈L,K8 t):∀f:Nat,(∀(d:Nat) s r,W8 L E f d s=some r->okR r.2=true->okR s=true/\T4 r.1 d=true) /\
  (∀(d:Nat) l s r,A0z L E f d l s=some r->okR r.2=true->okR s=true/\(I8 d l=true->l.length<=64->(l=[]\/d<=8)->T4 r.1 d=true)) /\
  (∀(d:Nat) s r,A1l L E f d s=some r->okR r.2=true->okR s=true/\d<=8/\V5 d r.1=true) /\
  (∀(d:Nat) s r,A1h L E f d s=some r->okR r.2=true->okR s=true/\T4 r.1 (d+1)=true)
 |0=>⟨λd s r h=>l9,λd l s r h=>l9,λd s r h=>l9,λd s r h=>by trivial⟩
 |f+1=>by
  obtain⟨i1,i2,i3,i4⟩:=SS.all hG f;have hd1:∀d:Nat,(d:Int)+1=((d+1:Nat):Int):=λd=>by rfl
  refine⟨λd s r h k=>?_,λd l s r h k=>?_,λd s r h k=>?_,λd s r h k=>?_⟩
  ·unfold W8 at h;obtain⟨h1,h2⟩:=i2 _ _ _ _ h k;exact⟨L0 h1,h2 rfl (by simp) (.inl rfl)⟩
  ·unfold A0z at h;split at h
   ·rename_i hc;refine⟨hc.1,λh1 h2 h3=>?_⟩;split at h
    ·grind[A4g]
    ·split at h
     ·grind
     ·rename_i x s1 he;obtain⟨h4,h5⟩:=i2 _ _ _ _ h k;obtain⟨h6,h7,h8⟩:=i3 _ _ _ he h4;obtain⟨-,h9, -⟩:=J6 (by decide) h6<;>grind[B3d]
   ·cases h;refine⟨L0 k,λh1 h2 h3=>?_⟩;unfold T4
    grind
  ·unfold A1l at h;dsimp only at h;split at h
   ·grind
   rename_i hl;have hl:okR (C6 L E s d 8 50)=true:=j8
   obtain⟨hs,hd,hle⟩:=J6 (by simp) hl;rw[hle]at h;refine⟨hs,a8,?_⟩;split at h
   ·split at h
    ·grind
    ·rename_i e s1 he;cases h;obtain⟨h1,h2⟩:=U4 hG he (L0 k);exact A4b (by simp) (by simp) rfl (by grind) (W5 hG (L0 h1)) rfl
   ·rename_i hk;obtain⟨-,hi, -,hk18⟩:=K2 (show 0<=B8 L E s B7 by omega);have hk18:B8 L E s B7<18:=hk18;generalize B8 L E s B7=q at h hk hk18;split at h
    ·rename_i hq;split at h
     ·grind
     ·rename_i e s2 he;split at h
      ·grind
      ·rename_i t s3 ht;rw[hd1]at ht;split at h
       ·rename_i hc;split at h
        ·grind
        ·rename_i o s4 ho;cases h;obtain⟨o1,o2⟩:=i4 _ _ _ ho k;obtain⟨t1,t2⟩:=i1 _ _ _ ht (show okR s3=true from o1);obtain⟨e1,e2⟩:=U4 hG he t1<;>grind[B9s]
       ·cases h;obtain⟨t1,t2⟩:=i1 _ _ _ ht k;obtain⟨e1,e2⟩:=U4 hG he t1<;>grind[B9s,T4,I8]
    ·rename_i hq;exact(C3x hG d (by omega) (by omega) h k).2
  ·unfold A1h at h;rw[hd1]at h;split at h
   ·split at h
    ·grind
    ·rename_i x s1 he;cases h;obtain⟨h1,h2,h3⟩:=i3 _ _ _ he k;refine⟨h1,?_⟩;unfold T4;simp only[A0G,A1H,A0L]
     grind[I8]
   ·exact i1 _ _ _ h k
theorem D2d(hG:∀t∈L,K8 t){k:Int}{s:Rd}(h0:0<=k)(h8:k<8)(h:okR (Z3 L E k s).2=true):A2j (Z3 L E k s).1=true:=by
 have key:∀d:Dc,1<=d.kind->d.kind<=8->D8 d.name=true->(if d.kind=6 then -2147483647 else 0)<=d.value->d.value<=(if d.kind=7\/d.kind=8 then 0 else 2147483647)->A2j d=true:=by
  simp_all[A2j]
 unfold Z3 at h ⊢;dsimp only at h ⊢;split at h
 ·rename_i hk;rw[if_pos hk];have h1:=L0 h;obtain⟨n0,n1⟩:=B9z hG h1;have h2:=A1x h1;have h3:okR (A8 L E (A5 s) 1).2=true:=by
   split at h2
   ·exact h2
   ·exact h2
  refine key _ (by dsimp only;omega) (by dsimp only;omega) (W5 hG h3) ?_ ?_
  ·dsimp only;generalize (A8 L E (if(k+1==6&&isR L E (A8 L E (A5 s) 1).2 [45])=true then A5 (A8 L E (A5 s) 1).2 else(A8 L E (A5 s) 1).2) 3).1.value=w at n0 n1 ⊢;by_cases h6:k+1=6
   ·rw[if_pos (by omega)];split<;>omega
   ·rw[if_neg (by omega),if_neg (by simp[h6])];exact n0
  grind
 ·rename_i hk;rw[if_neg hk];have h3:=L0 h;refine key _ (by dsimp only;omega) (by dsimp only;omega) (W5 hG h3) ?_ ?_
  ·dsimp only;rw[if_neg (by omega)];decide
  grind
theorem B6r(hG:∀t∈L,K8 t):∀(f:Nat) (l:List Hd) (s:Rd) (r:List Hd × Rd),A2a L E f l s=some r->okR r.2=true->okR s=true/\(l.length<=32->l.all A4c=true->r.1.length<=32/\r.1.all A4c=true)
 |0,l,s,r,h,_=>l9
 |f+1,l,s,r,h,k=>by
  unfold A2a at h;dsimp only at h;split at h
  ·rename_i hc;refine⟨hc.1,λh1 h2=>?_⟩;split at h
   ·cases h;rw[A4g]at k;cases k
   split at h
   ·cases h;rw[A4g]at k;cases k
   rename_i hk;obtain⟨hok2,hi2, -,hk6⟩:=K2 (show 0<=B8 L E (D9 L E (C6 L E s ((l.length:Int)+1) 32 9) [111,110]) F8 by omega);have hk6:B8 L E (D9 L E (C6 L E s ((l.length:Int)+1) 32 9) [111,110]) F8<6:=hk6;obtain⟨-,hll, -⟩:=J6 (by decide) (L0 hok2);generalize B8 L E (D9 L E (C6 L E s ((l.length:Int)+1) 32 9) [111,110]) F8=q at h hk hk6;split at h
   ·cases h
   ·rename_i b s5 hb;obtain⟨m1,m2⟩:=B6r hG f _ _ _ h k;obtain⟨b1,b2⟩:=(SS.all hG f).1 1 _ _ hb m1;refine m2 (by simp only[A0A,A0I];omega) ?_;rw[List.all_append,h2,A2D];simp only[A2Q,List.all_nil,A3I,A4c,A0G,A0L];refine⟨⟨⟨a8,by omega⟩,?_⟩,b2⟩;by_cases hq:2<=q
    ·rw[if_pos (by omega),if_pos hq];rw[if_pos hq]at b1;exact W5 hG b1
    ·rw[if_neg (by omega),if_neg hq];rfl
  grind[L0]
theorem D1d(hG:∀t∈L,K8 t){f:Nat}{s:Rd}{r:Md × Rd}(h:A6u L E f s=some r)(k:okR r.2=true):okR s=true/\X4 r.1=true:=by
 unfold A6u at h;dsimp only at h;split at h
 ·grind
 ·rename_i l s3 hm;cases h;obtain⟨m1,m2⟩:=B6r hG _ _ _ _ hm k;obtain⟨m3,m4⟩:=m2 (by simp) rfl;have h1:=L0 m1;have h2:=A1x h1;obtain⟨n0,n1⟩:=B9z hG h1;refine⟨L0 (A1x h2),?_⟩
  simp_all[X4,W5]
theorem B0d(hG:∀t∈L,K8 t):∀(f:Nat) (l:List Dc) (s:Rd) (r:List Dc × Rd),A1d L E f l s=some r->okR r.2=true->okR s=true/\(l.length<=128->l.all A2j=true->r.1.length<=128/\r.1.all A2j=true)
 |0,l,s,r,h,_=>l9
 |f+1,l,s,r,h,k=>by
  unfold A1d at h;dsimp only at h;split at h
  ·grind
  ·rename_i hk;obtain⟨hs,hi, -,hk8⟩:=K2 (show 0<=B8 L E s F0 by omega);have hk8:B8 L E s F0<8:=hk8;refine⟨hs,λh1 h2=>?_⟩;split at h
   ·rename_i hl;obtain⟨-,hll,hle⟩:=J6 (by simp) hl;obtain⟨m1,m2⟩:=B0d hG f _ _ _ h k;exact m2 (by grind) (by simp_all[D2d])
   ·rename_i hl;obtain⟨m1,m2⟩:=B0d hG f _ _ _ h k<;>simp_all
theorem B0c(hG:∀t∈L,K8 t):∀(f:Nat) (l:List Md) (s:Rd) (r:List Md × Rd),A0r L E f l s=some r->okR r.2=true->okR s=true/\(l.length<=16->l.all X4=true->r.1.length<=16/\r.1.all X4=true)
 |0,l,s,r,h,_=>l9
 |f+1,l,s,r,h,k=>by
  unfold A0r at h;dsimp only at h;split at h
  ·rename_i hc;refine⟨hc.1,λh1 h2=>?_⟩;split at h
   ·cases h;rw[A4g]at k;cases k
   split at h
   ·rename_i hl;split at h
    ·cases h
    ·rename_i m s2 hm;obtain⟨m1,m2⟩:=B0c hG f _ _ _ h k;obtain⟨q1,q2⟩:=D1d hG hm m1;obtain⟨-,hll,hle⟩:=J6 (by decide) hl;exact m2 (by simp only[A0A,A0I];omega) (by rw[List.all_append,h2,A2D,A2Q,q2];rfl)
   ·rename_i hl;obtain⟨m1,m2⟩:=B0c hG f _ _ _ h k;exact absurd m1 hl
  grind
theorem B6g(hG:∀t∈L,K8 t){f:Nat}{s:Rd}{r:Ru × Rd}(h:B1r L E f s=some r)(k:okR r.2=true):X3 r.1=true:=by
 unfold B1r at h;split at h
 ·grind
 ·rename_i d s1 hd;split at h
  ·grind
  ·rename_i m s2 hm;cases h;obtain⟨m1,m2⟩:=B0c hG _ _ _ _ hm k;obtain⟨m3,m4⟩:=m2 (by simp) rfl;obtain⟨d1,d2⟩:=B0d hG _ _ _ _ hd m1<;>simp_all[X3]
end
section
variable {L:List Tok} {E:Int}
theorem E5o{k:Int}{s:Rd}(hi:s.i<L.length):(Z3 L E k s).2.i<=L.length:=by
 have hn:(A5 s).i<=L.length:=hi;have h2:=Q8 (E:=E) (x:=1) (by simp) hn;unfold Z3;dsimp only;split
 ·refine O5 (Q8 (by decide) ?_);split
  ·rename_i hm;rw[A0G]at hm;exact(A4w hm.2).2
  omega
 ·exact O5 h2
theorem E5a:∀(f:Nat) (l:List Hd) (s:Rd) (r:List Hd × Rd),A2a L E f l s=some r->s.i<=L.length->r.2.i<=L.length
 |0,l,s,r,h,hi=>l9
 |f+1,l,s,r,h,hi=>by
  unfold A2a at h;dsimp only at h;split at h
  ·split at h
   ·cases h;rw[A0p];exact hi
   ·have h1:(C6 L E s ((l.length:Int)+1) 32 9).i<=L.length:=by rw[J4];exact hi
    have h2:=O5 (E:=E) (x:=[111,110]) h1;split at h
    ·cases h;rw[A0p];exact h2
    ·rename_i hk;have h3:(A5 (D9 L E (C6 L E s ((l.length:Int)+1) 32 9) [111,110])).i<=L.length:=(K2 (show 0<=B8 L E (D9 L E (C6 L E s ((l.length:Int)+1) 32 9) [111,110]) F8 by omega)).2.1;split at h
     ·cases h
     ·rename_i hb;refine E5a f _ _ _ h ((II.all f).1 _ _ _ hb ?_);split
      ·exact Q8 (by decide) h3
      ·exact h3
  grind[O5]
theorem E4z{f:Nat}{s:Rd}{r:Md × Rd}(h:A6u L E f s=some r)(hi:s.i<=L.length):r.2.i<=L.length:=by
 unfold A6u at h;dsimp only at h;split at h
 ·grind
 ·rename_i hm;cases h;exact E5a f _ _ _ hm (O5 (Q8 (by simp) (Q8 (by simp) (O5 hi))))
theorem D4x:∀(f:Nat) (l:List Dc) (s:Rd) (r:List Dc × Rd),A1d L E f l s=some r->s.i<=L.length->r.2.i<=L.length
 |0,l,s,r,h,hi=>l9
 |f+1,l,s,r,h,hi=>by
  unfold A1d at h;dsimp only at h;split at h
  ·grind
  ·rename_i hk;have hlt:=(K2 (show 0<=B8 L E s F0 by omega)).2.1;split at h
   ·exact D4x f _ _ _ h (E5o (by grind[J4]))
   ·exact D4x f _ _ _ h (by grind[J4])
theorem D4v:∀(f:Nat) (l:List Md) (s:Rd) (r:List Md × Rd),A0r L E f l s=some r->s.i<=L.length->r.2.i<=L.length
 |0,l,s,r,h,hi=>l9
 |f+1,l,s,r,h,hi=>by
  unfold A0r at h;dsimp only at h;split at h
  ·split at h
   ·cases h;rw[A0p];exact hi
   ·split at h
    ·split at h
     ·cases h
     ·rename_i hm;exact D4v f _ _ _ h (E4z hm (by rw[J4];exact hi))
    ·exact D4v f _ _ _ h (by rw[J4];exact hi)
  grind
end
def Evt{α:Type}(g:Nat->Option α)(r : α):Prop:=∃N, ∀f,N<=f->g f=some r
theorem Evt.one{α:Type}{g:Nat->Option α}{r : α}(h:∀f,g (f+1)=some r):Evt g r :=
 ⟨1,λf hf=>by obtain⟨k,rfl⟩:∃k,f=k+1:=⟨f-1,by omega⟩<;>simp_all⟩
theorem Evt.ext{α β:Type}{g:Nat->Option α}{h:Nat->Option β}{r : α}{q : β}(hg:Evt g r)(e:∀f,g f=some r->h (f+1)=some q):Evt h q:=by
 obtain⟨N,hg⟩:=hg;exact⟨N+1,λf hf=>by obtain⟨k,rfl⟩:∃k,f=k+1:=⟨f-1,by omega⟩<;>simp_all⟩
theorem Evt.map{α β:Type}{g:Nat->Option α}{h:Nat->Option β}{r : α}{q : β}(hg:Evt g r)(e:∀f,g f=some r->h f=some q):Evt h q:=by
 obtain⟨N,hg⟩:=hg;exact⟨N,λf hf=>e f (hg f hf)⟩
theorem Evt.and{α β:Type}{g:Nat->Option α}{h:Nat->Option β}{r : α}{q : β}(hg:Evt g r)(hh:Evt h q):Evt (λf=>match g f,h f with|some a,some b=>some (a,b)|_,_=>none) (r,q):=by
 obtain⟨N,hg⟩:=hg;obtain⟨M,hh⟩:=hh;exact⟨max N M,λf hf=>by grind⟩
theorem Evt.ext2{α β γ:Type}{g:Nat->Option α}{h:Nat->Option β}{k:Nat->Option γ}{r : α}{q : β}{w : γ}(hg:Evt g r)(hh:Evt h q)(e:∀f,g f=some r->h f=some q->k (f+1)=some w):Evt k w:=by
 obtain⟨N,hg⟩:=hg;obtain⟨M,hh⟩:=hh;exact⟨max N M+1,λf hf=>by obtain⟨j,rfl⟩:∃j,f=j+1:=⟨f-1,by omega⟩<;>grind⟩
theorem Evt.map2{α β γ:Type}{g:Nat->Option α}{h:Nat->Option β}{k:Nat->Option γ}{r : α}{q : β}{w : γ}(hg:Evt g r)(hh:Evt h q)(e:∀f,g f=some r->h f=some q->k f=some w):Evt k w:=by
 obtain⟨N,hg⟩:=hg;obtain⟨M,hh⟩:=hh;exact⟨max N M,λf hf=>e f (hg f (by omega)) (hh f (by omega))⟩
theorem Evt.uniq{α:Type}{g:Nat->Option α}{r q : α}(h1:Evt g r)(h2:Evt g q):r=q:=by
 obtain⟨N,h1⟩:=h1;obtain⟨M,h2⟩:=h2;exact Option.some.inj ((h1 (max N M) (by omega)).symm.trans (h2 (max N M) (by omega)))
theorem Evt.get{α:Type}{g:Nat->Option α}{r : α}(h:Evt g r):∃f,g f=some r:=by
 obtain⟨N,h⟩:=h;exact⟨N,h N (A0E _)⟩
section
variable {L:List Tok} {E:Int}
abbrev Bin(L:List Tok)(E n:Int)(s:Rd)(r:Ex × Rd):Prop:=Evt (λf=>Q1 L E f n s) r
abbrev Lop(L:List Tok)(E n:Int)(e:Ex)(s:Rd)(r:Ex × Rd):Prop:=Evt (λf=>A0t L E f n e s) r
abbrev Un(L:List Tok)(E:Int)(s:Rd)(r:Ex × Rd):Prop:=Evt (λf=>A2k L E f s) r
theorem Bin.un{n:Int}{s:Rd}{r:Ex × Rd}(hn:5<n)(h:Un L E s r):Bin L E n s r :=
 h.ext λf h=>by simp_all[Q1]
theorem Bin.go{n:Int}{s s1:Rd}{e:Ex}{r:Ex × Rd}(hn:n<=5)(h:Bin L E (n+1) s (e,s1))(h2:Lop L E n e s1 r):Bin L E n s r :=
 h.ext2 h2 λf h h2=>by simp_all[Q1,if_neg]
theorem Lop.stop{n:Int}{e:Ex}{s:Rd}(h:B8 L E s C9<0\/B0 (12+B8 L E s C9)≠n):Lop L E n e s (e,s) :=
 Evt.one λf=>by simp_all[A0t]
theorem Lop.three{n:Int}{e x:Ex}{s s1:Rd}(h0:0<=B8 L E s C9)(h1:B0 (12+B8 L E s C9)=n)(hn:n=3)(hb:Bin L E (n+1) (A5 s) (x,s1)):Lop L E n e s (.mk (12+B8 L E s C9) 0 [] [e,x] (B1 L E s).pos,s1) :=
 hb.ext λf h=>by simp_all[A0t,if_neg]
theorem Lop.more{n:Int}{e x:Ex}{s s1:Rd}{r:Ex × Rd}(h0:0<=B8 L E s C9)(h1:B0 (12+B8 L E s C9)=n)(hn:n≠3)(hb:Bin L E (n+1) (A5 s) (x,s1))(hl:Lop L E n (.mk (12+B8 L E s C9) 0 [] [e,x] (B1 L E s).pos) s1 r):Lop L E n e s r :=
 hb.ext2 hl λf h h2=>by simp_all[A0t,if_neg]
theorem Un.prim{s:Rd}(h:B8 L E s Q4<0):Un L E s (N3 L E s) :=
 Evt.one λf=>by simp_all[A2k]
theorem Un.bad{s:Rd}(h:0<=B8 L E s Q4)(hl:okR (C6 L E s (s.par+1) 16 50)=false):Un L E s (Ex0,C6 L E s (s.par+1) 16 50) :=
 Evt.one λf=>by simp_all[A2k,if_neg]
theorem Un.par{s s3:Rd}{e:Ex}(h:B8 L E s Q4=2)(hl:okR (C6 L E s (s.par+1) 16 50)=true)(hb:Bin L E 1 { s with i:=s.i+1,par:=s.par+1 } (e,s3)):Un L E s (e, { D9 L E s3 [41] with par:=(D9 L E s3 [41]).par-1 }) :=
 hb.ext λf hf=>by
  have e0:=(J6 (by decide) hl).2.2
  simp_all[A2k]
theorem Un.pre{s s3:Rd}{e:Ex}(h0:0<=B8 L E s Q4)(h:B8 L E s Q4≠2)(hl:okR (C6 L E s (s.par+1) 16 50)=true)(hb:Un L E { s with i:=s.i+1,par:=s.par+1 } (e,s3)):Un L E s (.mk (10+B8 L E s Q4) 0 [] [e] (B1 L E s).pos, { s3 with par:=s3.par-1 }) :=
 hb.ext λf hf=>by
  have e0:=(J6 (by decide) hl).2.2
  simp_all[A2k,if_neg]
theorem H4{s:Rd}{x:List UInt8}:s.i<=(D9 L E s x).i:=by
 unfold D9;cases k:isR L E s x with
 |false=>simp[A0p]
 |true=>rw[if_neg (by simp)];exact A2M _
theorem O0{s:Rd}{x:Int}:s.i<=(A8 L E s x).2.i:=by
 unfold A8;cases k:N9 L E s x with
 |false=>rw[if_pos rfl];show s.i<=(X6 L E s).i;simp[A0p]
 |true=>rw[if_neg (by simp)];exact A2M _
theorem C7w{s:Rd}:s.i<=(N3 L E s).2.i:=by
 unfold N3;dsimp only;have h2:(C6 L E { s with ops:=s.ops+1 } (s.ops+1) 32 9).i=s.i:=J4;have h3:(A5 (C6 L E { s with ops:=s.ops+1 } (s.ops+1) 32 9)).i=s.i+1:=by show(C6 L E { s with ops:=s.ops+1 } (s.ops+1) 32 9).i+1=_;omega
 split
 ·show s.i<=(X6 L E s).i;simp[A0p]
 ·split
  ·show s.i<=(C6 L E { s with ops:=s.ops+1 } (s.ops+1) 32 9).i;rw[h2];exact A0E _
  grind[O0]
theorem ET.all:∀(m:Nat),(∀s:Rd,L.length-s.i<=m->∃r,Un L E s r/\s.i<=r.2.i)/\(∀(n:Int) e (s:Rd),n<=5->1<=n->L.length-s.i<=m->∃r,Lop L E n e s r/\s.i<=r.2.i)/\(∀(n:Int) (s:Rd),1<=n->L.length-s.i<=m->∃r,Bin L E n s r/\s.i<=r.2.i):=by
 intro m
 induction m using Nat.strongRecOn with
 |_ m ih =>
  have A:∀s:Rd,L.length-s.i<=m->∃r,Un L E s r/\s.i<=r.2.i:=by
   intro s hs;by_cases hk:B8 L E s Q4<0
   ·exact⟨_,Un.prim hk,C7w⟩
   ·obtain⟨-,hi, -⟩:=K2 (show 0<=B8 L E s Q4 by omega);cases hl:okR (C6 L E s (s.par+1) 16 50) with
    |false=>exact⟨_,Un.bad (by omega) hl,by show s.i<=(C6 L E s (s.par+1) 16 50).i;simp[J4]⟩
    |true =>
     by_cases h2:B8 L E s Q4=2
     ·obtain⟨⟨e,s3⟩,hb,hge⟩:=(ih (m-1) (by omega)).2.2 1 { s with i:=s.i+1,par:=s.par+1 } (by decide) (by show L.length-(s.i+1)<=m-1;omega);refine⟨_,Un.par h2 hl hb,?_⟩
      grind[H4]
     ·obtain⟨⟨e,s3⟩,hb,hge⟩:=(ih (m-1) (by omega)).1 { s with i:=s.i+1,par:=s.par+1 } (by show L.length-(s.i+1)<=m-1;omega);refine⟨_,Un.pre (by omega) h2 hl hb,?_⟩
      grind
  have B:∀(n:Int) e (s:Rd),n<=5->1<=n->L.length-s.i<=m->∃r,Lop L E n e s r/\s.i<=r.2.i:=by
   intro n e s h5 h1 hs;by_cases hk:B8 L E s C9<0\/B0 (12+B8 L E s C9)≠n
   ·exact⟨_,Lop.stop hk,A0E _⟩
   ·have h0:0<=B8 L E s C9:=by omega
    obtain⟨-,hi, -⟩:=K2 h0;obtain⟨⟨x,s1⟩,hb,hge⟩:=(ih (m-1) (by omega)).2.2 (n+1) (A5 s) (by omega) (by show L.length-(s.i+1)<=m-1;omega);have hge:s.i+1<=s1.i:=hge;by_cases h3:n=3
    ·exact⟨_,Lop.three h0 (by omega) h3 hb,by grind⟩
    ·obtain⟨r,hl,hg2⟩:=(ih (m-1) (by omega)).2.1 n (.mk (12+B8 L E s C9) 0 [] [e,x] (B1 L E s).pos) s1 h5 h1 (by omega);exact⟨_,Lop.more h0 (by omega) h3 hb hl,by omega⟩
  refine⟨A,B,?_⟩;have C:∀(j:Nat) (n:Int) (s:Rd),6-n<=j->1<=n->L.length-s.i<=m->∃r,Bin L E n s r/\s.i<=r.2.i:=by
   intro j
   induction j with
   |zero =>
    intro n s hj h1 hs;obtain⟨r,h,hg⟩:=A s hs;exact⟨r,Bin.un (by omega) h,hg⟩
   |succ j ihj =>
    intro n s hj h1 hs;by_cases h5:5<n
    ·grind
    ·obtain⟨⟨e,s1⟩,h,hg⟩:=ihj (n+1) s (by omega) (by omega) hs;have hg:s.i<=s1.i:=hg;obtain⟨r,h2,hg2⟩:=B n e s1 (by omega) h1 (by omega);exact⟨r,Bin.go (by omega) h h2,by omega⟩
  exact λn s h1 hs=>C (6-n).toNat n s (by omega) h1 hs
abbrev Xpn(L:List Tok)(E:Int)(s:Rd)(r:Ex × Rd):Prop:=Evt (λf=>Z0 L E f s) r
theorem A5y(s:Rd):∃r,Xpn L E s r/\s.i<=r.2.i:=by
 obtain⟨r,h,hg⟩:=(ET.all (L:=L) (E:=E) (L.length-s.i)).2.2 1 { s with ops:=0,par:=0 } (by simp) (A0E _);exact⟨r,h,hg⟩
theorem D3v(k p:Int)(s:Rd):∃r,Evt (λf=>N6 L E f k p s) r/\s.i<=r.2.i:=by
 by_cases h4:k=4
 ·obtain⟨⟨e,s1⟩,h,hg⟩:=A5y (L:=L) (E:=E) s;exact⟨_,h.map λf h=>by unfold N6;rw[if_pos h4,h],A1B hg H4⟩
 by_cases h18:k=18
 ·obtain⟨⟨e,s1⟩,h,hg⟩:=A5y (L:=L) (E:=E) (D9 L E (A8 L E s 4).2 [44]);exact⟨_,h.map λf h=>by unfold N6;rw[if_neg h4,if_pos h18,h],A1B (A1B O0 (A1B H4 hg)) H4⟩
 by_cases h19:k=19
 ·exact⟨_,Evt.one λf=>by unfold N6;rw[if_neg h4,if_neg h18,if_pos h19],H4⟩
 by_cases h8:k=8\/k=9\/k=10
 ·obtain⟨⟨e,s1⟩,h,hg⟩:=A5y (L:=L) (E:=E) (A8 L E s 1).2;by_cases h9:k=9
  ·obtain⟨⟨e2,s2⟩,h2,hg2⟩:=A5y (L:=L) (E:=E) (D9 L E s1 [44]);exact⟨_,h.map2 h2 λf h h2=>by unfold N6;rw[if_neg h4,if_neg h18,if_neg h19];dsimp only;rw[if_pos h8,h];dsimp only;rw[if_pos h9,h2],A1B (A1B O0 (A1B hg (A1B H4 hg2))) H4⟩
  ·exact⟨_,h.map λf h=>by unfold N6;rw[if_neg h4,if_neg h18,if_neg h19];dsimp only;rw[if_pos h8,h];dsimp only;rw[if_neg h9],A1B (A1B O0 hg) H4⟩
 ·exact⟨_,Evt.one λf=>by unfold N6;rw[if_neg h4,if_neg h18,if_neg h19];dsimp only;rw[if_neg h8],A1B O0 H4⟩
abbrev A9u(L:List Tok)(E d:Int)(s:Rd)(r:List St × Rd):Prop:=Evt (λf=>W8 L E f d s) r
abbrev A1f(L:List Tok)(E d:Int)(l:List St)(s:Rd)(r:List St × Rd):Prop:=Evt (λf=>A0z L E f d l s) r
abbrev R0(L:List Tok)(E d:Int)(s:Rd)(r:St × Rd):Prop:=Evt (λf=>A1l L E f d s) r
abbrev A9t(L:List Tok)(E d:Int)(s:Rd)(r:List St × Rd):Prop:=Evt (λf=>A1h L E f d s) r
theorem A9u.mk{d:Int}{s:Rd}{r:List St × Rd}(h:A1f L E d [] (D9 L E s [123]) r):A9u L E d s r :=
 h.ext λf h=>z6
theorem A1f.stop{d:Int}{l:List St}{s:Rd}(h:¬(okR s=true/\isR L E s [125]=false)):A1f L E d l s (l,D9 L E s [125]) :=
 Evt.one λf=>by simp_all[A0z]
theorem A1f.bad{d:Int}{l:List St}{s:Rd}(h:okR s=true/\isR L E s [125]=false)(h2:B8 L E s B7<0/\N9 L E s 1=false):A1f L E d l s ([],X6 L E s) :=
 Evt.one λf=>by simp_all[A0z]
theorem A1f.more{d:Int}{l:List St}{s s1:Rd}{x:St}{r:List St × Rd}(h:okR s=true/\isR L E s [125]=false)(h2:¬(B8 L E s B7<0/\N9 L E s 1=false))(hx:R0 L E d (C6 L E s ((l.length:Int)+1) 64 9) (x,s1))(hl:A1f L E d (l++[x]) s1 r):A1f L E d l s r :=
 hx.ext2 hl λf hx hl=>by simp_all[A0z]
theorem R0.bad{d:Int}{s:Rd}(h:okR (C6 L E s d 8 50)=false):R0 L E d s (St0,C6 L E s d 8 50) :=
 Evt.one λf=>by simp_all[A1l]
theorem R0.set{d:Int}{s s1:Rd}{e:Ex}(h:okR (C6 L E s d 8 50)=true)(hk:B8 L E s B7<0)(he:Xpn L E (D9 L E (A8 L E s 1).2 [61]) (e,s1)):R0 L E d s (.mk 1 (A8 L E s 1).1.text [] [e] [] [] (B1 L E s).pos,D9 L E s1 [59]) :=
 he.ext λf hf=>by
  have e0:=(J6 (by decide) h).2.2
  simp_all[A1l]
theorem R0.els{d:Int}{s s2 s3 s4:Rd}{e:Ex}{t o:List St}(h:okR (C6 L E s d 8 50)=true)(hk:B8 L E s B7=0)(he:Xpn L E (A5 s) (e,s2))(ht:A9u L E (d+1) s2 (t,s3))(hi:isR L E s3 [101,108,115,101]=true)(ho:A9t L E d (A5 s3) (o,s4)):R0 L E d s (.mk 2 [] [] [e] t o (B1 L E s).pos,s4) :=
 (he.and ht).ext2 ho λf hf h2=>by
  have e0:=(J6 (by simp) h).2.2;cases h3:Z0 L E f (A5 s) with
  |none=>grind
  |some q =>
   cases h4:W8 L E f (d+1) s2 with
   |none=>grind
   |some w =>
    rw[h3,h4]at hf;obtain⟨rfl,rfl⟩:=Prod.mk.inj (Option.some.inj hf)
    simp_all[A1l]
theorem R0.blk{d:Int}{s s2 s3:Rd}{e:Ex}{t:List St}(h:okR (C6 L E s d 8 50)=true)(hk:B8 L E s B7=0\/B8 L E s B7=1)(he:Xpn L E (A5 s) (e,s2))(ht:A9u L E (d+1) s2 (t,s3))(hi:¬(B8 L E s B7=0/\isR L E s3 [101,108,115,101]=true)):R0 L E d s (.mk (2+B8 L E s B7) [] [] [e] t [] (B1 L E s).pos,s3) :=
 he.ext2 ht λf h3 h4=>by
  have e0:=(J6 (by decide) h).2.2
  simp_all[A1l,if_neg];omega
theorem R0.tail{d:Int}{s:Rd}{r:St × Rd}(h:okR (C6 L E s d 8 50)=true)(hk:2<=B8 L E s B7)(he:Evt (λf=>N6 L E f (2+B8 L E s B7) (B1 L E s).pos (A5 s)) r):R0 L E d s r :=
 he.ext λf h3=>by
  have e0:=(J6 (by decide) h).2.2;rw[A1l];grind
theorem A9t.iff{d:Int}{s s1:Rd}{x:St}(h:isR L E s [105,102]=true)(hs:R0 L E (d+1) s (x,s1)):A9t L E d s ([x],s1) :=
 hs.ext λf hf=>by simp_all[A1h]
theorem A9t.blk{d:Int}{s:Rd}{r:List St × Rd}(h:isR L E s [105,102]=false)(hs:A9u L E (d+1) s r):A9t L E d s r :=
 hs.ext λf hf=>by simp_all[A1h]
theorem ST.all:∀(m:Nat),(∀d (s:Rd),L.length-s.i<=m->∃r,R0 L E d s r/\s.i<=r.2.i/\(okR (C6 L E s d 8 50)=true->(0<=B8 L E s B7\/N9 L E s 1=true)->s.i<r.2.i)) /\
  (∀d l (s:Rd),L.length-s.i<=m->∃r,A1f L E d l s r/\s.i<=r.2.i):=by
 intro m
 induction m using Nat.strongRecOn with
 |_ m ih =>
  have blk:∀d (s:Rd),L.length-s.i<m->∃r,A9u L E d s r/\s.i<=r.2.i:=by
   intro d s hs;have h0:=H4 (L:=L) (E:=E) (s:=s) (x:=[123]);obtain⟨r,h,hg⟩:=(ih _ hs).2 d [] (D9 L E s [123]) (by omega);exact⟨r,A9u.mk h,by omega⟩
  have oth:∀d (s:Rd),L.length-s.i<m->∃r,A9t L E d s r/\s.i<=r.2.i:=by
   intro d s hs;cases hi:isR L E s [105,102] with
   |true =>
    obtain⟨⟨x,s1⟩,h,hg, -⟩:=(ih _ hs).1 (d+1) s (A0E _);exact⟨_,A9t.iff hi h,hg⟩
   |false =>
    obtain⟨r,h,hg⟩:=blk (d+1) s hs;exact⟨r,A9t.blk hi h,hg⟩
  have A:∀d (s:Rd),L.length-s.i<=m->∃r,R0 L E d s r/\s.i<=r.2.i/\(okR (C6 L E s d 8 50)=true->(0<=B8 L E s B7\/N9 L E s 1=true)->s.i<r.2.i):=by
   intro d s hs;cases hl:okR (C6 L E s d 8 50) with
   |false=>exact⟨_,R0.bad hl,by show s.i<=(C6 L E s d 8 50).i;simp[J4],λh=>by grind⟩
   |true =>
    by_cases hk:B8 L E s B7<0
    ·obtain⟨⟨e,s1⟩,he,hg⟩:=A5y (L:=L) (E:=E) (D9 L E (A8 L E s 1).2 [61]);have hg:(D9 L E (A8 L E s 1).2 [61]).i<=s1.i:=hg;have h1:=H4 (L:=L) (E:=E) (s:=s1) (x:=[59]);have h2:=H4 (L:=L) (E:=E) (s:=(A8 L E s 1).2) (x:=[61]);have h3:=O0 (L:=L) (E:=E) (s:=s) (x:=1);refine⟨_,R0.set hl hk he,by show s.i<=(D9 L E s1 [59]).i;omega,λ_ hc=>?_⟩;have h4:N9 L E s 1=true:=hc.resolve_left (by omega);have h5:(A8 L E s 1).2.i=s.i+1:=by unfold A8;rw[if_neg (by rw[h4];decide)];rfl
     grind
    ·obtain⟨-,hi, -,hk18⟩:=K2 (show 0<=B8 L E s B7 by omega);by_cases h01:B8 L E s B7=0\/B8 L E s B7=1
     ·obtain⟨⟨e,s2⟩,he,hg⟩:=A5y (L:=L) (E:=E) (A5 s);have hg:s.i+1<=s2.i:=hg;obtain⟨⟨t,s3⟩,ht,hg3⟩:=blk (d+1) s2 (by omega);have hg3:s2.i<=s3.i:=hg3;by_cases hc:B8 L E s B7=0/\isR L E s3 [101,108,115,101]=true
      ·have hi3:=(A4w hc.2).2;obtain⟨⟨o,s4⟩,ho,hg4⟩:=oth d (A5 s3) (by show L.length-(s3.i+1)<m;omega);have hg4:s3.i+1<=s4.i:=hg4;exact⟨_,R0.els hl hc.1 he ht hc.2 ho,j8,λ_ _=>by grind⟩
      ·exact⟨_,R0.blk hl h01 he ht hc,j8,λ_ _=>by grind⟩
     ·obtain⟨r,hr,hg⟩:=D3v (L:=L) (E:=E) (2+B8 L E s B7) (B1 L E s).pos (A5 s);have hg:s.i+1<=r.2.i:=hg
      grind[R0.tail]
  refine⟨A,λd l s hs=>?_⟩;by_cases hc:okR s=true/\isR L E s [125]=false
  ·by_cases h2:B8 L E s B7<0/\N9 L E s 1=false
   ·exact⟨_,A1f.bad hc h2,by show s.i<=(X6 L E s).i;simp[A0p]⟩
   ·have hlt:s.i<L.length:=by
     by_cases hk:0<=B8 L E s B7
     ·exact(K2 hk).2.1
     ·cases h1:N9 L E s 1 with
      |false=>grind
      |true=>exact(O2 (by simp) (L8 h1).2).2
    cases hl:okR (C6 L E s ((l.length:Int)+1) 64 9) with
    |false =>
     have hb:okR (C6 L E (C6 L E s ((l.length:Int)+1) 64 9) d 8 50)=false:=by
      cases hz:okR (C6 L E (C6 L E s ((l.length:Int)+1) 64 9) d 8 50) with
      |false=>rfl
      |true=>rw[(J6 (by decide) hz).1]at hl;cases hl
     have hx:=R0.bad hb;refine⟨_,A1f.more hc h2 hx (A1f.stop (by rw[hb];simp)),?_⟩
     grind[H4,J4]
    |true =>
     have e0:=(J6 (by simp) hl).2.2;obtain⟨⟨x,s1⟩,hx,hg,hprog⟩:=A d s hs;have hg:s.i<=s1.i:=hg;cases hd:okR (C6 L E s d 8 50) with
     |false =>
      have hx:=R0.bad hd;refine⟨_,A1f.more hc h2 (by rw[e0];exact hx) (A1f.stop (by rw[hd];simp)),?_⟩
      grind[H4,J4]
     |true =>
      have hlt2:s.i<s1.i:=hprog hd (by
       grind)
      obtain⟨r,hr,hg2⟩:=(ih (L.length-s1.i) (by omega)).2 d (l++[x]) s1 (A0E _);exact⟨r,A1f.more hc h2 (by grind) hr,by omega⟩
  ·exact⟨_,A1f.stop hc,H4⟩
theorem E3w(d:Int)(s:Rd):∃r,A9u L E d s r/\s.i<=r.2.i:=by
 obtain⟨r,h,hg⟩:=(ST.all (L:=L) (E:=E) _).2 d [] (D9 L E s [123]) (A0E _);exact⟨r,A9u.mk h,A1B H4 hg⟩
theorem E1q:∀(m:Nat) (l:List Hd) (s:Rd),L.length-s.i<=m->∃r,Evt (λf=>A2a L E f l s) r/\s.i<=r.2.i:=by
 intro m
 induction m using Nat.strongRecOn with
 |_ m ih =>
  intro l s hs;by_cases hc:okR s=true/\isR L E s [125]=false
  ·cases hon:isR L E s [111,110] with
   |false=>exact⟨_,Evt.one λf=>by rw[A2a,if_pos hc,if_pos hon],by show s.i<=(X6 L E s).i;simp[A0p]⟩
   |true =>
    have hi:=(A4w hon).2;have h1:(C6 L E s ((l.length:Int)+1) 32 9).i=s.i:=J4;generalize hl:C6 L E s ((l.length:Int)+1) 32 9=s1 at h1;have h2:=H4 (L:=L) (E:=E) (s:=s1) (x:=[111,110]);generalize he:D9 L E s1 [111,110]=s2 at h2;by_cases hk:B8 L E s2 F8<0
    ·exact⟨_,Evt.one λf=>by rw[A2a,if_pos hc,if_neg (by grind),hl];dsimp only;rw[he,if_pos hk],by grind[A0p]⟩
    ·have hi2:=(K2 (show 0<=B8 L E s2 F8 by omega)).2.1;have h4:s2.i+1<=(if 2<=B8 L E s2 F8 then(A8 L E (A5 s2) 1).2 else A5 s2).i:=by
      split
      ·exact O0 (L:=L) (E:=E) (s:=A5 s2) (x:=1)
      ·exact A0E _
     obtain⟨⟨b,s5⟩,hb,hg⟩:=E3w (L:=L) (E:=E) 1 (if 2<=B8 L E s2 F8 then(A8 L E (A5 s2) 1).2 else A5 s2);have hg:(if 2<=B8 L E s2 F8 then(A8 L E (A5 s2) 1).2 else A5 s2).i<=s5.i:=hg;obtain⟨r,hr,hg2⟩:=ih (L.length-s5.i) (by omega) (l++[⟨1+B8 L E s2 F8,if 2<=B8 L E s2 F8 then(A8 L E (A5 s2) 1).1.text else [],b,(B1 L E s1).pos⟩]) s5 (A0E _);exact⟨r,hb.ext2 hr λf hb hr=>by simp_all[A2a,if_neg],by omega⟩
  ·exact⟨_,Evt.one λf=>by rw[A2a,if_neg hc],H4⟩
theorem E1p(s:Rd):∃r,Evt (λf=>A6u L E f s) r/\s.i<=r.2.i/\(isR L E s [109,111,100,101]=true->s.i<r.2.i):=by
 obtain⟨⟨l,s3⟩,h,hg⟩:=E1q (L:=L) (E:=E) _ [] (D9 L E (A8 L E (A8 L E (D9 L E s [109,111,100,101]) 1).2 3).2 [123]) (A0E _);have hg:(D9 L E (A8 L E (A8 L E (D9 L E s [109,111,100,101]) 1).2 3).2 [123]).i<=s3.i:=hg;have h1:=H4 (L:=L) (E:=E) (s:=(A8 L E (A8 L E (D9 L E s [109,111,100,101]) 1).2 3).2) (x:=[123]);have h2:=O0 (L:=L) (E:=E) (s:=(A8 L E (D9 L E s [109,111,100,101]) 1).2) (x:=3);have h3:=O0 (L:=L) (E:=E) (s:=D9 L E s [109,111,100,101]) (x:=1);have h4:=H4 (L:=L) (E:=E) (s:=s) (x:=[109,111,100,101]);refine⟨_,h.map λf h=>by unfold A6u;dsimp only;rw[h],by show s.i<=s3.i;omega,λhi=>?_⟩;have h5:(D9 L E s [109,111,100,101]).i=s.i+1:=by unfold D9;rw[if_neg (by rw[hi];decide)];rfl
 grind
theorem D8s{k:Int}{s:Rd}:s.i+1<=(Z3 L E k s).2.i:=by
 unfold Z3;dsimp only;have h1:=O0 (L:=L) (E:=E) (s:=A5 s) (x:=1);have h0:(A5 s).i=s.i+1:=rfl;split
 ·generalize (A8 L E (A5 s) 1).2=s2 at h1 ⊢;have h3:s2.i<=(if(k+1==6&&isR L E s2 [45])=true then A5 s2 else s2).i:=by
   split
   ·exact A2M _
   ·exact A0E _
  generalize (if(k+1==6&&isR L E s2 [45])=true then A5 s2 else s2)=s3 at h3 ⊢;have h4:=O0 (L:=L) (E:=E) (s:=s3) (x:=3);have h5:=H4 (L:=L) (E:=E) (s:=(A8 L E s3 3).2) (x:=[59]);show s.i+1<=(D9 L E (A8 L E s3 3).2 [59]).i;omega
 grind[H4]
theorem C9u{s:Rd}(h:okR s=false):∀(l:List (List UInt8)) (k:Nat),A2i L E s k l = -1
 |[],k=>rfl
 |t::l,k=>by rw[A2i,show isR L E s t=false by grind[isR],if_neg (by simp),C9u h l]
theorem E0o:∀(m:Nat) (l:List Dc) (s:Rd),L.length-s.i<=m->∃r,Evt (λf=>A1d L E f l s) r/\s.i<=r.2.i:=by
 intro m
 induction m using Nat.strongRecOn with
 |_ m ih =>
  intro l s hs;by_cases hk:B8 L E s F0<0
  ·exact⟨_,Evt.one λf=>by rw[A1d];dsimp only;rw[if_pos hk],A0E _⟩
  ·have hi:=(K2 (show 0<=B8 L E s F0 by omega)).2.1;have h1:(C6 L E s ((l.length:Int)+1) 128 9).i=s.i:=J4;cases hl:okR (C6 L E s ((l.length:Int)+1) 128 9) with
   |false =>
    have hz:B8 L E (C6 L E s ((l.length:Int)+1) 128 9) F0<0:=by
     show A2i L E _ 0 F0<0
     grind[C9u]
    have h2:Evt (λf=>A1d L E f l (C6 L E s ((l.length:Int)+1) 128 9)) (l,C6 L E s ((l.length:Int)+1) 128 9):=Evt.one λf=>by simp_all[A1d]
    exact⟨_,h2.ext λf h=>by rw[A1d];dsimp only;rw[if_neg hk,if_neg (by grind)];exact h,by grind⟩
   |true =>
    have h3:=D8s (L:=L) (E:=E) (k:=B8 L E s F0) (s:=C6 L E s ((l.length:Int)+1) 128 9);obtain⟨r,hr,hg⟩:=ih (L.length-(Z3 L E (B8 L E s F0) (C6 L E s ((l.length:Int)+1) 128 9)).2.i) (by omega) (l++[(Z3 L E (B8 L E s F0) (C6 L E s ((l.length:Int)+1) 128 9)).1]) _ (A0E _);exact⟨r,hr.ext λf h=>by simp_all[A1d,if_neg],by omega⟩
theorem E0n:∀(m:Nat) (l:List Md) (s:Rd),L.length-s.i<=m->∃r,Evt (λf=>A0r L E f l s) r/\s.i<=r.2.i:=by
 intro m
 induction m using Nat.strongRecOn with
 |_ m ih =>
  intro l s hs;by_cases hc:okR s=true/\s.i<L.length
  ·cases hm:isR L E s [109,111,100,101] with
   |false=>exact⟨_,Evt.one λf=>by rw[A0r,if_pos hc,if_pos hm],by show s.i<=(X6 L E s).i;simp[A0p]⟩
   |true =>
    have h1:(C6 L E s ((l.length:Int)+1) 16 9).i=s.i:=J4;cases hl:okR (C6 L E s ((l.length:Int)+1) 16 9) with
    |false =>
     have h2:Evt (λf=>A0r L E f l (C6 L E s ((l.length:Int)+1) 16 9)) (l,C6 L E s ((l.length:Int)+1) 16 9):=Evt.one λf=>by simp_all[A0r]
     exact⟨_,h2.ext λf h=>by rw[A0r,if_pos hc,if_neg (by grind)];dsimp only;rw[if_neg (by grind)];exact h,by grind⟩
    |true =>
     have e0:=(J6 (by simp) hl).2.2;obtain⟨⟨md,s2⟩,h2,hg,hlt⟩:=E1p (L:=L) (E:=E) s;have hlt:s.i<s2.i:=hlt hm;obtain⟨r,hr,hg2⟩:=ih (L.length-s2.i) (by omega) (l++[md]) s2 (A0E _);exact⟨r,h2.ext2 hr λf h2 hr=>by simp_all[A0r],by omega⟩
  ·exact⟨_,Evt.one λf=>by rw[A0r,if_neg hc],A0E _⟩
theorem C7g(s:Rd):∃r,Evt (λf=>B1r L E f s) r:=by
 obtain⟨⟨d,s1⟩,h1, -⟩:=E0o (L:=L) (E:=E) _ [] s (A0E _);obtain⟨⟨m,s2⟩,h2, -⟩:=E0n (L:=L) (E:=E) _ [] s1 (A0E _);exact⟨_,h1.map2 h2 λf h1 h2=>by unfold B1r;rw[h1];dsimp only;rw[h2]⟩
end
def D0a(t:Tok):Prop:=K8 t/\0<=t.value/\t.value<=2147483647
abbrev I6(l:List Tok):Prop:=∀t∈l,D0a t
theorem A5m:D0a A1t:=⟨⟨λh=>l9,λh=>l9,λh=>by rfl⟩,l9,by trivial⟩
theorem A0x(s:List UInt8):D0a (A2 s):=by
 refine⟨⟨λh=>?_,λh=>?_,λh=>?_⟩,by simp[A2],by simp[A2]⟩;all_goals simp only[A2]at h ⊢
 all_goals(by_cases h1:L7 s=true)
 all_goals(by_cases h2:D8 s=true)
 all_goals(simp_all)
theorem A5l(s:List UInt8):I6 (F1 s):=by
 intro t ht;unfold F1 at ht;split at ht
 ·grind[A5m]
 ·rename_i h;rw[A1N]at ht;subst ht;exact⟨⟨λ_=>j8,λh=>by simp,λh=>by grind⟩,by simp,by simp⟩
theorem D7q(n:Int):I6 (A0s n):=by
 intro t ht;unfold A0s at ht;split at ht
 ·grind[A5m]
 ·rename_i h;rw[A1N]at ht;subst ht;refine⟨⟨λh=>by simp at h,λ_=>?_,λh=>by simp at h⟩,?_,?_⟩<;>simp only<;>omega
theorem F4v(s:List UInt8):I6 (A4u s):=by
 intro t ht;unfold A4u at ht;split at ht
 ·grind[A5m]
 ·rename_i h;rw[A1N]at ht;subst ht;refine⟨⟨λh=>by simp at h,λh=>by simp at h,λ_=>?_⟩,by simp,by simp⟩
  simp_all[Y7]
theorem I6.app{a b:List Tok}(ha:I6 a)(hb:I6 b):I6 (a++b):=λt ht=>(A1A.1 ht).elim (ha t) (hb t)
theorem I6.one{t:Tok}(h:D0a t):I6 [t]:=λx hx=>j8
theorem I6.nil:I6 []:=λx hx=>j8
theorem I6.flat{α:Type}{f : α->List Tok}{l:List α}(h:∀x∈l,I6 (f x)):I6 (l.flatMap f):=λt ht=>by
 grind
theorem D7p{q:Int × List Tok}(n:Int)(h:I6 q.2):I6 (H9 q n):=by
 grind[H9,A0x]
theorem F4w{k v:Int}{n:List UInt8}{as1:List (Int × List Tok)}(h:∀q∈as1,I6 q.2):I6 (P6 k v n as1):=by
 unfold P6;dsimp only;by_cases h1:k=1
 ·rw[if_pos h1];exact D7q _
 rw[if_neg h1];by_cases h2:k=2
 ·rw[if_pos h2];exact A5l _
 rw[if_neg h2];by_cases h3:k=3
 ·rw[if_pos h3];grind[A0x]
 rw[if_neg h3];by_cases h4:k=4
 ·rw[if_pos h4];grind[A0x]
 rw[if_neg h4];by_cases h8:k=8
 ·rw[if_pos h8];grind[A0x]
 rw[if_neg h8];by_cases h9:k=9
 ·rw[if_pos h9];grind[A0x]
 rw[if_neg h9];by_cases h5:k=5
 ·rw[if_pos h5];grind[A0x,A5l]
 rw[if_neg h5];by_cases h6:k=6
 ·rw[if_pos h6];grind[A0x,A5l]
 rw[if_neg h6];by_cases h7:k=7
 ·rw[if_pos h7];grind[A0x,A5l]
 rw[if_neg h7]
 match as1,h with
 |[],_=>grind[A5m]
 |[q],h =>
  grind[A0x,D7p,A5m]
 |[q,r],h =>
  dsimp only;split
  ·exact((D7p _ (h q A0H)).app (I6.one (A0x _))).app (D7p _ (h r (A0D _ A0H)))
  grind[A5m]
 |_::_::_::_,_=>grind[A5m]
theorem E5h:∀e:Ex,I6 (exT e)
 |.mk k v n a p=>by
  have ih:∀x∈a,I6 (exT x):=λx hx=>E5h x
  grind[exT,A9i,F4w]
theorem B4o(l:List Ex)(i:Nat):I6 (agT l i):=by
 grind[agT,A5m,E5h]
mutual
theorem D7n:∀s:St,I6 (stT s)
 |.mk k n t a x y p=>by
  have hx:=B2w x;have hy:∀l,l=y->I6 (X7 l):=λl h=>by subst h;exact B2w l
  have hq:∀q,y=[q]->I6 (stT q):=λq h=>by subst h;exact D7n q
  have w:∀s,I6 [A2 s]:=λs=>I6.one (A0x s);unfold stT;split
  ·exact(((A5l _).app (w _)).app (B4o _ _)).app (w _)
  split
  ·exact I6.one A5m
  dsimp only;split
  ·have ho:I6 ([A2 (B7.getD (k-2).toNat [])]++agT a 0++([A2 [123]]++X7 x++[A2 [125]])):=((w _).app (B4o _ _)).app (((w _).app hx).app (w _))
   match y,hy,hq with
   |[],_,_=>exact ho
   |[q],_,hq =>
    dsimp only;split
    ·exact(ho.app (w _)).app (hq q rfl)
    ·exact(ho.app (w _)).app (((w _).app (hq q rfl)).app (w _))
   |q::q2::r,hy,_=>exact(ho.app (w _)).app (((w _).app (hy _ rfl)).app (w _))
  split
  ·exact((w _).app (B4o _ _)).app (w _)
  split
  ·exact((((w _).app (F4v _)).app (w _)).app (B4o _ _)).app (w _)
  split
  ·exact(((w _).app (A5l _)).app (B4o _ _)).app (w _)
  split
  ·exact(((((w _).app (A5l _)).app (B4o _ _)).app (w _)).app (B4o _ _)).app (w _)
  grind[A5l]
theorem B2w:∀l:List St,I6 (X7 l)
 |[]=>by grind[X7]
 |s::l=>by rw[X7];exact(D7n s).app (B2w l)
end
theorem F0l(l:List St):I6 (blT l):=((I6.one (A0x _)).app (B2w l)).app (I6.one (A0x _))
theorem F0k(d:Dc):I6 (dcT d):=by
 have w:∀s,I6 [A2 s]:=λs=>I6.one (A0x s)
 grind[dcT,A5m,A5l,D7q]
theorem F0j(h:Hd):I6 (hdT h):=by
 unfold hdT;refine I6.app (I6.app ?_ ?_) (F0l _)
 ·exact(I6.one (A0x _)).app (I6.one (A0x _))
 grind[A5l]
theorem F0i(m:Md):I6 (mdT m):=by
 have w:∀s,I6 [A2 s]:=λs=>I6.one (A0x s)
 grind[mdT,A5l,D7q,F0j]
theorem D7o(r:Ru):I6 (ruT r):=by
 grind[ruT,A5m,F0k,F0i]
section
variable {L:List Tok} {E:Int}
theorem C8i{s:List UInt8}(h:D8 s=true):s.length<=12:=by
 simp_all[D8]
theorem A6a(hG:∀t∈L,K8 t){s:Rd}:(A8 L E s 1).1.text.length<=12:=by
 cases h:N9 L E s 1 with
 |false=>unfold A8;rw[if_pos h];exact A0Q _
 |true =>
  unfold A8;rw[if_neg (by grind)];exact C8i ((hG _ (O2 (by simp) (L8 h).2).1).1 (L8 h).2)
theorem E0b(hG:∀t∈L,K8 t){s:Rd}:(A8 L E s 4).1.text.length<=32:=by
 cases h:N9 L E s 4 with
 |false=>unfold A8;rw[if_pos h];exact A0Q _
 |true =>
  unfold A8;rw[if_neg (by rw[h];decide)];have:=(hG _ (O2 (by decide) (L8 h).2).1).2.2 (L8 h).2
  simp_all[Y7]
theorem E0u(hG:∀t∈L,K8 t){s:Rd}:(N3 L E s).1.sz+13*s.i<=13*(N3 L E s).2.i+1:=by
 have hge:=C7w (L:=L) (E:=E) (s:=s);have h2:(C6 L E { s with ops:=s.ops+1 } (s.ops+1) 32 9).i=s.i:=J4;unfold N3 at hge ⊢;dsimp only at hge ⊢;split
 ·rename_i hc;rw[if_pos hc]at hge;show 1+0+0+_<=_;omega
 ·rename_i hc;rw[if_neg hc]at hge;split
  ·show 1+0+0+13*s.i<=13*(C6 L E { s with ops:=s.ops+1 } (s.ops+1) 32 9).i+1;omega
  ·have h3:(A5 (C6 L E { s with ops:=s.ops+1 } (s.ops+1) 32 9)).i=s.i+1:=by show(C6 L E { s with ops:=s.ops+1 } (s.ops+1) 32 9).i+1=_;omega
   generalize A5 (C6 L E { s with ops:=s.ops+1 } (s.ops+1) 32 9)=s3 at h3;have h4:=O0 (L:=L) (E:=E) (s:=s3) (x:=1);have h5:=A6a (L:=L) (E:=E) hG (s:=s3);split
   ·split
    ·show 1+(A8 L E s3 1).1.text.length+0+13*s.i<=13*(A8 L E s3 1).2.i+1;omega
    ·show 1+0+0+13*s.i<=13*s3.i+1;omega
   ·rename_i hk;split
    ·show 1+0+0+13*s.i<=13*s3.i+1;omega
    ·rename_i hk3;have h1k:N9 L E s 1=true:=by
      grind[N9]
     have:=C8i ((hG _ (O2 (by simp) (L8 h1k).2).1).1 (L8 h1k).2);show 1+(B1 L E s).text.length+0+13*s.i<=13*s3.i+1;omega
theorem EZ.all(hG:∀t∈L,K8 t):∀f:Nat,(∀n s r,Q1 L E f n s=some r->r.1.sz+13*s.i<=13*r.2.i+1)/\(∀n e s r,A0t L E f n e s=some r->r.1.sz+13*s.i<=13*r.2.i+e.sz)/\(∀s r,A2k L E f s=some r->r.1.sz+13*s.i<=13*r.2.i+1)
 |0=>⟨λn s r h=>l9,λn e s r h=>l9,λs r h=>by trivial⟩
 |f+1=>by
  obtain⟨i1,i2,i3⟩:=EZ.all hG f;refine⟨λn s r h=>?_,λn e s r h=>?_,λs r h=>?_⟩
  ·grind[Q1]
  ·unfold A0t at h;dsimp only at h;split at h
   ·grind
   ·split at h
    ·grind
    ·rename_i x s1 hb;have h1:=i1 _ _ _ hb;have h1:x.sz+13*(s.i+1)<=13*s1.i+1:=h1
     grind[Ex.sz,Ex.szs]
  ·unfold A2k at h;dsimp only at h;split at h
   ·cases h;exact E0u hG
   ·split at h
    ·cases h;show 1+0+0+13*s.i<=13*(C6 L E s (s.par+1) 16 50).i+1
     grind[J4]
    ·rename_i hl;have hl:okR (C6 L E s (s.par+1) 16 50)=true:=by simpa using hl
     obtain⟨-, -,h3⟩:=J6 (by decide) hl<;>grind[H4,Ex.sz,Ex.szs]
theorem A6m(hG:∀t∈L,K8 t){f:Nat}{s:Rd}{r:Ex × Rd}(h:Z0 L E f s=some r):r.1.sz+13*s.i<=13*r.2.i+1:=(EZ.all hG f).1 1 { s with ops:=0,par:=0 } r h
theorem A6z(k p:Int)(n t:List UInt8)(a:List Ex)(x y:List St):(St.mk k n t a x y p).sz=1+n.length+t.length+Ex.szs a+St.szs x+St.szs y:=by rfl
theorem E0d(hG:∀t∈L,K8 t){f:Nat}{k p:Int}{s:Rd}{r:St × Rd}(h:N6 L E f k p s=some r):r.1.sz+45*s.i<=45*r.2.i+40:=by
 have t1:=A6a (L:=L) (E:=E) hG (s:=s);have t4:=E0b (L:=L) (E:=E) hG (s:=s);have g1:=O0 (L:=L) (E:=E) (s:=s) (x:=1);have g4:=O0 (L:=L) (E:=E) (s:=s) (x:=4);unfold N6 at h;dsimp only at h;split at h
 ·split at h
  ·cases h
  ·rename_i e s1 he;cases h;have h1:=A6m hG he;have h2:=H4 (L:=L) (E:=E) (s:=s1) (x:=[59]);rw[A6z,Ex.szs,Ex.szs,St.szs];simp only[A0M]at h1 ⊢;omega
 split at h
 ·split at h
  ·cases h
  ·rename_i e s1 he;cases h;have h1:=A6m hG he;have h2:=H4 (L:=L) (E:=E) (s:=s1) (x:=[59]);have h3:=H4 (L:=L) (E:=E) (s:=(A8 L E s 4).2) (x:=[44]);rw[A6z,Ex.szs,Ex.szs,St.szs];simp only[A0M]at h1 ⊢;omega
 split at h
 ·cases h;have h2:=H4 (L:=L) (E:=E) (s:=s) (x:=[59]);rw[A6z,Ex.szs,St.szs];simp only[A0M];omega
 split at h
 ·split at h
  ·cases h
  ·rename_i e s1 he;have h1:=A6m hG he;split at h
   ·split at h
    ·cases h
    ·rename_i e2 s2 he2;cases h;have h4:=A6m hG he2;have h2:=H4 (L:=L) (E:=E) (s:=s2) (x:=[59]);have h3:=H4 (L:=L) (E:=E) (s:=s1) (x:=[44]);rw[A6z,Ex.szs,Ex.szs,Ex.szs,St.szs];simp only[A0M]at h1 h4 ⊢;omega
   ·cases h;have h2:=H4 (L:=L) (E:=E) (s:=s1) (x:=[59]);rw[A6z,Ex.szs,Ex.szs,St.szs];simp only[A0M]at h1 ⊢;omega
 grind[H4,A6z,Ex.szs,St.szs]
theorem C6x:∀(l:List St) (x:St),St.szs (l++[x])=St.szs l+x.sz
 |[],x=>by simp[St.szs]
 |a::l,x=>by rw[List.cons_append,St.szs,St.szs,C6x l x];omega
theorem SZ.all(hG:∀t∈L,K8 t):∀f:Nat,(∀d s r,W8 L E f d s=some r->St.szs r.1+45*s.i<=45*r.2.i+40) /\
  (∀d l s r,A0z L E f d l s=some r->St.szs r.1+45*s.i<=45*r.2.i+St.szs l+40/\(okR s=false->St.szs r.1<=St.szs l)) /\
  (∀d s r,A1l L E f d s=some r->r.1.sz+45*s.i<=45*r.2.i+40/\(r.1.sz+45*s.i<=45*r.2.i\/okR r.2=false/\r.1.sz<=40)/\s.i<=r.2.i) /\
  (∀d s r,A1h L E f d s=some r->St.szs r.1+45*s.i<=45*r.2.i+40)
 |0=>⟨λd s r h=>l9,λd l s r h=>l9,λd s r h=>l9,λd s r h=>by trivial⟩
 |f+1=>by
  obtain⟨i1,i2,i3,i4⟩:=SZ.all hG f;refine⟨λd s r h=>?_,λd l s r h=>?_,λd s r h=>?_,λd s r h=>?_⟩
  ·unfold W8 at h;have h1:=(i2 _ _ _ _ h).1;have h2:=H4 (L:=L) (E:=E) (s:=s) (x:=[123]);rw[St.szs]at h1;omega
  ·unfold A0z at h;split at h
   ·rename_i hc;refine⟨?_,λh0=>by rw[h0]at hc;cases hc.1⟩;split at h
    ·cases h;show St.szs []+45*s.i<=45*(X6 L E s).i+St.szs l+40;rw[A0p,St.szs];omega
    ·split at h
     ·cases h
     ·rename_i x s1 he;obtain⟨h1,h2⟩:=i2 _ _ _ _ h;obtain⟨h3,h4,h5⟩:=i3 _ _ _ he;rw[J4]at h3 h4 h5;rw[C6x]at h1 h2;dsimp only at h3 h4 h5;rcases h4 with h4|⟨h4,h6⟩
      ·omega
      ·have h7:=h2 h4;have h8:s1.i<=r.2.i:=by
        obtain⟨N,hN⟩:=(ST.all (L:=L) (E:=E) _).2 d (l++[x]) s1 (A0E _);obtain⟨⟨M,hM⟩,hg⟩:=hN;have h9:okR s1=false:=h4;have hfr:A1f L E d (l++[x]) s1 (l++[x],D9 L E s1 [125]):=A1f.stop (by rw[h9];simp);cases f with
        |zero=>simp[A0z]at h
        |succ f =>
         rw[A0z,if_neg (by rw[h9];simp)]at h;cases h;exact H4
       omega
   ·rename_i hc;cases h;have h2:=H4 (L:=L) (E:=E) (s:=s) (x:=[125]);exact⟨by dsimp only;omega,λ_=>A0E _⟩
  ·have hst:=(ST.all (L:=L) (E:=E) (L.length-s.i)).1 d s (A0E _);unfold A1l at h;dsimp only at h;split at h
   ·rename_i hl;cases h;have e1:St0.sz=1:=by unfold St0;rw[A6z,Ex.szs,St.szs];rfl
    refine⟨?_,.inr ⟨hl,by show St0.sz<=40;omega⟩,?_⟩
    ·show St0.sz+45*s.i<=45*(C6 L E s d 8 50).i+40;rw[J4];omega
    ·show s.i<=(C6 L E s d 8 50).i;rw[J4];exact A0E _
   rename_i hl;have hl:okR (C6 L E s d 8 50)=true:=by simpa using hl
   obtain⟨hs,hd,hle⟩:=J6 (by decide) hl;rw[hle]at h;split at h
   ·split at h
    ·cases h
    ·rename_i e s1 he;cases h;have h1:=A6m hG he;have h2:=H4 (L:=L) (E:=E) (s:=s1) (x:=[59]);have h3:=H4 (L:=L) (E:=E) (s:=(A8 L E s 1).2) (x:=[61]);have h4:=O0 (L:=L) (E:=E) (s:=s) (x:=1);have h5:=A6a (L:=L) (E:=E) hG (s:=s);have hsz:(St.mk 1 (A8 L E s 1).1.text [] [e] [] [] (B1 L E s).pos).sz=1+(A8 L E s 1).1.text.length+e.sz:=by
      rw[A6z,Ex.szs,Ex.szs,St.szs];simp
     rw[hsz];dsimp only at h1 ⊢;refine⟨a8,?_,by omega⟩;by_cases ht:N9 L E s 1=true
     ·have h6:(A8 L E s 1).2.i=s.i+1:=by unfold A8;rw[if_neg (by rw[ht];decide)];rfl
      exact .inl (by omega)
     ·have ht:N9 L E s 1=false:=by simpa using ht
      have h6:(A8 L E s 1).2=X6 L E s:=by unfold A8;rw[if_pos ht]
      by_cases hp:1<=(D9 L E s1 [59]).i-s.i
      ·exact .inl (by omega)
      ·refine .inr ⟨?_,by omega⟩;cases hz:okR (D9 L E s1 [59]) with
       |false=>rfl
       |true =>
        have h7:=(B4t hz).2;have h8:(D9 L E s1 [59]).i=s1.i+1:=by rw[h7];rfl
        omega
   ·rename_i hk;obtain⟨-,hi, -,hk18⟩:=K2 (show 0<=B8 L E s B7 by omega);have hn:(A5 s).i=s.i+1:=rfl;split at h
    ·split at h
     ·cases h
     ·rename_i e s2 he;split at h
      ·cases h
      ·rename_i t s3 ht;have h1:=A6m hG he;have h2:=i1 _ _ _ ht;rw[hn]at h1;dsimp only at h1 h2;split at h
       ·split at h
        ·cases h
        ·rename_i o s4 ho;cases h;have h3:=i4 _ _ _ ho;have h3:St.szs o+45*(s3.i+1)<=45*s4.i+40:=h3;have hsz:(St.mk 2 [] [] [e] t o (B1 L E s).pos).sz=1+e.sz+St.szs t+St.szs o:=by
          rw[A6z,Ex.szs,Ex.szs];simp
         rw[hsz];dsimp only;exact⟨a8,.inl (by omega),by omega⟩
       ·cases h;have hsz:(St.mk (2+B8 L E s B7) [] [] [e] t [] (B1 L E s).pos).sz=1+e.sz+St.szs t:=by
         rw[A6z,Ex.szs,Ex.szs,St.szs];simp
        rw[hsz];dsimp only;exact⟨a8,.inl (by omega),by omega⟩
    ·have h1:=E0d hG h;rw[hn]at h1;exact⟨a8,.inl (by omega),by omega⟩
  grind[A1h,St.szs]
end
def okN(kind:Int)(text:List UInt8)(value:Int)(i n:Nat):DV:=.tup [.agg [I64 kind,.str text,I64 value,I64 i],I64 ((i+n:Nat):Int),I64 0]
def A1a(e:Int)(i:Nat):DV:=.tup [.agg [I64 0,.str [],I64 0,I64 0],I64 i,I64 e]
def nxR(x:Nx)(i:Nat):DV:=if x.err=0 then okN x.kind x.text x.value i x.n else A1a x.err i
theorem C4t(x:Nx)(i:Nat):(nxR x i).nl=true:=by unfold nxR;split<;>rfl
theorem B3x{k:Int}{t:List UInt8}{v:Int}{n i:Nat}:nxR ⟨k,t,v,n,0⟩ i=okN k t v i n:=if_pos rfl
theorem A8p{e:Int}{i:Nat}(h:e≠0):nxR (nxE e) i=A1a e i:=if_neg h
def B9j(s:List UInt8):Bool:=decide (2147483647<Y3 s)
def smV(s:List UInt8):Nat:=if 2147483647<Y3 s then 0 else Y3 s
theorem D4i(s:List UInt8):smV s<=2147483647:=by grind[smV]
theorem D4j{s:List UInt8}(h:¬ 2147483647<Y3 s):smV s=Y3 s:=if_neg h
theorem E4o{s:List UInt8}(h:2147483647<Y3 s):smV s=0:=if_pos h
theorem B3j{p:UInt8->Bool}{s:List UInt8}{i j:Nat}{c:UInt8}(h:s[i+j]? = some c)(hj:j<=F3 p (s.drop i)):(p c=true->j+1<=F3 p (s.drop i))/\(p c=false->F3 p (s.drop i)=j) :=
 B2o (by grind) hj
theorem B0a{p:UInt8->Bool}{s:List UInt8}{i j:Nat}(h:s.length<=i+j)(hj:j<=F3 p (s.drop i)):F3 p (s.drop i)=j :=
 C0e (by grind) hj
theorem C0f{s:List UInt8}{i n:Nat}(h:i+n<=s.length):slsR s (some (.int .i64 (i:Int))) (some (.int .i64 ((i+n:Nat):Int)))=some (.str ((s.drop i).take n)):=by
 have b1:∀k:Nat,boundOf s.length (some (.int .i64 (k:Int)))=some k:=λk=>by simp[boundOf]
 have b2:∀k:Nat,boundOf 0 (some (.int .i64 (k:Int)))=some k:=λk=>by simp[boundOf]
 simp only[slsR,b1,b2]
 grind
theorem D0x(x:Nx)(i:Nat):∃(k:Int) (t:List UInt8) (v p n e:Int),nxR x i=.tup [.agg [I64 k,.str t,I64 v,I64 p],I64 n,I64 e]:=by
 unfold nxR;split
 ·exact⟨_,_,_,_,_,_,rfl⟩
 ·exact⟨_,_,_,_,_,_,rfl⟩
def D9e:Blk:=⟨0,true,[I64 0,.str [],I64 0,I64 0]⟩
def quR(i:Nat):Option (List UInt8 × Nat)->DV
 |none=>A1a 48 i
 |some x=>if 32<x.1.length then A1a 9 i else .tup [.agg [I64 4,.str x.1,I64 0,I64 i],I64 (x.2:Int),I64 0]
theorem E8m(i:Nat)(q:Option (List UInt8 × Nat)):(quR i q).nl=true:=by
 cases q with
 |none=>rfl
 |some x=>simp only[quR];split<;>rfl
theorem D5i{s:List UInt8}{i:Nat}{c:UInt8}(h:s[i]? = some c)(h1:ltB c=false)(h2:dgB c=false)(h3:c.toNat=34):quR i (quA [] (i+1) (quM (s.drop (i+1))))=nxR (A7 (s.drop i)) i:=by
 rw[S9 h,A7,if_neg (by rw[h1];simp),if_neg (by rw[h2];simp),if_pos h3]
 grind[quA,quR,A8p,B3x,okN]
theorem B2k{X:Hp}{o:Option Nat}{c:Nat}{b b2 b3 b3':Blk}(hX:∀j q,X j=some q->j<c)(ho:∀i,o=some i->X i=none)(h:b3=b3'):
  Sub (optH X (some (c+1)) b3) ((delO ((optH X o b).upd c b2) o).upd (c+1) b3'):=by
 subst h;intro j q hj;simp only[optH]at hj
 grind[A0,h_ne,C5,B9]
theorem B2i{b:Blk}{c j:Nat}{q:Blk}(hc:1<=c)(h:(Sym.nil.upd 0 b) j=some q):j<c:=by
 by_cases e:j=0
 ·omega
 ·rw[h_ne e]at h;cases h
theorem B2h{b:Blk}{i:Nat}(h:¬i=0):(Sym.nil.upd 0 b) i=none:=by rw[h_ne h];rfl
def X8:List (List UInt8):=[[60,61],[62,61],[61,61],[33,61],[38,38],[124,124],[123],[125],[40],[41],[59],[44],[61],[43],[45],[42],[47],[37],[33],[60],[62]]
theorem D4o:∀k:Nat,k<6->∃a b,X8.getD k []=[a,b]/\A9x a b=true:=by
 intro k hk;have:∀k:Nat,k<6->(match X8.getD k [] with |[a,b]=>A9x a b|_=>false)=true:=n7
 grind
theorem D4p:∀k:Nat,6<=k->k<21->∃a,X8.getD k []=[a]/\B0i a=true:=by
 intro k h6 hk;have:∀k:Nat,k<21->6<=k->(match X8.getD k [] with |[a]=>B0i a|_=>false)=true:=n7
 grind
theorem D3o{c d:UInt8}(h:A9x c d=true):∃k,k<6/\X8.getD k []=[c,d]:=by
 rw[D9y]at h;simp only[A1H,A1S]at h;rcases h with ((((h|h)|h)|h)|h)|h
 ·exact⟨0,a8,h.symm⟩
 ·exact⟨1,a8,h.symm⟩
 ·exact⟨2,a8,h.symm⟩
 ·exact⟨3,a8,h.symm⟩
 ·exact⟨4,a8,h.symm⟩
 ·exact⟨5,a8,h.symm⟩
theorem E8s{c:UInt8}(h:B0i c=true):∃k,6<=k/\k<21/\X8.getD k []=[c]:=by
 have key:∀n:Nat,n<256->B0i (UInt8.ofNat n)=true->∃k,k<21/\6<=k/\X8.getD k []=[UInt8.ofNat n]:=by decide +kernel
 obtain⟨k,h1,h2,h3⟩:=key c.toNat c.toNat_lt (by rw[UInt8.ofNat_toNat];exact h)<;>grind[UInt8.ofNat_toNat]
def B0g(l s:List UInt8):Bool:=decide (l.length<=s.length)&&(s.take l.length==l)
theorem D0m{s:List UInt8}{k:Nat}(hk:k<21)(hno:∀j,j<k->B0g (X8.getD j []) s=false)(h:B0g (X8.getD k []) s=true):I4 s=(X8.getD k []).length/\(X8.getD k [])=s.take (X8.getD k []).length:=by
 simp only[B0g,A0G,A0L,A1S]at h;refine⟨?_,h.2.symm⟩;by_cases h6:k<6
 ·obtain⟨a,b,e,ht⟩:=D4o k h6;rw[e]at h ⊢
  match s,h with
  |[],h=>grind
  |[x],h=>grind
  |x::y::r,h =>
   grind[I4]
 ·obtain⟨a,e,ho⟩:=D4p k (by omega) hk;rw[e]at h ⊢
  match s,h with
  |[],h=>grind
  |[x],h =>
   grind[I4]
  |x::y::r,h =>
   grind[D3o,B0g,I4]
theorem D4n{s:List UInt8}(hno:∀j,j<21->B0g (X8.getD j []) s=false):I4 s=0:=by
 have h1:∀x r,s=x::r->B0i x=false:=by
  grind[E8s,B0g]
 match s,hno,h1 with
 |[],_,_=>rfl
 |[x],_,h1=>grind[I4]
 |x::y::r,hno,h1 =>
  grind[D3o,B0g,I4]
def T0:Tok:=⟨0,[],0,0⟩
theorem E5n{g:Bool}{a b d a' b' d':Int}{s t:List UInt8}:B4x g [0,2,0,0] (.agg [I64 a,.str s,I64 b,I64 d]) (.agg [I64 a',.str t,I64 b',I64 d'])=some (.bool (g != (a==a'&&(s==t&&(b==b'&&d==d'))))):=by
 simp only[B4x,V3,A5t,if_true]
 grind
theorem B6f:∀(f:Nat) (s:List UInt8) (k:Nat) (acc:List Tok),acc.length<=k->k<=s.length->(T8 f s k acc).1.length<=s.length
 |0,s,k,acc,h1,h2=>by grind[T8]
 |f+1,s,k,acc,h1,h2=>by
  rw[T8];split
  ·grind
  ·split
   ·simp
   ·rename_i h3 h4;have h4:(A7 (s.drop k)).err=0:=by omega
    have hn:=A8s h4;rw[A2J]at hn;have hk:=A4i false (s.drop (k+(A7 (s.drop k)).n));rw[A2J]at hk;exact B6f f s _ _ (by grind) (by omega)
theorem D0o(s:List UInt8):(J2 s).1.length<=s.length:=by
 grind[J2,A4i,B6f]
def B8z(c:UInt8):Bool:=A4j c||decide (c.toNat=35)
theorem A2e{c:UInt8}(h:B8z c=true):c.toNat=9\/c.toNat=10\/c.toNat=13\/c.toNat=32\/c.toNat=35:=by
 simp_all[B8z,A4j];omega
theorem F0y{c:UInt8}(h:B8z c=true):ltB c=false:=by
 grind[A2e,ltB]
theorem F0z{c:UInt8}(h:B8z c=true):dgB c=false:=by
 grind[A2e,dgB]
theorem D8n{c d:UInt8}(h:B8z c=true):A9x c d=false:=by
 have:=A2e h;simp[A9x];omega
theorem C9n{c:UInt8}(h:B8z c=true):B0i c=false:=by
 have:=A2e h;simp[B0i];omega
theorem F1a{c:UInt8}(h:B8z c=true):¬c.toNat=34:=by
 grind[A2e]
theorem C4j(r:List UInt8):∀ {s t:List UInt8} {n:Nat},quM s=some (t,n)->quM (s.take n++r)=some (t,n)
 |[],t,n,h=>l9
 |c::q,t,n,h=>by
  rw[T9]at h;by_cases h1:c.toNat=34
  ·rw[if_pos h1]at h;cases h<;>simp_all[T9]
  ·rw[if_neg h1]at h;by_cases h2:c.toNat<32\/126<c.toNat
   ·grind
   ·rw[if_neg h2]at h;by_cases h3:c.toNat=92
    ·rw[if_pos h3]at h;cases q with
     |nil=>grind
     |cons d q =>
      simp only at h;by_cases h4:d.toNat=34\/d.toNat=92
      ·rw[if_pos h4]at h;obtain⟨⟨t',n'⟩,g1,g2⟩:=A0T.1 h;have ih:=C4j r g1;cases g2;rw[A0Y,A0Y,List.cons_append,List.cons_append,T9,if_neg h1,if_neg h2,if_pos h3];simp only;rw[if_pos h4,ih];rfl
      grind
    ·rw[if_neg h3]at h;obtain⟨⟨t',n'⟩,g1,g2⟩:=A0T.1 h;have ih:=C4j r g1;cases g2<;>simp_all[T9]
theorem F2q{α:Type}{s r:List α}{n:Nat}(h:n<=s.length):(s.take n++r).take n=s.take n:=by
 grind
theorem E1h{s:List UInt8}(h:(A7 s).err=0):skM false s=0:=by
 cases s with
 |nil=>rfl
 |cons c q =>
  by_cases he:B8z c=true
  ·have hs:I4 (c::q)=0:=by
    cases q with
    |nil=>simp only[I4];rw[if_neg (by rw[C9n he];simp)]
    |cons d q=>simp only[I4];rw[if_neg (by rw[D8n he];simp),if_neg (by rw[C9n he];simp)]
   rw[A7,if_neg (by rw[F0y he];simp),if_neg (by rw[F0z he];simp),if_neg (F1a he),if_pos hs]at h;simp[nxE]at h
  simp_all[B8z,skM]
def nxT(x:Nx)(p:Int):Tok:=⟨x.kind,x.text,x.value,p⟩
def A3z(s:List UInt8):Nat->List Tok->Prop
 |k,[]=>s.length<=k
 |k,t::l=>k<s.length/\(A7 (s.drop k)).err=0/\t=nxT (A7 (s.drop k)) (k:Int)/\A3z s (k+(A7 (s.drop k)).n+skM false (s.drop (k+(A7 (s.drop k)).n))) l
theorem B1j:∀(f:Nat) (s:List UInt8) (k:Nat) (acc:List Tok),s.length+1<=k+f->(T8 f s k acc).2.2=0->∃l,(T8 f s k acc).1=acc++l/\A3z s k l
 |0,s,k,acc,hf,h=>⟨[],by simp[T8],by show s.length<=k;omega⟩
 |f+1,s,k,acc,hf,h=>by
  rw[T8]at h ⊢;by_cases h1:s.length<=k
  ·rw[if_pos h1];exact⟨[],by simp,h1⟩
  ·rw[if_neg h1]at h ⊢;by_cases h2:(A7 (s.drop k)).err=0
   ·rw[if_neg (by simpa using h2)]at h ⊢;have hn:=A8s h2;obtain⟨l,e,hr⟩:=B1j f s _ _ (by omega) h;exact⟨_::l,by rw[e,A0K];rfl,a8,h2,rfl,hr⟩
   grind
theorem B1k:∀(f:Nat) (s:List UInt8) (k:Nat) (acc l:List Tok),s.length+1<=k+f->A3z s k l->T8 f s k acc=(acc++l,0,0)
 |0,s,k,acc,l,hf,h=>by
  cases l with
  |nil=>simp[T8]
  |cons t l=>have:=h.1;omega
 |f+1,s,k,acc,[],hf,h=>by
  rw[T8,if_pos (show s.length<=k from h)];simp
 |f+1,s,k,acc,t::l,hf,h=>by
  obtain⟨h1,h2,h3,h4⟩:=h;have hn:=A8s h2;rw[T8,if_neg (by omega),if_neg (by omega),B1k f s _ _ l (by omega) h4,h3,A0K];rfl
theorem A5h{s:List UInt8}(h:(J2 s).2.2=0):s.length<=20000/\A3z s (skM false s) (J2 s).1:=by
 unfold J2 at h ⊢;by_cases h1:20000<s.length
 ·grind
 ·rw[if_neg h1]at h ⊢;have:=A4i false s;obtain⟨l,e,hr⟩:=B1j _ s _ [] (by omega) h<;>simp_all
theorem C0s{s:List UInt8}{l:List Tok}(h1:s.length<=20000)(h:A3z s (skM false s) l):J2 s=(l,0,0):=by
 unfold J2;rw[if_neg (by omega),B1k _ s _ [] l (by omega) h];rfl
def TOk(t:Tok):Prop:=∃s p,(A7 s).err=0/\t=nxT (A7 s) p
theorem A3z.ok{s:List UInt8}:∀ {k:Nat} {l:List Tok},A3z s k l->∀t∈l,TOk t
 |k,[],_,t,h=>j8
 |k,x::l,h,t,ht=>by
  rcases A0U.1 ht with rfl|ht
  ·exact⟨_,_,h.2.1,h.2.2.1⟩
  ·exact A3z.ok h.2.2.2 t ht
theorem C7e{s:List UInt8}(h:(J2 s).2.2=0):∀t∈(J2 s).1,TOk t:=(A5h h).2.ok
theorem B6e{p:UInt8->Bool}:∀(s:List UInt8),F3 p (s.take (F3 p s))=F3 p s
 |[]=>rfl
 |c::r=>by
  have ih:=B6e (p:=p) r;by_cases h:p c=true
  ·simp only[F3,h,if_true,A0Y];rw[ih]
  simp_all[F3]
theorem B8d:∀ {s t:List UInt8} {n:Nat},quM s=some (t,n)->t.all txB=true
 |[],t,n,h=>l9
 |c::r,t,n,h=>by
  rw[T9]at h;split at h
  ·grind
  ·split at h
   ·grind
   ·rename_i h34 hr;split at h
    ·cases r with
     |nil=>grind
     |cons d q =>
      simp only at h;split at h
      ·rename_i hd;obtain⟨⟨t',n'⟩,h1,h2⟩:=A0T.1 h;have:=B8d h1;cases h2;simp only[A2Q,this,A3I,txB,A0G,A0L];omega
      grind
    ·obtain⟨⟨t',n'⟩,h1,h2⟩:=A0T.1 h;have:=B8d h1;cases h2<;>simp_all[txB]
theorem C4v{s:List UInt8}{p:Int}(h:(A7 s).err=0):K8 (nxT (A7 s) p)/\0<=(A7 s).value/\(A7 s).value<=2147483647:=by
 unfold K8;cases s with
 |nil=>trivial
 |cons c q =>
  by_cases hl:ltB c=true
  ·by_cases h12:12<F3 ptB (c::q)
   ·simp_all[A7,nxE]
   ·rw[A7,if_pos hl,if_neg h12,nxT]
    simp_all[F3,ptB,A2o,D8,B6e];omega
  ·by_cases hd:dgB c=true
   ·by_cases h3:1<F3 dgB (c::q)/\c.toNat=48
    ·simp_all[A7,nxE]
    ·by_cases h2:2147483647<Y3 ((c::q).take (F3 dgB (c::q)))
     ·rw[A7,if_neg hl,if_pos hd,if_neg h3,if_pos h2]at h;simp[nxE]at h
     simp_all[A7,if_neg,nxT];omega
   ·by_cases h34:c.toNat=34
    ·cases hq:quM q with
     |none=>simp_all[A7,nxE]
     |some x =>
      obtain⟨t,m⟩:=x;by_cases h32:32<t.length
      ·simp_all[A7,nxE]
      ·rw[A7,if_neg hl,if_neg hd,if_pos h34,hq];simp only;rw[if_neg h32,nxT];refine⟨⟨λhk=>j8,λhk=>by simp,λhk=>?_⟩,by simp,by simp⟩;simp only[Y7,B8d hq,A2D,A0L];omega
    ·by_cases hs:I4 (c::q)=0
     ·rw[A7,if_neg hl,if_neg hd,if_neg h34,if_pos hs]at h;simp[nxE]at h
     simp_all[A7,nxT]
theorem TOk.good{t:Tok}(h:TOk t):K8 t/\0<=t.value/\t.value<=2147483647:=by
 obtain⟨s,p,h1,rfl⟩:=h;obtain⟨h2,h3⟩:=C4v (p:=p) h1
 trivial
theorem B3m{s:List UInt8}(h:(J2 s).2.2=0):∀t∈(J2 s).1,K8 t:=λt ht=>(C7e h t ht).good.1
theorem D4r{s:List UInt8}(h:(J2 s).2.2=0):∀t∈(J2 s).1,0<=t.value/\t.value<=9223372036854775807:=λt ht=>by
 have:=(C7e h t ht).good.2;omega
theorem C7f{s:List UInt8}(h:(J2 s).2.2=0):(J2 s).1.length<=20000:=A1B (D0o s) (A5h h).1
def rd0:Rd:=⟨0,0,0,0,0⟩
def A2l(L:List Tok)(E:Int):Ru × Rd:=Classical.choose (C7g (L:=L) (E:=E) rd0)
theorem A7l(L:List Tok)(E:Int):Evt (λf=>B1r L E f rd0) (A2l L E):=Classical.choose_spec (C7g (L:=L) (E:=E) rd0)
def Ru0:Ru:=⟨[],[]⟩
def O7(s:List UInt8):Ru × Int × Int :=
 let q:=J2 s
 if q.2.2≠0 then(Ru0,q.2.1,q.2.2)
 else if okR (A2l q.1 s.length).2=false then(Ru0,(A2l q.1 s.length).2.pos,(A2l q.1 s.length).2.e)
 else((A2l q.1 s.length).1,0,0)
abbrev E1a(q:Ru × Int × Int):DV:=.tup [q.1.v,I64 q.2.1,I64 q.2.2]
theorem E0z(q:Ru × Int × Int):(E1a q).nl=true:=by
 simp[DV.nl,DV.nlL,S6,S0]
theorem C4p(s:List UInt8):X3 (O7 s).1=true:=by
 unfold O7;dsimp only;split
 ·rfl
 ·rename_i h;split
  ·rfl
  ·rename_i h2;obtain⟨f,hf⟩:=(A7l (J2 s).1 s.length).get<;>grind[B6g,B3m]
section
variable {L:List Tok} {E:Int}
theorem F1f(hG:∀t∈L,K8 t){k:Int}{s:Rd}:(Z3 L E k s).1.sz<=13:=by
 grind[A6a,Z3,Dc.sz]
theorem C6y{α:Type}(f : α->Nat)(l:List α)(x : α):((l++[x]).map f).sum=(l.map f).sum+f x:=by simp
theorem D6l(hG:∀t∈L,K8 t):∀(f:Nat) (l:List Hd) (s:Rd) (r:List Hd × Rd),A2a L E f l s=some r->(r.1.map Hd.sz).sum+45*s.i<=45*r.2.i+(l.map Hd.sz).sum
 |0,l,s,r,h=>l9
 |f+1,l,s,r,h=>by
  unfold A2a at h;dsimp only at h;split at h
  ·split at h
   ·cases h;show(l.map Hd.sz).sum+45*s.i<=45*(X6 L E s).i+_;rw[A0p];omega
   ·have h1:(C6 L E s ((l.length:Int)+1) 32 9).i=s.i:=J4;generalize C6 L E s ((l.length:Int)+1) 32 9=s1 at h h1;split at h
    ·cases h;have h2:=H4 (L:=L) (E:=E) (s:=s1) (x:=[111,110]);show(l.map Hd.sz).sum+45*s.i<=45*(X6 L E (D9 L E s1 [111,110])).i+_;rw[A0p];omega
    ·rename_i hk;obtain⟨hok,hi, -⟩:=K2 (show 0<=B8 L E (D9 L E s1 [111,110]) F8 by omega);have h3:(D9 L E s1 [111,110]).i=s1.i+1:=by rw[(B4t hok).2];rfl
     generalize D9 L E s1 [111,110]=s2 at h hk h3;have h4:=O0 (L:=L) (E:=E) (s:=A5 s2) (x:=1);have h5:=A6a (L:=L) (E:=E) hG (s:=A5 s2);have h6:(A5 s2).i=s2.i+1:=rfl;split at h
     ·cases h
     ·rename_i b s5 hb;have h7:=(SZ.all hG f).1 _ _ _ hb;have h8:=D6l hG f _ _ _ h;rw[C6y]at h8;have h9:s2.i+1<=(if 2<=B8 L E s2 F8 then(A8 L E (A5 s2) 1).2 else A5 s2).i:=by
       split
       ·omega
       ·omega
      have h10:(if 2<=B8 L E s2 F8 then(A8 L E (A5 s2) 1).1.text else []).length<=12:=by
       split
       ·exact h5
       ·exact A0Q _
      have h11:Hd.sz ⟨1+B8 L E s2 F8,if 2<=B8 L E s2 F8 then(A8 L E (A5 s2) 1).1.text else [],b,(B1 L E s1).pos⟩<=13+St.szs b:=by
       unfold Hd.sz;dsimp only;omega
      dsimp only at h7 h8;omega
  grind[H4]
theorem E9k(hG:∀t∈L,K8 t){f:Nat}{s:Rd}{r:Md × Rd}(h:A6u L E f s=some r)(hm:isR L E s [109,111,100,101]=true):r.1.sz+45*s.i<=45*r.2.i:=by
 unfold A6u at h;dsimp only at h;split at h
 ·grind
 ·rename_i l s3 hml;cases h;have h1:=D6l hG _ _ _ _ hml;have h2:(D9 L E s [109,111,100,101]).i=s.i+1:=by unfold D9;rw[if_neg (by rw[hm];decide)];rfl
  grind[A6a,O0,H4,Md.sz]
theorem C4e(hG:∀t∈L,K8 t):∀(f:Nat) (l:List Dc) (s:Rd) (r:List Dc × Rd),A1d L E f l s=some r->(r.1.map Dc.sz).sum+45*s.i<=45*r.2.i+(l.map Dc.sz).sum
 |0,l,s,r,h=>l9
 |f+1,l,s,r,h=>by
  unfold A1d at h;dsimp only at h;split at h
  ·grind
  ·have h1:(C6 L E s ((l.length:Int)+1) 128 9).i=s.i:=J4;split at h
   ·have h2:=C4e hG f _ _ _ h
    grind[F1f,D8s]
   ·have h2:=C4e hG f _ _ _ h;omega
theorem C4d(hG:∀t∈L,K8 t):∀(f:Nat) (l:List Md) (s:Rd) (r:List Md × Rd),A0r L E f l s=some r->(r.1.map Md.sz).sum+45*s.i<=45*r.2.i+(l.map Md.sz).sum
 |0,l,s,r,h=>l9
 |f+1,l,s,r,h=>by
  unfold A0r at h;dsimp only at h;split at h
  ·split at h
   ·cases h;show(l.map Md.sz).sum+45*s.i<=45*(X6 L E s).i+_;rw[A0p];omega
   ·rename_i hm;have hm:isR L E s [109,111,100,101]=true:=by simpa using hm
    split at h
    ·rename_i hl;have e0:=(J6 (by decide) hl).2.2;rw[e0]at h;split at h
     ·cases h
     ·rename_i m s2 hmd;have h1:=E9k hG hmd hm;have h2:=C4d hG f _ _ _ h;rw[C6y]at h2;dsimp only at h1;omega
    ·have h1:(C6 L E s ((l.length:Int)+1) 16 9).i=s.i:=J4;have h2:=C4d hG f _ _ _ h;omega
  grind
theorem E7j(hG:∀t∈L,K8 t){f:Nat}{s:Rd}{r:Ru × Rd}(h:B1r L E f s=some r)(hi:s.i<=L.length):r.1.sz<=45*L.length:=by
 unfold B1r at h;split at h
 ·grind
 ·rename_i d s1 hd;split at h
  ·grind
  ·rename_i m s2 hm;cases h;have h1:=C4e hG _ _ _ _ hd;have h2:=C4d hG _ _ _ _ hm;have h3:=D4v _ _ _ _ hm (D4x _ _ _ _ hd hi)
   grind[Ru.sz]
end
theorem C7h{L:List Tok}{E:Int}(hG:∀t∈L,K8 t):(A2l L E).1.sz<=45*L.length:=by
 obtain⟨f,hf⟩:=(A7l L E).get;exact E7j hG hf (A0Q _)
theorem E1b(s:List UInt8):(O7 s).1.sz<=900000:=by
 unfold O7;dsimp only;split
 ·show 0+0<=_;omega
 ·rename_i h;have h:(J2 s).2.2=0:=by simpa using h
  have h1:=C7f h;split
  ·show 0+0<=_;omega
  grind[C7h,B3m]
mutual
theorem Ex.plain_sz:∀e:Ex,e.plain.sz=e.sz
 |.mk k v n a p=>by rw[Ex.plain,Ex.sz,Ex.sz,Ex.plains_sz a]
theorem Ex.plains_sz:∀l:List Ex,Ex.szs (Ex.plains l)=Ex.szs l
 |[]=>rfl
 |e::l=>by rw[Ex.plains,Ex.szs,Ex.szs,Ex.plain_sz e,Ex.plains_sz l]
end
mutual
theorem St.plain_sz:∀e:St,e.plain.sz=e.sz
 |.mk k n t a x y p=>by rw[St.plain,St.sz,St.sz,Ex.plains_sz a,St.plains_sz x,St.plains_sz y]
theorem St.plains_sz:∀l:List St,St.szs (St.plains l)=St.szs l
 |[]=>rfl
 |e::l=>by rw[St.plains,St.szs,St.szs,St.plain_sz e,St.plains_sz l]
end
theorem Md.plain_sz(m:Md):m.plain.sz=m.sz:=by
 grind[Md.sz,Md.plain,List.map_congr_left,Hd.sz,Hd.plain,St.plains_sz]
theorem Ru.plain_sz(r:Ru):r.plain.sz=r.sz:=by
 unfold Ru.sz Ru.plain;dsimp only;rw[A2E,A2E]
 congr 2
 grind[List.map_congr_left,Md.plain_sz]
def D0e(r:Ru):Bool:=okR (A2l (ruT r) 0).2 && @decide ((A2l (ruT r) 0).1.plain=r.plain) (Classical.propDecidable _)
def A0b(t:Tok):Bool:=t.kind==5||t.kind==2
def ixA:Nat->List (List UInt8)->List UInt8->Int
 |_,[],_ => -1
 |k,t::l,x=>if x==t then(k:Int) else ixA (k+1) l x
def amT(t:Tok)(l:List (List UInt8)):Int:=if A0b t=true then ixA 0 l t.text else -1
def hd0(E:Int)(ts:List Tok):Tok:=ts.headD ⟨0,[],0,E⟩
def A1i(t:Tok):Int:=if amT t C9<0 then 0 else B0 (12+amT t C9)
abbrev lvo(E:Int)(ts:List Tok):Int:=A1i (hd0 E ts)
section
variable {L:List Tok} {E:Int}
theorem B2r(s:Rd):B1 L E s=hd0 E (L.drop s.i):=by
 grind[B1,hd0,List.head?_drop]
theorem D5{s:Rd}{t:Tok}{ts:List Tok}(h:L.drop s.i=t::ts):B1 L E s=t:=by rw[B2r,h];rfl
theorem H7{s:Rd}{t:Tok}{ts:List Tok}(h:L.drop s.i=t::ts):L.drop (s.i+1)=ts:=by
 rw[<- A3E,h];rfl
theorem J7{i:Nat}{a b:List Tok}(h:L.drop i=a++b):L.drop (i+a.length)=b:=by
 grind[List.drop_drop,List.drop_left]
theorem E5u{s:Rd}(hok:okR s=true):∀(l:List (List UInt8)) (k:Nat),A2i L E s k l=if A0b (B1 L E s)=true then ixA k l (B1 L E s).text else -1
 |[],k=>by simp[A2i,ixA]
 |t::l,k=>by
  have ih:=E5u hok l (k+1);have hi:isR L E s t=(A0b (B1 L E s)&&(B1 L E s).text==t):=by unfold isR A0b;rw[hok,A2D]
  rw[A2i,ixA,ih,hi]
  grind
theorem A1b{s:Rd}(hok:okR s=true)(l:List (List UInt8)):B8 L E s l=amT (B1 L E s) l:=E5u hok l 0
theorem A6v{s:Rd}(hok:okR s=true)(t:List UInt8):isR L E s t=(A0b (B1 L E s)&&(B1 L E s).text==t):=by simp_all[isR,A0b]
theorem B6w{s:Rd}(hok:okR s=true)(k:Int):N9 L E s k=((B1 L E s).kind==k):=by simp_all[N9]
theorem E5m{s:Rd}{t:List UInt8}(hok:okR s=true)(h1:A0b (B1 L E s)=true)(h2:(B1 L E s).text=t):D9 L E s t=A5 s:=by
 simp_all[D9,A6v]
theorem B7z{s:Rd}{k:Int}(hok:okR s=true)(h1:(B1 L E s).kind=k):A8 L E s k=(B1 L E s,A5 s):=by
 simp_all[A8,B6w]
def adv(s:Rd)(k:Nat)(o:Nat):Rd:={ s with i:=s.i+k,ops:=s.ops+(o:Int) }
theorem A5w{s:Rd}{k o:Nat}(h:okR s=true):okR (adv s k o)=true:=h
theorem A2c{n:Int}{e:Ex}{s:Rd}(hok:okR s=true)(hn:1<=n)(h:lvo E (L.drop s.i)≠n):Lop L E n e s (e,s):=by
 refine Lop.stop ?_
 simp_all[A1b,B2r,A1i];omega
theorem B5i{s s1:Rd}{e:Ex}(hok:okR s1=true):∀(j:Nat) {m n:Int} {r:Ex × Rd},m-n<=j->Bin L E m s (e,s1)->1<=n->n<m->m<=6->lvo E (L.drop s1.i)<=n->Lop L E n e s1 r->Bin L E n s r
 |0,m,n,r,hj,h,h1,h2,h3,h4,hr=>a8
 |j+1,m,n,r,hj,h,h1,h2,h3,h4,hr=>by
  by_cases he:n+1=m
  ·exact Bin.go (by omega) (by grind) hr
  ·refine Bin.go (by omega) ?_ hr;exact B5i hok j (m:=m) (n:=n+1) (by omega) h (by omega) (by omega) h3 (by omega) (A2c hok (by omega) (by omega))
theorem B7t{s s1:Rd}{e:Ex}{n:Int}{r:Ex × Rd}(hok:okR s1=true)(h:Un L E s (e,s1))(h1:1<=n)(h2:n<=5)(h4:lvo E (L.drop s1.i)<=n)(hr:Lop L E n e s1 r):Bin L E n s r :=
 B5i hok 6 (m:=6) (by omega) (Bin.un (by simp) h) h1 (by omega) (by omega) h4 hr
theorem E6h{s s1:Rd}{e:Ex}{n:Int}(hok:okR s1=true)(h:Un L E s (e,s1))(h1:1<=n)(h2:n<=5)(h4:lvo E (L.drop s1.i)<n):Bin L E n s (e,s1) :=
 B7t hok h h1 h2 (by omega) (A2c hok h1 (by omega))
theorem C9x{t:Tok}(l:List (List UInt8))(h:A0b t=false):amT t l = -1:=by simp_all[amT]
theorem D5p{s:Rd}{v:Int}{ts:List Tok}(hok:okR s=true)(h:L.drop s.i=⟨3,[],v,0⟩::ts)(ho:s.ops+1<=32):Un L E s (.mk 1 v [] [] 0,adv s 1 1):=by
 have hp:=D5 (E:=E) h;have ha:∀l,B8 L E s l = -1:=λl=>by rw[A1b hok,hp];exact C9x l rfl
 have h1:=Un.prim (L:=L) (E:=E) (s:=s) (by rw[ha];decide);have h2:N3 L E s=(.mk 1 v [] [] 0,adv s 1 1):=by
  unfold N3;dsimp only;rw[ha,hp,B6w hok,B6w hok,hp,if_neg (by simp),show C6 L E { s with ops:=s.ops+1 } (s.ops+1) 32 9 = { s with ops:=s.ops+1 } from if_neg (by omega),if_neg (by show ¬okR s=false;rw[hok];decide),if_neg (by decide),if_pos rfl];rfl
 grind
theorem D5o{s:Rd}{n:List UInt8}{ts:List Tok}(hok:okR s=true)(h:L.drop s.i=⟨1,n,0,0⟩::ts)(ho:s.ops+1<=32):Un L E s (.mk 2 0 n [] 0,adv s 1 1):=by
 have hp:=D5 (E:=E) h;have ha:∀l,B8 L E s l = -1:=λl=>by rw[A1b hok,hp];exact C9x l rfl
 have h1:=Un.prim (L:=L) (E:=E) (s:=s) (by rw[ha];decide);have h2:N3 L E s=(.mk 2 0 n [] 0,adv s 1 1):=by
  unfold N3;dsimp only;rw[ha,hp,B6w hok,B6w hok,hp,if_neg (by simp),show C6 L E { s with ops:=s.ops+1 } (s.ops+1) 32 9 = { s with ops:=s.ops+1 } from if_neg (by omega),if_neg (by show ¬okR s=false;rw[hok];decide),if_neg (by decide),if_neg (by show ¬(1:Int)=3;decide)];rfl
 grind
theorem A6c{s:Rd}{w:List UInt8}{ts:List Tok}{j:Nat}(hok:okR s=true)(h:L.drop s.i=A2 w::ts)(ho:s.ops+1<=32)(hj:j<4)(hi:amT (A2 w) I0=(j:Int))(hpre:amT (A2 w) Q4<0):
  Un L E s (.mk (A3d.getD j 0) 0 [] [] 0,adv s 1 1):=by
 have hp:=D5 (E:=E) h;have h1:=Un.prim (L:=L) (E:=E) (s:=s) (by rw[A1b hok,hp];exact hpre);have ha:B8 L E s I0=(j:Int):=by rw[A1b hok,hp];exact hi
 have h2:N3 L E s=(.mk (A3d.getD j 0) 0 [] [] 0,adv s 1 1):=by
  unfold N3;dsimp only;rw[ha,hp,if_neg (by omega),show C6 L E { s with ops:=s.ops+1 } (s.ops+1) 32 9 = { s with ops:=s.ops+1 } from if_neg (by omega),if_neg (by show ¬okR s=false;rw[hok];decide),if_pos (by omega),if_neg (by omega)];rfl
 grind
theorem B0f{s:Rd}{w n:List UInt8}{ts:List Tok}{j:Nat}(hok:okR s=true)(h:L.drop s.i=A2 w::⟨1,n,0,0⟩::ts)(ho:s.ops+1<=32)(hj4:4<=j)(hj:j<7)(hi:amT (A2 w) I0=(j:Int))(hpre:amT (A2 w) Q4<0):
  Un L E s (.mk (A3d.getD j 0) 0 n [] 0,adv s 2 1):=by
 have hp:=D5 (E:=E) h;have hd:=H7 h;have h1:=Un.prim (L:=L) (E:=E) (s:=s) (by rw[A1b hok,hp];exact hpre);have ha:B8 L E s I0=(j:Int):=by rw[A1b hok,hp];exact hi
 have hp2:B1 L E (A5 { s with ops:=s.ops+1 })=⟨1,n,0,0⟩:=D5 hd;have ht:A8 L E (A5 { s with ops:=s.ops+1 }) 1=(⟨1,n,0,0⟩,A5 (A5 { s with ops:=s.ops+1 })):=by
  rw[B7z (show okR (A5 { s with ops:=s.ops+1 })=true from hok) (by rw[hp2]),hp2]
 have h2:N3 L E s=(.mk (A3d.getD j 0) 0 n [] 0,adv s 2 1):=by
  unfold N3;dsimp only;rw[ha,hp,if_neg (by omega),show C6 L E { s with ops:=s.ops+1 } (s.ops+1) 32 9 = { s with ops:=s.ops+1 } from if_neg (by omega),if_neg (by show ¬okR s=false;rw[hok];decide),if_pos (by omega),if_pos (by omega),ht];rfl
 grind
def CE(L:List Tok)(E:Int)(e:Ex):Prop:=∀o d,msM e=some (o,d)->∀(s:Rd) (post:List Tok),L.drop s.i=exT e++post->okR s=true->s.ops+(o:Int)<=32->s.par+(d:Int)<=16 ->
 ∃e',e'.plain=e.plain/\(6<=B0 e.kind->Un L E s (e',adv s (exT e).length o)) /\
  (∀n,1<=n->n<=5->n<=B0 e.kind->lvo E post<=n->(n=3->lvo E post≠3)->∀r,Lop L E n e' (adv s (exT e).length o) r->Bin L E n s r)
theorem F1v:amT (A2 [40]) Q4=2:=by rfl
theorem D9k:amT (A2 [45]) Q4=0:=by rfl
theorem E3z:amT (A2 [33]) Q4=1:=by rfl
theorem C8p:A1i (A2 [41])=0:=by rfl
theorem E0k:A0b (A2 [41])=true:=by rfl
theorem A7w{s:Rd}{n m e:Int}(h:n<=m):C6 L E s n m e=s:=if_neg (by omega)
theorem E4w{x:Ex}(hx:CE L E x){o d:Nat}(hm:msM x=some (o,d)){s:Rd}{post:List Tok}(h:L.drop s.i=[A2 [40]]++exT x++[A2 [41]]++post)(hok:okR s=true)(ho:s.ops+(o:Int)<=32)(hp:s.par+((d+1:Nat):Int)<=16):
  ∃x',x'.plain=x.plain/\Un L E s (x',adv s ([A2 [40]]++exT x++[A2 [41]]).length o):=by
 have h0:L.drop s.i=A2 [40]::(exT x++([A2 [41]]++post)):=by rw[h];simp
 have h1:=H7 h0;have hpk:=D5 (E:=E) h0;obtain⟨x',e1, -,e3⟩:=hx o d hm { s with i:=s.i+1,par:=s.par+1 } ([A2 [41]]++post) h1 hok ho (by show s.par+1+(d:Int)<=16;omega);have hd2:L.drop (s.i+1+(exT x).length)=A2 [41]::post:=J7 h1;have hb:=e3 1 (by decide) (by decide) (by have:=A1r x.kind;omega) (by show A1i (A2 [41])<=1;rw[C8p];decide) (λh=>absurd h (by decide)) _ (A2c (show okR s=true from hok) (by decide) (by show A1i (hd0 E (L.drop (s.i+1+(exT x).length)))≠1;rw[hd2];show A1i (A2 [41])≠1;rw[C8p];decide));have hu:=Un.par (by rw[A1b hok,hpk];exact F1v) (by rw[A7w (by omega)];exact hok) hb;refine⟨x',e1,?_⟩;have hpk2:B1 L E (adv { s with i:=s.i+1,par:=s.par+1 } (exT x).length o)=A2 [41]:=D5 hd2;rw[E5m (show okR (adv { s with i:=s.i+1,par:=s.par+1 } (exT x).length o)=true from hok) (by rw[hpk2];exact E0k) (by rw[hpk2];rfl)]at hu;have e4:({ A5 (adv { s with i:=s.i+1,par:=s.par+1 } (exT x).length o) with par:=(A5 (adv { s with i:=s.i+1,par:=s.par+1 } (exT x).length o)).par-1 }:Rd)=adv s ([A2 [40]]++exT x++[A2 [41]]).length o:=by
  have a1:s.i+1+(exT x).length+1=s.i+([A2 [40]]++exT x++[A2 [41]]).length:=b9
  have a2:s.par+1-1=s.par:=a8
  show Rd.mk (s.i+1+(exT x).length+1) s.e s.pos (s.ops+(o:Int)) (s.par+1-1)=Rd.mk (s.i+([A2 [40]]++exT x++[A2 [41]]).length) s.e s.pos (s.ops+(o:Int)) s.par;rw[a1,a2]
 grind
theorem B8h{x:Ex}(hx:CE L E x){o d:Nat}{least:Int}(hm:msM x=some (o,d)){s:Rd}{post:List Tok}(h:L.drop s.i=H9 (x.kind,exT x) least++post)(hok:okR s=true)(ho:s.ops+(o:Int)<=32)(hp:s.par+((if B0 x.kind<least then d+1 else d:Nat):Int)<=16)(h1:1<=least)(h6:least<=6)(hl:lvo E post<least):
  ∃x',x'.plain=x.plain/\(least<=5->Bin L E least s (x',adv s (H9 (x.kind,exT x) least).length o))/\(least=6->Un L E s (x',adv s (H9 (x.kind,exT x) least).length o)):=by
 have hdp:=J7 h;unfold H9 at h hdp ⊢;dsimp only at h hdp ⊢;by_cases hlt:B0 x.kind<least
 ·rw[if_pos hlt]at h hp hdp ⊢;obtain⟨x',e1,e2⟩:=E4w hx hm h hok ho hp;exact⟨x',e1,λh5=>E6h (A5w hok) e2 h1 h5 (by show lvo E (L.drop (s.i+_))<least;grind),λ_=>e2⟩
 ·rw[if_neg hlt]at h hp hdp ⊢;obtain⟨x',e1,e2,e3⟩:=hx o d hm s post h hok ho hp;refine⟨x',e1,λh5=>?_,λh=>e2 (by omega)⟩;refine e3 least h1 h5 (by omega) (by omega) (by omega) _ (A2c (A5w hok) h1 ?_);show lvo E (L.drop (s.i+_))≠least
  grind
theorem E1x{x:Ex}(hx:CE L E x){o d:Nat}{q:Int}(hm:msM x=some (o,d)){s:Rd}{post:List Tok}(h:L.drop s.i=H9 (x.kind,exT x) (if q=3 then 4 else q)++post)(hok:okR s=true)(ho:s.ops+(o:Int)<=32)(hp:s.par+((if B0 x.kind<(if q=3 then 4 else q) then d+1 else d:Nat):Int)<=16)(h1:1<=q)(h5:q<=5)(hl:lvo E post=q):
  ∃x',x'.plain=x.plain/\∀r,Lop L E q x' (adv s (H9 (x.kind,exT x) (if q=3 then 4 else q)).length o) r->Bin L E q s r:=by
 have hdp:=J7 h;by_cases h3:q=3
 ·subst h3;rw[if_pos rfl]at h hp hdp ⊢;obtain⟨x',e1,e2, -⟩:=B8h hx hm h hok ho hp (by simp) (by simp) (by omega);exact⟨x',e1,λr hr=>Bin.go (by simp) (e2 (by simp)) hr⟩
 ·rw[if_neg h3]at h hp hdp ⊢;unfold H9 at h hdp ⊢;dsimp only at h hdp ⊢;by_cases hlt:B0 x.kind<q
  ·rw[if_pos hlt]at h hp hdp ⊢;obtain⟨x',e1,e2⟩:=E4w hx hm h hok ho hp;exact⟨x',e1,λr hr=>B7t (A5w hok) e2 h1 h5 (by show lvo E (L.drop (s.i+_))<=q;grind) hr⟩
  ·rw[if_neg hlt]at h hp hdp ⊢;obtain⟨x',e1,e2,e3⟩:=hx o d hm s post h hok ho hp<;>grind
theorem B4d{k v:Int}{n:List UInt8}{a:List Ex}{p:Int}{o d:Nat}(h:msM (.mk k v n a p)=some (o,d)):
  kOk k=true/\a.length=N5 k/\B0k k n=true/\A5f k v=true/\(N5 k=0->o=1/\d=0)/\(N5 k≠0->∃d',msL k 0 a=some (o,d')/\d=if N5 k=1 then d'+1 else d'):=by
 unfold msM at h
 grind
theorem D4k:∀j:Nat,j<13->amT (A2 (C9.getD j [])) C9=(j:Int)/\A0b (A2 (C9.getD j []))=true:=l9
theorem nm0{k:Int}{n:List UInt8}(h:B0k k n=true)(h2:k≠2)(h5:C1i k=false):n=[]:=by
 simp_all[B0k]
theorem vl0{k v:Int}(h:A5f k v=true)(h1:k≠1):v=0:=by
 simp_all[A5f]
theorem C8w{α:Type}{l:List α}(h:l.length=2):∃x y,l=[x,y]:=by
 match l,h with
 |[x,y],_=>simp
theorem C2f:∀(m:Nat) (e:Ex),e.sz<m->CE L E e:=by
 intro m
 induction m with
 |zero=>omega
 |succ m ih =>
 intro e hm o d hms s post h hok ho hp;cases e with|mk k v n a p =>
 obtain⟨h1,h2,h3,h4,h5,h6⟩:=B4d hms;have hlr:=A1r k
 have viaUn:∀e':Ex,e'.plain=(Ex.mk k v n a p).plain->Un L E s (e',adv s (exT (.mk k v n a p)).length o) ->
   ∃e',e'.plain=(Ex.mk k v n a p).plain/\(6<=B0 k->Un L E s (e',adv s (exT (.mk k v n a p)).length o)) /\
    (∀n',1<=n'->n'<=5->n'<=B0 k->lvo E post<=n'->(n'=3->lvo E post≠3)->∀r,Lop L E n' e' (adv s (exT (.mk k v n a p)).length o) r->Bin L E n' s r):=λe' he hu =>
  ⟨e',he,λ_=>hu,λn' q1 q2 _ q4 _ r hr=>B7t (A5w hok) hu q1 q2 (by show lvo E (L.drop (s.i+_))<=n';grind[J7]) hr⟩
 by_cases hc0:N5 k=0
 ·obtain⟨rfl,rfl⟩:=h5 hc0;have ha:a=[]:=A1Y (by omega);subst ha;have hl7:B0 k=7:=by
   grind[N5]
  have hk9:1<=k/\k<=9:=by
   unfold kOk at h1;simp only[A1H,A0G,A0L]at h1;have hk24:1<=k/\k<=24:=a8
   refine⟨hk24.1,?_⟩;apply Classical.byContradiction
   grind[B0]
  refine(show ∃e',_ from ?_);have hT:exT (.mk k v n [] p)=P6 k v n []:=by rfl
  rw[hT]at h viaUn ⊢;have ho1:s.ops+1<=32:=ho;have:k=1\/k=2\/k=3\/k=4\/k=5\/k=6\/k=7\/k=8\/k=9:=a8
  rcases this with rfl|rfl|rfl|rfl|rfl|rfl|rfl|rfl|rfl
  ·have hn:=nm0 h3 (by simp) (by rfl);subst hn;have hv:¬(v<0\/2147483647<v):=by
    simp_all[A5f];omega
   have hb:P6 1 v [] []=[⟨3,[],v,0⟩]:=by simp_all[P6,A0s,if_neg]
   rw[hb]at h viaUn ⊢;exact viaUn (.mk 1 v [] [] 0) rfl (D5p hok h ho1)
  ·have hv:=vl0 h4 (by simp);subst hv;have hn:D8 n=true:=h3;have hb:P6 2 0 n []=[⟨1,n,0,0⟩]:=by simp_all[P6,F1]
   rw[hb]at h viaUn ⊢;exact viaUn (.mk 2 0 n [] 0) rfl (D5o hok h ho1)
  ·have hv:=vl0 h4 (by simp);have hn:=nm0 h3 (by simp) (by rfl);subst hv hn;have hb:P6 3 0 [] []=[A2 [116,114,117,101]]:=rfl;rw[hb]at h viaUn ⊢;exact viaUn (.mk 3 0 [] [] 0) rfl (A6c (j:=0) hok h ho1 (by simp) (by rfl) (by trivial))
  ·have hv:=vl0 h4 (by simp);have hn:=nm0 h3 (by simp) (by rfl);subst hv hn;have hb:P6 4 0 [] []=[A2 [102,97,108,115,101]]:=rfl;rw[hb]at h viaUn ⊢;exact viaUn (.mk 4 0 [] [] 0) rfl (A6c (j:=1) hok h ho1 (by simp) (by rfl) (by trivial))
  ·have hv:=vl0 h4 (by simp);subst hv;have hn:D8 n=true:=h3;have hb:P6 5 0 n []=[A2 [99,108,111,115,101,100],⟨1,n,0,0⟩]:=by
    show [A2 [99,108,111,115,101,100]]++F1 n=_
    simp_all[F1]
   rw[hb]at h viaUn ⊢;exact viaUn (.mk 5 0 n [] 0) rfl (B0f (j:=4) hok h ho1 (by simp) (by simp) (by rfl) (by trivial))
  ·have hv:=vl0 h4 (by simp);subst hv;have hn:D8 n=true:=h3;have hb:P6 6 0 n []=[A2 [97,99,116,105,118,101],⟨1,n,0,0⟩]:=by
    show [A2 [97,99,116,105,118,101]]++F1 n=_
    simp_all[F1]
   rw[hb]at h viaUn ⊢;exact viaUn (.mk 6 0 n [] 0) rfl (B0f (j:=5) hok h ho1 (by simp) (by simp) (by rfl) (by trivial))
  ·have hv:=vl0 h4 (by simp);subst hv;have hn:D8 n=true:=h3;have hb:P6 7 0 n []=[A2 [108,101,102,116],⟨1,n,0,0⟩]:=by
    show [A2 [108,101,102,116]]++F1 n=_
    simp_all[F1]
   rw[hb]at h viaUn ⊢;exact viaUn (.mk 7 0 n [] 0) rfl (B0f (j:=6) hok h ho1 (by simp) (by simp) (by rfl) (by trivial))
  ·have hv:=vl0 h4 (by simp);have hn:=nm0 h3 (by simp) (by rfl);subst hv hn;have hb:P6 8 0 [] []=[A2 [112,108,97,121,101,114]]:=rfl;rw[hb]at h viaUn ⊢;exact viaUn (.mk 8 0 [] [] 0) rfl (A6c (j:=2) hok h ho1 (by simp) (by rfl) (by trivial))
  ·have hv:=vl0 h4 (by simp);have hn:=nm0 h3 (by simp) (by rfl);subst hv hn;have hb:P6 9 0 [] []=[A2 [98,97,108,108]]:=rfl;rw[hb]at h viaUn ⊢;exact viaUn (.mk 9 0 [] [] 0) rfl (A6c (j:=3) hok h ho1 (by simp) (by rfl) (by trivial))
 obtain⟨d',hl,hd'⟩:=h6 hc0;clear h5 h6;have hv:=vl0 h4 (by rintro rfl;trivial);have hn:=nm0 h3 (by rintro rfl;trivial) (by
  cases hz:C1i k with
  |false=>rfl
  |true =>
   unfold C1i at hz;simp only[A1H,A1S]at hz;rcases hz with rfl|rfl|rfl<;>exact absurd rfl hc0)
 subst hv hn;by_cases hl6:B0 k=6
 ·
  have hk:k=10\/k=11:=by
   grind[B0]
  have hc1:N5 k=1:=by simp_all[N5]
  rw[hc1]at h2 hd';rw[if_pos rfl]at hd';obtain⟨x,rfl⟩:∃x,a=[x]:=List.length_eq_one_iff.1 h2;have hxc:=ih x (by grind[Ex.sz,Ex.szs]);unfold msL at hl;cases hx:msM x with
  |none=>grind
  |some q =>
   obtain⟨o1,d1⟩:=q;rw[hx]at hl;dsimp only at hl;unfold msL at hl;dsimp only at hl;simp only[Option.some.injEq,Prod.mk.injEq,A3C,Nat.max_zero]at hl;obtain⟨rfl,hd1⟩:=hl;have hwr:A3b k x.kind 0=decide (B0 x.kind<6):=by
    unfold A3b;rw[hl6];simp
   rw[hwr]at hd1;have hT:exT (.mk k 0 [] [x] p)=[A2 (if k=10 then [45] else [33])]++H9 (x.kind,exT x) 6:=by
    rw[exT,B4u,B4u];rcases hk with rfl|rfl<;>rfl
   rw[hT]at h viaUn ⊢;have h0:L.drop s.i=A2 (if k=10 then [45] else [33])::(H9 (x.kind,exT x) 6++post):=by rw[h];simp
   have hdn:=H7 h0;have hpk:=D5 (E:=E) h0;have ham:B8 L E s Q4=k-10:=by
    rw[A1b hok,hpk];rcases hk with rfl|rfl
    ·exact D9k
    ·exact E3z
   have hlt6:lvo E post<6:=by
    unfold lvo A1i;split
    ·decide
    ·rename_i hz;have:=A1r (12+amT (hd0 E post) C9);have h13:amT (hd0 E post) C9<13:=by
      have gen:∀(l:List (List UInt8)) (j:Nat) (w:List UInt8),ixA j l w<((j+l.length:Nat):Int):=by
       intro l
       induction l with
       |nil=>intro j w;simp[ixA];omega
       |cons a l ih =>
        intro j w;have:=ih (j+1) w;simp only[ixA,A0C];split<;>omega
      unfold amT;split
      ·exact gen C9 0 _
      ·decide
     exact E1w (by omega) h13
   obtain⟨x',e1, -,e3⟩:=B8h (least:=6) hxc hx (s:={ s with i:=s.i+1,par:=s.par+1 }) hdn hok ho (by
    show s.par+1+_<=16;have:((if B0 x.kind<6 then d1+1 else d1:Nat):Int)=(d':Int):=by
     rw[<- hd1];by_cases hz:B0 x.kind<6
     ·rw[if_pos hz,if_pos (by simpa using hz)]
     ·rw[if_neg hz,if_neg (by simpa using hz)]
    rw[this];omega) (by decide) (by decide) hlt6
   have hu:=Un.pre (L:=L) (E:=E) (s:=s) (by rw[ham];omega) (by rw[ham];omega) (by rw[A7w (by omega)];exact hok) (e3 rfl)
   grind[adv,Ex.plain,Ex.plains]
 ·
  have hl5:B0 k<=5:=by
   simp_all[N5];omega
  have hc2:N5 k=2:=by simp_all[N5]
  rw[hc2]at h2 hd';rw[if_neg (by simp)]at hd';subst hd';obtain⟨x,y,rfl⟩:∃x y,a=[x,y]:=C8w h2;have hxc:=ih x (by grind[Ex.sz,Ex.szs]);have hyc:=ih y (by grind[Ex.sz,Ex.szs]);unfold msL at hl;cases hx:msM x with
  |none=>grind
  |some q =>
   obtain⟨o1,d1⟩:=q;rw[hx]at hl;dsimp only at hl;unfold msL at hl;cases hy:msM y with
   |none=>grind
   |some q2 =>
    obtain⟨o2,d2⟩:=q2;rw[hy]at hl;dsimp only at hl;unfold msL at hl;dsimp only at hl;simp only[Option.some.injEq,Prod.mk.injEq,A3C,Nat.max_zero]at hl;obtain⟨rfl,hdd⟩:=hl;have hlk:=B8p (k:=k) (by omega);have hk12:12<=k:=by
     apply Classical.byContradiction
     grind[A8y]
    obtain⟨j,hj⟩:∃j:Nat,k=12+(j:Int):=⟨(k-12).toNat,by omega⟩;have hj13:j<13:=a8
    have hjn:(k-12).toNat=j:=a8
    obtain⟨hs1,hs2⟩:=D4k j hj13;have hT:exT (.mk k 0 [] [x,y] p)=H9 (x.kind,exT x) (if B0 k=3 then 4 else B0 k)++[A2 (C9.getD j [])]++H9 (y.kind,exT y) (B0 k+1):=by
     rw[exT,B4u,B4u,B4u];unfold P6
     grind
    rw[hT]at h ⊢;generalize A2 (C9.getD j [])=sg at hs1 hs2 hT h ⊢;have hsl:A1i sg=B0 k:=by simp_all[A1i,if_neg]
    have hdx:((if B0 x.kind<(if B0 k=3 then 4 else B0 k) then d1+1 else d1:Nat):Int)<=(d:Int):=by
     have hwr:(A3b k x.kind 0=true)↔B0 x.kind<(if B0 k=3 then 4 else B0 k):=by
      unfold A3b;simp only[A1H,A0G,A0L,A1S];by_cases h3:B0 k=3
      ·rw[if_pos h3];omega
      ·rw[if_neg h3];omega
     grind
    have hdy:((if B0 y.kind<B0 k+1 then d2+1 else d2:Nat):Int)<=(d:Int):=by
     have hwr:(A3b k y.kind (0+1)=true)↔B0 y.kind<B0 k+1:=by
      unfold A3b;rw[show((0+1:Nat)==1)=true from rfl,Bool.true_or,A3I];simp only[A1H,A0L,A1S];omega
     grind
    have h0:L.drop s.i=H9 (x.kind,exT x) (if B0 k=3 then 4 else B0 k)++(sg::(H9 (y.kind,exT y) (B0 k+1)++post)):=j8
    obtain⟨x',e1,e2⟩:=E1x hxc hx h0 hok (by omega) (by omega) hlr.1 hl5 (by assumption);have hd1:=J7 h0;have hpk:B1 L E (adv s (H9 (x.kind,exT x) (if B0 k=3 then 4 else B0 k)).length o1)=sg:=D5 hd1;have hd2:=H7 (s:=adv s (H9 (x.kind,exT x) (if B0 k=3 then 4 else B0 k)).length o1) hd1;have ham:B8 L E (adv s (H9 (x.kind,exT x) (if B0 k=3 then 4 else B0 k)).length o1) C9=(j:Int):=by grind[A1b,A5w]
    have hfin:s.i+(H9 (x.kind,exT x) (if B0 k=3 then 4 else B0 k)).length+1+(H9 (y.kind,exT y) (B0 k+1)).length=s.i+(H9 (x.kind,exT x) (if B0 k=3 then 4 else B0 k)++[sg]++H9 (y.kind,exT y) (B0 k+1)).length:=j8
    have hadv:adv (A5 (adv s (H9 (x.kind,exT x) (if B0 k=3 then 4 else B0 k)).length o1)) (H9 (y.kind,exT y) (B0 k+1)).length o2=adv s (H9 (x.kind,exT x) (if B0 k=3 then 4 else B0 k)++[sg]++H9 (y.kind,exT y) (B0 k+1)).length (o1+o2):=by
     have a2:s.ops+(o1:Int)+(o2:Int)=s.ops+((o1+o2:Nat):Int):=a8
     show Rd.mk (s.i+_+1+_) s.e s.pos (s.ops+(o1:Int)+(o2:Int)) s.par=Rd.mk (s.i+_) s.e s.pos (s.ops+((o1+o2:Nat):Int)) s.par
     grind
    have hdr:=J7 h;have main:lvo E post<=B0 k->∃y',y'.plain=y.plain/\Bin L E (B0 k+1) (A5 (adv s (H9 (x.kind,exT x) (if B0 k=3 then 4 else B0 k)).length o1)) (y',adv s (H9 (x.kind,exT x) (if B0 k=3 then 4 else B0 k)++[sg]++H9 (y.kind,exT y) (B0 k+1)).length (o1+o2)):=by
     intro hlv;obtain⟨y',f1,f2,f3⟩:=B8h (least:=B0 k+1) hyc hy (s:=A5 (adv s (H9 (x.kind,exT x) (if B0 k=3 then 4 else B0 k)).length o1)) hd2 hok (by show s.ops+(o1:Int)+(o2:Int)<=32;omega) (by show s.par+_<=16;omega) (by omega) (by omega) (by omega);rw[hadv]at f2 f3;refine⟨y',f1,?_⟩;by_cases h5':B0 k+1<=5
     ·grind
     ·exact Bin.un (by omega) (f3 (by omega))
    by_cases hlv:lvo E post<=B0 k
    ·obtain⟨y',f1,f2⟩:=main hlv;refine⟨.mk k 0 [] [x',y'] sg.pos,?_,λh=>absurd h (by show ¬ 6<=B0 k;omega),?_⟩
     ·grind[Ex.plain,Ex.plains]
     ·intro n' q1 q2 q3 q4 q5 r hr;have q3:n'<=B0 k:=q3;have key:∀r',Lop L E (B0 k) (.mk k 0 [] [x',y'] sg.pos) (adv s (H9 (x.kind,exT x) (if B0 k=3 then 4 else B0 k)++[sg]++H9 (y.kind,exT y) (B0 k+1)).length (o1+o2)) r'->(B0 k=3->lvo E post≠3)->Bin L E (B0 k) s r':=by
       intro r' hr' h33;refine e2 r' ?_;by_cases h3:B0 k=3
       ·have hst:=A2c (L:=L) (E:=E) (n:=B0 k) (e:=.mk k 0 [] [x',y'] sg.pos) (s:=adv s (H9 (x.kind,exT x) (if B0 k=3 then 4 else B0 k)++[sg]++H9 (y.kind,exT y) (B0 k+1)).length (o1+o2)) (A5w hok) hlr.1 (by show lvo E (L.drop (s.i+_))≠B0 k;rw[hdr,h3];exact h33 h3);have:=Evt.uniq hr' hst;rw[this];have ht:=Lop.three (L:=L) (E:=E) (n:=B0 k) (e:=x') (x:=y') (s:=adv s (H9 (x.kind,exT x) (if B0 k=3 then 4 else B0 k)).length o1) (by rw[ham];omega) (by rw[ham, <- hj]) h3 f2
        grind
       ·refine Lop.more (by rw[ham];omega) (by rw[ham, <- hj]) h3 f2 ?_
        grind
      by_cases hnq:n'=B0 k
      ·simp_all
      ·refine B5i (A5w hok) 6 (m:=B0 k) (by omega) (key _ (A2c (A5w hok) hlr.1 ?_) (by omega)) q1 (by omega) (by omega) ?_ hr
       ·show lvo E (L.drop (s.i+_))≠B0 k
        grind
       ·show lvo E (L.drop (s.i+_))<=n'
        grind
    ·refine⟨.mk k 0 [] [x,y] p,rfl,λh=>absurd h (by show ¬ 6<=B0 k;omega),?_⟩;intro n' q1 q2 q3 q4 q5 r hr;have q3:n'<=B0 k:=q3;omega
theorem Q2{e:Ex}(hv:Z9 e=true){s:Rd}{post:List Tok}(h:L.drop s.i=exT e++post)(hok:okR s=true)(hl:lvo E post=0):
  ∃e' s',e'.plain=e.plain/\Xpn L E s (e',s')/\s'.i=s.i+(exT e).length/\okR s'=true:=by
 unfold Z9 at hv;cases hms:msM e with
 |none=>grind
 |some q =>
  obtain⟨o,d⟩:=q;rw[hms]at hv;simp only[A0G,A0L]at hv;obtain⟨e',e1, -,e3⟩:=C2f (L:=L) (E:=E) (e.sz+1) e (by omega) o d hms { s with ops:=0,par:=0 } post h hok (by show(0:Int)+(o:Int)<=32;omega) (by show(0:Int)+(d:Int)<=16;omega);refine⟨e',adv { s with ops:=0,par:=0 } (exT e).length o,e1,?_,rfl,hok⟩;refine e3 1 (by decide) (by decide) (A1r _).1 (by omega) (λh=>absurd h (by decide)) _ (A2c (show okR s=true from hok) (by decide) ?_);show lvo E (L.drop (s.i+_))≠1
  grind[J7]
end
section
variable {L:List Tok} {E:Int}
theorem Z1{s:Rd}{w:List UInt8}{ts:List Tok}(h:L.drop s.i=A2 w::ts)(hok:okR s=true)(hs:A0b (A2 w)=true):D9 L E s w=A5 s :=
 E5m hok (by grind[D5]) (by rw[D5 h];rfl)
theorem A7i{s:Rd}{n:List UInt8}{ts:List Tok}(h:L.drop s.i=F1 n++ts)(hok:okR s=true)(hn:D8 n=true):A8 L E s 1=(⟨1,n,0,0⟩,A5 s):=by
 have h0:L.drop s.i=⟨1,n,0,0⟩::ts:=by rw[h];unfold F1;rw[if_neg (by rw[hn];decide)];rfl
 grind[B7z,D5]
theorem B7x{s:Rd}{v:Int}{ts:List Tok}(h:L.drop s.i=A0s v++ts)(hok:okR s=true)(h0:0<=v)(h1:v<=2147483647):A8 L E s 3=(⟨3,[],v,0⟩,A5 s):=by
 have h2:L.drop s.i=⟨3,[],v,0⟩::ts:=by rw[h];unfold A0s;rw[if_neg (by omega)];rfl
 grind[B7z,D5]
theorem E0c{s:Rd}{t:List UInt8}{ts:List Tok}(h:L.drop s.i=A4u t++ts)(hok:okR s=true)(ht:Y7 t=true):A8 L E s 4=(⟨4,t,0,0⟩,A5 s):=by
 unfold Y7 at ht;simp only[A0G,A0L]at ht;have h0:L.drop s.i=⟨4,t,0,0⟩::ts:=by rw[h];unfold A4u;rw[if_neg (by rw[ht.1];simp;omega)];rfl
 grind[B7z,D5]
theorem A2h{s:Rd}{a ts:List Tok}(h:L.drop s.i=a++ts)(ha:a.length=1):L.drop (s.i+1)=ts:=by
 grind[J7]
def E2z(E:Int)(ts:List Tok):Bool:=A0b (hd0 E ts)&&(hd0 E ts).text == [101,108,115,101]
theorem C3y:∀j:Nat,j<18->amT (A2 (B7.getD j [])) B7=(j:Int)/\A0b (A2 (B7.getD j []))=true/\(A2 (B7.getD j [])).text≠[125]/\(A2 (B7.getD j [])).text≠[101,108,115,101]:=l9
theorem w61:A0b (A2 [61])=true:=by rfl
theorem w59:A0b (A2 [59])=true/\A1i (A2 [59])=0:=l9
theorem w44:A0b (A2 [44])=true/\A1i (A2 [44])=0:=l9
theorem w123:A0b (A2 [123])=true/\A1i (A2 [123])=0/\(A2 [123]).text≠[105,102]:=l9
theorem w125:A0b (A2 [125])=true/\(A2 [125]).text≠[101,108,115,101]:=l9
theorem E6d:A0b (A2 [101,108,115,101])=true:=by rfl
def HdS(t:Tok):Prop:=t.kind=1\/∃j,j<18/\t=A2 (B7.getD j [])
theorem HdS.facts{t:Tok}(h:HdS t):(A0b t&&t.text == [125])=false/\(A0b t&&t.text == [101,108,115,101])=false/\(0<=amT t B7\/t.kind=1):=by
 rcases h with h|⟨j,hj,rfl⟩
 ·grind[A0b]
 ·obtain⟨h1,h2,h3,h4⟩:=C3y j hj<;>simp_all
theorem D3c{d:Nat}{k p:Int}{n t:List UInt8}{a:List Ex}{x y:List St}(h:V5 d (.mk k n t a x y p)=true):
  (1<=k/\k<=19)/\(a.length=(O6 k).args/\a.all Z9=true)/\((if(O6 k).name=true then D8 n else n == [])=true/\(if(O6 k).text=true then Y7 t else t == [])=true) /\
   (((O6 k).thn=true\/x=[])/\((O6 k).els=true\/y=[]))/\T4 x (d+1)=true/\T4 y (d+1)=true:=by
 simp_all[V5,T4]
theorem C7b{d:Nat}{x:St}(h:V5 d x=true):∃t ts,stT x=t::ts/\HdS t:=by
 cases x with|mk k n t a x y p =>
 obtain⟨⟨k1,k2⟩, -,⟨hn, -⟩, -⟩:=D3c h;unfold stT;by_cases h1:k=1
 ·subst h1;rw[if_pos rfl];have hn:D8 n=true:=hn;refine⟨⟨1,n,0,0⟩,[A2 [61]]++agT a 0++[A2 [59]],?_,.inl rfl⟩
  simp_all[F1]
 rw[if_neg h1,if_neg (by omega)];dsimp only;have hw:HdS (A2 (B7.getD (k-2).toNat [])):=.inr ⟨(k-2).toNat,a8,rfl⟩;generalize A2 (B7.getD (k-2).toNat [])=w at hw;by_cases h23:k=2\/k=3
 ·rw[if_pos h23]
  match y with
  |[]=>simp_all
  |[q] =>
   dsimp only;split<;>simp_all
  |q::q2::l=>simp_all
 rw[if_neg h23];repeat' split
 all_goals exact⟨w,_,rfl,hw⟩
def CSt(L:List Tok)(E:Int)(x:St):Prop:=∀(d:Nat) (s:Rd) (post:List Tok),V5 d x=true->d<=8->L.drop s.i=stT x++post->okR s=true->E2z E post=false ->
 ∃x' s',x'.plain=x.plain/\R0 L E d s (x',s')/\s'.i=s.i+(stT x).length/\okR s'=true
theorem A7d:∀(l:List St),(∀x∈l,CSt L E x)->∀(acc:List St) (d:Nat) (s:Rd) (post:List Tok),I8 d l=true->acc.length+l.length<=64->(l=[]\/d<=8)->L.drop s.i=X7 l++([A2 [125]]++post)->okR s=true ->
  ∃l' s',St.plains l'=St.plains l/\A1f L E d acc s (acc++l',s')/\s'.i=s.i+(X7 l).length+1/\okR s'=true
 |[],_,acc,d,s,post,hv,hl,hd,h,hok=>by
  have h0:L.drop s.i=A2 [125]::post:=l9
  have hi:isR L E s [125]=true:=by rw[A6v hok,D5 h0,w125.1];rfl
  have hb:=A1f.stop (L:=L) (E:=E) (d:=d) (l:=acc) (s:=s) (by grind);rw[Z1 h0 hok w125.1]at hb;exact⟨[],A5 s,rfl,j8,rfl,hok⟩
 |x::l,hx,acc,d,s,post,hv,hl,hd,h,hok=>by
  rw[I8,A0G]at hv;have hd8:d<=8:=hd.resolve_left (by simp);obtain⟨t,ts,e1,e2⟩:=C7b hv.1;obtain⟨f1,f2,f3⟩:=e2.facts;have h0:L.drop s.i=stT x++(X7 l++([A2 [125]]++post)):=by rw[h,X7,A0K]
  have hp:B1 L E s=t:=D5 (ts:=ts++(X7 l++([A2 [125]]++post))) (by rw[h0,e1];rfl);have hels:E2z E (X7 l++([A2 [125]]++post))=false:=by
   unfold E2z;cases l with
   |nil =>
    show(A0b (A2 [125])&&(A2 [125]).text == [101,108,115,101])=false;rw[w125.1,A2D];simpa using w125.2
   |cons y l =>
    have hv2:=hv.2;rw[I8,A0G]at hv2;obtain⟨u,us,g1,g2⟩:=C7b hv2.1;rw[X7,g1];exact g2.facts.2.1
  obtain⟨x',s1,p1,p2,p3,p4⟩:=hx x A0H d s _ hv.1 hd8 h0 hok hels;have hdr:L.drop s1.i=X7 l++([A2 [125]]++post):=by rw[p3];exact J7 h0
  obtain⟨l',s',q1,q2,q3,q4⟩:=A7d l (λy hy=>hx y (A0D _ hy)) (acc++[x']) d s1 post hv.2 (by simp only[A0A,A0C,A0M]at hl ⊢;omega) (.inr hd8) hdr p4;refine⟨x'::l',s',by rw[St.plains,St.plains,p1,q1],?_,by rw[q3,p3,X7,A0A];omega,q4⟩;refine A1f.more (s1:=s1) (x:=x') ⟨hok,by rw[A6v hok,hp];exact f1⟩ ?_ ?_ (by rw[A0K]at q2;exact q2)
  ·rintro⟨g1,g2⟩;rw[A1b hok,hp]at g1;rw[B6w hok,hp]at g2;rcases f3 with f3|f3
   ·omega
   ·rw[f3]at g2;simp at g2
  grind[A7w]
theorem Z5{l:List St}(hx:∀x∈l,CSt L E x){d:Nat}{s:Rd}{post:List Tok}(hv:T4 l d=true)(h:L.drop s.i=blT l++post)(hok:okR s=true):
  ∃l' s',St.plains l'=St.plains l/\A9u L E d s (l',s')/\s'.i=s.i+(blT l).length/\okR s'=true:=by
 unfold T4 at hv;simp only[A0G,A0L,A1H,List.isEmpty_iff]at hv;have h0:L.drop s.i=A2 [123]::(X7 l++([A2 [125]]++post)):=by grind[blT]
 have he:=Z1 (E:=E) h0 hok w123.1;obtain⟨l',s',q1,q2,q3,q4⟩:=A7d l hx [] d (A5 s) post hv.2 (by grind) hv.1.2 (H7 h0) hok;refine⟨l',s',q1,A9u.mk (by grind),?_,q4⟩;rw[q3];unfold blT;simp only[A0A,A0I];show s.i+1+_+1=_;omega
theorem A9q{a:List Ex}(h:a.length=1)(hv:a.all Z9=true):∃e,a=[e]/\Z9 e=true:=by
 grind[List.length_eq_one_iff]
theorem ag0(e:Ex)(l:List Ex):agT (e::l) 0=exT e:=rfl
theorem ag1(e e2:Ex)(l:List Ex):agT (e::e2::l) 1=exT e2:=rfl
theorem D0l{k:Int}(h1:k≠1)(h2:k≠2)(h3:k≠3)(h4:k≠4)(h8:k≠8)(h9:k≠9)(h10:k≠10)(h18:k≠18)(h19:k≠19):O6 k=⟨true,false,0,false,false⟩:=by
 simp_all[O6]
def E4p:List St->List Tok
 |[]=>[]
 |[q]=>if q.kind=2 then [A2 [101,108,115,101]]++stT q else [A2 [101,108,115,101]]++blT [q]
 |q::q2::r=>[A2 [101,108,115,101]]++blT (q::q2::r)
theorem C0d:∀(m:Nat) (x:St),x.sz<m->CSt L E x:=by
 intro m
 induction m with
 |zero=>omega
 |succ m ih =>
 intro x hm d s post hv hd h hok hels;cases x with|mk k n t a x y p =>
 obtain⟨⟨k1,k2⟩,⟨ha,hav⟩,⟨hn,ht⟩,⟨hx,hy⟩,hbx,hby⟩:=D3c hv;have hcx:∀q∈x,CSt L E q:=λq hq=>ih q (by rw[St.sz]at hm;have:=St.szs_mem hq;omega);have hcy:∀q∈y,CSt L E q:=λq hq=>ih q (by rw[St.sz]at hm;have:=St.szs_mem hq;omega);have hlim:okR (C6 L E s (d:Int) 8 50)=true:=by grind[A7w]
 have hcast:((d+1:Nat):Int)=(d:Int)+1:=by rfl
 by_cases hk1:k=1
 ·
  subst hk1;have hn:D8 n=true:=hn;have ht:t=[]:=by have h':(t == [])=true:=ht;grind
  have hx:x=[]:=hx.resolve_left (by decide);have hy:y=[]:=hy.resolve_left (by decide);subst ht hx hy;obtain⟨e,rfl,he⟩:=A9q ha hav;have hT:stT (.mk 1 n [] [e] [] [] p)=F1 n++[A2 [61]]++exT e++[A2 [59]]:=by rfl
  rw[hT]at h ⊢;have h0:L.drop s.i=F1 n++(A2 [61]::(exT e++(A2 [59]::post))):=j8
  have h1:=A2h h0 (B6 n);have hpk:B1 L E s=⟨1,n,0,0⟩:=D5 (ts:=A2 [61]::(exT e++(A2 [59]::post))) (by simp_all[F1]);have htk:=A7i (E:=E) h0 hok hn;have h2:=H7 (s:=A5 s) h1;have he1:=Z1 (E:=E) (s:=A5 s) h1 hok w61;obtain⟨e',s1,p1,p2,p3,p4⟩:=Q2 (L:=L) (E:=E) he (s:=A5 (A5 s)) h2 hok (by rfl);have h3:L.drop s1.i=A2 [59]::post:=by rw[p3];exact J7 h2
  have hst:=R0.set (L:=L) (E:=E) (d:=d) (s:=s) (s1:=s1) (e:=e') hlim (by rw[A1b hok,hpk];assumption) (by grind);rw[htk,Z1 h3 p4 w59.1]at hst;refine⟨_,_,?_,hst,?_,p4⟩
  ·grind[St.plain,Ex.plains]
  ·show s1.i+1=_
   grind[List.length_append]
 obtain⟨j,hj⟩:∃j:Nat,k=2+(j:Int):=⟨(k-2).toNat,by omega⟩;have hj18:j<18:=a8
 have hjn:(k-2).toNat=j:=a8
 obtain⟨a1,a2, -, -⟩:=C3y j hj18;by_cases h23:k=2\/k=3
 ·
  have hsh:(O6 k).args=1/\(O6 k).name=false/\(O6 k).text=false/\(k=3->(O6 k).els=false):=by
   rcases h23 with rfl|rfl
   ·exact⟨rfl,rfl,rfl,λh=>absurd h (by decide)⟩
   trivial
  rw[hsh.1]at ha;rw[hsh.2.1]at hn;rw[hsh.2.2.1]at ht;have hn:n=[]:=j8
  have ht:t=[]:=j8
  subst hn ht;have hy3:k=3->y=[]:=λh=>hy.resolve_left (by grind);obtain⟨e,rfl,he⟩:=A9q ha hav;obtain⟨rest,hrest,hT⟩:∃rest,rest=E4p y/\stT (.mk k [] [] [e] x y p)=[A2 (B7.getD j [])]++exT e++blT x++rest:=by
   refine⟨_,rfl,?_⟩;clear hy hy3 hv hm h hby hcy;rw[stT,if_neg hk1,if_neg (by omega)];dsimp only;rw[if_pos h23,hjn,ag0]
   grind[blT,E4p,X7]
  rw[hT]at h ⊢;generalize A2 (B7.getD j [])=w at a1 a2 h hT ⊢;have h0:L.drop s.i=w::(exT e++(blT x++(rest++post))):=j8
  have hpk:=D5 (E:=E) h0;have ham:B8 L E s B7=(j:Int):=by grind[A1b]
  have h1:=H7 h0;obtain⟨e',s2,p1,p2,p3,p4⟩:=Q2 (L:=L) (E:=E) he (s:=A5 s) h1 hok (by rfl);have h2:L.drop s2.i=blT x++(rest++post):=by rw[p3];exact J7 h1
  obtain⟨t',s3,b1,b2,b3,b4⟩:=Z5 hcx hbx h2 p4;rw[hcast]at b2;have h3:L.drop s3.i=rest++post:=by grind[J7]
  have hi3:s3.i=s.i+1+(exT e).length+(blT x).length:=by rw[b3,p3];rfl
  have blkCase:¬(B8 L E s B7=0/\isR L E s3 [101,108,115,101]=true)->y=[]->rest=[]->∃x' s',x'.plain=(St.mk k [] [] [e] x y p).plain/\R0 L E d s (x',s')/\s'.i=s.i+([w]++exT e++blT x++rest).length/\okR s'=true:=by
   intro hc hy0 hr0;subst hy0 hr0;have hst:=R0.blk (L:=L) (E:=E) (d:=d) (s:=s) hlim (by rw[ham];omega) p2 b2 hc
   grind[St.plain,Ex.plains]
  by_cases hk3:k=3
  ·have hy0:=hy3 hk3;subst hy0;exact blkCase (by omega) rfl hrest
  ·have hk2:k=2:=by omega
   have hj0:j=0:=a8
   have hd1:y≠[]->d+1<=8:=λhne=>by
    simp_all[T4]
   have elsCase:∀(o':List St) (s4:Rd),St.plains o'=St.plains y->A9t L E d (A5 s3) (o',s4)->isR L E s3 [101,108,115,101]=true->s4.i=s3.i+rest.length->okR s4=true->∃x' s',x'.plain=(St.mk k [] [] [e] x y p).plain/\R0 L E d s (x',s')/\s'.i=s.i+([w]++exT e++blT x++rest).length/\okR s'=true:=by
    intro o' s4 c1 c2 c3 c4 c5;have hst:=R0.els (L:=L) (E:=E) (d:=d) (s:=s) hlim (by rw[ham,hj0];rfl) p2 b2 c3 c2
    grind[St.plain,Ex.plains]
   clear hy hy3 hv hm hT h h0
   match y,hcy,hby,hd1,hrest,blkCase,elsCase with
   |[],_,_,_,hrest,blkCase,_ =>
    refine blkCase ?_ rfl hrest;rintro⟨-,g⟩;rw[hrest]at h3;rw[A6v b4,B2r,h3]at g;have g:E2z E post=true:=g
    grind
   |[q],hcy,hby,hd1,hrest,_,elsCase =>
    have hrest:rest=if q.kind=2 then [A2 [101,108,115,101]]++stT q else [A2 [101,108,115,101]]++blT [q]:=hrest
    have hd1:=hd1 (by simp);by_cases hq2:q.kind=2
    ·rw[if_pos hq2]at hrest;subst hrest;have h4:L.drop s3.i=A2 [101,108,115,101]::(stT q++post):=by grind
     have hi:isR L E s3 [101,108,115,101]=true:=by rw[A6v b4,D5 h4,E6d];rfl
     have hvq:V5 (d+1) q=true:=by
      simp_all[T4,I8]
     obtain⟨q',s4,c1,c2,c3,c4⟩:=hcy q A0H (d+1) (A5 s3) post hvq hd1 (H7 h4) b4 hels;rw[hcast]at c2;have hif:isR L E (A5 s3) [105,102]=true:=by
      have h5:=H7 h4;have:∃ts,stT q=A2 (B7.getD 0 [])::ts:=by
       cases q with|mk kq nq tq aq xq yq pq =>
       have hq2:kq=2:=hq2;subst hq2;unfold stT;rw[if_neg (by simp),if_neg (by simp)];dsimp only;rw[if_pos (.inl rfl)]
       match yq with
       |[]=>simp
       |[q3] =>
        dsimp only;split
        ·exact⟨_,rfl⟩
        simp
       |_::_::_=>simp
      obtain⟨ts,hts⟩:=this;rw[A6v (show okR (A5 s3)=true from b4),D5 (s:=A5 s3) (t:=A2 (B7.getD 0 [])) (ts:=ts++post) (by show L.drop (s3.i+1)=_;grind),(C3y 0 (by simp)).2.1];rfl
     refine elsCase [q'] s4 (by grind[St.plains]) (A9t.iff hif c2) hi ?_ c4;rw[c3];simp only[A0A,A0I];show s3.i+1+_=_;omega
    ·rw[if_neg hq2]at hrest;subst hrest;have h4:L.drop s3.i=A2 [101,108,115,101]::(blT [q]++post):=by grind
     have hi:isR L E s3 [101,108,115,101]=true:=by rw[A6v b4,D5 h4,E6d];rfl
     obtain⟨o',s4,c1,c2,c3,c4⟩:=Z5 hcy hby (s:=A5 s3) (H7 h4) b4;rw[hcast]at c2;have hif:isR L E (A5 s3) [105,102]=false:=by
      grind[A6v,okR,A5,D5,A2,H7,blT]
     refine elsCase o' s4 c1 (A9t.blk hif c2) hi ?_ c4;rw[c3];simp only[A0A,A0I];show s3.i+1+_=_;omega
   |q::q2::r,hcy,hby,hd1,hrest,_,elsCase =>
    have hrest:rest=[A2 [101,108,115,101]]++blT (q::q2::r):=hrest;subst hrest;have h4:L.drop s3.i=A2 [101,108,115,101]::(blT (q::q2::r)++post):=j8
    have hi:isR L E s3 [101,108,115,101]=true:=by rw[A6v b4,D5 h4,E6d];rfl
    obtain⟨o',s4,c1,c2,c3,c4⟩:=Z5 hcy hby (s:=A5 s3) (H7 h4) b4;rw[hcast]at c2;have hif:isR L E (A5 s3) [105,102]=false:=by
     grind[A6v,okR,A5,D5,A2,H7,blT]
    refine elsCase o' s4 c1 (A9t.blk hif c2) hi ?_ c4;rw[c3];simp only[A0A,A0I];show s3.i+1+_=_;omega
 have hshx:(O6 k).thn=false/\(O6 k).els=false:=by
  grind[O6]
 have hx:x=[]:=hx.resolve_left (by grind);have hy:y=[]:=hy.resolve_left (by grind);subst hx hy;have tailGo:∀(toks:List Tok) (n' t':List UInt8) (a':List Ex) (s':Rd),stT (.mk k n t a [] [] p)=[A2 (B7.getD j [])]++toks->n'=n->t'=t->Ex.plains a'=Ex.plains a->s'.i=s.i+1+toks.length->okR s'=true ->
   (L.drop (s.i+1)=toks++post->Evt (λf=>N6 L E f k (B1 L E s).pos (A5 s)) (.mk k n' t' a' [] [] (B1 L E s).pos,s'))->∃x' s',x'.plain=(St.mk k n t a [] [] p).plain/\R0 L E d s (x',s')/\s'.i=s.i+(stT (.mk k n t a [] [] p)).length/\okR s'=true:=by
  grind[D5,A1b,R0.tail,H7,St.plain]
 have hT:stT (.mk k n t a [] [] p)=[A2 (B7.getD j [])]++(if k=4 then agT a 0++[A2 [59]] else if k=18 then A4u t++[A2 [44]]++agT a 0++[A2 [59]] else if k=8\/k=10 then F1 n++agT a 0++[A2 [59]] else if k=9 then F1 n++agT a 0++[A2 [44]]++agT a 1++[A2 [59]] else if k=19 then [A2 [59]] else F1 n++[A2 [59]]):=by
  unfold stT
  grind
 by_cases h4:k=4
 ·subst h4;have hn:n=[]:=by have h':(n == [])=true:=hn;simpa using h'
  have ht:t=[]:=by have h':(t == [])=true:=ht;simpa using h'
  subst hn ht;obtain⟨e,rfl,he⟩:=A9q ha hav;rw[if_pos rfl,ag0]at hT;have h0:L.drop (s.i+1)=exT e++(A2 [59]::post):=by
   rw[hT]at h;have:L.drop s.i=A2 (B7.getD j [])::(exT e++(A2 [59]::post)):=by rw[h];simp
   exact H7 this
  obtain⟨e',s1,p1,p2,p3,p4⟩:=Q2 (L:=L) (E:=E) he (s:=A5 s) h0 hok (by show A1i (A2 [59])=0;exact w59.2);have h3:L.drop s1.i=A2 [59]::post:=by rw[p3];exact J7 h0
  refine tailGo _ [] [] [e'] (A5 s1) hT rfl rfl (by rw[Ex.plains,Ex.plains,Ex.plains,Ex.plains,p1]) (by show s1.i+1=_;rw[p3];simp only[A0A,A0I];show s.i+1+_+1=_;omega) p4 (λ_=>p2.map λf hf=>?_)
  simp_all[N6,Z1,w59]
 rw[if_neg h4]at hT;by_cases h18:k=18
 ·subst h18;have hn:n=[]:=by have h':(n == [])=true:=hn;simpa using h'
  have ht:Y7 t=true:=ht;subst hn;obtain⟨e,rfl,he⟩:=A9q ha hav;rw[if_pos rfl,ag0]at hT;have h0:L.drop (s.i+1)=A4u t++(A2 [44]::(exT e++(A2 [59]::post))):=by
   rw[hT]at h;have:L.drop s.i=A2 (B7.getD j [])::(A4u t++(A2 [44]::(exT e++(A2 [59]::post)))):=by rw[h];simp
   exact H7 this
  have htk:=E0c (E:=E) (s:=A5 s) h0 hok ht;have h1:=A2h (s:=A5 s) h0 (G9 t);have he1:=Z1 (E:=E) (s:=A5 (A5 s)) h1 hok w44.1;have h2:=H7 (s:=A5 (A5 s)) h1;obtain⟨e',s1,p1,p2,p3,p4⟩:=Q2 (L:=L) (E:=E) he (s:=A5 (A5 (A5 s))) h2 hok (by show A1i (A2 [59])=0;exact w59.2);have h3:L.drop s1.i=A2 [59]::post:=by rw[p3];exact J7 h2
  refine tailGo _ [] t [e'] (A5 s1) hT rfl rfl (by rw[Ex.plains,Ex.plains,Ex.plains,Ex.plains,p1]) (by show s1.i+1=_;rw[p3];simp only[A0A,A0I,G9];show s.i+1+1+1+_+1=_;omega) p4 (λ_=>p2.map λf hf=>?_)
  simp_all[N6,Z1,w59]
 rw[if_neg h18]at hT;by_cases h8:k=8\/k=10
 ·have hsh:O6 k=⟨true,false,1,false,false⟩:=by rcases h8 with rfl|rfl<;>rfl
  rw[hsh]at ha hn ht;have hn:D8 n=true:=hn;have ht:t=[]:=j8
  subst ht;obtain⟨e,rfl,he⟩:=A9q ha hav;rw[if_pos h8,ag0]at hT;have h0:L.drop (s.i+1)=F1 n++(exT e++(A2 [59]::post)):=by
   grind[H7]
  have htk:=A7i (E:=E) (s:=A5 s) h0 hok hn;have h1:=A2h (s:=A5 s) h0 (B6 n);obtain⟨e',s1,p1,p2,p3,p4⟩:=Q2 (L:=L) (E:=E) he (s:=A5 (A5 s)) h1 hok (by rfl);have h3:L.drop s1.i=A2 [59]::post:=by rw[p3];exact J7 h1
  refine tailGo _ n [] [e'] (A5 s1) hT rfl rfl (by grind[Ex.plains]) (by show s1.i+1=_;grind) p4 (λ_=>p2.map λf hf=>?_);unfold N6;rw[if_neg h4,if_neg h18,if_neg (by omega)];dsimp only;rw[if_pos (by omega),htk];dsimp only;rw[hf];dsimp only;rw[if_neg (by omega),Z1 h3 p4 w59.1]
 rw[if_neg h8]at hT;by_cases h9:k=9
 ·subst h9;have hn:D8 n=true:=hn;have ht:t=[]:=by have h':(t == [])=true:=ht;simpa using h'
  subst ht;obtain⟨e,e2,rfl⟩:=C8w ha;simp only[A2Q,List.all_nil,A3I,A0G]at hav;rw[if_pos rfl,ag0,ag1]at hT;have h0:L.drop (s.i+1)=F1 n++(exT e++(A2 [44]::(exT e2++(A2 [59]::post)))):=by
   rw[hT]at h;have:L.drop s.i=A2 (B7.getD j [])::(F1 n++(exT e++(A2 [44]::(exT e2++(A2 [59]::post))))):=by rw[h];simp
   exact H7 this
  have htk:=A7i (E:=E) (s:=A5 s) h0 hok hn;have h1:=A2h (s:=A5 s) h0 (B6 n);obtain⟨e',s1,p1,p2,p3,p4⟩:=Q2 (L:=L) (E:=E) hav.1 (s:=A5 (A5 s)) h1 hok (by show A1i (A2 [44])=0;exact w44.2);have h3:L.drop s1.i=A2 [44]::(exT e2++(A2 [59]::post)):=by rw[p3];exact J7 h1
  have hx1:=Z1 (E:=E) h3 p4 w44.1;obtain⟨e2',s2,r1,r2,r3,r4⟩:=Q2 (L:=L) (E:=E) hav.2 (s:=A5 s1) (H7 h3) p4 (by show A1i (A2 [59])=0;exact w59.2);have h5:L.drop s2.i=A2 [59]::post:=by rw[r3];exact J7 (H7 h3)
  refine tailGo _ n [] [e',e2'] (A5 s2) hT rfl rfl (by rw[Ex.plains,Ex.plains,Ex.plains,Ex.plains,Ex.plains,Ex.plains,p1,r1]) (by show s2.i+1=_;rw[r3];show s1.i+1+_+1=_;rw[p3];simp only[A0A,A0I,B6];show s.i+1+1+_+1+_+1=_;omega) r4 (λ_=>p2.map2 r2 λf hf hf2=>?_);unfold N6;rw[if_neg h4,if_neg h18,if_neg (by decide)]
  simp_all[Z1,w59]
 rw[if_neg h9]at hT;by_cases h19:k=19
 ·subst h19;have hn:n=[]:=by have h':(n == [])=true:=hn;grind
  have ht:t=[]:=by have h':(t == [])=true:=ht;grind
  have ha:a=[]:=A1Y ha;subst hn ht ha;rw[if_pos rfl]at hT;have h0:L.drop (s.i+1)=A2 [59]::post:=by
   grind[H7]
  refine tailGo _ [] [] [] (A5 (A5 s)) hT rfl rfl rfl rfl hok (λ_=>Evt.one λf=>?_);unfold N6;rw[if_neg (by simp),if_neg (by simp),if_pos rfl,Z1 (s:=A5 s) h0 hok w59.1]
 rw[if_neg h19]at hT;have hsh:=D0l hk1 (λh=>h23 (.inl h)) (λh=>h23 (.inr h)) h4 (λh=>h8 (.inl h)) h9 (λh=>h8 (.inr h)) h18 h19;rw[hsh]at ha hn ht;have hn:D8 n=true:=hn;have ht:t=[]:=j8
 have ha:a=[]:=A1Y ha;subst ht ha;have h0:L.drop (s.i+1)=F1 n++(A2 [59]::post):=by
  grind[H7]
 have htk:=A7i (E:=E) (s:=A5 s) h0 hok hn;have h1:=A2h (s:=A5 s) h0 (B6 n);refine tailGo _ n [] [] (A5 (A5 (A5 s))) hT rfl rfl rfl (by simp only[A0A,A0I,B6];rfl) hok (λ_=>Evt.one λf=>?_);unfold N6;rw[if_neg h4,if_neg h18,if_neg h19];dsimp only;rw[if_neg (by omega),htk];dsimp only;rw[Z1 (s:=A5 (A5 s)) h1 hok w59.1]
theorem B9i{l:List St}{d:Nat}{s:Rd}{post:List Tok}(hv:T4 l d=true)(h:L.drop s.i=blT l++post)(hok:okR s=true):
  ∃l' s',St.plains l'=St.plains l/\A9u L E d s (l',s')/\s'.i=s.i+(blT l).length/\okR s'=true :=
 Z5 (λx hx=>C0d (x.sz+1) x (by omega)) hv h hok
end
end Go.Pb
end
