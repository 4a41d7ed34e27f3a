/-
  HELPERS of the claim: part 4 of its texts.
-/
import Derived.Test.YtdclpmddofggcaaGreatDoorCbdc
import Derived.ReadAgain
import Derived.ChangeBears
import Derived.Deep.Slices
import Derived.Below
import Derived.OpenShut
import Derived.Lib.LaidTab
import Derived.Lib.ParseIntB
import Derived.Lib.Bytealg
import Derived.KernelRfl
import Derived.Lib.Join
noncomputable section
set_option linter.unusedVariables false
set_option linter.unusedSectionVars false
set_option linter.unusedSimpArgs false
namespace Go.Sym
variable [Go.Sym.Tab]
open Go.RowKit Go.Pb Go.Deep
section
variable {H:Type} {enc:TypeId × Value->H} {P:Program} {T:TypeId->Prop} {W W':World} {hT:TabOk W}
theorem arg_kept(K:Kids P T)(hz:∀t e,T t->P.underlying t=some (.slice e)->0<P.cellsOf e)(hb:Below W.heap.size W W'){sp:Nat->Bool}:
  ∀ {ts:List TypeId} {vs:List Value} {ds:List (DataW H)} {ps:List MemPlace},(∀t∈ts,T t)->DataW.TrodAll enc P W 0 (λ_=>true) true ts vs ds ps->(∀p∈ps,sp p.block=true)->DataW.TrodAll enc P W' 0 sp true ts vs ds ps
 |[],[],[],_,_,h,_=>h
 |t::ts,v::vs,d::ds,ps,hT,⟨p,q,h1,h2,e⟩,hs=>by
  have hlt:=h1;refine⟨p,q,?_,arg_kept K hz hb (λt ht=>hT t (A1N.2 (Or.inr ht))) h2 (λx hx=>hs x (by rw[e];exact List.mem_append_right _ hx)),e⟩;have h3:=h1.respare K hz (hT _ (A1N.2 (Or.inl rfl))) (spare':=sp) (λx hx=>hs x (by rw[e];exact A3C _ hx));obtain⟨n,hn⟩:=h3;obtain⟨m,hm⟩:=h1;exact⟨n,DataW.trod_carry n _ _ _ hn λx hx=>hb.same (DataW.trod_lt m _ _ _ hm x hx)⟩
theorem u8_of{n:Int}(h:(Lit.int .u8 n).wf=true):n=((UInt8.ofNat n.toNat).toNat:Int):=by
 have:=bounds_u8 h;simp;omega
theorem open_bytes{t e:TypeId}{v:Value}{d:DataW H}{ps:List MemPlace}(ht:P.underlying t=some (.slice e))(he:P.underlying e=some (.int .u8))(hc:P.cellsOf e=1)
  (h:DataW.Trod enc P W 0 (λ_=>true) true t v d ps) (hv:v.cells = #[v]):∃l:List UInt8,l.length<=9223372036854775807/\VRel (topR W hT) (.lst (bytesC l)) v:=by
 obtain⟨n,hn⟩:=h;rcases open_slice1 ht hc hn with ⟨h1, -⟩|⟨a,len,cap,m,n',V,D,Pl,h1,h2,h3,h4,h5,h6,h7⟩
 ·rw[hv]at h1;have:v=.slice none 0 0:=by simpa using h1
  subst this;exact⟨[],by simp,.lnil0⟩
 ·rw[hv]at h1;have hva:v=.slice (some a) len cap:=by simpa using h1
  subst hva;simp only[if_true]at h5;have hk:∀i,i<len->∃k:Int,V i=.int .u8 k/\(Lit.int .u8 k).wf=true:=by
   intro i hi;obtain⟨k,q1,q2,q3⟩:=DataW.trod_int he (h7 i (by omega)).2;exact⟨k,by simpa using q1,q3⟩
  by_cases hl0:len=0
  ·subst hl0;exact⟨[],by simp,.lnil a cap⟩
  have hcell:=(h7 0 (by omega)).1;have hadd0:a.add 0=a:=by simp[Addr.add]
  rw[hadd0]at hcell;obtain⟨b,off,spot⟩:=a;have hspot:spot=none:=by
   simp only[World.cell?]at hcell;split at hcell
   ·split at hcell
    ·cases hcell
    ·rename_i h;cases spot with
     |none=>rfl
     |some s=>simp at h
   ·cases hcell
  subst hspot;have hrow:∃row ty fr,W.heap[b]? = some (.cells row ty fr):=by
   simp only[World.cell?]at hcell;split at hcell
   ·rename_i row ty fr h;exact⟨row,ty,fr,h⟩
   ·cases hcell
  obtain⟨row,ty,fr,hb⟩:=hrow;have hget:∀i,i<len->row[off+i]? = some (V i):=by
   intro i hi;have h8:=(h7 i (by omega)).1;have e1:(⟨b,off,none⟩:Addr).add i=⟨b,off+i,none⟩:=by
    unfold Addr.add;split
    ·rename_i h0;subst h0;rfl
    ·rfl
   rw[e1]at h8;simp only[World.cell?,hb]at h8;exact h8
  obtain⟨F,hF⟩:∃F:Nat->UInt8, ∀i,i<len->V i=.int .u8 ((F i).toNat:Int):=by
   have:∀i, ∃f:UInt8,i<len->V i=.int .u8 (f.toNat:Int):=λi=>by
    by_cases hi:i<len
    ·obtain⟨k,q1,q2⟩:=hk i hi;exact⟨UInt8.ofNat k.toNat,λ_=>by rw[q1, <- u8_of q2]⟩
    ·exact⟨0,λh=>absurd h hi⟩
   exact⟨λi=>Classical.choose (this i),λi hi=>Classical.choose_spec (this i) hi⟩
  refine⟨(List.range len).map F,by simp only[A0I,List.length_range];simp only[maxLen]at h4;omega,?_⟩;have hcl:cellsL (bytesC ((List.range len).map F))=bytesC ((List.range len).map F):=A1d (λ_=>rfl) _;have hlen:(bytesC ((List.range len).map F)).length=len:=by rw[B2c];simp
  refine .lst _ _ 1 b off cap row (C0c hb) hlen.symm h3 h4 (λx hx=>by obtain⟨y, -,rfl⟩:=A1D.1 hx;rfl) ?_ ?_ ?_
  ·rw[hcl,hlen];have:=(A0X.1 (hget (len-1) (by omega))).1;omega
  ·rw[hcl];intro x hx;obtain⟨y, -,rfl⟩:=A1D.1 hx;rfl
  ·rw[hcl];intro k x y hx hy;have hkl:k<len:=by have:=(A1C.1 hx).1;omega
   rw[hget k hkl,hF k hkl]at hy;cases hy;have hx2:(bytesC ((List.range len).map F))[k]? = some (DV.int .u8 ((F k).toNat:Int)):=by simp[bytesC,hkl]
   rw[hx2]at hx;cases hx;exact .int _ _
end
section
variable {H:Type} {enc:TypeId × Value->H} {P:Program} {W W':World} {hT:TabOk W}
theorem open_str{t:TypeId}{v:Value}{d:DataW H}{ps:List MemPlace}(ht:P.underlying t=some .string)
  (h:DataW.Trod enc P W 0 (λ_=>true) true t v d ps) (hv:v.cells = #[v]):∃l:List UInt8,l.length<=9223372036854775807/\VRel (topR W hT) (.str l) v:=by
 obtain⟨n,hn⟩:=h;obtain⟨s,q1,q2,q3⟩:=DataW.trod_string ht hn;rw[hv]at q1;have:v=.string s:=by simpa using q1
 subst this;refine⟨s.data.toList,?_,.str s⟩;have e:s.data.toList.length=s.size:=A2P;unfold maxLen at q3;omega
theorem open_arr3{t e:TypeId}{v:Value}{d:DataW H}{ps:List MemPlace}(ht:P.underlying t=some (.array 3 e))(he:P.underlying e=some (.int .u8))(hc:P.cellsOf e=1)
  (h:DataW.Trod enc P W 0 (λ_=>true) true t v d ps) (hv:∃cs:Array Value,v=.agg cs/\cs.size=3) :
  ∃a0 a1 a2:Nat,a0<256/\a1<256/\a2<256/\VRel (topR W hT) (.agg [.int .u8 (a0:Int),.int .u8 (a1:Int),.int .u8 (a2:Int)]) v:=by
 obtain⟨cs,rfl,hs⟩:=hv;obtain⟨n,hn⟩:=h;obtain⟨xs,m, -, -, -,h3,h4⟩:=DataW.trod_array ht hn;obtain⟨x0,x1,x2,hcs⟩:∃x0 x1 x2,cs.toList=[x0,x1,x2]:=by
  have:cs.toList.length=3:=by simpa using hs
  match hl:cs.toList,this with
  |[x0,x1,x2],_=>exact⟨x0,x1,x2,rfl⟩
 have hcell:(Value.agg cs).cells.toList=[x0,x1,x2]:=by simpa[Value.cells] using hcs
 have one:∀i,i<3->∃k:Int,[x0,x1,x2][i]? = some (.int .u8 k)/\(Lit.int .u8 k).wf=true:=by
  intro i hi;have h5:=h4 i hi;rw[hc,hcell,A4F,A0B (by omega)]at h5;obtain⟨k,q1,q2,q3⟩:=DataW.trod_int he h5;refine⟨k,?_,q3⟩
  match i,hi with
  |0,_=>simpa using q1
  |1,_=>simpa using q1
  |2,_=>simpa using q1
 obtain⟨k0,e0,f0⟩:=one 0 (by omega);obtain⟨k1,e1,f1⟩:=one 1 (by omega);obtain⟨k2,e2,f2⟩:=one 2 (by omega);have b0:=bounds_u8 f0;have b1:=bounds_u8 f1;have b2:=bounds_u8 f2;simp at e0 e1 e2;subst e0 e1 e2;have ha:cs = #[.int .u8 k0,.int .u8 k1,.int .u8 k2]:=by rw[<- Array.toList_inj];exact hcs
 subst ha;refine⟨k0.toNat,k1.toNat,k2.toNat,b8,b8,b8,?_⟩;have c0:((k0.toNat:Nat):Int)=k0:=b8
 have c1:((k1.toNat:Nat):Int)=k1:=b8
 have c2:((k2.toNat:Nat):Int)=k2:=b8
 rw[c0,c1,c2];refine .agg _ _ rfl (λi x y hx hy=>?_);rcases i with _|_|_|i
 ·cases hx;cases hy;exact .int _ _
 ·cases hx;cases hy;exact .int _ _
 ·cases hx;cases hy;exact .int _ _
 ·cases hx
end
end Go.Sym
namespace Go.Pb
variable [Go.Sym.Tab]
open Go.Sym
theorem O5{s t:List UInt8}(h:s.length+t.length<=9223372036854775807):binR .add (.str s) (.str t)=some (.str (s++t)):=C9h (by assumption)
def A3a(d:Nat):UInt8:=UInt8.ofNat (48+d)
def B5x(n:Nat):List UInt8:=if n<10 then [A3a n] else B5x (n / 10)++[A3a (n%10)]
termination_by n
decreasing_by omega
theorem A9x{n:Nat}(h:n<10):B5x n=[A3a n]:=by simp_all[B5x]
theorem B5w{n:Nat}(h:¬n<10):B5x n=B5x (n / 10)++[A3a (n%10)]:=by rw[B5x,if_neg h]
theorem B9j:∀(k n:Nat),n<10 ^ (k+1)->(B5x n).length<=k+1
 |0,n,h=>by grind[A9x]
 |k+1,n,h=>by
  by_cases h0:n<10
  ·grind[A9x]
  ·rw[B5w h0,A0A];have:=B9j k (n / 10) (by rw[Nat.pow_succ]at h;omega)
   grind
def A3b(n:Int):List UInt8:=if n<0 then 45::B5x n.natAbs else B5x n.natAbs
theorem B1v{n:Int}(h1 : -9223372036854775808<=n)(h2:n<=9223372036854775807):(A3b n).length<=21:=by
 have:=B9j 19 n.natAbs (by omega)
 grind[A3b]
theorem E2o{d:Nat}(h:d<10):IntKind.u8.wrap (IntKind.i64.wrap (48+(d:Int)))=((A3a d).toNat:Int):=by
 rw[w6z,wu8 (by omega) (by omega),A3a];simp;omega
def X8(n:Int):Nat:=n.natAbs%10
def A0v(n:Int):Nat:=n.natAbs / 10
theorem C4j(n:Int):X8 n<10:=by grind[X8]
theorem C4v{n:Int}(h:n≠0):A0v n<n.natAbs:=by grind[A0v]
theorem D5g{n:Int}(h:n<0):n.tdiv 10 = -((A0v n:Nat):Int):=by
 grind[A0v]
theorem D5f{n:Int}(h:n<0):n.tmod 10 = -((X8 n:Nat):Int):=by
 grind[X8]
theorem D4x{n:Int}(h:0<=n):n.tdiv 10=((A0v n:Nat):Int):=by
 grind[A0v]
theorem D4w{n:Int}(h:0<=n):n.tmod 10=((X8 n:Nat):Int):=by
 grind[X8]
theorem C7j{n:Int}(h:n<0)(h1:A0v n=0):A3b n=[45]++[A3a (X8 n)]:=by
 unfold A0v at h1;have h2:n.natAbs<10:=b8
 have h3:X8 n=n.natAbs:=by unfold X8;omega
 simp_all[A3b,A9x]
theorem D2w{n:Int}(h:n<0)(h1:A0v n≠0):A3b n=A3b (-(A0v n:Int))++[A3a (X8 n)]:=by
 have h2:¬n.natAbs<10:=by grind[A0v]
 rw[A3b,if_pos h,B5w h2,A3b,if_pos (by omega),Int.natAbs_neg,Int.natAbs_natCast];rfl
theorem D6o{n:Int}(h:0<=n)(h1:n<10):A3b n=[A3a (X8 n)]:=by
 have h3:X8 n=n.natAbs:=by grind[X8]
 rw[A3b,if_neg (by omega),A9x (by omega),h3]
theorem D6p{n:Int}(h:¬n<10):A3b n=A3b (A0v n:Int)++[A3a (X8 n)]:=by
 rw[A3b,if_neg (by omega),B5w (by omega),A3b,if_neg (by omega),Int.natAbs_natCast];rfl
structure Tok where
 kind:Int
 text:List UInt8
 value:Int
 pos:Int
deriving DecidableEq
abbrev Tok.v(t:Tok):DV:=.agg [I64 t.kind,.str t.text,I64 t.value,I64 t.pos]
abbrev D6(l:List Tok):DV:=.lst (l.map Tok.v)
theorem G4(l:List Tok):∀x∈l.map Tok.v,x.cells.length=4:=by
 intro x hx;obtain⟨y, -,rfl⟩:=A1D.1 hx;rfl
@[simp]theorem P0(l:List Tok):DV.nlL (l.map Tok.v)=true:=L5 (λ_=>rfl) l
def ltB(c:UInt8):Bool:=(decide (97<=c.toNat)&&decide (c.toNat<=122))||(decide (65<=c.toNat)&&decide (c.toNat<=90))
def dgB(c:UInt8):Bool:=decide (48<=c.toNat)&&decide (c.toNat<=57)
def ptB(c:UInt8):Bool:=ltB c||dgB c||decide (c.toNat=95)
def F3(p:UInt8->Bool):List UInt8->Nat
 |[]=>0
 |c::r=>if p c=true then F3 p r+1 else 0
theorem T3(p:UInt8->Bool):∀s:List UInt8,F3 p s<=s.length
 |[]=>A0D _
 |c::r=>by
  have:=T3 p r
  grind[F3]
theorem A9j{p:UInt8->Bool}:∀ {s:List UInt8} {k:Nat} {c:UInt8},s[k]? = some c->k<=F3 p s->(p c=true->k+1<=F3 p s)/\(p c=false->F3 p s=k)
 |[],k,c,h,_=>m9
 |x::r,0,c,h,_=>by
  simp_all[F3]
 |x::r,k+1,c,h,hk=>by
  simp only[F3]at hk ⊢;split at hk
  ·rename_i hx;rw[if_pos hx];have:=A9j (p:=p) (s:=r) (k:=k) (c:=c) (by simpa using h) (by omega);exact⟨λh=>by have:=this.1 h;omega,λh=>by have:=this.2 h;omega⟩
  omega
theorem B6z{p:UInt8->Bool}{s:List UInt8}{k:Nat}(h:s.length<=k)(hk:k<=F3 p s):F3 p s=k:=by
 grind[T3]
def A2y(c:UInt8):Bool:=decide (c.toNat=9)||decide (c.toNat=10)||decide (c.toNat=13)||decide (c.toNat=32)
def skM:Bool->List UInt8->Nat
 |_,[]=>0
 |true,c::r=>if c.toNat=10 then skM false r+1 else skM true r+1
 |false,c::r=>if A2y c=true then skM false r+1 else if c.toNat=35 then skM true r+1 else 0
theorem A0f:∀(b:Bool) (s:List UInt8),skM b s<=s.length
 |_,[]=>by simp[skM]
 |true,c::r=>by
  have h1:=A0f true r;have h2:=A0f false r
  grind[skM]
 |false,c::r=>by
  have h1:=A0f true r;have h2:=A0f false r
  grind[skM]
theorem B7c:∀(s:List UInt8),skM true s=F3 (λc=>decide (c.toNat≠10)) s+skM false (s.drop (F3 (λc=>decide (c.toNat≠10)) s))
 |[]=>by rfl
 |c::r=>by
  by_cases h:c.toNat=10
  ·grind[skM,F3,A2y]
  ·have ih:=B7c r
   simp_all[skM,F3];omega
def w8(l:List Nat):List UInt8:=l.map UInt8.ofNat
def H5:List (List UInt8):=[w8 [115,119,105,116,99,104],w8 [99,111,105,108],w8 [108,97,109,112],w8 [115,111,117,110,100],w8 [115,104,111,119],w8 [118,97,114],w8 [116,105,109,101,114],w8 [101,118,101,110,116],w8 [109,111,100,101],w8 [111,110],w8 [115,116,97,114,116],w8 [115,116,111,112],w8 [99,108,111,115,101],w8 [111,112,101,110],w8 [105,102],w8 [101,108,115,101],w8 [114,101,112,101,97,116],w8 [115,99,111,114,101],w8 [102,105,114,101],w8 [104,111,108,100],w8 [114,101,108,101,97,115,101],w8 [108,105,103,104,116],w8 [98,108,105,110,107],w8 [98,101,103,105,110],w8 [101,110,100],w8 [112,111,115,116],w8 [112,108,97,121],w8 [114,117,110],w8 [104,97,108,116],w8 [116,101,120,116],w8 [99,111,110,115,117,109,101],w8 [99,108,111,115,101,100],w8 [97,99,116,105,118,101],w8 [108,101,102,116],w8 [112,108,97,121,101,114],w8 [98,97,108,108],w8 [116,114,117,101],w8 [102,97,108,115,101]]
def G9(s:List UInt8):Bool:=H5.contains s
def F6(s:List UInt8):Bool:=decide (1<=s.length)&&decide (s.length<=12)&&(match s with|c::_=>ltB c |[]=>false)&&decide (F3 ptB s=s.length) && !G9 s
def quM:List UInt8->Option (List UInt8 × Nat)
 |[]=>none
 |c::r =>
  if c.toNat=34 then some ([],1)
  else if c.toNat<32\/126<c.toNat then none
  else if c.toNat=92 then match r with
   |[]=>none
   |d::q=>if d.toNat=34\/d.toNat=92 then(quM q).map λx=>(d::x.1,x.2+2) else none
  else(quM r).map λx=>(c::x.1,x.2+1)
def S1(s:List UInt8):Nat:=s.foldl (λn c=>10*n+(c.toNat-48)) 0
theorem C6j{s:List UInt8}{k:Nat}{c:UInt8}(h:s[k]? = some c):S1 (s.take (k+1))=10*S1 (s.take k)+(c.toNat-48):=by
 grind[S1,List.take_add_one]
def C8g(c d:UInt8):Bool:=[(60,61),(62,61),(61,61),(33,61),(38,38),(124,124)].contains (c.toNat,d.toNat)
def B2t(c:UInt8):Bool:=[123,125,40,41,59,44,61,43,45,42,47,37,33,60,62].contains c.toNat
def L0:List UInt8->Nat
 |c::d::_=>if C8g c d=true then 2 else if B2t c=true then 1 else 0
 |[c]=>if B2t c=true then 1 else 0
 |[]=>0
structure Nx where
 kind:Int
 text:List UInt8
 value:Int
 n:Nat
 err:Int
def nxE(e:Int):Nx:=⟨0,[],0,0,e⟩
def C3:List UInt8->Nx
 |[]=>nxE 47
 |c::r =>
  if ltB c=true then
   if 12<F3 ptB (c::r) then nxE 9 else⟨if G9 ((c::r).take (F3 ptB (c::r)))=true then 2 else 1,(c::r).take (F3 ptB (c::r)),0,F3 ptB (c::r),0⟩
  else if dgB c=true then
   if 1<F3 dgB (c::r)/\c.toNat=48 then nxE 47
   else if 2147483647<S1 ((c::r).take (F3 dgB (c::r))) then nxE 5
   else⟨3,[],(S1 ((c::r).take (F3 dgB (c::r))):Int),F3 dgB (c::r),0⟩
  else if c.toNat=34 then match quM r with
   |none=>nxE 48
   |some x=>if 32<x.1.length then nxE 9 else⟨4,x.1,0,x.2+1,0⟩
  else if L0 (c::r)=0 then nxE 47 else⟨5,(c::r).take (L0 (c::r)),0,L0 (c::r),0⟩
def M3:Nat->List UInt8->Nat->List Tok->List Tok × Int × Int
 |0,_,_,acc=>(acc,0,0)
 |f+1,src,at_,acc =>
  if src.length<=at_ then(acc,0,0)
  else if(C3 (src.drop at_)).err≠0 then([],(at_:Int),(C3 (src.drop at_)).err)
  else M3 f src (at_+(C3 (src.drop at_)).n+skM false (src.drop (at_+(C3 (src.drop at_)).n)))
   (acc++[⟨(C3 (src.drop at_)).kind,(C3 (src.drop at_)).text,(C3 (src.drop at_)).value,(at_:Int)⟩])
def H4(s:List UInt8):List Tok × Int × Int:=if 20000<s.length then([],0,9) else M3 (s.length+1) s (skM false s) []
abbrev C3e(q:List Tok × Int × Int):DV:=.tup [D6 q.1,I64 q.2.1,I64 q.2.2]
theorem C9o:∀ {s t:List UInt8} {n:Nat},quM s=some (t,n)->1<=n/\n<=s.length/\t.length<=n
 |[],t,n,h=>l9
 |c::r,t,n,h=>by
  unfold quM at h;split at h
  ·grind
  ·split at h
   ·grind
   ·split at h
    ·cases r with
     |nil=>grind
     |cons d q =>
      simp only at h;split at h
      ·obtain⟨⟨t',n'⟩,h1,h2⟩:=A0T.1 h;have:=C9o h1;cases h2;simp only[A0G];omega
      grind
    ·obtain⟨⟨t',n'⟩,h1,h2⟩:=A0T.1 h;have:=C9o h1
     grind
theorem B7d:∀s:List UInt8,L0 s<=s.length
 |[]=>l9
 |[c]=>by grind[L0]
 |c::d::r=>by grind[L0]
theorem A9p{s:List UInt8}(h:(C3 s).err=0):1<=(C3 s).n/\(C3 s).n<=s.length:=by
 cases s with
 |nil=>trivial
 |cons c r =>
  have hp:=T3 ptB (c::r);have hd:=T3 dgB (c::r);have hs:=B7d (c::r);simp only[C3]at h ⊢;split
  ·rename_i hc;rw[if_pos hc]at h;split<;>simp_all[nxE,F3,ptB]
  ·rename_i hc;rw[if_neg hc]at h;split
   ·rename_i hc2;rw[if_pos hc2]at h;split
    ·simp_all[nxE]
    ·rename_i h1;rw[if_neg h1]at h;split<;>simp_all[nxE,F3]
   ·rename_i hc2;rw[if_neg hc2]at h;split
    ·rename_i hc3;rw[if_pos hc3]at h;cases hq:quM r with
     |none=>grind[nxE]
     |some x =>
      obtain⟨t,n⟩:=x;rw[hq]at h;simp only at h ⊢;have:=C9o hq;split<;>simp_all[nxE]
    ·rename_i hc3;rw[if_neg hc3]at h;split
     ·rename_i h1;rw[if_pos h1]at h;simp[nxE]at h
     grind
end Go.Pb
namespace Go.Sym
variable [Go.Sym.Tab]
open Go.RowKit Go.Pb Go.Deep Go.ChangeShapes
theorem B6q{P:Program}{w:World}{n:String}{g:Nat}{cs:Array Value}(e1:P.globalNamed n=some g)(e3:w.var? P n=some cs):B6r w g=some cs:=by
 unfold World.var? at e3;rw[e1,Option.bind_some]at e3;unfold B6r;split at e3
 ·rename_i r ty fr hh;cases e3;rw[hh]
 ·cases e3
theorem B1g{P:Program}{w:World}{n:String}{d:DataW Unit}:∀ {l:List (String × DataW Unit)} {ps:List MemPlace},DataW.LaidVars P w l ps->(n,d)∈l ->
  ∃g t cs fuel p,P.globalNamed n=some g/\(P.globals[g]?).map (·.type)=some t/\w.var? P n=some cs/\DataW.trod (λ_=>()) P w 0 (λ_=>true) false fuel t cs.toList=some (d,p)
 |[],ps,_,hm=>by cases hm
 |(n',d')::l,ps,h,hm=>by
  obtain⟨g,t,cs,fuel,p,q,h1,h2,h3,h4,h5, -⟩:=h;rcases A1N.1 hm with e|hm
  ·cases e;exact⟨g,t,cs,fuel,p,h1,h2,h3,h4⟩
  ·exact B1g h5 hm
theorem laid_tab{P:Program}{w:World}{n:String}{d:DataW Unit}{l:List (String × DataW Unit)}{g t e m:Nat}{k:IntKind}{zs:List Int}(h:laidMet P l w)(hm:(n,d)∈l)(hg:P.globalNamed n=some g)
  (ht:(P.globals[g]?).map (·.type)=some t) (hu:P.underlying t=some (.array m e)) (he:P.underlying e=some (.int k)) (hce:P.cellsOf e=1) (hct:P.cellsOf t=m) (hd:d=Lib.tabData k zs) :
  ∃r,B6r w g=some r/\r=(zs.map λz=>Value.int k z).toArray:=by
 obtain⟨ps,h1, -⟩:=h;obtain⟨g',t',cs,fuel,p,e1,e2,e3,e4⟩:=B1g h1 hm;rw[hg]at e1;cases e1;rw[ht]at e2;cases e2;rw[hd]at e4;have hc:=Lib.cells_of_tab hu he hce hct e4;exact⟨cs,B6q hg e3,Array.toList_inj.1 (hc.trans (by simp))⟩
theorem B6o{P:Program}{w:World}{fuel:Nat}{t:TypeId}{ms}{cs:List Value}{nm:String}{d:DataW Unit}{p:List MemPlace}(hu:P.underlying t=some (.interface ms))
  (h:DataW.trod (λ_=>()) P w 0 (λ_=>true) false fuel t cs=some (.iface nm d,p)):∃te pe,cs=[.iface te pe]:=by
 cases fuel with
 |zero=>simp[DataW.trod]at h
 |succ fuel =>
  simp only[DataW.trod,hu]at h;split at h<;>first|exact⟨_,_,rfl⟩|(simp_all;done)
theorem laid_err{P:Program}{w:World}{n:String}{nm:String}{d:DataW Unit}{l:List (String × DataW Unit)}{g t:Nat}{ms}(h:laidMet P l w)(hm:(n,DataW.iface nm d)∈l)(hg:P.globalNamed n=some g)
  (ht:(P.globals[g]?).map (·.type)=some t) (hu:P.underlying t=some (.interface ms)):∃r,B6r w g=some r/\∃te pe,r = #[.iface te pe]:=by
 obtain⟨ps,h1, -⟩:=h;obtain⟨g',t',cs,fuel,p,e1,e2,e3,e4⟩:=B1g h1 hm;rw[hg]at e1;cases e1;rw[ht]at e2;cases e2;obtain⟨te,pe,e5⟩:=B6o hu e4;exact⟨cs,B6q hg e3,te,pe,Array.toList_inj.1 e5⟩
section
variable {H:Type} {enc:TypeId × Value->H} {P:Program} {W W':World} {hT:TabOk W}
end
open Go.Eng (IC)
def B3a(p:Prop):Prop:=p
theorem J8{p:Prop}(h:B3a p):p:=h
theorem IW.stage{P:Program}{N:Nat}{x:IC}{T:Tm}{H:Hp}{c:Nat}{Q:Exit->St->Prop}{L:List (Nat × DV)}(hT:B5 L T)(h:IW P N x ⟨tm L,H,c⟩ Q):B3a (IW P N x ⟨T,H,c⟩ Q):=IW.weaken (B6s hT) (Sub.refl _) h
open Go.Eng (Opd FOp AOp EOp IOp IOper DReg IC RV IFn trC A8v L4 J9)
def pre:IC->List IC
 |.seq x y=>.seq x y::(pre x++pre y)
 |.cond o x y=>.cond o x y::(pre x++pre y)
 |.blk i x=>.blk i x::pre x
 |.loop x=>.loop x::pre x
 |x=>[x]
def szC:IC->Nat
 |.seq x y=>szC x+szC y+1
 |.cond o x y=>szC x+szC y+1
 |.blk i x=>szC x+1
 |.loop x=>szC x+1
 |x=>1
theorem C9x(t:IC):(pre t).length=szC t:=by
 induction t<;>simp_all[pre,szC]
def C1q(k:Nat):List Nat->List Nat
 |[]=>[k]
 |a::l=>match Nat.blt k a with
  |true=>k::a::l
  |false=>match Nat.beq k a with
   |true=>a::l
   |false=>a::C1q k l
def C5s:List Nat->List Nat->List Nat
 |[],m=>m
 |a::l,m=>C1q a (C5s l m)
def rmS(k:Nat):List Nat->List Nat
 |[]=>[]
 |a::l=>match Nat.beq k a with
  |true=>l
  |false=>a::rmS k l
def opS:Opd->List Nat
 |.t n=>[n]
 |_=>[]
def B5j:List IOper->List Nat->List Nat
 |[],out=>out
 |o::r,out=>C5s o.sees (match o.dst with
  |some d=>rmS d (B5j r out)
  |none=>B5j r out)
def slR:List RV->List Nat
 |[]=>[]
 |.tmp t::r=>C1q t (slR r)
 |.cell a _ _::r=>C1q a (slR r)
def upE(ex:Nat->List Nat)(i:Nat)(L:List Nat)(j:Nat):List Nat:=match Nat.beq i j with
 |true=>L
 |false=>ex j
def rgS:Eng.Rg->List Nat->List Nat
 |.bad,_=>[]
 |.r1 io m it,out=>B5j io (C1q m (rmS it out))
 |.r2 it n io,out=>C1q it (rmS n (B5j io out))
 |.r3 it e io,out=>C1q it (rmS e (B5j io out))
def lvC(rl:List Nat):IC->List Nat->(Nat->List Nat)->List Nat
 |.skip,out,_=>out
 |.exit i,_,ex=>ex i
 |.ret,_,_=>rl
 |.bad,_,_=>[]
 |.rg r,out,_=>rgS r out
 |.reg r,out,_=>B5j r out
 |.drw _ d,out,_=>B5j d.ops out
 |.seq x y,out,ex=>lvC rl x (lvC rl y out ex) ex
 |.cond o x y,out,ex=>C5s (opS o) (C5s (lvC rl x out ex) (lvC rl y out ex))
 |.blk i x,out,ex=>lvC rl x out (upE ex i out)
 |.loop x,_,ex=>lvC rl x [] ex
def chC(h:Nat->IC)(k:Nat):IC->IC
 |.skip=>.skip
 |.exit i=>.exit i
 |.ret=>.ret
 |.bad=>.bad
 |.rg r=>.rg r
 |.loop _=>.loop (h (k+1))
 |_=>h k
def D5j:Nat->List (Nat × Option (List Nat))->List IOper->Nat
 |k,(_,some [])::p,⟨_,.pur _,_⟩::r=>2 ^ k+D5j (k+1) p r
 |k,_::p,_::r=>D5j (k+1) p r
 |_,_,_=>0
def eqO:Option (List Nat)->Option (List Nat)->Bool
 |none,none=>true
 |some [],some []=>true
 |_,_=>false
def eqP:List (Nat × Option (List Nat))->List (Nat × Option (List Nat))->Bool
 |[],[]=>true
 |(a,x)::p,(b,y)::q=>Nat.beq a b&&eqO x y&&eqP p q
 |_,_=>false
theorem E2l{x y:Option (List Nat)}(h:eqO x y=true):x=y:=by
 unfold eqO at h;grind
theorem D2p:∀ {p q:List (Nat × Option (List Nat))},eqP p q=true->p=q
 |[],[],_=>rfl
 |(a,x)::p,(b,y)::q,h=>by
  simp only[eqP,A0F]at h;rw[A3N h.1.1,E2l h.1.2,D2p h.2]
 |[],_::_,h=>l9
 |_::_,[],h=>l9
def asM(r:List IOper)(p:List (Nat × Option (List Nat)))(m:Nat):Option Nat:=match eqP (B2l m 0 r) p with
 |true=>some m
 |false=>none
inductive PD where
 |S (r:List IOper) (y:IC) (L:List Nat)
 |E (r:List IOper) (L:List Nat)
 |P (r:List IOper) (y:IC) (e n:Nat) (L:List Nat)
 |F (r:List IOper) (e n:Nat) (L:List Nat)
 |D (r:List IOper) (y:IC) (p:List (Nat × Option (List Nat))) (n:Nat) (L:List Nat)
 |G (r:List IOper) (p:List (Nat × Option (List Nat))) (n:Nat) (L:List Nat)
 |C (x y z:IC) (o:Opd) (L:List Nat)
 |K (x z:IC) (o:Opd) (L:List Nat)
 |B (x y:IC) (i:Nat) (L:List Nat)
 |J (x:IC) (i:Nat) (L:List Nat)
 |Q (x y:IC) (L:List Nat)
 |X (x:IC)
def PD.ic:PD->IC
 |.S r y _=>.seq (.reg r) y
 |.E r _=>.reg r
 |.P r y e n _=>.seq (.drw n (dQ r e)) y
 |.F r e n _=>.drw n (dQ r e)
 |.D r y p n _=>.seq (.drw n ⟨r,[],p⟩) y
 |.G r p n _=>.drw n ⟨r,[],p⟩
 |.C x y z o _=>.seq (.cond o x z) y
 |.K x z o _=>.cond o x z
 |.B x y i _=>.seq (.blk i x) y
 |.J x i _=>.blk i x
 |.Q x y _=>.seq x y
 |.X x=>x
def fuC(h:Nat->IC)(k:Nat)(x y:IC)(L:List Nat):PD:=match x with
 |.reg r=>.S r y L
 |.drw n ⟨r,[],p⟩=>match asM r p (D5j 0 p r) with
  |some m=>.P r y m n L
  |none=>.D r y p n L
 |.cond o a b=>.C (chC h (k+1) a) y (chC h (k+1+szC a) b) o L
 |.blk i a=>.B (chC h (k+1) a) y i L
 |x=>.Q (chC h k x) y L
def C6g(h:Nat->IC)(k:Nat)(x:IC)(L:List Nat):PD:=match x with
 |.reg r=>.E r L
 |.drw n ⟨r,[],p⟩=>match asM r p (D5j 0 p r) with
  |some m=>.F r m n L
  |none=>.G r p n L
 |.cond o a b=>.K (chC h (k+1) a) (chC h (k+1+szC a) b) o L
 |.blk i a=>.J (chC h (k+1) a) i L
 |x=>.X x
def F0a:IC->Bool
 |.reg _=>true
 |.drw _ _=>true
 |.cond _ _ _=>true
 |.blk _ _=>true
 |_=>false
def tlC(b:Bool)(l:List (Nat × PD)):List (Nat × PD):=match b with
 |true=>l.tail
 |false=>l
def flC(h:Nat->IC)(rl:List Nat):IC->Nat->List Nat->(Nat->List Nat)->List Nat × List (Nat × PD)
 |.skip,_,out,_=>(out,[])
 |.exit i,_,_,ex=>(ex i,[])
 |.ret,_,_,_=>(rl,[])
 |.bad,_,_,_=>([],[])
 |.rg r,_,out,_=>(rgS r out,[])
 |.reg r,k,out,_=>match B5j r out with
  |L=>(L,[(k,C6g h k (.reg r) L)])
 |.drw n d,k,out,_=>match B5j d.ops out with
  |L=>(L,[(k,C6g h k (.drw n d) L)])
 |.seq x y,k,out,ex=>match flC h rl y (k+1+szC x) out ex with
  |(Ly,ly)=>match flC h rl x (k+1) Ly ex with
   |(Lx,lx)=>(Lx,(k,fuC h (k+1) x (chC h (k+1+szC x) y) Lx)::(tlC (F0a x) lx++ly))
 |.cond o x y,k,out,ex=>match flC h rl x (k+1) out ex with
  |(Lx,lx)=>match flC h rl y (k+1+szC x) out ex with
   |(Ly,ly)=>match C5s (opS o) (C5s Lx Ly) with
    |L=>(L,(k,C6g h k (.cond o x y) L)::(lx++ly))
 |.blk i x,k,out,ex=>match flC h rl x (k+1) out (upE ex i out) with
  |(L,l)=>(L,(k,C6g h k (.blk i x) L)::l)
 |.loop x,k,_,ex=>match lvC rl x [] ex with
  |L=>(L,(flC h rl x (k+1) L ex).2)
def Num(h:Nat->IC)(k:Nat)(t:IC):Prop:=∀j x,(pre t)[j]? = some x->h (k+j)=x
section
variable {h:Nat->IC} {k:Nat} {x y t:IC}
theorem Num.self(n:Num h k t):h k=t:=by
 have:=n 0 t (by cases t<;>simp[pre]);omega
theorem Num.sub{l:List IC}{i:Nat}(n:Num h k t)(e:∀j x,(pre y)[j]? = some x->(pre t)[i+j]? = some x):Num h (k+i) y:=λj x hx=>by
 rw[A3M];exact n (i+j) x (e j x hx)
theorem F1i{a:IC}{l r:List IC}(j:Nat)(z:IC)(hz:l[j]? = some z):(a::(l++r))[1+j]? = some z:=by
 grind
theorem D7j{a:IC}{l r:List IC}{n:Nat}(hn:l.length=n)(j:Nat)(z:IC)(hz:r[j]? = some z):(a::(l++r))[1+n+j]? = some z:=by
 grind
theorem Num.s1(n:Num h k (.seq x y)):Num h (k+1) x:=n.sub (l:=[]) λj z hz=>by rw[pre];grind
theorem Num.s2(n:Num h k (.seq x y)):Num h (k+1+szC x) y:=by
 rw[A3M];exact n.sub (l:=[]) λj z hz=>by rw[pre];exact D7j (C9x x) j z hz
theorem Num.c1{o:Opd}(n:Num h k (.cond o x y)):Num h (k+1) x:=n.sub (l:=[]) λj z hz=>by rw[pre];grind
theorem Num.c2{o:Opd}(n:Num h k (.cond o x y)):Num h (k+1+szC x) y:=by
 rw[A3M];exact n.sub (l:=[]) λj z hz=>by rw[pre];exact D7j (C9x x) j z hz
theorem Num.b1{i:Nat}(n:Num h k (.blk i x)):Num h (k+1) x:=n.sub (l:=[]) λj z hz=>by rw[pre,Nat.add_comm,A3F,hz]
theorem Num.l1(n:Num h k (.loop x)):Num h (k+1) x:=n.sub (l:=[]) λj z hz=>by rw[pre,Nat.add_comm,A3F,hz]
theorem A6t(n:Num h k t):chC h k t=t:=by
 cases t<;>simp only[chC]<;>first|rfl|exact n.self|rw[n.l1.self]
theorem D3n{r:List IOper}{p:List (Nat × Option (List Nat))}{m m':Nat}(e:asM r p m=some m'):B2l m' 0 r=p:=by
 unfold asM at e;split at e<;>cases e;rename_i q;exact D2p q
theorem B5l{L:List Nat}(n:Num h k x):(C6g h k x L).ic=x:=by
 unfold C6g;split
 ·rfl
 ·split
  ·rename_i m e;simp only[PD.ic,dQ,D3n e]
  ·rfl
 ·simp only[PD.ic,A6t n.c1,A6t n.c2]
 ·simp only[PD.ic,A6t n.b1]
 rfl
theorem E6b{L:List Nat}(n:Num h k x):(fuC h k x y L).ic=.seq x y:=by
 unfold fuC;split
 ·rfl
 ·split
  ·rename_i m e;simp only[PD.ic,dQ,D3n e]
  rfl
 ·simp only[PD.ic,A6t n.c1,A6t n.c2]
 ·simp only[PD.ic,A6t n.b1]
 ·simp only[PD.ic,A6t n]
theorem D9d{b:Bool}{l:List (Nat × PD)}{e:Nat × PD}(hm:e∈tlC b l):e∈l:=by
 unfold tlC at hm;split at hm
 ·exact List.mem_of_mem_tail hm
 omega
theorem E6e(rl:List Nat):∀(t:IC) (k:Nat) (out:List Nat) (ex:Nat->List Nat),Num h k t->∀e∈(flC h rl t k out ex).2,h e.1=e.2.ic:=by
 intro t
 induction t with
 |skip=>intro k out ex n e he;trivial
 |exit i=>intro k out ex n e he;trivial
 |ret=>intro k out ex n e he;trivial
 |bad=>intro k out ex n e he;trivial
 |rg r=>intro k out ex n e he;trivial
 |reg r=>intro k out ex n e he;simp only[flC,A2F]at he;subst he;simp only[B5l n];exact n.self
 |drw m d=>intro k out ex n e he;simp only[flC,A2F]at he;subst he;simp only[B5l n];exact n.self
 |seq x y ihx ihy =>
  intro k out ex n e he;simp only[flC,A1N,A1Q]at he;rcases he with rfl|he|he
  ·simp only[E6b n.s1,A6t n.s2];exact n.self
  ·exact ihx _ _ _ n.s1 e (D9d he)
  ·exact ihy _ _ _ n.s2 e he
 |cond o x y ihx ihy =>
  intro k out ex n e he;simp only[flC,A1N,A1Q]at he;rcases he with rfl|he|he
  ·simp only[B5l n];exact n.self
  ·exact ihx _ _ _ n.c1 e he
  ·exact ihy _ _ _ n.c2 e he
 |blk i x ih =>
  intro k out ex n e he;simp only[flC,A1N]at he;rcases he with rfl|he
  ·simp only[B5l n];exact n.self
  ·exact ih _ _ _ n.b1 e he
 |loop x ih =>
  intro k out ex n e he;simp only[flC]at he;exact ih _ _ _ n.l1 e he
end
inductive Ps where
 |h
 |o (p:Ps)
 |i (p:Ps)
def Ps.n:Ps->Nat
 |.h=>1
 |.o p=>2*p.n
 |.i p=>2*p.n+1
def Ps.s:Ps->Ps
 |.h=>.o .h
 |.o p=>.i p
 |.i p=>.o p.s
theorem Ps.s_n:∀p:Ps,p.s.n=p.n+1
 |.h=>rfl
 |.o p=>rfl
 |.i p=>by simp only[Ps.s,Ps.n,Ps.s_n p];rfl
def Ps.of:Nat->Ps
 |0=>.h
 |k+1=>(Ps.of k).s
theorem Ps.of_n:∀k:Nat,(Ps.of k).n=k+1
 |0=>rfl
 |k+1=>by rw[Ps.of,Ps.s_n,Ps.of_n k]
def Ps.frc:Ps->(Ps->IC)->IC
 |.h,K=>K .h
 |.o p,K=>Ps.frc p λq=>K (.o q)
 |.i p,K=>Ps.frc p λq=>K (.i q)
theorem Ps.frc_eq:∀(p:Ps) (K:Ps->IC),p.frc K=K p
 |.h,K=>rfl
 |.o p,K=>by rw[Ps.frc,Ps.frc_eq p]
 |.i p,K=>by rw[Ps.frc,Ps.frc_eq p]
def hk(h:Ps->IC)(k:Nat):IC:=(Ps.of k).frc h
inductive Tr where
 |e
 |d (x:Option PD) (l r:Tr)
def Tr.get:Tr->Ps->Option PD
 |.e,_=>none
 |.d x _ _,.h=>x
 |.d _ l _,.o p=>l.get p
 |.d _ _ r,.i p=>r.get p
def Tr.put(y:PD):Ps->Tr->Tr
 |.h,.e=>.d (some y) .e .e
 |.o p,.e=>.d none (Tr.put y p .e) .e
 |.i p,.e=>.d none .e (Tr.put y p .e)
 |.h,.d _ l r=>.d (some y) l r
 |.o p,.d x l r=>.d x (Tr.put y p l) r
 |.i p,.d x l r=>.d x l (Tr.put y p r)
theorem Tr.get_put(y:PD):∀(p:Ps) (t:Tr) (q:Ps) (z:PD),(Tr.put y p t).get q=some z->(q=p/\z=y)\/t.get q=some z:=by
 intro p
 induction p with
 |h=>intro t q z h;cases t<;>cases q<;>simp_all[Tr.put,Tr.get]
 |o p ih =>
  intro t q z h;cases t<;>cases q<;>simp only[Tr.put,Tr.get]at h ⊢ <;> first|exact .inr h|(cases h;done)|skip
  ·rcases ih _ _ _ h with ⟨rfl,rfl⟩|h
   ·exact .inl ⟨rfl,rfl⟩
   ·cases h
  grind
 |i p ih =>
  intro t q z h;cases t<;>cases q<;>simp only[Tr.put,Tr.get]at h ⊢ <;> first|exact .inr h|(cases h;done)|skip
  ·rcases ih _ _ _ h with ⟨rfl,rfl⟩|h
   ·exact .inl ⟨rfl,rfl⟩
   ·cases h
  grind
def E1c:List (Nat × PD)->Tr->Tr
 |[],t=>t
 |e::l,t=>E1c l (Tr.put e.2 (Ps.of e.1) t)
theorem B8d:∀(l:List (Nat × PD)) (t:Tr) (q:Ps) (z:PD),(E1c l t).get q=some z->(∃k,q=Ps.of k/\(k,z)∈l)\/t.get q=some z
 |[],t,q,z,h=>.inr h
 |e::l,t,q,z,h=>by
  rcases B8d l _ q z h with ⟨k,h1,h2⟩|h
  ·grind
  ·rcases Tr.get_put _ _ _ _ _ h with ⟨rfl,rfl⟩|h
   ·exact .inl ⟨e.1,rfl,A0M⟩
   grind
def pz(P:Program)(f:Nat)(p:Ps):IC:=match(P.funcs[f]?).bind (A8v P) with
 |some i=>(pre i.body).getD (p.n-1) .bad
 |none=>.bad
theorem C9p{P:Program}{f:Nat}{i:IFn}(h:L4 P f i):Num (hk (pz P f)) 0 i.body:=λj x hx=>by
 rw[hk,Ps.frc_eq];unfold pz;unfold L4 at h;rw[h];simp only[A1I,A1E,Ps.of_n,Nat.add_sub_cancel,hx,A4C]
inductive TD where
 |mk (n:Nat) (rs:List RV) (top:IC) (l:Tr)
 |no
def TD.l:TD->Tr
 |.mk _ _ _ l=>l
 |.no=>.e
def mkT(h:Ps->IC)(i:IFn):TD:=.mk i.n i.res (chC (hk h) 0 i.body) (E1c (flC (hk h) (slR i.res) i.body 0 (slR i.res) (λ_=>[])).2 .e)
structure XT (P:Program) (f:Nat) where
 d:(Ps->IC)->TD
 i:IFn
 hi:L4 P f i
 hd:∀h,mkT h i=d h
class FT (P:Program) (f:Nat) (D:outParam ((Ps->IC)->TD)):Prop where
 of:∃i,L4 P f i/\∀h,mkT h i=D h
theorem XT.ft{P:Program}{f:Nat}(x:XT P f):FT P f x.d:=⟨⟨x.i,x.hi,x.hd⟩⟩
theorem u8n(n:Nat):UInt8.ofBitVec (BitVec.ofNat 8 n)=UInt8.ofNat n:=rfl
abbrev mkF{P:Program}{f:Nat}{i:IFn}{d:(Ps->IC)->TD}(hi:L4 P f i:=by unfold L4;conv=>lhs;reduce;simp only[seval,u8n])(hd:∀h,mkT h i=d h:=by intro h;conv=>lhs;cbv):XT P f:=⟨d,i,hi,hd⟩
class LkI (t:Tr) (p:Ps) (x:outParam PD):Prop where
 get:t.get p=some x
instance lkTh {x:PD} {l r:Tr}:LkI (.d (some x) l r) .h x:=⟨rfl⟩
instance lkTo {x:PD} {y:Option PD} {l r:Tr} {p:Ps} [k:LkI l p x]:LkI (.d y l r) (.o p) x:=⟨k.get⟩
instance lkTi {x:PD} {y:Option PD} {l r:Tr} {p:Ps} [k:LkI r p x]:LkI (.d y l r) (.i p) x:=⟨k.get⟩
class WDp (P:Program) (N:Nat) (u:PD) (r:outParam Rl):Prop where
 out:∀ {Q:Exit->St->Prop} {T:Tm} {H:Hp} {c:Nat},r P N Q T H c->IW P N u.ic ⟨T,H,c⟩ Q
section
variable {P:Program} {N n i e:Nat} {x y z:IC} {r:List IOper} {p:List (Nat × Option (List Nat))} {L:List Nat} {o:Opd}
instance dS:WDp P N (.S r y L) (rS r y L):=⟨mkS⟩
instance dE:WDp P N (.E r L) (rE r L):=⟨mkE⟩
instance dP:WDp P N (.P r y e n L) (rP r y n L):=⟨mkP (d:=dQ r e) (A0o e r 0)⟩
instance dF:WDp P N (.F r e n L) (rPE r n L):=⟨E8t (d:=dQ r e) (A0o e r 0)⟩
instance dD:WDp P N (.D r y p n L) (rD r p y n L):=⟨mkD (d:=⟨r,[],p⟩)⟩
instance dG:WDp P N (.G r p n L) (rDE r p n L):=⟨E8u (d:=⟨r,[],p⟩)⟩
instance dC:WDp P N (.C x y z o L) (rC o x z y L):=⟨mkC⟩
instance dK:WDp P N (.K x z o L) (rCE o x z L):=⟨E8v⟩
instance dB:WDp P N (.B x y i L) (rB i x y L):=⟨mkB⟩
instance dJ:WDp P N (.J x i L) (rBE i x L):=⟨E8w⟩
instance dQQ:WDp P N (.Q x y L) (rQ x y L):=⟨mkQ⟩
end
class LkD (t:TD) (p:Ps) (x:outParam PD):Prop where
 get:t.l.get p=some x
instance lkTd {n:Nat} {rs:List RV} {top:IC} {x:PD} {l:Tr} {p:Ps} [k:LkI l p x]:LkD (.mk n rs top l) p x:=⟨k.get⟩
section
variable {P:Program} {f:Nat} {D:(Ps->IC)->TD} [F:FT P f D]
theorem wz{p:Ps}{x:PD}(e:(D (pz P f)).l.get p=some x):pz P f p=x.ic:=by
 obtain⟨i,hi,hd⟩:=F.of;rw[<- hd]at e;simp only[mkT,TD.l]at e;rcases B8d _ _ _ _ e with ⟨k,rfl,h⟩|h
 ·have:=E6e (slR i.res) i.body 0 (slR i.res) (λ_=>[]) (C9p hi) _ h;rw[hk,Ps.frc_eq]at this;exact this
 trivial
instance wZ {N:Nat} {p:Ps} {x:PD} {w:Rl} [g:LkD (D (pz P f)) p x] [k:WDp P N x w]:WR P N (pz P f p) w:=⟨λh=>by rw[wz g.get];exact k.out h⟩
theorem FT.eqs{n:Nat}{rs:List RV}{top:IC}{l:Tr}(e:D (pz P f)=.mk n rs top l):L4 P f ⟨n,top,rs⟩:=by
 obtain⟨i,hi,hd⟩:=F.of;rw[<- hd]at e;simp only[mkT,A6t (C9p hi),TD.mk.injEq]at e;rw[<- e.1, <- e.2.1, <- e.2.2.1];omega
theorem PC.ofT(hm:P.follows .mixedOrders=true){n:Nat}{rs:List RV}{top:IC}{l:Tr}(e:D (pz P f)=.mk n rs top l){args:List DV}(hn:args.length<=n){r:DV}(na:DV.nlL args=true)(nr:r.nl=true)
  (h:IW P n top ⟨A3d args,nil,0⟩ (rt rs λv H' _ => ∃H2,GL H' [v] H2 [r])):PC P f args r :=
 PC.of hm (i:=⟨n,top,rs⟩) (FT.eqs e) hn na nr h
theorem AC.go(hm:P.follows .mixedOrders=true){n:Nat}{rs:List RV}{top:IC}{l:Tr}{args:List DV}{H:Hp}{c:Nat}{Q:DV->Hp->Nat->Prop}(h:(∀id,c<=id->H id=none)->IW P n top ⟨A3d args,H,c⟩ (rt rs λv H2 c2 => ∃v2 H3,GL H2 [v] H3 [v2]/\Q v2 H3 c2))(e:D (pz P f)=.mk n rs top l:=by rfl)(hn:args.length<=n:=by exact A0C rfl):AC P f args H c Q:=AC.body hm (i:=⟨n,top,rs⟩) (FT.eqs e) hn h
theorem PC.go(hm:P.follows .mixedOrders=true){n:Nat}{rs:List RV}{top:IC}{l:Tr}{args:List DV}{r:DV}(h:IW P n top ⟨A3d args,nil,0⟩ (rt rs λv H' _ => ∃H2,GL H' [v] H2 [r]))(e:D (pz P f)=.mk n rs top l:=by rfl)(hn:args.length<=n:=by exact A0C rfl)(na:DV.nlL args=true:=by first|(simp[DV.nlL,DV.nl];done)|rfl)(nr:r.nl=true:=by first|rfl|simp[DV.nlL,DV.nl]):PC P f args r:=PC.ofT hm e hn na nr h
theorem AC.bodyT(hm:P.follows .mixedOrders=true){n:Nat}{rs:List RV}{top:IC}{l:Tr}(e:D (pz P f)=.mk n rs top l){args:List DV}(hn:args.length<=n){H:Hp}{c:Nat}{Q:DV->Hp->Nat->Prop}
  (h:(∀id,c<=id->H id=none)->IW P n top ⟨A3d args,H,c⟩ (rt rs λv H' c' => ∃v2 H2,GL H' [v] H2 [v2]/\Q v2 H2 c')):AC P f args H c Q :=
 AC.body hm (i:=⟨n,top,rs⟩) (FT.eqs e) hn h
end
end Go.Sym
namespace Go.Pb
variable [Go.Sym.Tab]
open Go.Sym
def B7x(n:Nat)(s:List UInt8):Nat:=s.foldl (λn c=>10*n+(c.toNat-48)) n
theorem C3w:∀(s:List UInt8) (n:Nat),n<=B7x n s
 |[],n=>A0D _
 |c::r,n=>by
  have:=C3w r (10*n+(c.toNat-48))
  grind[B7x]
theorem C6k(c:UInt8)(r:List UInt8)(n:Nat):B7x n (c::r)=B7x (10*n+(c.toNat-48)) r:=by rfl
theorem E4n{M acc d v w:Nat}(hM:M=18446744073709551615)(hd:d<=9)(hv:10*acc+d<=v)(hw:w=1844674407370955162):
  (w<=acc->M<v)/\(M<acc*10+d->M<v):=by
 omega
theorem C9r(M acc:Nat)(c:UInt8)(r:List UInt8):Lib.parseUintM M acc (c::r) =
  if 48<=c.toNat/\c.toNat<=57 then
   if 1844674407370955162<=acc then .range
   else if M<acc*10+(c.toNat-48) then .range
   else Lib.parseUintM M (acc*10+(c.toNat-48)) r
  else .syntax:=by rfl
theorem pum{M:Nat}(hM:M=18446744073709551615):∀(l:List UInt8) (acc:Nat),(∀c∈l,dgB c=true)->acc<=M ->
  Lib.parseUintM M acc l=if B7x acc l<=M then .ok (B7x acc l) else .range:=by
 intro l
 induction l with
 |nil =>
  simp_all[B7x,Lib.parseUintM]
 |cons c r ih =>
  intro acc h ha;have hc:=h c A0M;simp only[dgB,A0F,A0Q]at hc;have hg:=C3w r (10*acc+(c.toNat-48));rw[C9r,if_pos hc,C6k]
  grind
theorem pib{l:List UInt8}(h:∀c∈l,dgB c=true)(h0:l≠[]):
  Lib.parseIntB 64 l=if S1 l<=9223372036854775807 then .ok (S1 l:Int) else .range:=by
 cases l with
 |nil=>grind
 |cons c r =>
  have hc:=h c A0M;simp only[dgB,A0F,A0Q]at hc;have e1:¬c.toNat=43:=b8
  have e2:¬c.toNat=45:=b8
  have hp:=pum (M:=2 ^ 64-1) (by decide) (c::r) 0 h (A0N _);have hv:B7x 0 (c::r)=S1 (c::r):=rfl;rw[hv]at hp;unfold Lib.parseIntB;simp only[e1,e2,or_self,if_false,not_false_eq_true,true_and,false_and];unfold Lib.parseUintB
  grind
theorem B7a{p:UInt8->Bool}:∀(s:List UInt8), ∀c∈s.take (F3 p s),p c=true
 |[],c,h=>m9
 |x::r,c,h=>by
  simp only[F3]at h;split at h
  ·rename_i hx;rw[A1A]at h;rcases A1N.1 h with rfl|h
   ·exact hx
   ·exact B7a r c h
  grind
theorem D1d(c:UInt8):∀l:List UInt8, -1<=Lib.indexByte l c
 |[]=>by simp[Lib.indexByte]
 |d::l=>by
  have:=D1d c l
  grind[Lib.indexByte]
theorem C4o(c:UInt8):∀l:List UInt8,0<=Lib.indexByte l c↔l.contains c=true
 |[]=>by simp[Lib.indexByte]
 |b::l=>by
  have ih:=C4o c l;have hge:=D1d c l;simp only[Lib.indexByte,A4M]
  grind
def A0t(l:List Ins):List DV:=cellsL (l.map Ins.v)
theorem A3l(a b:List Ins):A0t (a++b)=A0t a++A0t b:=by simp[A0t,C8]
theorem B1j(i:Ins):A0t [i]=[I64 i.op,I64 i.A]:=by rfl
theorem A3k(l:List Ins):(A0t l).length=l.length*2:=by
 unfold A0t;rw[C7 (u:=2)]
 ·simp
 ·intro x hx;obtain⟨y, -,rfl⟩:=A1D.1 hx;rfl
theorem A3f{s:List UInt8}{k:Nat}(h:k<=s.length):slsR s (some (.int .i64 (k:Int))) none=some (.str (s.drop k)):=by
 simp_all[C9g,boundOf,A0J]
theorem B0j{s:List UInt8}{k:Nat}(h:k<=s.length):slsR s none (some (.int .i64 (k:Int)))=some (.str (s.take k)):=by
 simp_all[C9g,boundOf]
theorem B4f(l:List Ent):(cellsL (l.map Ent.v)).length=l.length*4:=by
 rw[C7 (u:=4)]
 ·simp
 ·intro x hx;obtain⟨y, -,rfl⟩:=A1D.1 hx;rfl
theorem N4(l:List (List UInt8)):∀x∈l.map DV.str,x.cells.length=1:=by
 intro x hx;obtain⟨y, -,rfl⟩:=A1D.1 hx;rfl
theorem S3{α:Type}{l:List α}(h:l=[]):l.length=0:=m9
def delO(H:Hp):Option Nat->Hp
 |none=>H
 |some i=>H.del i
theorem P5{o:Option Nat}{n:Nat}(h:o=none->n=0):A3i (todoV o n)=some (I64 (n:Int)):=by
 cases o with
 |none=>rw[h rfl];rfl
 |some i=>rfl
theorem D4{H:Hp}{c sz bytes n m:Nat}{o:Option Nat}{cs src:List DV}(hn:o=none->n=0/\cs=[])(hb:∀i,o=some i->H i=some ⟨sz,true,cs⟩)(hl:cs.length=n*sz)(hm:1<=m)(h2:(n+m)*bytes<=140737488355328)(h3:n+m<=9223372036854775807):
  A8d H c sz bytes (todoV o n) m src=some (.slc c 0 (n+m),(delO H o).upd c ⟨sz,true,cs++src⟩,c+1):=by
 cases o<;>grind[A7a,A6a,delO,A2g,C9l,A1n]
theorem A9{H:Hp}{o:Option Nat}{j:Nat}(h:∀i,o=some i->¬j=i):delO H o j=H j:=by
 cases o with
 |none=>rfl
 |some i=>exact D5 (h i rfl)
theorem A8{H:Hp}{o:Option Nat}{b:Blk}{j:Nat}(h:∀i,o=some i->¬j=i):optH H o b j=H j:=by
 cases o with
 |none=>rfl
 |some i=>exact h_ne (h i rfl)
section
variable {l:List UInt8} {k p:Nat} {S P V:DV} {I:List Ins} {E:List Ent} {o1 o2:Option Nat} {cc:Nat}
end
theorem B2d{a b:Nat}(h:((a:Int)==(b:Int))=true):a=b:=m9
theorem A4u{a b:Nat}(h:((a:Int)==(b:Int))=false):a≠b:=λe=>m9
theorem C7p{a b:Nat}(h:((a:Int) != (b:Int))=true):a≠b:=λe=>m9
theorem D3l{a b:Nat}(h:((a:Int) != (b:Int))=false):a=b:=by
 grind
theorem A8x{a b:Nat}(h:decide ((a:Int)>(b:Int))=true):b<a:=m9
theorem A2z{a b:Nat}(h:decide ((a:Int)>(b:Int))=false):¬b<a:=m9
theorem O7{α:Type}{s:List α}{i:Nat}{c : α}(h:s[i]? = some c):s.drop i=c::s.drop (i+1):=by
 grind[List.drop_eq_getElem_cons]
theorem C8w{s:List UInt8}{i:Nat}{c:UInt8}(h:s[i]? = some c)(hc:A2y c=true):skM false (s.drop i)=skM false (s.drop (i+1))+1:=by
 simp_all[O7,skM]
theorem C8y{s:List UInt8}{i:Nat}{c:UInt8}(h:s[i]? = some c)(hc:c.toNat=35):
  skM false (s.drop i)=F3 (λc=>decide (c.toNat≠10)) (s.drop i)+skM false (s.drop (i+F3 (λc=>decide (c.toNat≠10)) (s.drop i))):=by
 have hs:¬A2y c=true:=by simp[A2y,hc]
 have e1:skM false (s.drop i)=skM true (s.drop i):=by
  rw[O7 h];simp only[skM];rw[if_neg hs,if_pos hc,if_neg (by omega)]
 grind[B7c,List.drop_drop]
theorem C3a{s:List UInt8}{i:Nat}{c:UInt8}(h:s[i]? = some c)(h1:¬A2y c=true)(h2:¬c.toNat=35):skM false (s.drop i)=0:=by
 simp_all[O7,skM]
theorem C8x{s:List UInt8}{i:Nat}(h:s.length<=i):skM false (s.drop i)=0:=by
 rw[A4A h];rfl
theorem C3b{s:List UInt8}{i:Nat}{c:UInt8}(h:s[i]? = some c)(hc:c.toNat=35):1<=F3 (λc=>decide (c.toNat≠10)) (s.drop i):=by
 simp_all[O7,F3]
def quA(acc:List UInt8)(k:Nat)(q:Option (List UInt8 × Nat)):Option (List UInt8 × Nat):=q.map λx=>(acc++x.1,x.2+k)
theorem A0h(c:UInt8)(r:List UInt8):quM (c::r)=if c.toNat=34 then some ([],1)
  else if c.toNat<32\/126<c.toNat then none
  else if c.toNat=92 then match r with
   |[]=>none
   |d::q=>if d.toNat=34\/d.toNat=92 then(quM q).map λx=>(d::x.1,x.2+2) else none
  else(quM r).map λx=>(c::x.1,x.2+1):=by grind[quM.eq_def]
theorem A1u{s acc:List UInt8}{k:Nat}{c:UInt8}(h:s[k]? = some c)(hc:c.toNat=34):quA acc k (quM (s.drop k))=some (acc,k+1):=by
 simp_all[O7,A0h,quA];omega
theorem A3g{s acc:List UInt8}{k:Nat}{c:UInt8}(h:s[k]? = some c)(h0:c.toNat≠34)(hc:c.toNat<32\/126<c.toNat):quA acc k (quM (s.drop k))=none:=by
 rw[O7 h,A0h,if_neg h0,if_pos hc];rfl
theorem C9m{s acc:List UInt8}{k:Nat}(h:s.length<=k):quA acc k (quM (s.drop k))=none:=by
 rw[A4A h,quM];rfl
theorem A9m{s acc:List UInt8}{k:Nat}{c:UInt8}(h:s[k]? = some c)(h0:c.toNat≠34)(h1:32<=c.toNat)(h2:c.toNat<=126)(h3:c.toNat≠92):
  quA acc k (quM (s.drop k))=quA (acc++[c]) (k+1) (quM (s.drop (k+1))):=by
 rw[O7 h,A0h,if_neg h0,if_neg (by omega),if_neg h3];cases quM (s.drop (k+1))<;>grind[quA]
theorem B5c{s acc:List UInt8}{k:Nat}{c d:UInt8}(h:s[k]? = some c)(h3:c.toNat=92)(hd:s[k+1]? = some d)(h4:d.toNat=34\/d.toNat=92):
  quA acc k (quM (s.drop k))=quA (acc++[d]) (k+2) (quM (s.drop (k+2))):=by
 rw[O7 h,O7 hd,A0h,if_neg (by omega),if_neg (by omega),if_pos h3];simp only;rw[if_pos h4];cases quM (s.drop (k+1+1))<;>grind[quA]
theorem A9l{s acc:List UInt8}{k:Nat}{c:UInt8}(h:s[k]? = some c)(h3:c.toNat=92)(hd:∀d,s[k+1]? = some d->d.toNat≠34/\d.toNat≠92):
  quA acc k (quM (s.drop k))=none:=by
 rw[O7 h];cases hq:s.drop (k+1) with
 |nil=>rw[A0h,if_neg (by omega),if_neg (by omega),if_pos h3];rfl
 |cons d q =>
  have h5:s[k+1]? = some d:=by
   have:=congrArg List.head? hq
   grind[List.head?_drop]
  have h6:=hd d h5;rw[A0h,if_neg (by omega),if_neg (by omega),if_pos h3];simp only;rw[if_neg (by omega)];rfl
def quV:Option (List UInt8 × Nat)->DV
 |none=>.tup [.str [],I64 0]
 |some x=>.tup [.str x.1,I64 x.2]
theorem B7o{H:Hp}{o:Option Nat}{u:Nat}{acc:List UInt8}(hn:o=none->acc=[])(hb:∀i,o=some i->H i=some ⟨u,true,bytesC acc⟩):A1y H (todoV o acc.length)=some (.str acc):=by
 cases o with
 |none=>rw[hn rfl];rfl
 |some i=>exact A7y (hb i rfl) rfl rfl
theorem S2{X:Hp}{id:Nat}{b b':Blk}(h:b=b'):Sub (optH Sym.nil (some id) b) (X.upd id b'):=by
 intro j q hj;simp only[optH]at hj;by_cases e:j=id
 ·grind[A0]
 ·rw[h_ne e]at hj;cases hj
theorem C6b{X:Hp}{o:Option Nat}{c sz bytes n m:Nat}{cs src:List DV}{b2:Blk}(hn:o=none->n=0/\cs=[])(ho:∀i,o=some i->i<c)(hl:cs.length=n*sz)(hm:1<=m)
  (h2:(n+m)*bytes<=140737488355328) (h3:n+m<=9223372036854775807) :
  A8d ((optH X o ⟨sz,true,cs⟩).upd c b2) (c+1) sz bytes (todoV o n) m src=some (.slc (c+1) 0 (n+m),(delO ((optH X o ⟨sz,true,cs⟩).upd c b2) o).upd (c+1) ⟨sz,true,cs++src⟩,c+1+1) :=
 D4 hn (λi hi=>by have:=ho i hi;rw[hnO];subst hi;exact A0) hl hm h2 h3
theorem A6b{X:Hp}{o:Option Nat}{c:Nat}{acc:List UInt8}(hn:o=none->acc=[])(ho:∀i,o=some i->i<c)(hl:acc.length<=10000000)(b2:Blk)(x:UInt8):
  A8d ((optH X o ⟨1,true,bytesC acc⟩).upd c b2) (c+1) 1 1 (todoV o acc.length) 1 [.int .u8 (x.toNat:Int)]=some (.slc (c+1) 0 (acc.length+1),(delO ((optH X o ⟨1,true,bytesC acc⟩).upd c b2) o).upd (c+1) ⟨1,true,bytesC (acc++[x])⟩,c+1+1):=by
 rw[C2f];exact C6b (λe=>by rw[hn e];trivial) ho (B9r acc) (by omega) (by omega) (by omega)
theorem E1q(c:UInt8):decide (Lib.indexByte [123,125,40,41,59,44,61,43,45,42,47,37,33,60,62] c≥0)=B2t c:=by
 rw[A2E,decide_eq_true_iff];refine(C4o c _).trans ?_;have key:∀n:Nat,n<256->([123,125,40,41,59,44,61,43,45,42,47,37,33,60,62]:List UInt8).contains (UInt8.ofNat n)=B2t (UInt8.ofNat n):=by decide +kernel
 have:=key c.toNat c.toNat_lt
 simp_all
theorem B7g(q:List Tok × Int × Int):(C3e q).nl=true:=by
 simp[DV.nl,DV.nlL,P0]
theorem B7r{H:Hp}{a b:DV}:∃H2,GL H [.tup [.snil,a,b]] H2 [.tup [.lst [],a,b]] :=
 ⟨H,GL.view fun ρ vs hA=>⟨hA.1,λi x y hx hy=>by
  match i with
  |0 =>
   cases hx;have:=hA.2 0 _ y rfl hy;obtain⟨b',rfl,k1,k2⟩:=this.tup_inv;refine .tup _ _ k1 λj x' y' hx' hy'=>?_
   match j with
   |0=>cases hx';exact(k2 0 _ y' rfl hy').snil_lst
   |1=>grind
   |2=>grind
   |_+3=>grind
  |_+1=>grind⟩⟩
theorem A5x{H:Hp}{a b:Int}:∃H2,GL H [.tup [.snil,I64 a,I64 b]] H2 [C3e ([],a,b)]:=B7r
theorem B7q{o:Option Nat}{xs:List DV}{u n:Nat}{a b:DV}(hno:o=none->xs=[])(hl:xs.length=n)(hu:∀x∈xs,x.cells.length=u):
  ∃H2,GL (optH Sym.nil o ⟨u,true,cellsL xs⟩) [.tup [todoV o n,a,b]] H2 [.tup [.lst xs,a,b]]:=by
 cases o with
 |none=>rw[hno rfl];exact B7r
 |some i=>exact⟨nil,GL.one (id:=i) A0 rfl (.cons _ _ _ _ (.tup _ _ (.cons _ _ _ _ (Q2 hl hu ⟨[],by simp⟩) (.cons _ _ _ _ (.same _) (.cons _ _ _ _ (.same _) .nil)))) .nil)⟩
theorem A2j{X:Hp}{o:Option Nat}{b:Blk}{i:Nat}(hi:o=some i):optH X o b i=some b:=o9
def nxV(x:Nx):DV:=.tup [.agg [I64 x.kind,.str x.text,I64 x.value,I64 0],I64 x.n,I64 x.err]
theorem D0j(x:Nx):(nxV x).nl=true:=rfl
theorem u8_eq(c:UInt8)(n:Nat)(h:n<256):(c==UInt8.ofNat n)=decide (c.toNat=n):=by
 rw[A2E,A1T,decide_eq_true_iff, <- UInt8.toNat_inj];simp;omega
theorem C2r(c d:UInt8):C8g c d=([c,d] == [60,61] || [c,d] == [62,61] || [c,d] == [61,61] || [c,d] == [33,61] || [c,d] == [38,38] || [c,d] == [124,124]):=by
 have hk:∀a b:UInt8,([c,d] == [a,b])=(c==a&&d==b):=λa b=>by simp[A3X]
 rw[hk,hk,hk,hk,hk,hk];have hu:∀(x:UInt8) (n:Nat),n<256->(x==UInt8.ofNat n)=(x.toNat==n):=λx n h=>by rw[u8_eq x n h];rfl
 have e:∀n:Nat,(OfNat.ofNat n:UInt8)=UInt8.ofNat n:=λ_=>rfl;show([(60,61),(62,61),(61,61),(33,61),(38,38),(124,124)]:List (Nat × Nat)).contains (c.toNat,d.toNat)=(c==UInt8.ofNat 60&&d==UInt8.ofNat 61||c==UInt8.ofNat 62&&d==UInt8.ofNat 61||c==UInt8.ofNat 61&&d==UInt8.ofNat 61||c==UInt8.ofNat 33&&d==UInt8.ofNat 61||c==UInt8.ofNat 38&&d==UInt8.ofNat 38||c==UInt8.ofNat 124&&d==UInt8.ofNat 124);rw[hu c 60 (by omega),hu c 61 (by omega),hu c 62 (by omega),hu c 33 (by omega),hu c 38 (by omega),hu c 124 (by omega),hu d 61 (by omega),hu d 38 (by omega),hu d 124 (by omega)]
 grind
inductive Ex where
 |mk (kind value:Int) (name:List UInt8) (args:List Ex) (pos:Int)
def Ex.kind:Ex->Int |.mk k _ _ _ _=>k
def Ex.value:Ex->Int |.mk _ v _ _ _=>v
def Ex.name:Ex->List UInt8 |.mk _ _ n _ _=>n
def Ex.args:Ex->List Ex |.mk _ _ _ a _=>a
def Ex.pos:Ex->Int |.mk _ _ _ _ p=>p
mutual
def Ex.v:Ex->DV
 |.mk k v n a p=>.agg [I64 k,I64 v,.str n,.lst (Ex.vs a),I64 p]
def Ex.vs:List Ex->List DV
 |[]=>[]
 |e::l=>Ex.v e::Ex.vs l
end
theorem Ex.vs_map:∀l:List Ex,Ex.vs l=l.map Ex.v
 |[]=>rfl
 |e::l=>by rw[Ex.vs,Ex.vs_map l];rfl
abbrev J4(l:List Ex):DV:=.lst (l.map Ex.v)
abbrev Ex.w(e:Ex):DV:=.agg [I64 e.kind,I64 e.value,.str e.name,J4 e.args,I64 e.pos]
theorem Ex.v_w(e:Ex):e.v=e.w:=by
 cases e with|mk k v n a p=>rw[Ex.v,Ex.vs_map];rfl
theorem A4i(l:List Ex):∀x∈l.map Ex.v,x.cells.length=5:=λx hx=>by
 obtain⟨y, -,rfl⟩:=A1D.1 hx;rw[Ex.v_w];rfl
mutual
@[simp]theorem Ex.nl:∀e:Ex,e.v.nl=true
 |.mk k v n a p=>by
  simp[Ex.nls,Ex.v,DV.nl,DV.nlL]
theorem Ex.nls:∀l:List Ex,DV.nlL (Ex.vs l)=true
 |[]=>rfl
 |e::l=>by rw[Ex.vs,DV.nlL,Ex.nl e,Ex.nls l];rfl
end
@[simp]theorem A2l(l:List Ex):DV.nlL (l.map Ex.v)=true:=by rw[<- Ex.vs_map];exact Ex.nls l
def Ex0:Ex:=.mk 0 0 [] [] 0
inductive St where
 |mk (kind:Int) (name text:List UInt8) (args:List Ex) (thn els:List St) (pos:Int)
def St.kind:St->Int |.mk k _ _ _ _ _ _=>k
def St.name:St->List UInt8 |.mk _ n _ _ _ _ _=>n
def St.text:St->List UInt8 |.mk _ _ t _ _ _ _=>t
def St.args:St->List Ex |.mk _ _ _ a _ _ _=>a
def St.thn:St->List St |.mk _ _ _ _ t _ _=>t
def St.els:St->List St |.mk _ _ _ _ _ e _=>e
def St.pos:St->Int |.mk _ _ _ _ _ _ p=>p
mutual
def St.v:St->DV
 |.mk k n t a x y p=>.agg [I64 k,.str n,.str t,J4 a,.lst (St.vs x),.lst (St.vs y),I64 p]
def St.vs:List St->List DV
 |[]=>[]
 |e::l=>St.v e::St.vs l
end
theorem St.vs_map:∀l:List St,St.vs l=l.map St.v
 |[]=>rfl
 |e::l=>by rw[St.vs,St.vs_map l];rfl
abbrev F5(l:List St):DV:=.lst (l.map St.v)
abbrev St.w(s:St):DV:=.agg [I64 s.kind,.str s.name,.str s.text,J4 s.args,F5 s.thn,F5 s.els,I64 s.pos]
theorem St.v_w(s:St):s.v=s.w:=by
 cases s with|mk k n t a x y p=>rw[St.v,St.vs_map,St.vs_map];rfl
theorem A5v(l:List St):∀x∈l.map St.v,x.cells.length=7:=λx hx=>by
 obtain⟨y, -,rfl⟩:=A1D.1 hx;rw[St.v_w];rfl
mutual
@[simp]theorem St.nl:∀e:St,e.v.nl=true
 |.mk k n t a x y p=>by
  simp[A2l,St.nls,St.v,DV.nl,DV.nlL]
theorem St.nls:∀l:List St,DV.nlL (St.vs l)=true
 |[]=>rfl
 |e::l=>by rw[St.vs,DV.nlL,St.nl e,St.nls l];rfl
end
@[simp]theorem Z6(l:List St):DV.nlL (l.map St.v)=true:=by rw[<- St.vs_map];exact St.nls l
def St0:St:=.mk 0 [] [] [] [] [] 0
structure Dc where
 kind:Int
 name:List UInt8
 value:Int
 pos:Int
deriving DecidableEq
abbrev Dc.v(d:Dc):DV:=.agg [I64 d.kind,.str d.name,I64 d.value,I64 d.pos]
abbrev D0(l:List Dc):DV:=.lst (l.map Dc.v)
structure Hd where
 trig:Int
 name:List UInt8
 body:List St
 pos:Int
abbrev Hd.v(h:Hd):DV:=.agg [I64 h.trig,.str h.name,F5 h.body,I64 h.pos]
abbrev O0(l:List Hd):DV:=.lst (l.map Hd.v)
structure Md where
 name:List UInt8
 prio:Int
 hds:List Hd
 pos:Int
abbrev Md.v(m:Md):DV:=.agg [.str m.name,I64 m.prio,O0 m.hds,I64 m.pos]
abbrev D8(l:List Md):DV:=.lst (l.map Md.v)
structure Ru where
 decls:List Dc
 modes:List Md
abbrev Ru.v(r:Ru):DV:=.agg [D0 r.decls,D8 r.modes]
theorem A1c(l:List Dc):∀x∈l.map Dc.v,x.cells.length=4:=λx hx=>w5
theorem A2m(l:List Hd):∀x∈l.map Hd.v,x.cells.length=4:=λx hx=>w5
theorem A6h(l:List Md):∀x∈l.map Md.v,x.cells.length=4:=λx hx=>w5
@[simp]theorem K4(l:List Dc):DV.nlL (l.map Dc.v)=true:=L5 (λ_=>rfl) l
@[simp]theorem A9o(l:List Hd):DV.nlL (l.map Hd.v)=true:=L5 (λh=>by simp[DV.nl,DV.nlL,Z6]) l
@[simp]theorem K3(l:List Md):DV.nlL (l.map Md.v)=true:=L5 (λh=>by simp[DV.nl,DV.nlL,A9o]) l
theorem Ru.nl(r:Ru):r.v.nl=true:=by grind[DV.nl,DV.nlL,K4,K3]
structure Rd where
 i:Nat
 e:Int
 pos:Int
 ops:Int
 par:Int
section
variable (L:List Tok) (E:Int)
abbrev csR(s:Rd):List DV:=[D6 L,I64 E,I64 s.i,I64 s.e,I64 s.pos,I64 s.ops,I64 s.par]
abbrev rdR(s:Rd):Blk:=⟨0,true,csR L E s⟩
def okR(s:Rd):Bool:=s.e==0
def L9(s:Rd)(p e:Int):Rd:=if okR s=true then { s with e:=e,pos:=p } else s
def A4(s:Rd):Tok:=L.getD s.i ⟨0,[],0,E⟩
def isR(s:Rd)(t:List UInt8):Bool:=okR s&&((A4 L E s).kind==5||(A4 L E s).kind==2)&&(A4 L E s).text==t
def I9(s:Rd)(k:Int):Bool:=okR s&&(A4 L E s).kind==k
def R6(s:Rd):Rd:=L9 s (A4 L E s).pos 4
def D3(s:Rd)(n most e:Int):Rd:=if most<n then L9 s (A4 L E s).pos e else s
def A6(s:Rd):Rd:={ s with i:=s.i+1 }
def D9(s:Rd)(t:List UInt8):Rd:=if isR L E s t=false then R6 L E s else A6 s
def V1:Tok:=⟨0,[],0,0⟩
def A7(s:Rd)(k:Int):Tok × Rd:=if I9 L E s k=false then(V1,R6 L E s) else(A4 L E s,A6 s)
def A0q(s:Rd):Nat->List (List UInt8)->Int
 |_,[] => -1
 |k,t::l=>if isR L E s t=true then(k:Int) else A0q s (k+1) l
def B8(s:Rd)(l:List (List UInt8)):Int:=A0q L E s 0 l
end
def D7:List (List UInt8):=[[115,119,105,116,99,104],[99,111,105,108],[108,97,109,112],[115,111,117,110,100],[115,104,111,119],[118,97,114],[116,105,109,101,114],[101,118,101,110,116]]
def F1:List (List UInt8):=[[115,116,97,114,116],[115,116,111,112],[99,108,111,115,101],[111,112,101,110],[116,105,109,101,114],[101,118,101,110,116]]
def C5:List (List UInt8):=[[105,102],[114,101,112,101,97,116],[115,99,111,114,101],[102,105,114,101],[104,111,108,100],[114,101,108,101,97,115,101],[108,105,103,104,116],[98,108,105,110,107],[115,116,97,114,116],[115,116,111,112],[98,101,103,105,110],[101,110,100],[112,111,115,116],[112,108,97,121],[114,117,110],[104,97,108,116],[116,101,120,116],[99,111,110,115,117,109,101]]
def D2:List (List UInt8):=[[42],[47],[37],[43],[45],[60],[60,61],[62],[62,61],[61,61],[33,61],[38,38],[124,124]]
def B9(k:Int):Int:=if k=24 then 1 else if k=23 then 2 else if 17<=k/\k<=22 then 3 else if k=15\/k=16 then 4 else if 12<=k/\k<=14 then 5 else if k=10\/k=11 then 6 else 7
section
variable (L:List Tok) (E:Int)
def V9:List Int:=[3,4,8,9,5,6,7]
def K7:List (List UInt8):=[[116,114,117,101],[102,97,108,115,101],[112,108,97,121,101,114],[98,97,108,108],[99,108,111,115,101,100],[97,99,116,105,118,101],[108,101,102,116]]
def O9:List (List UInt8):=[[45],[33],[40]]
def I7(s:Rd):Ex × Rd :=
 let t:=A4 L E s
 let k:=B8 L E s K7
 if k<0/\I9 L E s 3=false/\I9 L E s 1=false then(Ex0,R6 L E s)
 else
  let s1:Rd:={ s with ops:=s.ops+1 }
  let s2:=D3 L E s1 s1.ops 32 9
  if okR s2=false then(Ex0,s2)
  else
   let s3:=A6 s2
   if 0<=k then
    if 4<=k then(.mk (V9.getD k.toNat 0) 0 (A7 L E s3 1).1.text [] t.pos,(A7 L E s3 1).2)
    else(.mk (V9.getD k.toNat 0) 0 [] [] t.pos,s3)
   else if t.kind=3 then(.mk 1 t.value [] [] t.pos,s3)
   else(.mk 2 0 t.text [] t.pos,s3)
mutual
def J6:Nat->Int->Rd->Option (Ex × Rd)
 |0,_,_=>none
 |f+1,n,s=>if 5<n then R5 f s else
  match J6 f (n+1) s with
  |none=>none
  |some (e,s)=>R2 f n e s
def R2:Nat->Int->Ex->Rd->Option (Ex × Rd)
 |0,_,_,_=>none
 |f+1,n,e,s =>
  let k:=B8 L E s D2
  if k<0\/B9 (12+k)≠n then some (e,s) else
  match J6 f (n+1) (A6 s) with
  |none=>none
  |some (x,s1) =>
   let y:=Ex.mk (12+k) 0 [] [e,x] (A4 L E s).pos
   if n=3 then some (y,s1) else R2 f n y s1
def R5:Nat->Rd->Option (Ex × Rd)
 |0,_=>none
 |f+1,s =>
  let t:=A4 L E s
  let k:=B8 L E s O9
  if k<0 then some (I7 L E s) else
  let s1:=D3 L E s (s.par+1) 16 50
  if okR s1=false then some (Ex0,s1) else
  let s2:Rd:={ s1 with i:=s1.i+1,par:=s1.par+1 }
  if k=2 then
   match J6 f 1 s2 with
   |none=>none
   |some (e,s3)=>let s4:=D9 L E s3 [41];some (e, { s4 with par:=s4.par-1 })
  else
   match R5 f s2 with
   |none=>none
   |some (e,s3)=>some (.mk (10+k) 0 [] [e] t.pos, { s3 with par:=s3.par-1 })
end
def L3(f:Nat)(s:Rd):Option (Ex × Rd):=J6 L E f 1 { s with ops:=0,par:=0 }
def P6(f:Nat)(k p:Int)(s:Rd):Option (St × Rd) :=
 if k=4 then
  match L3 L E f s with
  |none=>none
  |some (e,s1)=>some (.mk k [] [] [e] [] [] p,D9 L E s1 [59])
 else if k=18 then
  match L3 L E f (D9 L E (A7 L E s 4).2 [44]) with
  |none=>none
  |some (e,s1)=>some (.mk k [] (A7 L E s 4).1.text [e] [] [] p,D9 L E s1 [59])
 else if k=19 then some (.mk k [] [] [] [] [] p,D9 L E s [59])
 else
  let n:=(A7 L E s 1).1.text
  let s0:=(A7 L E s 1).2
  if k=8\/k=9\/k=10 then
   match L3 L E f s0 with
   |none=>none
   |some (e,s1) =>
    if k=9 then
     match L3 L E f (D9 L E s1 [44]) with
     |none=>none
     |some (e2,s2)=>some (.mk k n [] [e,e2] [] [] p,D9 L E s2 [59])
    else some (.mk k n [] [e] [] [] p,D9 L E s1 [59])
  else some (.mk k n [] [] [] [] p,D9 L E s0 [59])
mutual
def K5:Nat->Int->Rd->Option (List St × Rd)
 |0,_,_=>none
 |f+1,d,s=>R4 f d [] (D9 L E s [123])
def R4:Nat->Int->List St->Rd->Option (List St × Rd)
 |0,_,_,_=>none
 |f+1,d,l,s =>
  if okR s=true/\isR L E s [125]=false then
   if B8 L E s C5<0/\I9 L E s 1=false then some ([],R6 L E s) else
   match O8 f d (D3 L E s ((l.length:Int)+1) 64 9) with
   |none=>none
   |some (x,s1)=>R4 f d (l++[x]) s1
  else some (l,D9 L E s [125])
def O8:Nat->Int->Rd->Option (St × Rd)
 |0,_,_=>none
 |f+1,d,s0 =>
  let s:=D3 L E s0 d 8 50
  if okR s=false then some (St0,s) else
  let p:=(A4 L E s).pos
  let k:=B8 L E s C5
  if k<0 then
   match L3 L E f (D9 L E (A7 L E s 1).2 [61]) with
   |none=>none
   |some (e,s1)=>some (.mk 1 (A7 L E s 1).1.text [] [e] [] [] p,D9 L E s1 [59])
  else
   let s1:=A6 s
   if k=0\/k=1 then
    match L3 L E f s1 with
    |none=>none
    |some (e,s2) =>
     match K5 f (d+1) s2 with
     |none=>none
     |some (t,s3) =>
      if k=0/\isR L E s3 [101,108,115,101]=true then
       match T8 f d (A6 s3) with
       |none=>none
       |some (o,s4)=>some (.mk 2 [] [] [e] t o p,s4)
      else some (.mk (2+k) [] [] [e] t [] p,s3)
   else P6 L E f (2+k) p s1
def T8:Nat->Int->Rd->Option (List St × Rd)
 |0,_,_=>none
 |f+1,d,s =>
  if isR L E s [105,102]=true then
   match O8 f (d+1) s with
   |none=>none
   |some (x,s1)=>some ([x],s1)
  else K5 f (d+1) s
end
def R0(k:Int)(s:Rd):Dc × Rd :=
 let p:=(A4 L E s).pos
 let s1:=A6 s
 let n:=(A7 L E s1 1).1.text
 let s2:=(A7 L E s1 1).2
 if k+1<=6 then
  let m:=k+1==6&&isR L E s2 [45]
  let s3:=if m=true then A6 s2 else s2
  let v:=(A7 L E s3 3).1.value
  (⟨1+k,n,if m=true then -v else v,p⟩,D9 L E (A7 L E s3 3).2 [59])
 else(⟨1+k,n,0,p⟩,D9 L E s2 [59])
def R8:Nat->List Hd->Rd->Option (List Hd × Rd)
 |0,_,_=>none
 |f+1,l,s =>
  if okR s=true/\isR L E s [125]=false then
   if isR L E s [111,110]=false then some (l,R6 L E s) else
   let s1:=D3 L E s ((l.length:Int)+1) 32 9
   let p:=(A4 L E s1).pos
   let s2:=D9 L E s1 [111,110]
   let k:=B8 L E s2 F1
   if k<0 then some (l,R6 L E s2) else
   let s3:=A6 s2
   let n:=if 2<=k then(A7 L E s3 1).1.text else []
   let s4:=if 2<=k then(A7 L E s3 1).2 else s3
   match K5 L E f 1 s4 with
   |none=>none
   |some (b,s5)=>R8 f (l++[⟨1+k,n,b,p⟩]) s5
  else some (l,D9 L E s [125])
def A3h(f:Nat)(s:Rd):Option (Md × Rd) :=
 let p:=(A4 L E s).pos
 let s1:=D9 L E s [109,111,100,101]
 let n:=(A7 L E s1 1).1.text
 let s2:=(A7 L E s1 1).2
 let v:=(A7 L E s2 3).1.value
 match R8 L E f [] (D9 L E (A7 L E s2 3).2 [123]) with
 |none=>none
 |some (l,s3)=>some (⟨n,v,l,p⟩,s3)
def T5:Nat->List Dc->Rd->Option (List Dc × Rd)
 |0,_,_=>none
 |f+1,l,s =>
  let k:=B8 L E s D7
  if k<0 then some (l,s) else
  let s1:=D3 L E s ((l.length:Int)+1) 128 9
  if okR s1=true then T5 f (l++[(R0 L E k s1).1]) (R0 L E k s1).2 else T5 f l s1
def R7:Nat->List Md->Rd->Option (List Md × Rd)
 |0,_,_=>none
 |f+1,l,s =>
  if okR s=true/\s.i<L.length then
   if isR L E s [109,111,100,101]=false then some (l,R6 L E s) else
   let s1:=D3 L E s ((l.length:Int)+1) 16 9
   if okR s1=true then
    match A3h L E f s1 with
    |none=>none
    |some (m,s2)=>R7 f (l++[m]) s2
   else R7 f l s1
  else some (l,s)
def A7e(f:Nat)(s:Rd):Option (Ru × Rd) :=
 match T5 L E f [] s with
 |none=>none
 |some (d,s1) =>
  match R7 L E f [] s1 with
  |none=>none
  |some (m,s2)=>some (⟨d,m⟩,s2)
end
def A5(s:List UInt8):Tok:=⟨if G9 s=true then 2 else if F6 s=true then 1 else 5,s,0,0⟩
def F7(s:List UInt8):List Tok:=if F6 s=false then [V1] else [⟨1,s,0,0⟩]
def X7(n:Int):List Tok:=if n<0\/2147483647<n then [V1] else [⟨3,[],n,0⟩]
def txB(c:UInt8):Bool:=decide (32<=c.toNat)&&decide (c.toNat<=126)
def A2s(s:List UInt8):List Tok:=if s.all txB=false\/32<s.length then [V1] else [⟨4,s,0,0⟩]
def H9(q:Int × List Tok)(least:Int):List Tok:=if B9 q.1<least then [A5 [40]]++q.2++[A5 [41]] else q.2
def N7(k v:Int)(n:List UInt8)(as1:List (Int × List Tok)):List Tok :=
 let lv:=B9 k
 if k=1 then X7 v
 else if k=2 then F7 n
 else if k=3 then [A5 [116,114,117,101]]
 else if k=4 then [A5 [102,97,108,115,101]]
 else if k=8 then [A5 [112,108,97,121,101,114]]
 else if k=9 then [A5 [98,97,108,108]]
 else if k=5 then [A5 [99,108,111,115,101,100]]++F7 n
 else if k=6 then [A5 [97,99,116,105,118,101]]++F7 n
 else if k=7 then [A5 [108,101,102,116]]++F7 n
 else match as1 with
  |[q]=>if lv=6 then [A5 (if k=10 then [45] else [33])]++H9 q 6 else [V1]
  |[q,r]=>if lv<6 then H9 q (if lv=3 then 4 else lv)++[A5 (D2.getD (k-12).toNat [])]++H9 r (lv+1) else [V1]
  |_=>[V1]
mutual
def exT:Ex->List Tok
 |.mk k v n a p=>N7 k v n (B1r a)
def B1r:List Ex->List (Int × List Tok)
 |[]=>[]
 |e::l=>(e.kind,exT e)::B1r l
end
def agT(l:List Ex)(i:Nat):List Tok:=match l[i]? with
 |some e=>exT e
 |none=>[V1]
mutual
def stT:St->List Tok
 |.mk k n t a x y p =>
  if k=1 then F7 n++[A5 [61]]++agT a 0++[A5 [59]]
  else if k<2\/19<k then [V1]
  else
   let w:=A5 (C5.getD (k-2).toNat [])
   if k=2\/k=3 then
    let o:=[w]++agT a 0++([A5 [123]]++T2 x++[A5 [125]])
    match y with
    |[]=>o
    |[s]=>if s.kind=2 then o++[A5 [101,108,115,101]]++stT s else o++[A5 [101,108,115,101]]++([A5 [123]]++stT s++[A5 [125]])
    |s::s2::r=>o++[A5 [101,108,115,101]]++([A5 [123]]++T2 (s::s2::r)++[A5 [125]])
   else if k=4 then [w]++agT a 0++[A5 [59]]
   else if k=18 then [w]++A2s t++[A5 [44]]++agT a 0++[A5 [59]]
   else if k=8\/k=10 then [w]++F7 n++agT a 0++[A5 [59]]
   else if k=9 then [w]++F7 n++agT a 0++[A5 [44]]++agT a 1++[A5 [59]]
   else if k=19 then [w]++[A5 [59]]
   else [w]++F7 n++[A5 [59]]
def T2:List St->List Tok
 |[]=>[]
 |s::l=>stT s++T2 l
end
def blT(l:List St):List Tok:=[A5 [123]]++T2 l++[A5 [125]]
def dcT(d:Dc):List Tok :=
 if d.kind<1\/8<d.kind then [V1]
 else
  let o:=[A5 (D7.getD (d.kind-1).toNat [])]++F7 d.name
  (if 6<d.kind then o
  else if d.value<0 /\ -2147483647<=d.value/\d.kind=6 then o++[A5 [45]]++X7 (-d.value)
  else o++X7 d.value)++[A5 [59]]
def hdT(h:Hd):List Tok:=[A5 [111,110],A5 (F1.getD (h.trig-1).toNat [])]++(if 2<h.trig then F7 h.name else [])++blT h.body
def Y0(h:Hd):Bool:=decide (h.trig<1)||decide (6<h.trig)
def mdT(m:Md):List Tok:=[A5 [109,111,100,101]]++F7 m.name++X7 m.prio++[A5 [123]]++m.hds.flatMap hdT++[A5 [125]]
def ruT(r:Ru):List Tok:=if(r.modes.any λm=>m.hds.any Y0)=true then [V1] else r.decls.flatMap dcT++r.modes.flatMap mdT
mutual
def Ex.plain:Ex->Ex
 |.mk k v n a p=>.mk k v n (Ex.plains a) 0
def Ex.plains:List Ex->List Ex
 |[]=>[]
 |e::l=>e.plain::Ex.plains l
end
mutual
def St.plain:St->St
 |.mk k n t a x y p=>.mk k n t (Ex.plains a) (St.plains x) (St.plains y) 0
def St.plains:List St->List St
 |[]=>[]
 |e::l=>e.plain::St.plains l
end
def Dc.plain(d:Dc):Dc:={ d with pos:=0 }
def Hd.plain(h:Hd):Hd:=⟨h.trig,h.name,St.plains h.body,0⟩
def Md.plain(m:Md):Md:=⟨m.name,m.prio,m.hds.map Hd.plain,0⟩
def Ru.plain(r:Ru):Ru:=⟨r.decls.map Dc.plain,r.modes.map Md.plain⟩
theorem Ex.plains_map:∀l:List Ex,Ex.plains l=l.map Ex.plain
 |[]=>rfl
 |e::l=>by rw[Ex.plains,Ex.plains_map l];rfl
theorem St.plains_map:∀l:List St,St.plains l=l.map St.plain
 |[]=>rfl
 |e::l=>by rw[St.plains,St.plains_map l];rfl
mutual
def B2y(p:Bool):Ex->Ex->Bool
 |.mk k v n a q,.mk k' v' n' a' q'=>k==k'&&(v==v'&&(n==n'&&((p||q==q')&&R3 p a a')))
def R3(p:Bool):List Ex->List Ex->Bool
 |[],[]=>true
 |e::l,e'::l'=>B2y p e e'&&R3 p l l'
 |_,_=>false
end
mutual
def C0i:St->St->Bool
 |.mk k n t a x y q,.mk k' n' t' a' x' y' q'=>k==k'&&(n==n'&&(t==t'&&(q==q'&&(R3 false a a'&&(P7 x x'&&P7 y y')))))
def P7:List St->List St->Bool
 |[],[]=>true
 |e::l,e'::l'=>C0i e e'&&P7 l l'
 |_,_=>false
end
mutual
theorem D2d:∀a b:Ex,B2y false a b=true↔a=b
 |.mk k v n a q,.mk k' v' n' a' q'=>by
  have:=A7v a a';simp only[B2y,A0F,A1T,Bool.false_or,this,Ex.mk.injEq]
  grind
theorem A7v:∀a b:List Ex,R3 false a b=true↔a=b
 |[],[]=>l9
 |[],_::_=>by simp[R3]
 |_::_,[]=>by simp[R3]
 |e::l,e'::l'=>by
  have h1:=D2d e e';have h2:=A7v l l'
  simp_all[R3]
end
mutual
theorem C8s:∀a b:St,C0i a b=true↔a=b
 |.mk k n t a x y q,.mk k' n' t' a' x' y' q'=>by
  have h1:=A7v a a';have h2:=A1r x x';have h3:=A1r y y';simp only[C0i,A0F,A1T,h1,h2,h3,St.mk.injEq]
  grind
theorem A1r:∀a b:List St,P7 a b=true↔a=b
 |[],[]=>l9
 |[],_::_=>by simp[P7]
 |_::_,[]=>by simp[P7]
 |e::l,e'::l'=>by
  have h1:=C8s e e';have h2:=A1r l l'
  simp_all[P7]
end
mutual
def Ex.sz:Ex->Nat
 |.mk k v n a p=>1+n.length+Ex.szs a
def Ex.szs:List Ex->Nat
 |[]=>0
 |e::l=>e.sz+Ex.szs l
end
mutual
def St.sz:St->Nat
 |.mk k n t a x y p=>1+n.length+t.length+Ex.szs a+St.szs x+St.szs y
def St.szs:List St->Nat
 |[]=>0
 |e::l=>e.sz+St.szs l
end
def Dc.sz(d:Dc):Nat:=1+d.name.length
def Hd.sz(h:Hd):Nat:=1+h.name.length+St.szs h.body
def Md.sz(m:Md):Nat:=1+m.name.length+(m.hds.map Hd.sz).sum
def Ru.sz(r:Ru):Nat:=(r.decls.map Dc.sz).sum+(r.modes.map Md.sz).sum
theorem Ex.szs_map:∀l:List Ex,Ex.szs l=(l.map Ex.sz).sum
 |[]=>rfl
 |e::l=>by rw[Ex.szs,Ex.szs_map l];rfl
theorem St.szs_map:∀l:List St,St.szs l=(l.map St.sz).sum
 |[]=>rfl
 |e::l=>by rw[St.szs,St.szs_map l];rfl
theorem M2{α:Type}{f : α->Nat}{x : α}:∀ {l:List α},x∈l->f x<=(l.map f).sum
 |a::l,h=>by
  rw[A0U,A2M];rcases A1N.1 h with rfl|h
  ·omega
  ·have:=M2 (f:=f) h;omega
theorem K2{α:Type}{f : α->Nat}:∀ {l:List α},(∀x∈l,1<=f x)->l.length<=(l.map f).sum
 |[],h=>A0N _
 |a::l,h=>by
  have:=K2 (f:=f) (l:=l) λx hx=>h x (A0H _ hx)
  grind
theorem Ex.sz_pos(e:Ex):1<=e.sz:=by cases e with|mk k v n a p=>rw[Ex.sz];omega
theorem St.sz_pos(e:St):1<=e.sz:=by cases e with|mk k n t a x y p=>rw[St.sz];omega
theorem Ex.sz_arg{e x:Ex}(h:x∈e.args):x.sz<e.sz:=by
 cases e with|mk k v n a p =>
 have:=M2 (f:=Ex.sz) h;rw[Ex.sz,Ex.szs_map];have h':(Ex.mk k v n a p).args=a:=rfl
 grind
theorem Ex.sz_name(e:Ex):e.name.length<e.sz:=by
 cases e with|mk k v n a p=>rw[Ex.sz];show n.length<_;omega
theorem Ex.sz_args(e:Ex):e.args.length<e.sz:=by
 cases e with|mk k v n a p =>
 have:=K2 (f:=Ex.sz) (l:=a) λx _=>x.sz_pos;rw[Ex.sz,Ex.szs_map];show a.length<_;omega
theorem St.sz_name(e:St):e.name.length<e.sz:=by
 cases e with|mk k n t a x y p=>rw[St.sz];show n.length<_;omega
theorem St.sz_text(e:St):e.text.length<e.sz:=by
 cases e with|mk k n t a x y p=>rw[St.sz];show t.length<_;omega
theorem St.sz_arg{e:St}{x:Ex}(h:x∈e.args):x.sz<e.sz:=by
 cases e with|mk k n t a u w p =>
 have:=M2 (f:=Ex.sz) h;have h':(St.mk k n t a u w p).args=a:=rfl;rw[h']at this;rw[St.sz,Ex.szs_map];omega
theorem St.sz_args(e:St):e.args.length<e.sz:=by
 cases e with|mk k n t a u w p =>
 have:=K2 (f:=Ex.sz) (l:=a) λx _=>x.sz_pos;rw[St.sz,Ex.szs_map];show a.length<_;omega
theorem St.sz_thn(e:St):St.szs e.thn<e.sz:=by
 cases e with|mk k n t a u w p=>rw[St.sz];show St.szs u<_;omega
theorem St.sz_els(e:St):St.szs e.els<e.sz:=by
 cases e with|mk k n t a u w p=>rw[St.sz];show St.szs w<_;omega
theorem St.szs_len(l:List St):l.length<=St.szs l:=by rw[St.szs_map];exact K2 λx _=>x.sz_pos
theorem St.szs_mem{l:List St}{x:St}(h:x∈l):x.sz<=St.szs l:=by rw[St.szs_map];exact M2 h
theorem Ex.szs_mem{l:List Ex}{x:Ex}(h:x∈l):x.sz<=Ex.szs l:=by rw[Ex.szs_map];exact M2 h
theorem Ex.szs_len(l:List Ex):l.length<=Ex.szs l:=by rw[Ex.szs_map];exact K2 λx _=>x.sz_pos
theorem C6(s:List UInt8):(F7 s).length=1:=by unfold F7;grind
theorem F9(n:Int):(X7 n).length=1:=by unfold X7;grind
theorem G8(s:List UInt8):(A2s s).length=1:=by unfold A2s;grind
theorem A4f(q:Int × List Tok)(n:Int):q.2.length<=(H9 q n).length/\(H9 q n).length<=q.2.length+2:=by
 unfold H9;grind
theorem A6r:∀l:List Ex,B1r l=l.map λe=>(e.kind,exT e)
 |[]=>rfl
 |e::l=>by rw[B1r,A6r l];rfl
set_option maxHeartbeats 2000000 in
theorem C2g{k v:Int}{n:List UInt8}{as1:List (Int × List Tok)}:1<=(N7 k v n as1).length/\(N7 k v n as1).length<=5+(as1.map λq=>q.2.length).sum:=by
 unfold N7
 match as1 with
 |[] =>
  dsimp only;repeat' split
  all_goals simp only[A0A,A0E,C6,F9]
  all_goals omega
 |[q] =>
  have:=A4f q 6;dsimp only;repeat' split
  all_goals simp only[A0A,A0E,C6,F9,A0U,List.map_nil,A2M,List.sum_nil]
  all_goals omega
 |[q,r] =>
  have h1:=A4f q (if B9 k=3 then 4 else B9 k);have h2:=A4f r (B9 k+1);dsimp only;generalize H9 q (if B9 k=3 then 4 else B9 k)=A at h1 ⊢;generalize H9 r (B9 k+1)=B at h2 ⊢;generalize A5 (D2.getD (k-12).toNat [])=W;generalize B9 k=lv;repeat' split
  all_goals simp only[A0A,A0E,C6,F9,A0U,List.map_nil,A2M,List.sum_nil]
  all_goals omega
 |q::r::w::l =>
  dsimp only;repeat' split
  all_goals simp only[A0A,A0E,C6,F9]
  all_goals omega
theorem A4j:∀e:Ex,1<=(exT e).length/\(exT e).length<=5*e.sz
 |.mk k v n a p=>by
  have ih:∀x∈a,(exT x).length<=5*x.sz:=λx hx=>(A4j x).2;have h:=C2g (k:=k) (v:=v) (n:=n) (as1:=B1r a);rw[exT];refine⟨h.1,?_⟩;have h2:((B1r a).map λq=>q.2.length).sum<=5*Ex.szs a:=by
   rw[A6r,A3U,Ex.szs_map];clear h
   induction a with
   |nil=>simp
   |cons x l ihl =>
    grind
  rw[Ex.sz];omega
theorem D3r(l:List Ex)(i:Nat):1<=(agT l i).length/\(agT l i).length<=1+5*Ex.szs l:=by
 unfold agT;cases h:l[i]? with
 |none=>simp
 |some e =>
  have h1:=A4j e;have h2:=Ex.szs_mem (A0S h)
  grind
mutual
theorem A9i:∀s:St,1<=(stT s).length/\(stT s).length<=11*s.sz
 |.mk k n t a x y p=>by
  have h0:=D3r a 0;have h1:=D3r a 1;have hx:=A5w x;have hy:∀l,l=y->(T2 l).length<=11*St.szs l:=λl h=>by subst h;exact A5w l
  have hq:∀q,y=[q]->(stT q).length<=11*q.sz:=λq h=>by subst h;exact(A9i q).2
  rw[St.sz];unfold stT;dsimp only;generalize agT a 0=A at h0 ⊢;generalize agT a 1=B at h1 ⊢;generalize T2 x=X at hx ⊢;generalize A5 (C5.getD (k-2).toNat [])=W
  match y,hy,hq with
  |[],hy,hq =>
   dsimp only;rw[St.szs];repeat' split
   all_goals simp only[A0A,A0E,C6,G8]
   all_goals omega
  |[q],hy,hq =>
   have hq:=hq q rfl;dsimp only;rw[St.szs,St.szs];generalize stT q=Q at hq ⊢;repeat' split
   all_goals simp only[A0A,A0E,C6,G8]
   all_goals omega
  |q::q2::r,hy,hq =>
   have hy:=hy _ rfl;dsimp only;generalize T2 (q::q2::r)=Y at hy ⊢;generalize St.szs (q::q2::r)=z at hy ⊢;repeat' split
   all_goals simp only[A0A,A0E,C6,G8]
   all_goals omega
theorem A5w:∀l:List St,(T2 l).length<=11*St.szs l
 |[]=>A0N _
 |s::l=>by
  have h1:=A9i s;have h2:=A5w l;rw[T2,St.szs,A0A];omega
end
theorem A9z(l:List St):1<=(blT l).length/\(blT l).length<=11*St.szs l+2:=by
 have:=A5w l;unfold blT
 grind
theorem C5d(d:Dc):1<=(dcT d).length/\(dcT d).length<=6:=by
 unfold dcT;dsimp only;generalize A5 (D7.getD (d.kind-1).toNat [])=W;repeat' split
 all_goals simp only[A0A,A0E,C6,F9]
 all_goals(first|omega|simp)
theorem D6f(h:Hd):1<=(hdT h).length/\(hdT h).length<=11*h.sz:=by
 have:=A9z h.body;unfold hdT Hd.sz;generalize A5 (F1.getD (h.trig-1).toNat [])=W;split
 ·simp only[A0A,A0G,A0L,C6];omega
 grind
theorem A9u{α:Type}{f : α->List Tok}{g : α->Nat}{c:Nat}:∀ {l:List α},(∀x∈l,(f x).length<=c*g x)->(l.flatMap f).length<=c*(l.map g).sum
 |[],_=>by simp
 |a::l,h=>by
  have h1:=h a A0M;have h2:=A9u (l:=l) λx hx=>h x (A0H _ hx);rw[A2C,A0A,A0U,A2M,Nat.mul_add];omega
theorem D5o(m:Md):1<=(mdT m).length/\(mdT m).length<=11*m.sz:=by
 have:=A9u (l:=m.hds) (f:=hdT) (g:=Hd.sz) (c:=11) λx _=>(D6f x).2;unfold mdT Md.sz;simp only[A0A,A0E,C6,F9];omega
theorem D4l(r:Ru):(ruT r).length<=11*r.sz+1/\(r.decls.flatMap dcT++r.modes.flatMap mdT).length<=11*r.sz:=by
 have h1:=A9u (l:=r.decls) (f:=dcT) (g:=Dc.sz) (c:=11) λx _=>by have:=C5d x;unfold Dc.sz;omega
 have h2:=A9u (l:=r.modes) (f:=mdT) (g:=Md.sz) (c:=11) λx _=>(D5o x).2;have h3:(r.decls.flatMap dcT++r.modes.flatMap mdT).length<=11*r.sz:=by
  unfold Ru.sz;rw[A0A];omega
 refine⟨?_,h3⟩;unfold ruT
 grind
section
variable {L:List Tok} {E:Int}
theorem Q9{s:Rd}{p e:Int}(he:e≠0):okR (L9 s p e)=false:=by
 grind[L9,okR]
theorem Z0{s:Rd}:okR (R6 L E s)=false:=Q9 (by simp)
theorem J2{s:Rd}{n m e:Int}(he:e≠0)(h:okR (D3 L E s n m e)=true):okR s=true/\n<=m/\D3 L E s n m e=s:=by
 unfold D3 at h ⊢;split at h<;>simp_all[Q9,if_neg]
theorem A0m{s:Rd}{t:List UInt8}(h:isR L E s t=true):okR s=true/\s.i<L.length:=by
 unfold isR at h;simp only[A0F,A1J,A1T]at h
 grind[A4]
theorem J7{s:Rd}{k:Int}(h:I9 L E s k=true):okR s=true/\(A4 L E s).kind=k:=by
 simp_all[I9]
theorem J1{s:Rd}{k:Int}(hk:k≠0)(h:(A4 L E s).kind=k):A4 L E s∈L/\s.i<L.length:=by
 grind[A4]
theorem A7w{s:Rd}{t:List UInt8}(h:okR (D9 L E s t)=true):isR L E s t=true/\D9 L E s t=A6 s:=by
 unfold D9 at h ⊢;cases hi:isR L E s t<;>simp_all[Z0]
theorem A5u{s:Rd}{k:Int}(h:okR (A7 L E s k).2=true):I9 L E s k=true/\A7 L E s k=(A4 L E s,A6 s):=by
 unfold A7 at h ⊢;cases hi:I9 L E s k<;>simp_all[Z0]
theorem I6{s:Rd}:∀ {l:List (List UInt8)} {k:Nat},0<=A0q L E s k l->okR s=true/\s.i<L.length/\(k:Int)<=A0q L E s k l/\A0q L E s k l<(k+l.length:Nat)
 |[],k,h=>l9
 |t::l,k,h=>by
  unfold A0q at h ⊢;cases hi:isR L E s t with
  |true =>
   rw[if_pos rfl];obtain⟨h1,h2⟩:=A0m hi<;>grind
  |false =>
   rw[hi]at h;simp only[A1R,if_false]at h ⊢;obtain⟨h1,h2,h3,h4⟩:=I6 h<;>grind
end
structure RI (L:List Tok) (s:Rd):Prop where
 i:s.i<=L.length
 o0:0<=s.ops
 o1:s.ops<=33
 o2:okR s=true->s.ops<=32
 p0:0<=s.par
 p1:s.par<=16
section
variable {L:List Tok} {E:Int}
theorem RI.fail{s:Rd}{p e:Int}(he:e≠0)(h:RI L s):RI L (L9 s p e)/\(L9 s p e).par=s.par:=by
 have hk:=Q9 (s:=s) (p:=p) he;have e1:(L9 s p e).i=s.i:=by grind[L9]
 have e2:(L9 s p e).ops=s.ops:=by grind[L9]
 have e3:(L9 s p e).par=s.par:=by grind[L9]
 exact⟨⟨by rw[e1];exact h.i,by rw[e2];exact h.o0,by rw[e2];exact h.o1,(λk=>by grind),by rw[e3];exact h.p0,by rw[e3];exact h.p1⟩,e3⟩
theorem RI.syn{s:Rd}(h:RI L s):RI L (R6 L E s)/\(R6 L E s).par=s.par:=h.fail (by simp)
theorem RI.lim{s:Rd}{n m e:Int}(he:e≠0)(h:RI L s):RI L (D3 L E s n m e)/\(D3 L E s n m e).par=s.par:=by
 unfold D3;split
 ·exact h.fail he
 grind
theorem RI.nxt{s:Rd}(h:RI L s)(hi:s.i<L.length):RI L (A6 s):=⟨hi,h.o0,h.o1,h.o2,h.p0,h.p1⟩
theorem RI.exp{s:Rd}{x:List UInt8}(h:RI L s):RI L (D9 L E s x)/\(D9 L E s x).par=s.par:=by
 unfold D9;cases k:isR L E s x with
 |false=>rw[if_pos rfl];exact h.syn
 |true=>rw[if_neg (by simp)];exact⟨h.nxt (A0m k).2,rfl⟩
theorem RI.take{s:Rd}{x:Int}(hx:x≠0)(h:RI L s):RI L (A7 L E s x).2/\(A7 L E s x).2.par=s.par:=by
 unfold A7;cases k:I9 L E s x with
 |false=>rw[if_pos rfl];exact h.syn
 |true=>rw[if_neg (by simp)];exact⟨h.nxt (J1 hx (J7 k).2).2,rfl⟩
theorem RI.prim{s:Rd}(h:RI L s):RI L (I7 L E s).2/\(I7 L E s).2.par=s.par:=by
 unfold I7;dsimp only;split
 ·exact h.syn
 ·rename_i hc;have hok:okR s=true/\s.i<L.length:=by
   by_cases hk:0<=B8 L E s K7
   ·obtain⟨h1,h2, -⟩:=I6 hk<;>simp_all
   ·cases h3:I9 L E s 3 with
    |true=>exact⟨(J7 h3).1,(J1 (by simp) (J7 h3).2).2⟩
    |false =>
     cases h1:I9 L E s 1 with
     |true=>exact⟨(J7 h1).1,(J1 (by simp) (J7 h1).2).2⟩
     |false=>grind
  have h32:=h.o2 hok.1;have ho:=h.o0;obtain⟨s2,hs2⟩:∃s2,s2=D3 L E { s with ops:=s.ops+1 } (s.ops+1) 32 9:=⟨_,rfl⟩;rw[<- hs2];cases h2:okR s2 with
  |false =>
   rw[if_pos rfl];have e1:s2.i=s.i:=by grind[D3,L9]
   have e2:s2.ops=s.ops+1:=by grind[D3,L9]
   have e3:s2.par=s.par:=by grind[D3,L9]
   refine⟨⟨?_,?_,?_,(λk=>by rw[h2]at k;cases k),?_,?_⟩,e3⟩<;>dsimp only
   ·omega
   ·omega
   ·omega
   ·rw[e3];exact h.p0
   ·rw[e3];exact h.p1
  |true =>
   rw[if_neg (by simp)];rw[hs2]at h2;obtain⟨-,h4,h5⟩:=J2 (by simp) h2;rw[h5]at hs2;have h3:RI L (A6 s2):=by
    rw[hs2];exact⟨hok.2,by show 0<=s.ops+1;omega,by show s.ops+1<=33;omega,λ_=>h4,h.p0,h.p1⟩
   have hp:(A6 s2).par=s.par:=by rw[hs2];rfl
   repeat' split
   ·exact⟨(h3.take (by simp)).1,(h3.take (by simp)).2.trans hp⟩
   all_goals exact⟨h3,hp⟩
theorem RI.all:∀f:Nat,(∀n s r,J6 L E f n s=some r->RI L s->RI L r.2/\r.2.par=s.par)/\(∀n e s r,R2 L E f n e s=some r->RI L s->RI L r.2/\r.2.par=s.par)/\(∀s r,R5 L E f s=some r->RI L s->RI L r.2/\r.2.par=s.par)
 |0=>⟨λn s r h=>l9,λn e s r h=>l9,λs r h=>by trivial⟩
 |f+1=>by
  obtain⟨i1,i2,i3⟩:=RI.all f;refine⟨λn s r h k=>?_,λn e s r h k=>?_,λs r h k=>?_⟩
  ·grind[J6]
  ·unfold R2 at h;dsimp only at h;split at h
   ·grind
   ·rename_i hk;have hk0:0<=B8 L E s D2:=Classical.byContradiction λg=>hk (.inl (by omega));obtain⟨-,hi, -⟩:=I6 hk0;cases hb:J6 L E f (n+1) (A6 s) with
    |none=>grind
    |some q =>
     obtain⟨x,s1⟩:=q;rw[hb]at h;obtain⟨a1,a2⟩:=i1 _ _ _ hb (k.nxt hi);dsimp only at h;split at h
     ·cases h;trivial
     ·obtain⟨b1,b2⟩:=i2 _ _ _ _ h a1;exact⟨b1,b2.trans a2⟩
  ·unfold R5 at h;dsimp only at h;split at h
   ·cases h;exact k.prim
   ·rename_i hk;have hk0:0<=B8 L E s O9:=by omega
    obtain⟨-,hi, -⟩:=I6 hk0;split at h
    ·cases h;exact k.lim (by simp)
    ·rename_i hl;have hl:okR (D3 L E s (s.par+1) 16 50)=true:=by simpa using hl
     obtain⟨h1,h2,h3⟩:=J2 (by decide) hl;rw[h3]at h;have k2:RI L { s with i:=s.i+1,par:=s.par+1 }:=⟨hi,k.o0,k.o1,k.o2,by have:=k.p0;show 0<=s.par+1;omega,h2⟩;have fin:∀z:Rd,RI L z->z.par=s.par+1->RI L { z with par:=z.par-1 }/\z.par-1=s.par:=λz hz hp =>
      ⟨⟨hz.i,hz.o0,hz.o1,hz.o2,by have:=k.p0;show 0<=z.par-1;omega,by have:=k.p1;show z.par-1<=16;omega⟩,by omega⟩
     split at h
     ·cases hb:J6 L E f 1 { s with i:=s.i+1,par:=s.par+1 } with
      |none=>rw[hb]at h;cases h
      |some q =>
       obtain⟨e,s3⟩:=q;rw[hb]at h;cases h;obtain⟨a1,a2⟩:=i1 _ _ _ hb k2;obtain⟨b1,b2⟩:=a1.exp (E:=E) (x:=[41]);exact fin _ b1 (b2.trans a2)
     grind
theorem D2a{s:Rd}{p e:Int}:(L9 s p e).i=s.i:=by grind[L9]
theorem X3{s:Rd}:(R6 L E s).i=s.i:=D2a
theorem I5{s:Rd}{n m e:Int}:(D3 L E s n m e).i=s.i:=by grind[D3,D2a]
theorem M5{s:Rd}{x:List UInt8}(h:s.i<=L.length):(D9 L E s x).i<=L.length:=by
 unfold D9;cases k:isR L E s x with
 |false=>simp_all[X3]
 |true=>rw[if_neg (by simp)];exact(A0m k).2
theorem M0{s:Rd}{x:Int}(hx:x≠0)(h:s.i<=L.length):(A7 L E s x).2.i<=L.length:=by
 unfold A7;cases k:I9 L E s x with
 |false=>simp_all[X3]
 |true=>rw[if_neg (by simp)];exact(J1 hx (J7 k).2).2
theorem U4{f:Nat}{s:Rd}{r:Ex × Rd}(h:L3 L E f s=some r)(hi:s.i<=L.length):r.2.i<=L.length :=
 ((RI.all f).1 1 { s with ops:=0,par:=0 } r h ⟨hi,A2W 0,(by simp:(0:Int)<=33),λ_=>(by simp:(0:Int)<=32),A2W 0,(by simp:(0:Int)<=16)⟩).1.i
theorem D9e{f:Nat}{k p:Int}{s:Rd}{r:St × Rd}(h:P6 L E f k p s=some r)(hi:s.i<=L.length):r.2.i<=L.length:=by
 unfold P6 at h;dsimp only at h;split at h
 ·split at h
  ·cases h
  ·rename_i he;cases h;exact M5 (U4 he hi)
 split at h
 ·split at h
  ·cases h
  ·rename_i he;cases h;exact M5 (U4 he (M5 (M0 (by decide) hi)))
 split at h
 ·cases h;exact M5 hi
 have h0:=M0 (E:=E) (x:=1) (by decide) hi;split at h
 ·split at h
  ·cases h
  ·rename_i he;split at h
   ·split at h
    ·cases h
    ·rename_i he2;cases h;exact M5 (U4 he2 (M5 (U4 he h0)))
   ·cases h;exact M5 (U4 he h0)
 grind[M5]
theorem D9g{f:Nat}{d:Int}{s:Rd}{r:St × Rd}(h:O8 L E f d s=some r)(ho:okR s=false):okR r.2=false:=by
 cases f with
 |zero=>trivial
 |succ f =>
  have hl:okR (D3 L E s d 8 50)=false:=by
   cases k:okR (D3 L E s d 8 50) with
   |false=>rfl
   |true=>rw[(J2 (by decide) k).1]at ho;cases ho
  unfold O8 at h
  grind
theorem II.all:∀f:Nat,(∀d s r,K5 L E f d s=some r->s.i<=L.length->r.2.i<=L.length)/\(∀d l s r,R4 L E f d l s=some r->s.i<=L.length->r.2.i<=L.length)/\(∀d s r,O8 L E f d s=some r->s.i<=L.length->r.2.i<=L.length)/\(∀d s r,T8 L E f d s=some r->s.i<=L.length->r.2.i<=L.length)
 |0=>⟨λd s r h=>l9,λd l s r h=>l9,λd s r h=>l9,λd s r h=>by trivial⟩
 |f+1=>by
  obtain⟨i1,i2,i3,i4⟩:=II.all f;refine⟨λd s r h k=>?_,λd l s r h k=>?_,λd s r h k=>?_,λd s r h k=>?_⟩
  ·unfold K5 at h;exact i2 _ _ _ _ h (M5 k)
  ·unfold R4 at h;split at h
   ·split at h
    ·cases h;rw[X3];exact k
    ·split at h
     ·cases h
     ·rename_i he;exact i2 _ _ _ _ h (i3 _ _ _ he (by rw[I5];exact k))
   ·cases h;exact M5 k
  ·unfold O8 at h;dsimp only at h;split at h
   ·cases h;rw[I5];exact k
   ·split at h
    ·split at h
     ·cases h
     ·rename_i he;cases h;exact M5 (U4 he (M5 (M0 (by decide) (by rw[I5];exact k))))
    ·rename_i hk;have hn:(A6 (D3 L E s d 8 50)).i<=L.length:=(I6 (show 0<=B8 L E (D3 L E s d 8 50) C5 by omega)).2.1;split at h
     ·split at h
      ·cases h
      ·rename_i he;split at h
       ·cases h
       ·rename_i hb;have h3:=i1 _ _ _ hb (U4 he hn);split at h
        ·rename_i hc;split at h
         ·cases h
         ·rename_i ho;cases h;exact i4 _ _ _ ho (A0m hc.2).2
        ·cases h;exact h3
     ·exact D9e h hn
  grind[T8]
end
def M9(k:Int):Nat:=if B9 k=6 then 1 else if B9 k<6 then 2 else 0
def B8c(k:Int):Bool:=k==5||(k==6||k==7)
def kOk(k:Int):Bool:=decide (B9 k<7)||(decide (1<=k)&&decide (k<=24))
def A7m(k:Int)(n:List UInt8):Bool:=if k=2\/B8c k=true then F6 n else n == []
def A5r(k v:Int):Bool:=v==0||(k==1&&(decide (0<v)&&decide (v<=2147483647)))
def A1h(k q:Int)(i:Nat):Bool:=decide (B9 q<B9 k)||(B9 q==B9 k&&(i==1||B9 k==3))
mutual
def msM:Ex->Option (Nat × Nat)
 |.mk k v n a p =>
  if kOk k=false\/a.length≠M9 k\/A7m k n=false\/A5r k v=false then none
  else if M9 k=0 then some (1,0)
  else match msL k 0 a with
   |none=>none
   |some (o,d)=>some (o,if M9 k=1 then d+1 else d)
def msL(k:Int):Nat->List Ex->Option (Nat × Nat)
 |_,[]=>some (0,0)
 |i,e::l=>match msM e with
  |none=>none
  |some (o,d)=>match msL k (i+1) l with
   |none=>none
   |some (o2,d2)=>some (o+o2,max (if A1h k e.kind i=true then d+1 else d) d2)
end
def A0e(e:Ex):Bool:=match msM e with
 |some (o,d)=>decide (o<=32)&&decide (d<=16)
 |none=>false
structure Shp where
 name:Bool
 text:Bool
 args:Nat
 thn:Bool
 els:Bool
def O4(k:Int):Shp :=
 if k=1\/k=8\/k=10 then⟨true,false,1,false,false⟩
 else if k=9 then⟨true,false,2,false,false⟩
 else if k=2 then⟨false,false,1,true,true⟩
 else if k=3 then⟨false,false,1,true,false⟩
 else if k=4 then⟨false,false,1,false,false⟩
 else if k=18 then⟨false,true,1,false,false⟩
 else if k=19 then⟨false,false,0,false,false⟩
 else⟨true,false,0,false,false⟩
def V6(s:List UInt8):Bool:=s.all txB&&decide (s.length<=32)
mutual
def S4:Nat->St->Bool
 |d,.mk k n t a x y p =>
  (decide (1<=k)&&decide (k<=19))&&(a.length==(O4 k).args&&a.all A0e) &&
   ((if(O4 k).name=true then F6 n else n == [])&&(if(O4 k).text=true then V6 t else t == [])) &&
   (((O4 k).thn||x.isEmpty)&&((O4 k).els||y.isEmpty)) &&
   ((decide (x.length<=64)&&(x.isEmpty||decide (d+1<=8))&&J0 (d+1) x)&&(decide (y.length<=64)&&(y.isEmpty||decide (d+1<=8))&&J0 (d+1) y))
def J0:Nat->List St->Bool
 |_,[]=>true
 |d,s::l=>S4 d s&&J0 d l
end
def Q4(l:List St)(d:Nat):Bool:=decide (l.length<=64)&&(l.isEmpty||decide (d<=8))&&J0 d l
def A1i(d:Dc):Bool:=decide (1<=d.kind)&&decide (d.kind<=8)&&F6 d.name&&decide ((if d.kind=6 then -2147483647 else 0)<=d.value)&&decide (d.value<=(if d.kind=7\/d.kind=8 then 0 else 2147483647))
def A2e(h:Hd):Bool:=decide (1<=h.trig)&&decide (h.trig<=6)&&(if 3<=h.trig then F6 h.name else h.name == [])&&Q4 h.body 1
def V0(m:Md):Bool:=F6 m.name&&decide (0<=m.prio)&&decide (m.prio<=2147483647)&&decide (m.hds.length<=32)&&m.hds.all A2e
def M8(r:Ru):Bool:=decide (r.decls.length<=128)&&decide (r.modes.length<=16)&&r.decls.all A1i&&r.modes.all V0
def K6(t:Tok):Prop:=(t.kind=1->F6 t.text=true)/\(t.kind=3->0<=t.value/\t.value<=2147483647)/\(t.kind=4->V6 t.text=true)
def SE(n:Int)(s:Rd)(e:Ex)(s':Rd):Prop :=
 okR s=true/\s'.par=s.par/\∃o d,msM e=some (o,d)/\s'.ops=s.ops+(o:Int)/\s'.ops<=32/\((n<=B9 e.kind/\s.par+(d:Int)<=16)\/s.par+(d:Int)+1<=16)
theorem A0d(k:Int):1<=B9 k/\B9 k<=7:=by
 grind[B9]
theorem B5r{k:Int}(h:B9 k<7):10<=k/\k<=24:=by
 grind[B9]
theorem D5q{k:Int}(h0:0<=k)(h1:k<13):B9 (12+k)<6:=by
 grind[B9]
theorem A6l{k:Int}(h:k=10\/k=11):B9 k=6:=by
 rcases h with rfl|rfl<;>rfl
theorem E0z{k:Int}{a b:Ex}{o1 d1 o2 d2:Nat}{p:Int}(hk:B9 k<6)(ha:msM a=some (o1,d1))(hb:msM b=some (o2,d2)):
  msM (.mk k 0 [] [a,b] p)=some (o1+o2,max (if A1h k a.kind 0=true then d1+1 else d1) (if A1h k b.kind 1=true then d2+1 else d2)):=by
 have hl:=B5r (k:=k) (by omega);have h1:kOk k=true:=by simp[kOk];left;omega
 have h2:M9 k=2:=by unfold M9;rw[if_neg (by omega),if_pos hk]
 simp_all[A7m,B8c,A5r,msM,msL];omega
theorem E4w{k:Int}{a:Ex}{o d:Nat}{p:Int}(hk:k=10\/k=11)(ha:msM a=some (o,d)):
  msM (.mk k 0 [] [a] p)=some (o,(if A1h k a.kind 0=true then d+1 else d)+1):=by
 have hl:=A6l hk;have h1:kOk k=true:=by simp[kOk];left;omega
 have h2:M9 k=1:=by unfold M9;rw[if_pos hl]
 simp_all[A7m,B8c,A5r,msM,msL];omega
theorem D5k{k v:Int}{n:List UInt8}{p:Int}(hk:B9 k=7)(h1:kOk k=true)(h3:A7m k n=true)(h4:A5r k v=true):msM (.mk k v n [] p)=some (1,0):=by
 simp_all[M9,msM]
section
variable {L:List Tok} {E:Int}
theorem K9{s:Rd}{t:List UInt8}(h:okR (D9 L E s t)=true):okR s=true:=(A0m (A7w h).1).1
theorem A0j{s:Rd}{k:Int}(h:okR (A7 L E s k).2=true):okR s=true:=(J7 (A5u h).1).1
theorem C3p{s:Rd}(h:okR (I7 L E s).2=true):okR s=true:=by
 unfold I7 at h;dsimp only at h;split at h
 ·grind[Z0]
 ·split at h
  ·grind
  ·rename_i h1;have h2:okR (D3 L E { s with ops:=s.ops+1 } (s.ops+1) 32 9)=true:=by grind
   exact(J2 (by simp) h2).1
theorem C0v(hG:∀t∈L,K6 t){s s':Rd}{e:Ex}(h:I7 L E s=(e,s'))(hok:okR s'=true)(hp:s.par<=16):SE 7 s e s':=by
 have hs:okR s=true:=C3p (L:=L) (E:=E) (by grind);have leaf:∀(k v:Int) (n:List UInt8) (p:Int),B9 k=7->kOk k=true->A7m k n=true->A5r k v=true->s.ops+1<=32->∀s2:Rd,s2.par=s.par->s2.ops=s.ops+1->SE 7 s (.mk k v n [] p) s2:=by
  intro k v n p q1 q2 q3 q4 q6 s2 q7 q8;refine⟨hs,q7,1,0,D5k q1 q2 q3 q4,b8,b8,.inl ⟨?_,by omega⟩⟩;show 7<=B9 k;omega
 unfold I7 at h;dsimp only at h;split at h
 ·grind[Z0]
 rename_i hc;split at h
 ·grind
 rename_i h1;have h2:okR (D3 L E { s with ops:=s.ops+1 } (s.ops+1) 32 9)=true:=m9
 obtain⟨-,h3,h4⟩:=J2 (by simp) h2;rw[h4]at h;split at h
 ·rename_i hk;obtain⟨-, -, -,hk7⟩:=I6 hk;have hk7:B8 L E s K7<7:=hk7;generalize B8 L E s K7=k at h hk hk7;split at h
  ·rename_i hk4;cases h;obtain⟨t1,t2⟩:=A5u hok;obtain⟨t3,t4⟩:=J7 t1;have hn:=(hG _ (J1 (by simp) t4).1).1 t4;rw[t2];have:k=4\/k=5\/k=6:=by omega
   rcases this with rfl|rfl|rfl
   ·exact leaf 5 _ _ _ (by rfl) (by rfl) hn (by rfl) h3 _ rfl rfl
   ·exact leaf 6 _ _ _ (by rfl) (by rfl) hn (by rfl) h3 _ rfl rfl
   ·exact leaf 7 _ _ _ (by rfl) (by rfl) hn (by rfl) h3 _ rfl rfl
  ·rename_i hk4;cases h;have:k=0\/k=1\/k=2\/k=3:=by omega
   rcases this with rfl|rfl|rfl|rfl
   all_goals exact leaf _ _ _ _ (by decide) (by decide) (by decide) (by decide) h3 _ rfl rfl
 ·rename_i hk;split at h
  ·rename_i hk3;cases h;have hn:=(hG _ (J1 (by decide) hk3).1).2.1 hk3;refine leaf 1 _ _ _ (by decide) (by decide) (by decide) ?_ h3 _ rfl rfl
   simp_all[A5r];omega
  ·rename_i hk3;cases h;have h1k:I9 L E s 1=true:=by
    grind[J7]
   have hn:=(hG _ (J1 (by simp) (J7 h1k).2).1).1 (J7 h1k).2;exact leaf 2 _ _ _ (by rfl) (by rfl) hn (by rfl) h3 _ rfl rfl
theorem OB.all:∀f:Nat,(∀n s r,J6 L E f n s=some r->okR r.2=true->okR s=true)/\(∀n e s r,R2 L E f n e s=some r->okR r.2=true->okR s=true)/\(∀s r,R5 L E f s=some r->okR r.2=true->okR s=true)
 |0=>⟨λn s r h=>l9,λn e s r h=>l9,λs r h=>by trivial⟩
 |f+1=>by
  obtain⟨i1,i2,i3⟩:=OB.all f;refine⟨λn s r h k=>?_,λn e s r h k=>?_,λs r h k=>?_⟩
  ·grind[J6]
  ·unfold R2 at h;dsimp only at h;split at h
   ·grind
   ·rename_i hk;exact(I6 (show 0<=B8 L E s D2 from Classical.byContradiction λg=>hk (.inl (by omega)))).1
  ·unfold R5 at h;dsimp only at h;split at h
   ·grind[C3p]
   ·rename_i hk;exact(I6 (show 0<=B8 L E s O9 by omega)).1
theorem SE.weak{m n:Int}{s s':Rd}{e:Ex}(hmn:n<=m)(h:SE m s e s'):SE n s e s':=by
 obtain⟨h1,h2,o,d,h3,h4,h5,h6⟩:=h;exact⟨h1,h2,o,d,h3,h4,h5,h6.imp (λh=>⟨b8,h.2⟩) id⟩
theorem SE.all(hG:∀t∈L,K6 t):∀f:Nat,(∀n s r,1<=n->n<=6->J6 L E f n s=some r->okR r.2=true->s.par<=16->SE n s r.1 r.2) /\
  (∀n m e s s0 r,1<=n->n<=5->(m=n+1\/m=n/\n≠3)->R2 L E f n e s=some r->okR r.2=true->SE m s0 e s->s0.par<=16->SE n s0 r.1 r.2) /\
  (∀s r,R5 L E f s=some r->okR r.2=true->s.par<=16->SE 6 s r.1 r.2)
 |0=>⟨λn s r _ _ h=>l9,λn m e s s0 r _ _ _ h=>l9,λs r h=>by trivial⟩
 |f+1=>by
  obtain⟨i1,i2,i3⟩:=SE.all hG f;refine⟨λn s r n1 n6 h k hp=>?_,λn m e s s0 r n1 n5 hm h k he hp=>?_,λs r h k hp=>?_⟩
  ·unfold J6 at h;split at h
   ·grind
   ·rename_i hn;split at h
    ·grind
    ·rename_i e s1 hb;have k1:=(OB.all f).2.1 _ _ _ _ h k;have h1:=i1 _ _ _ (by omega) (by omega) hb k1 hp
     grind
  ·unfold R2 at h;dsimp only at h;split at h
   ·cases h;exact he.weak (by omega)
   ·rename_i hk;have hk0:0<=B8 L E s D2:=Classical.byContradiction λg=>hk (.inl (by omega));have hlv:B9 (12+B8 L E s D2)=n:=Classical.byContradiction λg=>hk (.inr g);split at h
    ·grind
    ·rename_i x s1 hb;obtain⟨e1,e2,o1,d1,e3,e4,e5,e6⟩:=he;have step:okR s1=true->SE n s0 (.mk (12+B8 L E s D2) 0 [] [e,x] (A4 L E s).pos) s1:=by
      intro k1;obtain⟨x1,x2,o2,d2,x3,x4,x5,x6⟩:=i1 _ _ _ (by omega) (by omega) hb k1 (by show s.par<=16;omega);have x2':s1.par=s.par:=x2;have x4':s1.ops=s.ops+(o2:Int):=x4;have x6':((n+1<=B9 x.kind/\s.par+(d2:Int)<=16)\/s.par+(d2:Int)+1<=16):=x6;refine⟨e1,b8,_,_,E0z (by omega) e3 x3,b8,x5,.inl ⟨?_,?_⟩⟩
      ·show n<=B9 (12+B8 L E s D2);omega
      ·have w1:s0.par+((if A1h (12+B8 L E s D2) e.kind 0=true then d1+1 else d1:Nat):Int)<=16:=by
        split
        ·rename_i hw;simp only[A1h,A1J,A0F,A0Q,A1T,hlv]at hw;omega
        omega
       have w2:s0.par+((if A1h (12+B8 L E s D2) x.kind 1=true then d2+1 else d2:Nat):Int)<=16:=by
        split
        ·rename_i hw;simp only[A1h,A1J,A0F,A0Q,A1T,hlv]at hw;omega
        omega
       omega
     split at h
     ·grind
     ·rename_i hn3;have k1:=(OB.all f).2.1 _ _ _ _ h k
      grind
  ·unfold R5 at h;dsimp only at h;split at h
   ·cases h;exact(C0v hG rfl k hp).weak (by simp)
   ·rename_i hk;obtain⟨hs,hi, -,hk3⟩:=I6 (show 0<=B8 L E s O9 by omega);have hk3:B8 L E s O9<3:=hk3;split at h
    ·grind
    rename_i hl;have hl:okR (D3 L E s (s.par+1) 16 50)=true:=m9
    obtain⟨-,h2,h3⟩:=J2 (by simp) hl;rw[h3]at h;split at h
    ·split at h
     ·grind
     ·rename_i e s3 hb;cases h;have k3:okR (D9 L E s3 [41])=true:=k;obtain⟨-,x2⟩:=A7w k3;obtain⟨e1,e2,o,d,e3,e4,e5,e6⟩:=i1 1 _ _ (by simp) (by simp) hb (K9 k3) (show s.par+1<=16 from h2);have e2':s3.par=s.par+1:=e2;have e4':s3.ops=s.ops+(o:Int):=e4;have e6':((1<=B9 e.kind/\s.par+1+(d:Int)<=16)\/s.par+1+(d:Int)+1<=16):=e6;rw[x2];refine⟨hs,by show s3.par-1=s.par;omega,o,d,e3,e4',e5,.inr (by omega)⟩
    ·rename_i hk2;split at h
     ·grind
     ·rename_i e s3 hb;cases h;have k3:okR s3=true:=k;obtain⟨e1,e2,o,d,e3,e4,e5,e6⟩:=i3 _ _ hb k3 (show s.par+1<=16 from h2);have e2':s3.par=s.par+1:=e2;have e4':s3.ops=s.ops+(o:Int):=e4;have e6':((6<=B9 e.kind/\s.par+1+(d:Int)<=16)\/s.par+1+(d:Int)+1<=16):=e6;have hk10:10+B8 L E s O9=10\/10+B8 L E s O9=11:=by omega
      refine⟨hs,m9,o,_,E4w hk10 e3,e4',e5,.inl ⟨?_,?_⟩⟩
      ·show 6<=B9 (10+B8 L E s O9)
       grind[A6l]
      ·split
       ·rename_i hw;simp only[A1h,A1J,A0F,A0Q,A1T,A6l hk10]at hw;omega
       omega
theorem Q3(hG:∀t∈L,K6 t){f:Nat}{s:Rd}{r:Ex × Rd}(h:L3 L E f s=some r)(hok:okR r.2=true):okR s=true/\A0e r.1=true:=by
 obtain⟨h1,h2,o,d,h3,h4,h5,h6⟩:=(SE.all hG f).1 1 _ _ (by decide) (by decide) h hok (by decide:(0:Int)<=16);refine⟨h1,?_⟩
 simp_all[A0e];omega
end
section
variable {L:List Tok} {E:Int}
theorem S6(hG:∀t∈L,K6 t){s:Rd}(h:okR (A7 L E s 1).2=true):F6 (A7 L E s 1).1.text=true:=by
 obtain⟨h1,h2⟩:=A5u h;rw[h2];exact(hG _ (J1 (by simp) (J7 h1).2).1).1 (J7 h1).2
theorem B6u(hG:∀t∈L,K6 t){s:Rd}(h:okR (A7 L E s 3).2=true):0<=(A7 L E s 3).1.value/\(A7 L E s 3).1.value<=2147483647:=by
 obtain⟨h1,h2⟩:=A5u h;rw[h2];exact(hG _ (J1 (by simp) (J7 h1).2).1).2.1 (J7 h1).2
theorem C8k(hG:∀t∈L,K6 t){s:Rd}(h:okR (A7 L E s 4).2=true):V6 (A7 L E s 4).1.text=true:=by
 obtain⟨h1,h2⟩:=A5u h;rw[h2];exact(hG _ (J1 (by simp) (J7 h1).2).1).2.2 (J7 h1).2
theorem A2d{d:Nat}{k p:Int}{n t:List UInt8}{a:List Ex}(h1:1<=k)(h2:k<=19)(h3:a.length=(O4 k).args)(h4:a.all A0e=true)
  (h5:(if(O4 k).name=true then F6 n else n == [])=true) (h6:(if(O4 k).text=true then V6 t else t == [])=true):S4 d (.mk k n t a [] [] p)=true:=by
 simp_all[S4,J0]
theorem C0d(hG:∀t∈L,K6 t){f:Nat}{k p:Int}{s:Rd}{r:St × Rd}(d:Nat)(hk4:4<=k)(hk:k<=19)(h:P6 L E f k p s=some r)(hok:okR r.2=true):okR s=true/\S4 d r.1=true:=by
 unfold P6 at h;dsimp only at h;split at h
 ·rename_i hk;subst hk;split at h
  ·grind
  ·rename_i e s1 he;cases h;obtain⟨h1,h2⟩:=Q3 hG he (K9 hok);exact⟨h1,A2d (by simp) (by simp) rfl (by grind) rfl rfl⟩
 split at h
 ·rename_i hk;subst hk;split at h
  ·grind
  ·rename_i e s1 he;cases h;obtain⟨h1,h2⟩:=Q3 hG he (K9 hok);have h3:=K9 h1;exact⟨A0j h3,A2d (by simp) (by simp) rfl (by grind) rfl (C8k hG h3)⟩
 split at h
 ·rename_i hk;subst hk;cases h;exact⟨K9 hok,A2d (by simp) (by simp) rfl rfl rfl rfl⟩
 rename_i n4 n18 n19;split at h
 ·rename_i hk;split at h
  ·grind
  ·rename_i e s1 he;split at h
   ·rename_i hk9;subst hk9;split at h
    ·grind
    ·rename_i e2 s2 he2;cases h;obtain⟨h1,h2⟩:=Q3 hG he2 (K9 hok);obtain⟨h3,h4⟩:=Q3 hG he (K9 h1);exact⟨A0j h3,A2d (by simp) (by simp) rfl (by grind) (S6 hG h3) rfl⟩
   ·rename_i hk9;cases h;obtain⟨h1,h2⟩:=Q3 hG he (K9 hok);have:k=8\/k=10:=by omega
    rcases this with rfl|rfl
    all_goals exact⟨A0j h1,A2d (by decide) (by decide) rfl (by simp[h2]) (S6 hG h1) rfl⟩
 ·rename_i hk8;cases h;have h1:=K9 hok;have hs:O4 k=⟨true,false,0,false,false⟩:=by
   unfold O4;rw[if_neg (by omega),if_neg (by omega),if_neg (by omega),if_neg (by omega),if_neg (by omega),if_neg (by omega),if_neg (by omega)]
  grind[A0j,A2d,S6]
theorem B0b{d:Nat}:∀ {l:List St} {x:St},J0 d (l++[x])=(J0 d l&&S4 d x)
 |[],x=>by simp[J0]
 |a::l,x=>by rw[List.cons_append,J0,J0,B0b,Bool.and_assoc]
theorem B6l{d:Nat}{k p:Int}{e:Ex}{t o:List St}(hk:k=2\/k=3)(he:A0e e=true)(ht:Q4 t (d+1)=true)(ho:Q4 o (d+1)=true)(h3:k=3->o=[]):S4 d (.mk k [] [] [e] t o p)=true:=by
 grind[Q4,S4,O4]
theorem SS.all(hG:∀t∈L,K6 t):∀f:Nat,(∀(d:Nat) s r,K5 L E f d s=some r->okR r.2=true->okR s=true/\Q4 r.1 d=true) /\
  (∀(d:Nat) l s r,R4 L E f d l s=some r->okR r.2=true->okR s=true/\(J0 d l=true->l.length<=64->(l=[]\/d<=8)->Q4 r.1 d=true)) /\
  (∀(d:Nat) s r,O8 L E f d s=some r->okR r.2=true->okR s=true/\d<=8/\S4 d r.1=true) /\
  (∀(d:Nat) s r,T8 L E f d s=some r->okR r.2=true->okR s=true/\Q4 r.1 (d+1)=true)
 |0=>⟨λd s r h=>l9,λd l s r h=>l9,λd s r h=>l9,λd s r h=>by trivial⟩
 |f+1=>by
  obtain⟨i1,i2,i3,i4⟩:=SS.all hG f;have hd1:∀d:Nat,(d:Int)+1=((d+1:Nat):Int):=λd=>by rfl
  refine⟨λd s r h k=>?_,λd l s r h k=>?_,λd s r h k=>?_,λd s r h k=>?_⟩
  ·unfold K5 at h;obtain⟨h1,h2⟩:=i2 _ _ _ _ h k;exact⟨K9 h1,h2 rfl (by simp) (.inl rfl)⟩
  ·unfold R4 at h;split at h
   ·rename_i hc;refine⟨hc.1,λh1 h2 h3=>?_⟩;split at h
    ·grind[Z0]
    ·split at h
     ·grind
     ·rename_i x s1 he;obtain⟨h4,h5⟩:=i2 _ _ _ _ h k;obtain⟨h6,h7,h8⟩:=i3 _ _ _ he h4;obtain⟨-,h9, -⟩:=J2 (by decide) h6<;>grind[B0b]
   ·cases h;refine⟨K9 k,λh1 h2 h3=>?_⟩;unfold Q4
    grind
  ·unfold O8 at h;dsimp only at h;split at h
   ·grind
   rename_i hl;have hl:okR (D3 L E s d 8 50)=true:=m9
   obtain⟨hs,hd,hle⟩:=J2 (by simp) hl;rw[hle]at h;refine⟨hs,b8,?_⟩;split at h
   ·split at h
    ·grind
    ·rename_i e s1 he;cases h;obtain⟨h1,h2⟩:=Q3 hG he (K9 k);exact A2d (by simp) (by simp) rfl (by grind) (S6 hG (K9 h1)) rfl
   ·rename_i hk;obtain⟨-,hi, -,hk18⟩:=I6 (show 0<=B8 L E s C5 by omega);have hk18:B8 L E s C5<18:=hk18;generalize B8 L E s C5=q at h hk hk18;split at h
    ·rename_i hq;split at h
     ·grind
     ·rename_i e s2 he;split at h
      ·grind
      ·rename_i t s3 ht;rw[hd1]at ht;split at h
       ·rename_i hc;split at h
        ·grind
        ·rename_i o s4 ho;cases h;obtain⟨o1,o2⟩:=i4 _ _ _ ho k;obtain⟨t1,t2⟩:=i1 _ _ _ ht (show okR s3=true from o1);obtain⟨e1,e2⟩:=Q3 hG he t1<;>grind[B6l]
       ·cases h;obtain⟨t1,t2⟩:=i1 _ _ _ ht k;obtain⟨e1,e2⟩:=Q3 hG he t1<;>grind[B6l,Q4,J0]
    ·rename_i hq;exact(C0d hG d (by omega) (by omega) h k).2
  ·unfold T8 at h;rw[hd1]at h;split at h
   ·split at h
    ·grind
    ·rename_i x s1 he;cases h;obtain⟨h1,h2,h3⟩:=i3 _ _ _ he k;refine⟨h1,?_⟩;unfold Q4;simp only[A0F,A1J,A0Q]
     grind[J0]
   ·exact i1 _ _ _ h k
theorem C7k(hG:∀t∈L,K6 t){k:Int}{s:Rd}(h0:0<=k)(h8:k<8)(h:okR (R0 L E k s).2=true):A1i (R0 L E k s).1=true:=by
 have key:∀d:Dc,1<=d.kind->d.kind<=8->F6 d.name=true->(if d.kind=6 then -2147483647 else 0)<=d.value->d.value<=(if d.kind=7\/d.kind=8 then 0 else 2147483647)->A1i d=true:=by
  simp_all[A1i]
 unfold R0 at h ⊢;dsimp only at h ⊢;split at h
 ·rename_i hk;rw[if_pos hk];have h1:=K9 h;obtain⟨n0,n1⟩:=B6u hG h1;have h2:=A0j h1;have h3:okR (A7 L E (A6 s) 1).2=true:=by
   split at h2
   ·exact h2
   ·exact h2
  refine key _ (by dsimp only;omega) (by dsimp only;omega) (S6 hG h3) ?_ ?_
  ·dsimp only;generalize (A7 L E (if(k+1==6&&isR L E (A7 L E (A6 s) 1).2 [45])=true then A6 (A7 L E (A6 s) 1).2 else(A7 L E (A6 s) 1).2) 3).1.value=w at n0 n1 ⊢;by_cases h6:k+1=6
   ·rw[if_pos (by omega)];split<;>omega
   ·rw[if_neg (by omega),if_neg (by simp[h6])];exact n0
  grind
 ·rename_i hk;rw[if_neg hk];have h3:=K9 h;refine key _ (by dsimp only;omega) (by dsimp only;omega) (S6 hG h3) ?_ ?_
  ·dsimp only;rw[if_neg (by omega)];decide
  grind
theorem B3s(hG:∀t∈L,K6 t):∀(f:Nat) (l:List Hd) (s:Rd) (r:List Hd × Rd),R8 L E f l s=some r->okR r.2=true->okR s=true/\(l.length<=32->l.all A2e=true->r.1.length<=32/\r.1.all A2e=true)
 |0,l,s,r,h,_=>l9
 |f+1,l,s,r,h,k=>by
  unfold R8 at h;dsimp only at h;split at h
  ·rename_i hc;refine⟨hc.1,λh1 h2=>?_⟩;split at h
   ·cases h;rw[Z0]at k;cases k
   split at h
   ·cases h;rw[Z0]at k;cases k
   rename_i hk;obtain⟨hok2,hi2, -,hk6⟩:=I6 (show 0<=B8 L E (D9 L E (D3 L E s ((l.length:Int)+1) 32 9) [111,110]) F1 by omega);have hk6:B8 L E (D9 L E (D3 L E s ((l.length:Int)+1) 32 9) [111,110]) F1<6:=hk6;obtain⟨-,hll, -⟩:=J2 (by decide) (K9 hok2);generalize B8 L E (D9 L E (D3 L E s ((l.length:Int)+1) 32 9) [111,110]) F1=q at h hk hk6;split at h
   ·cases h
   ·rename_i b s5 hb;obtain⟨m1,m2⟩:=B3s hG f _ _ _ h k;obtain⟨b1,b2⟩:=(SS.all hG f).1 1 _ _ hb m1;refine m2 (by simp only[A0A,A0E];omega) ?_;rw[List.all_append,h2,A2A];simp only[A2N,List.all_nil,A2U,A2e,A0F,A0Q];refine⟨⟨⟨b8,by omega⟩,?_⟩,b2⟩;by_cases hq:2<=q
    ·rw[if_pos (by omega),if_pos hq];rw[if_pos hq]at b1;exact S6 hG b1
    ·rw[if_neg (by omega),if_neg hq];rfl
  grind[K9]
theorem C6o(hG:∀t∈L,K6 t){f:Nat}{s:Rd}{r:Md × Rd}(h:A3h L E f s=some r)(k:okR r.2=true):okR s=true/\V0 r.1=true:=by
 unfold A3h at h;dsimp only at h;split at h
 ·grind
 ·rename_i l s3 hm;cases h;obtain⟨m1,m2⟩:=B3s hG _ _ _ _ hm k;obtain⟨m3,m4⟩:=m2 (by simp) rfl;have h1:=K9 m1;have h2:=A0j h1;obtain⟨n0,n1⟩:=B6u hG h1;refine⟨K9 (A0j h2),?_⟩
  simp_all[V0,S6]
theorem A7h(hG:∀t∈L,K6 t):∀(f:Nat) (l:List Dc) (s:Rd) (r:List Dc × Rd),T5 L E f l s=some r->okR r.2=true->okR s=true/\(l.length<=128->l.all A1i=true->r.1.length<=128/\r.1.all A1i=true)
 |0,l,s,r,h,_=>l9
 |f+1,l,s,r,h,k=>by
  unfold T5 at h;dsimp only at h;split at h
  ·grind
  ·rename_i hk;obtain⟨hs,hi, -,hk8⟩:=I6 (show 0<=B8 L E s D7 by omega);have hk8:B8 L E s D7<8:=hk8;refine⟨hs,λh1 h2=>?_⟩;split at h
   ·rename_i hl;obtain⟨-,hll,hle⟩:=J2 (by simp) hl;obtain⟨m1,m2⟩:=A7h hG f _ _ _ h k;exact m2 (by grind) (by simp_all[C7k])
   ·rename_i hl;obtain⟨m1,m2⟩:=A7h hG f _ _ _ h k<;>simp_all
theorem A7g(hG:∀t∈L,K6 t):∀(f:Nat) (l:List Md) (s:Rd) (r:List Md × Rd),R7 L E f l s=some r->okR r.2=true->okR s=true/\(l.length<=16->l.all V0=true->r.1.length<=16/\r.1.all V0=true)
 |0,l,s,r,h,_=>l9
 |f+1,l,s,r,h,k=>by
  unfold R7 at h;dsimp only at h;split at h
  ·rename_i hc;refine⟨hc.1,λh1 h2=>?_⟩;split at h
   ·cases h;rw[Z0]at k;cases k
   split at h
   ·rename_i hl;split at h
    ·cases h
    ·rename_i m s2 hm;obtain⟨m1,m2⟩:=A7g hG f _ _ _ h k;obtain⟨q1,q2⟩:=C6o hG hm m1;obtain⟨-,hll,hle⟩:=J2 (by decide) hl;exact m2 (by simp only[A0A,A0E];omega) (by rw[List.all_append,h2,A2A,A2N,q2];rfl)
   ·rename_i hl;obtain⟨m1,m2⟩:=A7g hG f _ _ _ h k;exact absurd m1 hl
  grind
theorem C6a(hG:∀t∈L,K6 t){f:Nat}{s:Rd}{r:Ru × Rd}(h:A7e L E f s=some r)(k:okR r.2=true):M8 r.1=true:=by
 unfold A7e at h;split at h
 ·grind
 ·rename_i d s1 hd;split at h
  ·grind
  ·rename_i m s2 hm;cases h;obtain⟨m1,m2⟩:=A7g hG _ _ _ _ hm k;obtain⟨m3,m4⟩:=m2 (by simp) rfl;obtain⟨d1,d2⟩:=A7h hG _ _ _ _ hd m1<;>simp_all[M8]
end
section
variable {L:List Tok} {E:Int}
theorem D7z{k:Int}{s:Rd}(hi:s.i<L.length):(R0 L E k s).2.i<=L.length:=by
 have hn:(A6 s).i<=L.length:=hi;have h2:=M0 (E:=E) (x:=1) (by simp) hn;unfold R0;dsimp only;split
 ·refine M5 (M0 (by decide) ?_);split
  ·rename_i hm;rw[A0F]at hm;exact(A0m hm.2).2
  omega
 ·exact M5 h2
theorem D7q:∀(f:Nat) (l:List Hd) (s:Rd) (r:List Hd × Rd),R8 L E f l s=some r->s.i<=L.length->r.2.i<=L.length
 |0,l,s,r,h,hi=>l9
 |f+1,l,s,r,h,hi=>by
  unfold R8 at h;dsimp only at h;split at h
  ·split at h
   ·cases h;rw[X3];exact hi
   ·have h1:(D3 L E s ((l.length:Int)+1) 32 9).i<=L.length:=by rw[I5];exact hi
    have h2:=M5 (E:=E) (x:=[111,110]) h1;split at h
    ·cases h;rw[X3];exact h2
    ·rename_i hk;have h3:(A6 (D9 L E (D3 L E s ((l.length:Int)+1) 32 9) [111,110])).i<=L.length:=(I6 (show 0<=B8 L E (D9 L E (D3 L E s ((l.length:Int)+1) 32 9) [111,110]) F1 by omega)).2.1;split at h
     ·cases h
     ·rename_i hb;refine D7q f _ _ _ h ((II.all f).1 _ _ _ hb ?_);split
      ·exact M0 (by decide) h3
      ·exact h3
  grind[M5]
theorem D7p{f:Nat}{s:Rd}{r:Md × Rd}(h:A3h L E f s=some r)(hi:s.i<=L.length):r.2.i<=L.length:=by
 unfold A3h at h;dsimp only at h;split at h
 ·grind
 ·rename_i hm;cases h;exact D7q f _ _ _ hm (M5 (M0 (by simp) (M0 (by simp) (M5 hi))))
theorem C9f:∀(f:Nat) (l:List Dc) (s:Rd) (r:List Dc × Rd),T5 L E f l s=some r->s.i<=L.length->r.2.i<=L.length
 |0,l,s,r,h,hi=>l9
 |f+1,l,s,r,h,hi=>by
  unfold T5 at h;dsimp only at h;split at h
  ·grind
  ·rename_i hk;have hlt:=(I6 (show 0<=B8 L E s D7 by omega)).2.1;split at h
   ·exact C9f f _ _ _ h (D7z (by grind[I5]))
   ·exact C9f f _ _ _ h (by grind[I5])
theorem C9e:∀(f:Nat) (l:List Md) (s:Rd) (r:List Md × Rd),R7 L E f l s=some r->s.i<=L.length->r.2.i<=L.length
 |0,l,s,r,h,hi=>l9
 |f+1,l,s,r,h,hi=>by
  unfold R7 at h;dsimp only at h;split at h
  ·split at h
   ·cases h;rw[X3];exact hi
   ·split at h
    ·split at h
     ·cases h
     ·rename_i hm;exact C9e f _ _ _ h (D7p hm (by rw[I5];exact hi))
    ·exact C9e f _ _ _ h (by rw[I5];exact hi)
  grind
end
def Evt{α:Type}(g:Nat->Option α)(r : α):Prop:=∃N, ∀f,N<=f->g f=some r
theorem Evt.one{α:Type}{g:Nat->Option α}{r : α}(h:∀f,g (f+1)=some r):Evt g r :=
 ⟨1,λf hf=>by obtain⟨k,rfl⟩:∃k,f=k+1:=⟨f-1,by omega⟩<;>simp_all⟩
theorem Evt.ext{α β:Type}{g:Nat->Option α}{h:Nat->Option β}{r : α}{q : β}(hg:Evt g r)(e:∀f,g f=some r->h (f+1)=some q):Evt h q:=by
 obtain⟨N,hg⟩:=hg;exact⟨N+1,λf hf=>by obtain⟨k,rfl⟩:∃k,f=k+1:=⟨f-1,by omega⟩<;>simp_all⟩
theorem Evt.map{α β:Type}{g:Nat->Option α}{h:Nat->Option β}{r : α}{q : β}(hg:Evt g r)(e:∀f,g f=some r->h f=some q):Evt h q:=by
 obtain⟨N,hg⟩:=hg;exact⟨N,λf hf=>e f (hg f hf)⟩
theorem Evt.and{α β:Type}{g:Nat->Option α}{h:Nat->Option β}{r : α}{q : β}(hg:Evt g r)(hh:Evt h q):Evt (λf=>match g f,h f with|some a,some b=>some (a,b)|_,_=>none) (r,q):=by
 obtain⟨N,hg⟩:=hg;obtain⟨M,hh⟩:=hh;exact⟨max N M,λf hf=>by grind⟩
theorem Evt.ext2{α β γ:Type}{g:Nat->Option α}{h:Nat->Option β}{k:Nat->Option γ}{r : α}{q : β}{w : γ}(hg:Evt g r)(hh:Evt h q)(e:∀f,g f=some r->h f=some q->k (f+1)=some w):Evt k w:=by
 obtain⟨N,hg⟩:=hg;obtain⟨M,hh⟩:=hh;exact⟨max N M+1,λf hf=>by obtain⟨j,rfl⟩:∃j,f=j+1:=⟨f-1,by omega⟩<;>grind⟩
theorem Evt.map2{α β γ:Type}{g:Nat->Option α}{h:Nat->Option β}{k:Nat->Option γ}{r : α}{q : β}{w : γ}(hg:Evt g r)(hh:Evt h q)(e:∀f,g f=some r->h f=some q->k f=some w):Evt k w:=by
 obtain⟨N,hg⟩:=hg;obtain⟨M,hh⟩:=hh;exact⟨max N M,λf hf=>e f (hg f (by omega)) (hh f (by omega))⟩
theorem Evt.uniq{α:Type}{g:Nat->Option α}{r q : α}(h1:Evt g r)(h2:Evt g q):r=q:=by
 obtain⟨N,h1⟩:=h1;obtain⟨M,h2⟩:=h2;exact Option.some.inj ((h1 (max N M) (by omega)).symm.trans (h2 (max N M) (by omega)))
theorem Evt.get{α:Type}{g:Nat->Option α}{r : α}(h:Evt g r):∃f,g f=some r:=by
 obtain⟨N,h⟩:=h;exact⟨N,h N (A0D _)⟩
section
variable {L:List Tok} {E:Int}
abbrev Bin(L:List Tok)(E n:Int)(s:Rd)(r:Ex × Rd):Prop:=Evt (λf=>J6 L E f n s) r
abbrev Lop(L:List Tok)(E n:Int)(e:Ex)(s:Rd)(r:Ex × Rd):Prop:=Evt (λf=>R2 L E f n e s) r
abbrev Un(L:List Tok)(E:Int)(s:Rd)(r:Ex × Rd):Prop:=Evt (λf=>R5 L E f s) r
theorem Bin.un{n:Int}{s:Rd}{r:Ex × Rd}(hn:5<n)(h:Un L E s r):Bin L E n s r :=
 h.ext λf h=>by simp_all[J6]
theorem Bin.go{n:Int}{s s1:Rd}{e:Ex}{r:Ex × Rd}(hn:n<=5)(h:Bin L E (n+1) s (e,s1))(h2:Lop L E n e s1 r):Bin L E n s r :=
 h.ext2 h2 λf h h2=>by simp_all[J6,if_neg]
theorem Lop.stop{n:Int}{e:Ex}{s:Rd}(h:B8 L E s D2<0\/B9 (12+B8 L E s D2)≠n):Lop L E n e s (e,s) :=
 Evt.one λf=>by simp_all[R2]
theorem Lop.three{n:Int}{e x:Ex}{s s1:Rd}(h0:0<=B8 L E s D2)(h1:B9 (12+B8 L E s D2)=n)(hn:n=3)(hb:Bin L E (n+1) (A6 s) (x,s1)):Lop L E n e s (.mk (12+B8 L E s D2) 0 [] [e,x] (A4 L E s).pos,s1) :=
 hb.ext λf h=>by simp_all[R2,if_neg]
theorem Lop.more{n:Int}{e x:Ex}{s s1:Rd}{r:Ex × Rd}(h0:0<=B8 L E s D2)(h1:B9 (12+B8 L E s D2)=n)(hn:n≠3)(hb:Bin L E (n+1) (A6 s) (x,s1))(hl:Lop L E n (.mk (12+B8 L E s D2) 0 [] [e,x] (A4 L E s).pos) s1 r):Lop L E n e s r :=
 hb.ext2 hl λf h h2=>by simp_all[R2,if_neg]
theorem Un.prim{s:Rd}(h:B8 L E s O9<0):Un L E s (I7 L E s) :=
 Evt.one λf=>by simp_all[R5]
theorem Un.bad{s:Rd}(h:0<=B8 L E s O9)(hl:okR (D3 L E s (s.par+1) 16 50)=false):Un L E s (Ex0,D3 L E s (s.par+1) 16 50) :=
 Evt.one λf=>by simp_all[R5,if_neg]
theorem Un.par{s s3:Rd}{e:Ex}(h:B8 L E s O9=2)(hl:okR (D3 L E s (s.par+1) 16 50)=true)(hb:Bin L E 1 { s with i:=s.i+1,par:=s.par+1 } (e,s3)):Un L E s (e, { D9 L E s3 [41] with par:=(D9 L E s3 [41]).par-1 }) :=
 hb.ext λf hf=>by
  have e0:=(J2 (by decide) hl).2.2
  simp_all[R5]
theorem Un.pre{s s3:Rd}{e:Ex}(h0:0<=B8 L E s O9)(h:B8 L E s O9≠2)(hl:okR (D3 L E s (s.par+1) 16 50)=true)(hb:Un L E { s with i:=s.i+1,par:=s.par+1 } (e,s3)):Un L E s (.mk (10+B8 L E s O9) 0 [] [e] (A4 L E s).pos, { s3 with par:=s3.par-1 }) :=
 hb.ext λf hf=>by
  have e0:=(J2 (by decide) hl).2.2
  simp_all[R5,if_neg]
theorem H6{s:Rd}{x:List UInt8}:s.i<=(D9 L E s x).i:=by
 unfold D9;cases k:isR L E s x with
 |false=>simp[X3]
 |true=>rw[if_neg (by simp)];exact A3R _
theorem M1{s:Rd}{x:Int}:s.i<=(A7 L E s x).2.i:=by
 unfold A7;cases k:I9 L E s x with
 |false=>rw[if_pos rfl];show s.i<=(R6 L E s).i;simp[X3]
 |true=>rw[if_neg (by simp)];exact A3R _
theorem C3q{s:Rd}:s.i<=(I7 L E s).2.i:=by
 unfold I7;dsimp only;have h2:(D3 L E { s with ops:=s.ops+1 } (s.ops+1) 32 9).i=s.i:=I5;have h3:(A6 (D3 L E { s with ops:=s.ops+1 } (s.ops+1) 32 9)).i=s.i+1:=by show(D3 L E { s with ops:=s.ops+1 } (s.ops+1) 32 9).i+1=_;omega
 split
 ·show s.i<=(R6 L E s).i;simp[X3]
 ·split
  ·show s.i<=(D3 L E { s with ops:=s.ops+1 } (s.ops+1) 32 9).i;rw[h2];exact A0D _
  grind[M1]
theorem ET.all:∀(m:Nat),(∀s:Rd,L.length-s.i<=m->∃r,Un L E s r/\s.i<=r.2.i)/\(∀(n:Int) e (s:Rd),n<=5->1<=n->L.length-s.i<=m->∃r,Lop L E n e s r/\s.i<=r.2.i)/\(∀(n:Int) (s:Rd),1<=n->L.length-s.i<=m->∃r,Bin L E n s r/\s.i<=r.2.i):=by
 intro m
 induction m using Nat.strongRecOn with
 |_ m ih =>
  have A:∀s:Rd,L.length-s.i<=m->∃r,Un L E s r/\s.i<=r.2.i:=by
   intro s hs;by_cases hk:B8 L E s O9<0
   ·exact⟨_,Un.prim hk,C3q⟩
   ·obtain⟨-,hi, -⟩:=I6 (show 0<=B8 L E s O9 by omega);cases hl:okR (D3 L E s (s.par+1) 16 50) with
    |false=>exact⟨_,Un.bad (by omega) hl,by show s.i<=(D3 L E s (s.par+1) 16 50).i;simp[I5]⟩
    |true =>
     by_cases h2:B8 L E s O9=2
     ·obtain⟨⟨e,s3⟩,hb,hge⟩:=(ih (m-1) (by omega)).2.2 1 { s with i:=s.i+1,par:=s.par+1 } (by decide) (by show L.length-(s.i+1)<=m-1;omega);refine⟨_,Un.par h2 hl hb,?_⟩
      grind[H6]
     ·obtain⟨⟨e,s3⟩,hb,hge⟩:=(ih (m-1) (by omega)).1 { s with i:=s.i+1,par:=s.par+1 } (by show L.length-(s.i+1)<=m-1;omega);refine⟨_,Un.pre (by omega) h2 hl hb,?_⟩
      grind
  have B:∀(n:Int) e (s:Rd),n<=5->1<=n->L.length-s.i<=m->∃r,Lop L E n e s r/\s.i<=r.2.i:=by
   intro n e s h5 h1 hs;by_cases hk:B8 L E s D2<0\/B9 (12+B8 L E s D2)≠n
   ·exact⟨_,Lop.stop hk,A0D _⟩
   ·have h0:0<=B8 L E s D2:=by omega
    obtain⟨-,hi, -⟩:=I6 h0;obtain⟨⟨x,s1⟩,hb,hge⟩:=(ih (m-1) (by omega)).2.2 (n+1) (A6 s) (by omega) (by show L.length-(s.i+1)<=m-1;omega);have hge:s.i+1<=s1.i:=hge;by_cases h3:n=3
    ·exact⟨_,Lop.three h0 (by omega) h3 hb,by grind⟩
    ·obtain⟨r,hl,hg2⟩:=(ih (m-1) (by omega)).2.1 n (.mk (12+B8 L E s D2) 0 [] [e,x] (A4 L E s).pos) s1 h5 h1 (by omega);exact⟨_,Lop.more h0 (by omega) h3 hb hl,by omega⟩
  refine⟨A,B,?_⟩;have C:∀(j:Nat) (n:Int) (s:Rd),6-n<=j->1<=n->L.length-s.i<=m->∃r,Bin L E n s r/\s.i<=r.2.i:=by
   intro j
   induction j with
   |zero =>
    intro n s hj h1 hs;obtain⟨r,h,hg⟩:=A s hs;exact⟨r,Bin.un (by omega) h,hg⟩
   |succ j ihj =>
    intro n s hj h1 hs;by_cases h5:5<n
    ·grind
    ·obtain⟨⟨e,s1⟩,h,hg⟩:=ihj (n+1) s (by omega) (by omega) hs;have hg:s.i<=s1.i:=hg;obtain⟨r,h2,hg2⟩:=B n e s1 (by omega) h1 (by omega);exact⟨r,Bin.go (by omega) h h2,by omega⟩
  exact λn s h1 hs=>C (6-n).toNat n s (by omega) h1 hs
abbrev Xpn(L:List Tok)(E:Int)(s:Rd)(r:Ex × Rd):Prop:=Evt (λf=>L3 L E f s) r
theorem A3y(s:Rd):∃r,Xpn L E s r/\s.i<=r.2.i:=by
 obtain⟨r,h,hg⟩:=(ET.all (L:=L) (E:=E) (L.length-s.i)).2.2 1 { s with ops:=0,par:=0 } (by simp) (A0D _);exact⟨r,h,hg⟩
theorem C8m(k p:Int)(s:Rd):∃r,Evt (λf=>P6 L E f k p s) r/\s.i<=r.2.i:=by
 by_cases h4:k=4
 ·obtain⟨⟨e,s1⟩,h,hg⟩:=A3y (L:=L) (E:=E) s;exact⟨_,h.map λf h=>by unfold P6;rw[if_pos h4,h],A1B hg H6⟩
 by_cases h18:k=18
 ·obtain⟨⟨e,s1⟩,h,hg⟩:=A3y (L:=L) (E:=E) (D9 L E (A7 L E s 4).2 [44]);exact⟨_,h.map λf h=>by unfold P6;rw[if_neg h4,if_pos h18,h],A1B (A1B M1 (A1B H6 hg)) H6⟩
 by_cases h19:k=19
 ·exact⟨_,Evt.one λf=>by unfold P6;rw[if_neg h4,if_neg h18,if_pos h19],H6⟩
 by_cases h8:k=8\/k=9\/k=10
 ·obtain⟨⟨e,s1⟩,h,hg⟩:=A3y (L:=L) (E:=E) (A7 L E s 1).2;by_cases h9:k=9
  ·obtain⟨⟨e2,s2⟩,h2,hg2⟩:=A3y (L:=L) (E:=E) (D9 L E s1 [44]);exact⟨_,h.map2 h2 λf h h2=>by unfold P6;rw[if_neg h4,if_neg h18,if_neg h19];dsimp only;rw[if_pos h8,h];dsimp only;rw[if_pos h9,h2],A1B (A1B M1 (A1B hg (A1B H6 hg2))) H6⟩
  ·exact⟨_,h.map λf h=>by unfold P6;rw[if_neg h4,if_neg h18,if_neg h19];dsimp only;rw[if_pos h8,h];dsimp only;rw[if_neg h9],A1B (A1B M1 hg) H6⟩
 ·exact⟨_,Evt.one λf=>by unfold P6;rw[if_neg h4,if_neg h18,if_neg h19];dsimp only;rw[if_neg h8],A1B M1 H6⟩
abbrev A9a(L:List Tok)(E d:Int)(s:Rd)(r:List St × Rd):Prop:=Evt (λf=>K5 L E f d s) r
abbrev A1o(L:List Tok)(E d:Int)(l:List St)(s:Rd)(r:List St × Rd):Prop:=Evt (λf=>R4 L E f d l s) r
abbrev U8(L:List Tok)(E d:Int)(s:Rd)(r:St × Rd):Prop:=Evt (λf=>O8 L E f d s) r
abbrev A8y(L:List Tok)(E d:Int)(s:Rd)(r:List St × Rd):Prop:=Evt (λf=>T8 L E f d s) r
theorem A9a.mk{d:Int}{s:Rd}{r:List St × Rd}(h:A1o L E d [] (D9 L E s [123]) r):A9a L E d s r :=
 h.ext λf h=>w6
theorem A1o.stop{d:Int}{l:List St}{s:Rd}(h:¬(okR s=true/\isR L E s [125]=false)):A1o L E d l s (l,D9 L E s [125]) :=
 Evt.one λf=>by simp_all[R4]
theorem A1o.bad{d:Int}{l:List St}{s:Rd}(h:okR s=true/\isR L E s [125]=false)(h2:B8 L E s C5<0/\I9 L E s 1=false):A1o L E d l s ([],R6 L E s) :=
 Evt.one λf=>by simp_all[R4]
theorem A1o.more{d:Int}{l:List St}{s s1:Rd}{x:St}{r:List St × Rd}(h:okR s=true/\isR L E s [125]=false)(h2:¬(B8 L E s C5<0/\I9 L E s 1=false))(hx:U8 L E d (D3 L E s ((l.length:Int)+1) 64 9) (x,s1))(hl:A1o L E d (l++[x]) s1 r):A1o L E d l s r :=
 hx.ext2 hl λf hx hl=>by simp_all[R4]
theorem U8.bad{d:Int}{s:Rd}(h:okR (D3 L E s d 8 50)=false):U8 L E d s (St0,D3 L E s d 8 50) :=
 Evt.one λf=>by simp_all[O8]
theorem U8.set{d:Int}{s s1:Rd}{e:Ex}(h:okR (D3 L E s d 8 50)=true)(hk:B8 L E s C5<0)(he:Xpn L E (D9 L E (A7 L E s 1).2 [61]) (e,s1)):U8 L E d s (.mk 1 (A7 L E s 1).1.text [] [e] [] [] (A4 L E s).pos,D9 L E s1 [59]) :=
 he.ext λf hf=>by
  have e0:=(J2 (by decide) h).2.2
  simp_all[O8]
theorem U8.els{d:Int}{s s2 s3 s4:Rd}{e:Ex}{t o:List St}(h:okR (D3 L E s d 8 50)=true)(hk:B8 L E s C5=0)(he:Xpn L E (A6 s) (e,s2))(ht:A9a L E (d+1) s2 (t,s3))(hi:isR L E s3 [101,108,115,101]=true)(ho:A8y L E d (A6 s3) (o,s4)):U8 L E d s (.mk 2 [] [] [e] t o (A4 L E s).pos,s4) :=
 (he.and ht).ext2 ho λf hf h2=>by
  have e0:=(J2 (by simp) h).2.2;cases h3:L3 L E f (A6 s) with
  |none=>grind
  |some q =>
   cases h4:K5 L E f (d+1) s2 with
   |none=>grind
   |some w =>
    rw[h3,h4]at hf;obtain⟨rfl,rfl⟩:=Prod.mk.inj (Option.some.inj hf)
    simp_all[O8]
theorem U8.blk{d:Int}{s s2 s3:Rd}{e:Ex}{t:List St}(h:okR (D3 L E s d 8 50)=true)(hk:B8 L E s C5=0\/B8 L E s C5=1)(he:Xpn L E (A6 s) (e,s2))(ht:A9a L E (d+1) s2 (t,s3))(hi:¬(B8 L E s C5=0/\isR L E s3 [101,108,115,101]=true)):U8 L E d s (.mk (2+B8 L E s C5) [] [] [e] t [] (A4 L E s).pos,s3) :=
 he.ext2 ht λf h3 h4=>by
  have e0:=(J2 (by decide) h).2.2
  simp_all[O8,if_neg];omega
theorem U8.tail{d:Int}{s:Rd}{r:St × Rd}(h:okR (D3 L E s d 8 50)=true)(hk:2<=B8 L E s C5)(he:Evt (λf=>P6 L E f (2+B8 L E s C5) (A4 L E s).pos (A6 s)) r):U8 L E d s r :=
 he.ext λf h3=>by
  have e0:=(J2 (by decide) h).2.2;rw[O8];grind
theorem A8y.iff{d:Int}{s s1:Rd}{x:St}(h:isR L E s [105,102]=true)(hs:U8 L E (d+1) s (x,s1)):A8y L E d s ([x],s1) :=
 hs.ext λf hf=>by simp_all[T8]
theorem A8y.blk{d:Int}{s:Rd}{r:List St × Rd}(h:isR L E s [105,102]=false)(hs:A9a L E (d+1) s r):A8y L E d s r :=
 hs.ext λf hf=>by simp_all[T8]
theorem ST.all:∀(m:Nat),(∀d (s:Rd),L.length-s.i<=m->∃r,U8 L E d s r/\s.i<=r.2.i/\(okR (D3 L E s d 8 50)=true->(0<=B8 L E s C5\/I9 L E s 1=true)->s.i<r.2.i)) /\
  (∀d l (s:Rd),L.length-s.i<=m->∃r,A1o L E d l s r/\s.i<=r.2.i):=by
 intro m
 induction m using Nat.strongRecOn with
 |_ m ih =>
  have blk:∀d (s:Rd),L.length-s.i<m->∃r,A9a L E d s r/\s.i<=r.2.i:=by
   intro d s hs;have h0:=H6 (L:=L) (E:=E) (s:=s) (x:=[123]);obtain⟨r,h,hg⟩:=(ih _ hs).2 d [] (D9 L E s [123]) (by omega);exact⟨r,A9a.mk h,by omega⟩
  have oth:∀d (s:Rd),L.length-s.i<m->∃r,A8y L E d s r/\s.i<=r.2.i:=by
   intro d s hs;cases hi:isR L E s [105,102] with
   |true =>
    obtain⟨⟨x,s1⟩,h,hg, -⟩:=(ih _ hs).1 (d+1) s (A0D _);exact⟨_,A8y.iff hi h,hg⟩
   |false =>
    obtain⟨r,h,hg⟩:=blk (d+1) s hs;exact⟨r,A8y.blk hi h,hg⟩
  have A:∀d (s:Rd),L.length-s.i<=m->∃r,U8 L E d s r/\s.i<=r.2.i/\(okR (D3 L E s d 8 50)=true->(0<=B8 L E s C5\/I9 L E s 1=true)->s.i<r.2.i):=by
   intro d s hs;cases hl:okR (D3 L E s d 8 50) with
   |false=>exact⟨_,U8.bad hl,by show s.i<=(D3 L E s d 8 50).i;simp[I5],λh=>by grind⟩
   |true =>
    by_cases hk:B8 L E s C5<0
    ·obtain⟨⟨e,s1⟩,he,hg⟩:=A3y (L:=L) (E:=E) (D9 L E (A7 L E s 1).2 [61]);have hg:(D9 L E (A7 L E s 1).2 [61]).i<=s1.i:=hg;have h1:=H6 (L:=L) (E:=E) (s:=s1) (x:=[59]);have h2:=H6 (L:=L) (E:=E) (s:=(A7 L E s 1).2) (x:=[61]);have h3:=M1 (L:=L) (E:=E) (s:=s) (x:=1);refine⟨_,U8.set hl hk he,by show s.i<=(D9 L E s1 [59]).i;omega,λ_ hc=>?_⟩;have h4:I9 L E s 1=true:=hc.resolve_left (by omega);have h5:(A7 L E s 1).2.i=s.i+1:=by unfold A7;rw[if_neg (by rw[h4];decide)];rfl
     grind
    ·obtain⟨-,hi, -,hk18⟩:=I6 (show 0<=B8 L E s C5 by omega);by_cases h01:B8 L E s C5=0\/B8 L E s C5=1
     ·obtain⟨⟨e,s2⟩,he,hg⟩:=A3y (L:=L) (E:=E) (A6 s);have hg:s.i+1<=s2.i:=hg;obtain⟨⟨t,s3⟩,ht,hg3⟩:=blk (d+1) s2 (by omega);have hg3:s2.i<=s3.i:=hg3;by_cases hc:B8 L E s C5=0/\isR L E s3 [101,108,115,101]=true
      ·have hi3:=(A0m hc.2).2;obtain⟨⟨o,s4⟩,ho,hg4⟩:=oth d (A6 s3) (by show L.length-(s3.i+1)<m;omega);have hg4:s3.i+1<=s4.i:=hg4;exact⟨_,U8.els hl hc.1 he ht hc.2 ho,m9,λ_ _=>by grind⟩
      ·exact⟨_,U8.blk hl h01 he ht hc,m9,λ_ _=>by grind⟩
     ·obtain⟨r,hr,hg⟩:=C8m (L:=L) (E:=E) (2+B8 L E s C5) (A4 L E s).pos (A6 s);have hg:s.i+1<=r.2.i:=hg
      grind[U8.tail]
  refine⟨A,λd l s hs=>?_⟩;by_cases hc:okR s=true/\isR L E s [125]=false
  ·by_cases h2:B8 L E s C5<0/\I9 L E s 1=false
   ·exact⟨_,A1o.bad hc h2,by show s.i<=(R6 L E s).i;simp[X3]⟩
   ·have hlt:s.i<L.length:=by
     by_cases hk:0<=B8 L E s C5
     ·exact(I6 hk).2.1
     ·cases h1:I9 L E s 1 with
      |false=>grind
      |true=>exact(J1 (by simp) (J7 h1).2).2
    cases hl:okR (D3 L E s ((l.length:Int)+1) 64 9) with
    |false =>
     have hb:okR (D3 L E (D3 L E s ((l.length:Int)+1) 64 9) d 8 50)=false:=by
      cases hz:okR (D3 L E (D3 L E s ((l.length:Int)+1) 64 9) d 8 50) with
      |false=>rfl
      |true=>rw[(J2 (by decide) hz).1]at hl;cases hl
     have hx:=U8.bad hb;refine⟨_,A1o.more hc h2 hx (A1o.stop (by rw[hb];simp)),?_⟩
     grind[H6,I5]
    |true =>
     have e0:=(J2 (by simp) hl).2.2;obtain⟨⟨x,s1⟩,hx,hg,hprog⟩:=A d s hs;have hg:s.i<=s1.i:=hg;cases hd:okR (D3 L E s d 8 50) with
     |false =>
      have hx:=U8.bad hd;refine⟨_,A1o.more hc h2 (by rw[e0];exact hx) (A1o.stop (by rw[hd];simp)),?_⟩
      grind[H6,I5]
     |true =>
      have hlt2:s.i<s1.i:=hprog hd (by
       grind)
      obtain⟨r,hr,hg2⟩:=(ih (L.length-s1.i) (by omega)).2 d (l++[x]) s1 (A0D _);exact⟨r,A1o.more hc h2 (by grind) hr,by omega⟩
  ·exact⟨_,A1o.stop hc,H6⟩
theorem D6y(d:Int)(s:Rd):∃r,A9a L E d s r/\s.i<=r.2.i:=by
 obtain⟨r,h,hg⟩:=(ST.all (L:=L) (E:=E) _).2 d [] (D9 L E s [123]) (A0D _);exact⟨r,A9a.mk h,A1B H6 hg⟩
theorem D5m:∀(m:Nat) (l:List Hd) (s:Rd),L.length-s.i<=m->∃r,Evt (λf=>R8 L E f l s) r/\s.i<=r.2.i:=by
 intro m
 induction m using Nat.strongRecOn with
 |_ m ih =>
  intro l s hs;by_cases hc:okR s=true/\isR L E s [125]=false
  ·cases hon:isR L E s [111,110] with
   |false=>exact⟨_,Evt.one λf=>by rw[R8,if_pos hc,if_pos hon],by show s.i<=(R6 L E s).i;simp[X3]⟩
   |true =>
    have hi:=(A0m hon).2;have h1:(D3 L E s ((l.length:Int)+1) 32 9).i=s.i:=I5;generalize hl:D3 L E s ((l.length:Int)+1) 32 9=s1 at h1;have h2:=H6 (L:=L) (E:=E) (s:=s1) (x:=[111,110]);generalize he:D9 L E s1 [111,110]=s2 at h2;by_cases hk:B8 L E s2 F1<0
    ·exact⟨_,Evt.one λf=>by rw[R8,if_pos hc,if_neg (by grind),hl];dsimp only;rw[he,if_pos hk],by grind[X3]⟩
    ·have hi2:=(I6 (show 0<=B8 L E s2 F1 by omega)).2.1;have h4:s2.i+1<=(if 2<=B8 L E s2 F1 then(A7 L E (A6 s2) 1).2 else A6 s2).i:=by
      split
      ·exact M1 (L:=L) (E:=E) (s:=A6 s2) (x:=1)
      ·exact A0D _
     obtain⟨⟨b,s5⟩,hb,hg⟩:=D6y (L:=L) (E:=E) 1 (if 2<=B8 L E s2 F1 then(A7 L E (A6 s2) 1).2 else A6 s2);have hg:(if 2<=B8 L E s2 F1 then(A7 L E (A6 s2) 1).2 else A6 s2).i<=s5.i:=hg;obtain⟨r,hr,hg2⟩:=ih (L.length-s5.i) (by omega) (l++[⟨1+B8 L E s2 F1,if 2<=B8 L E s2 F1 then(A7 L E (A6 s2) 1).1.text else [],b,(A4 L E s1).pos⟩]) s5 (A0D _);exact⟨r,hb.ext2 hr λf hb hr=>by simp_all[R8,if_neg],by omega⟩
  ·exact⟨_,Evt.one λf=>by rw[R8,if_neg hc],H6⟩
theorem D5l(s:Rd):∃r,Evt (λf=>A3h L E f s) r/\s.i<=r.2.i/\(isR L E s [109,111,100,101]=true->s.i<r.2.i):=by
 obtain⟨⟨l,s3⟩,h,hg⟩:=D5m (L:=L) (E:=E) _ [] (D9 L E (A7 L E (A7 L E (D9 L E s [109,111,100,101]) 1).2 3).2 [123]) (A0D _);have hg:(D9 L E (A7 L E (A7 L E (D9 L E s [109,111,100,101]) 1).2 3).2 [123]).i<=s3.i:=hg;have h1:=H6 (L:=L) (E:=E) (s:=(A7 L E (A7 L E (D9 L E s [109,111,100,101]) 1).2 3).2) (x:=[123]);have h2:=M1 (L:=L) (E:=E) (s:=(A7 L E (D9 L E s [109,111,100,101]) 1).2) (x:=3);have h3:=M1 (L:=L) (E:=E) (s:=D9 L E s [109,111,100,101]) (x:=1);have h4:=H6 (L:=L) (E:=E) (s:=s) (x:=[109,111,100,101]);refine⟨_,h.map λf h=>by unfold A3h;dsimp only;rw[h],by show s.i<=s3.i;omega,λhi=>?_⟩;have h5:(D9 L E s [109,111,100,101]).i=s.i+1:=by unfold D9;rw[if_neg (by rw[hi];decide)];rfl
 grind
theorem D2x{k:Int}{s:Rd}:s.i+1<=(R0 L E k s).2.i:=by
 unfold R0;dsimp only;have h1:=M1 (L:=L) (E:=E) (s:=A6 s) (x:=1);have h0:(A6 s).i=s.i+1:=rfl;split
 ·generalize (A7 L E (A6 s) 1).2=s2 at h1 ⊢;have h3:s2.i<=(if(k+1==6&&isR L E s2 [45])=true then A6 s2 else s2).i:=by
   split
   ·exact A3R _
   ·exact A0D _
  generalize (if(k+1==6&&isR L E s2 [45])=true then A6 s2 else s2)=s3 at h3 ⊢;have h4:=M1 (L:=L) (E:=E) (s:=s3) (x:=3);have h5:=H6 (L:=L) (E:=E) (s:=(A7 L E s3 3).2) (x:=[59]);show s.i+1<=(D9 L E (A7 L E s3 3).2 [59]).i;omega
 grind[H6]
theorem A2q{s:Rd}(h:okR s=false):∀(l:List (List UInt8)) (k:Nat),A0q L E s k l = -1
 |[],k=>rfl
 |t::l,k=>by rw[A0q,show isR L E s t=false by grind[isR],if_neg (by simp),A2q h l]
theorem D4n:∀(m:Nat) (l:List Dc) (s:Rd),L.length-s.i<=m->∃r,Evt (λf=>T5 L E f l s) r/\s.i<=r.2.i:=by
 intro m
 induction m using Nat.strongRecOn with
 |_ m ih =>
  intro l s hs;by_cases hk:B8 L E s D7<0
  ·exact⟨_,Evt.one λf=>by rw[T5];dsimp only;rw[if_pos hk],A0D _⟩
  ·have hi:=(I6 (show 0<=B8 L E s D7 by omega)).2.1;have h1:(D3 L E s ((l.length:Int)+1) 128 9).i=s.i:=I5;cases hl:okR (D3 L E s ((l.length:Int)+1) 128 9) with
   |false =>
    have hz:B8 L E (D3 L E s ((l.length:Int)+1) 128 9) D7<0:=by
     show A0q L E _ 0 D7<0
     grind[A2q]
    have h2:Evt (λf=>T5 L E f l (D3 L E s ((l.length:Int)+1) 128 9)) (l,D3 L E s ((l.length:Int)+1) 128 9):=Evt.one λf=>by simp_all[T5]
    exact⟨_,h2.ext λf h=>by rw[T5];dsimp only;rw[if_neg hk,if_neg (by grind)];exact h,by grind⟩
   |true =>
    have h3:=D2x (L:=L) (E:=E) (k:=B8 L E s D7) (s:=D3 L E s ((l.length:Int)+1) 128 9);obtain⟨r,hr,hg⟩:=ih (L.length-(R0 L E (B8 L E s D7) (D3 L E s ((l.length:Int)+1) 128 9)).2.i) (by omega) (l++[(R0 L E (B8 L E s D7) (D3 L E s ((l.length:Int)+1) 128 9)).1]) _ (A0D _);exact⟨r,hr.ext λf h=>by simp_all[T5,if_neg],by omega⟩
theorem D4m:∀(m:Nat) (l:List Md) (s:Rd),L.length-s.i<=m->∃r,Evt (λf=>R7 L E f l s) r/\s.i<=r.2.i:=by
 intro m
 induction m using Nat.strongRecOn with
 |_ m ih =>
  intro l s hs;by_cases hc:okR s=true/\s.i<L.length
  ·cases hm:isR L E s [109,111,100,101] with
   |false=>exact⟨_,Evt.one λf=>by rw[R7,if_pos hc,if_pos hm],by show s.i<=(R6 L E s).i;simp[X3]⟩
   |true =>
    have h1:(D3 L E s ((l.length:Int)+1) 16 9).i=s.i:=I5;cases hl:okR (D3 L E s ((l.length:Int)+1) 16 9) with
    |false =>
     have h2:Evt (λf=>R7 L E f l (D3 L E s ((l.length:Int)+1) 16 9)) (l,D3 L E s ((l.length:Int)+1) 16 9):=Evt.one λf=>by simp_all[R7]
     exact⟨_,h2.ext λf h=>by rw[R7,if_pos hc,if_neg (by grind)];dsimp only;rw[if_neg (by grind)];exact h,by grind⟩
    |true =>
     have e0:=(J2 (by simp) hl).2.2;obtain⟨⟨md,s2⟩,h2,hg,hlt⟩:=D5l (L:=L) (E:=E) s;have hlt:s.i<s2.i:=hlt hm;obtain⟨r,hr,hg2⟩:=ih (L.length-s2.i) (by omega) (l++[md]) s2 (A0D _);exact⟨r,h2.ext2 hr λf h2 hr=>by simp_all[R7],by omega⟩
  ·exact⟨_,Evt.one λf=>by rw[R7,if_neg hc],A0D _⟩
theorem C3f(s:Rd):∃r,Evt (λf=>A7e L E f s) r:=by
 obtain⟨⟨d,s1⟩,h1, -⟩:=D4n (L:=L) (E:=E) _ [] s (A0D _);obtain⟨⟨m,s2⟩,h2, -⟩:=D4m (L:=L) (E:=E) _ [] s1 (A0D _);exact⟨_,h1.map2 h2 λf h1 h2=>by unfold A7e;rw[h1];dsimp only;rw[h2]⟩
end
def C5m(t:Tok):Prop:=K6 t/\0<=t.value/\t.value<=2147483647
abbrev I2(l:List Tok):Prop:=∀t∈l,C5m t
theorem A3q:C5m V1:=⟨⟨λh=>l9,λh=>l9,λh=>by rfl⟩,l9,by trivial⟩
theorem Y5(s:List UInt8):C5m (A5 s):=by
 refine⟨⟨λh=>?_,λh=>?_,λh=>?_⟩,by simp[A5],by simp[A5]⟩;all_goals simp only[A5]at h ⊢
 all_goals(by_cases h1:G9 s=true)
 all_goals(by_cases h2:F6 s=true)
 all_goals(simp_all)
theorem A3p(s:List UInt8):I2 (F7 s):=by
 intro t ht;unfold F7 at ht;split at ht
 ·grind[A3q]
 ·rename_i h;rw[A2F]at ht;subst ht;exact⟨⟨λ_=>m9,λh=>by simp,λh=>by grind⟩,by simp,by simp⟩
theorem D1u(n:Int):I2 (X7 n):=by
 intro t ht;unfold X7 at ht;split at ht
 ·grind[A3q]
 ·rename_i h;rw[A2F]at ht;subst ht;refine⟨⟨λh=>by simp at h,λ_=>?_,λh=>by simp at h⟩,?_,?_⟩<;>simp only<;>omega
theorem E5s(s:List UInt8):I2 (A2s s):=by
 intro t ht;unfold A2s at ht;split at ht
 ·grind[A3q]
 ·rename_i h;rw[A2F]at ht;subst ht;refine⟨⟨λh=>by simp at h,λh=>by simp at h,λ_=>?_⟩,by simp,by simp⟩
  simp_all[V6]
theorem I2.app{a b:List Tok}(ha:I2 a)(hb:I2 b):I2 (a++b):=λt ht=>(A1Q.1 ht).elim (ha t) (hb t)
theorem I2.one{t:Tok}(h:C5m t):I2 [t]:=λx hx=>m9
theorem I2.nil:I2 []:=λx hx=>m9
theorem I2.flat{α:Type}{f : α->List Tok}{l:List α}(h:∀x∈l,I2 (f x)):I2 (l.flatMap f):=λt ht=>by
 grind
theorem D1t{q:Int × List Tok}(n:Int)(h:I2 q.2):I2 (H9 q n):=by
 grind[H9,Y5]
theorem E5t{k v:Int}{n:List UInt8}{as1:List (Int × List Tok)}(h:∀q∈as1,I2 q.2):I2 (N7 k v n as1):=by
 unfold N7;dsimp only;by_cases h1:k=1
 ·rw[if_pos h1];exact D1u _
 rw[if_neg h1];by_cases h2:k=2
 ·rw[if_pos h2];exact A3p _
 rw[if_neg h2];by_cases h3:k=3
 ·rw[if_pos h3];grind[Y5]
 rw[if_neg h3];by_cases h4:k=4
 ·rw[if_pos h4];grind[Y5]
 rw[if_neg h4];by_cases h8:k=8
 ·rw[if_pos h8];grind[Y5]
 rw[if_neg h8];by_cases h9:k=9
 ·rw[if_pos h9];grind[Y5]
 rw[if_neg h9];by_cases h5:k=5
 ·rw[if_pos h5];grind[Y5,A3p]
 rw[if_neg h5];by_cases h6:k=6
 ·rw[if_pos h6];grind[Y5,A3p]
 rw[if_neg h6];by_cases h7:k=7
 ·rw[if_pos h7];grind[Y5,A3p]
 rw[if_neg h7]
 match as1,h with
 |[],_=>grind[A3q]
 |[q],h =>
  grind[Y5,D1t,A3q]
 |[q,r],h =>
  dsimp only;split
  ·exact((D1t _ (h q A0M)).app (I2.one (Y5 _))).app (D1t _ (h r (A0H _ A0M)))
  grind[A3q]
 |_::_::_::_,_=>grind[A3q]
theorem D7v:∀e:Ex,I2 (exT e)
 |.mk k v n a p=>by
  have ih:∀x∈a,I2 (exT x):=λx hx=>D7v x
  grind[exT,A6r,E5t]
theorem B1m(l:List Ex)(i:Nat):I2 (agT l i):=by
 grind[agT,A3q,D7v]
mutual
theorem D1r:∀s:St,I2 (stT s)
 |.mk k n t a x y p=>by
  have hx:=A9t x;have hy:∀l,l=y->I2 (T2 l):=λl h=>by subst h;exact A9t l
  have hq:∀q,y=[q]->I2 (stT q):=λq h=>by subst h;exact D1r q
  have w:∀s,I2 [A5 s]:=λs=>I2.one (Y5 s);unfold stT;split
  ·exact(((A3p _).app (w _)).app (B1m _ _)).app (w _)
  split
  ·exact I2.one A3q
  dsimp only;split
  ·have ho:I2 ([A5 (C5.getD (k-2).toNat [])]++agT a 0++([A5 [123]]++T2 x++[A5 [125]])):=((w _).app (B1m _ _)).app (((w _).app hx).app (w _))
   match y,hy,hq with
   |[],_,_=>exact ho
   |[q],_,hq =>
    dsimp only;split
    ·exact(ho.app (w _)).app (hq q rfl)
    ·exact(ho.app (w _)).app (((w _).app (hq q rfl)).app (w _))
   |q::q2::r,hy,_=>exact(ho.app (w _)).app (((w _).app (hy _ rfl)).app (w _))
  split
  ·exact((w _).app (B1m _ _)).app (w _)
  split
  ·exact((((w _).app (E5s _)).app (w _)).app (B1m _ _)).app (w _)
  split
  ·exact(((w _).app (A3p _)).app (B1m _ _)).app (w _)
  split
  ·exact(((((w _).app (A3p _)).app (B1m _ _)).app (w _)).app (B1m _ _)).app (w _)
  grind[A3p]
theorem A9t:∀l:List St,I2 (T2 l)
 |[]=>by grind[T2]
 |s::l=>by rw[T2];exact(D1r s).app (A9t l)
end
theorem E2a(l:List St):I2 (blT l):=((I2.one (Y5 _)).app (A9t l)).app (I2.one (Y5 _))
theorem E1z(d:Dc):I2 (dcT d):=by
 have w:∀s,I2 [A5 s]:=λs=>I2.one (Y5 s)
 grind[dcT,A3q,A3p,D1u]
theorem E1y(h:Hd):I2 (hdT h):=by
 unfold hdT;refine I2.app (I2.app ?_ ?_) (E2a _)
 ·exact(I2.one (Y5 _)).app (I2.one (Y5 _))
 grind[A3p]
theorem E1x(m:Md):I2 (mdT m):=by
 have w:∀s,I2 [A5 s]:=λs=>I2.one (Y5 s)
 grind[mdT,A3p,D1u,E1y]
theorem D1s(r:Ru):I2 (ruT r):=by
 grind[ruT,A3q,E1z,E1x]
section
variable {L:List Tok} {E:Int}
theorem C4b{s:List UInt8}(h:F6 s=true):s.length<=12:=by
 simp_all[F6]
theorem A4b(hG:∀t∈L,K6 t){s:Rd}:(A7 L E s 1).1.text.length<=12:=by
 cases h:I9 L E s 1 with
 |false=>unfold A7;rw[if_pos h];exact A0N _
 |true =>
  unfold A7;rw[if_neg (by grind)];exact C4b ((hG _ (J1 (by simp) (J7 h).2).1).1 (J7 h).2)
theorem D4a(hG:∀t∈L,K6 t){s:Rd}:(A7 L E s 4).1.text.length<=32:=by
 cases h:I9 L E s 4 with
 |false=>unfold A7;rw[if_pos h];exact A0N _
 |true =>
  unfold A7;rw[if_neg (by rw[h];decide)];have:=(hG _ (J1 (by decide) (J7 h).2).1).2.2 (J7 h).2
  simp_all[V6]
theorem D4v(hG:∀t∈L,K6 t){s:Rd}:(I7 L E s).1.sz+13*s.i<=13*(I7 L E s).2.i+1:=by
 have hge:=C3q (L:=L) (E:=E) (s:=s);have h2:(D3 L E { s with ops:=s.ops+1 } (s.ops+1) 32 9).i=s.i:=I5;unfold I7 at hge ⊢;dsimp only at hge ⊢;split
 ·rename_i hc;rw[if_pos hc]at hge;show 1+0+0+_<=_;omega
 ·rename_i hc;rw[if_neg hc]at hge;split
  ·show 1+0+0+13*s.i<=13*(D3 L E { s with ops:=s.ops+1 } (s.ops+1) 32 9).i+1;omega
  ·have h3:(A6 (D3 L E { s with ops:=s.ops+1 } (s.ops+1) 32 9)).i=s.i+1:=by show(D3 L E { s with ops:=s.ops+1 } (s.ops+1) 32 9).i+1=_;omega
   generalize A6 (D3 L E { s with ops:=s.ops+1 } (s.ops+1) 32 9)=s3 at h3;have h4:=M1 (L:=L) (E:=E) (s:=s3) (x:=1);have h5:=A4b (L:=L) (E:=E) hG (s:=s3);split
   ·split
    ·show 1+(A7 L E s3 1).1.text.length+0+13*s.i<=13*(A7 L E s3 1).2.i+1;omega
    ·show 1+0+0+13*s.i<=13*s3.i+1;omega
   ·rename_i hk;split
    ·show 1+0+0+13*s.i<=13*s3.i+1;omega
    ·rename_i hk3;have h1k:I9 L E s 1=true:=by
      grind[I9]
     have:=C4b ((hG _ (J1 (by simp) (J7 h1k).2).1).1 (J7 h1k).2);show 1+(A4 L E s).text.length+0+13*s.i<=13*s3.i+1;omega
theorem EZ.all(hG:∀t∈L,K6 t):∀f:Nat,(∀n s r,J6 L E f n s=some r->r.1.sz+13*s.i<=13*r.2.i+1)/\(∀n e s r,R2 L E f n e s=some r->r.1.sz+13*s.i<=13*r.2.i+e.sz)/\(∀s r,R5 L E f s=some r->r.1.sz+13*s.i<=13*r.2.i+1)
 |0=>⟨λn s r h=>l9,λn e s r h=>l9,λs r h=>by trivial⟩
 |f+1=>by
  obtain⟨i1,i2,i3⟩:=EZ.all hG f;refine⟨λn s r h=>?_,λn e s r h=>?_,λs r h=>?_⟩
  ·grind[J6]
  ·unfold R2 at h;dsimp only at h;split at h
   ·grind
   ·split at h
    ·grind
    ·rename_i x s1 hb;have h1:=i1 _ _ _ hb;have h1:x.sz+13*(s.i+1)<=13*s1.i+1:=h1
     grind[Ex.sz,Ex.szs]
  ·unfold R5 at h;dsimp only at h;split at h
   ·cases h;exact D4v hG
   ·split at h
    ·cases h;show 1+0+0+13*s.i<=13*(D3 L E s (s.par+1) 16 50).i+1
     grind[I5]
    ·rename_i hl;have hl:okR (D3 L E s (s.par+1) 16 50)=true:=by simpa using hl
     obtain⟨-, -,h3⟩:=J2 (by decide) hl<;>grind[H6,Ex.sz,Ex.szs]
theorem A4h(hG:∀t∈L,K6 t){f:Nat}{s:Rd}{r:Ex × Rd}(h:L3 L E f s=some r):r.1.sz+13*s.i<=13*r.2.i+1:=(EZ.all hG f).1 1 { s with ops:=0,par:=0 } r h
theorem A4x(k p:Int)(n t:List UInt8)(a:List Ex)(x y:List St):(St.mk k n t a x y p).sz=1+n.length+t.length+Ex.szs a+St.szs x+St.szs y:=by rfl
theorem D4c(hG:∀t∈L,K6 t){f:Nat}{k p:Int}{s:Rd}{r:St × Rd}(h:P6 L E f k p s=some r):r.1.sz+45*s.i<=45*r.2.i+40:=by
 have t1:=A4b (L:=L) (E:=E) hG (s:=s);have t4:=D4a (L:=L) (E:=E) hG (s:=s);have g1:=M1 (L:=L) (E:=E) (s:=s) (x:=1);have g4:=M1 (L:=L) (E:=E) (s:=s) (x:=4);unfold P6 at h;dsimp only at h;split at h
 ·split at h
  ·cases h
  ·rename_i e s1 he;cases h;have h1:=A4h hG he;have h2:=H6 (L:=L) (E:=E) (s:=s1) (x:=[59]);rw[A4x,Ex.szs,Ex.szs,St.szs];simp only[A0L]at h1 ⊢;omega
 split at h
 ·split at h
  ·cases h
  ·rename_i e s1 he;cases h;have h1:=A4h hG he;have h2:=H6 (L:=L) (E:=E) (s:=s1) (x:=[59]);have h3:=H6 (L:=L) (E:=E) (s:=(A7 L E s 4).2) (x:=[44]);rw[A4x,Ex.szs,Ex.szs,St.szs];simp only[A0L]at h1 ⊢;omega
 split at h
 ·cases h;have h2:=H6 (L:=L) (E:=E) (s:=s) (x:=[59]);rw[A4x,Ex.szs,St.szs];simp only[A0L];omega
 split at h
 ·split at h
  ·cases h
  ·rename_i e s1 he;have h1:=A4h hG he;split at h
   ·split at h
    ·cases h
    ·rename_i e2 s2 he2;cases h;have h4:=A4h hG he2;have h2:=H6 (L:=L) (E:=E) (s:=s2) (x:=[59]);have h3:=H6 (L:=L) (E:=E) (s:=s1) (x:=[44]);rw[A4x,Ex.szs,Ex.szs,Ex.szs,St.szs];simp only[A0L]at h1 h4 ⊢;omega
   ·cases h;have h2:=H6 (L:=L) (E:=E) (s:=s1) (x:=[59]);rw[A4x,Ex.szs,Ex.szs,St.szs];simp only[A0L]at h1 ⊢;omega
 grind[H6,A4x,Ex.szs,St.szs]
theorem C2v:∀(l:List St) (x:St),St.szs (l++[x])=St.szs l+x.sz
 |[],x=>by simp[St.szs]
 |a::l,x=>by rw[List.cons_append,St.szs,St.szs,C2v l x];omega
theorem SZ.all(hG:∀t∈L,K6 t):∀f:Nat,(∀d s r,K5 L E f d s=some r->St.szs r.1+45*s.i<=45*r.2.i+40) /\
  (∀d l s r,R4 L E f d l s=some r->St.szs r.1+45*s.i<=45*r.2.i+St.szs l+40/\(okR s=false->St.szs r.1<=St.szs l)) /\
  (∀d s r,O8 L E f d s=some r->r.1.sz+45*s.i<=45*r.2.i+40/\(r.1.sz+45*s.i<=45*r.2.i\/okR r.2=false/\r.1.sz<=40)/\s.i<=r.2.i) /\
  (∀d s r,T8 L E f d s=some r->St.szs r.1+45*s.i<=45*r.2.i+40)
 |0=>⟨λd s r h=>l9,λd l s r h=>l9,λd s r h=>l9,λd s r h=>by trivial⟩
 |f+1=>by
  obtain⟨i1,i2,i3,i4⟩:=SZ.all hG f;refine⟨λd s r h=>?_,λd l s r h=>?_,λd s r h=>?_,λd s r h=>?_⟩
  ·unfold K5 at h;have h1:=(i2 _ _ _ _ h).1;have h2:=H6 (L:=L) (E:=E) (s:=s) (x:=[123]);rw[St.szs]at h1;omega
  ·unfold R4 at h;split at h
   ·rename_i hc;refine⟨?_,λh0=>by rw[h0]at hc;cases hc.1⟩;split at h
    ·cases h;show St.szs []+45*s.i<=45*(R6 L E s).i+St.szs l+40;rw[X3,St.szs];omega
    ·split at h
     ·cases h
     ·rename_i x s1 he;obtain⟨h1,h2⟩:=i2 _ _ _ _ h;obtain⟨h3,h4,h5⟩:=i3 _ _ _ he;rw[I5]at h3 h4 h5;rw[C2v]at h1 h2;dsimp only at h3 h4 h5;rcases h4 with h4|⟨h4,h6⟩
      ·omega
      ·have h7:=h2 h4;have h8:s1.i<=r.2.i:=by
        obtain⟨N,hN⟩:=(ST.all (L:=L) (E:=E) _).2 d (l++[x]) s1 (A0D _);obtain⟨⟨M,hM⟩,hg⟩:=hN;have h9:okR s1=false:=h4;have hfr:A1o L E d (l++[x]) s1 (l++[x],D9 L E s1 [125]):=A1o.stop (by rw[h9];simp);cases f with
        |zero=>simp[R4]at h
        |succ f =>
         rw[R4,if_neg (by rw[h9];simp)]at h;cases h;exact H6
       omega
   ·rename_i hc;cases h;have h2:=H6 (L:=L) (E:=E) (s:=s) (x:=[125]);exact⟨by dsimp only;omega,λ_=>A0D _⟩
  ·have hst:=(ST.all (L:=L) (E:=E) (L.length-s.i)).1 d s (A0D _);unfold O8 at h;dsimp only at h;split at h
   ·rename_i hl;cases h;have e1:St0.sz=1:=by unfold St0;rw[A4x,Ex.szs,St.szs];rfl
    refine⟨?_,.inr ⟨hl,by show St0.sz<=40;omega⟩,?_⟩
    ·show St0.sz+45*s.i<=45*(D3 L E s d 8 50).i+40;rw[I5];omega
    ·show s.i<=(D3 L E s d 8 50).i;rw[I5];exact A0D _
   rename_i hl;have hl:okR (D3 L E s d 8 50)=true:=by simpa using hl
   obtain⟨hs,hd,hle⟩:=J2 (by decide) hl;rw[hle]at h;split at h
   ·split at h
    ·cases h
    ·rename_i e s1 he;cases h;have h1:=A4h hG he;have h2:=H6 (L:=L) (E:=E) (s:=s1) (x:=[59]);have h3:=H6 (L:=L) (E:=E) (s:=(A7 L E s 1).2) (x:=[61]);have h4:=M1 (L:=L) (E:=E) (s:=s) (x:=1);have h5:=A4b (L:=L) (E:=E) hG (s:=s);have hsz:(St.mk 1 (A7 L E s 1).1.text [] [e] [] [] (A4 L E s).pos).sz=1+(A7 L E s 1).1.text.length+e.sz:=by
      rw[A4x,Ex.szs,Ex.szs,St.szs];simp
     rw[hsz];dsimp only at h1 ⊢;refine⟨b8,?_,by omega⟩;by_cases ht:I9 L E s 1=true
     ·have h6:(A7 L E s 1).2.i=s.i+1:=by unfold A7;rw[if_neg (by rw[ht];decide)];rfl
      exact .inl (by omega)
     ·have ht:I9 L E s 1=false:=by simpa using ht
      have h6:(A7 L E s 1).2=R6 L E s:=by unfold A7;rw[if_pos ht]
      by_cases hp:1<=(D9 L E s1 [59]).i-s.i
      ·exact .inl (by omega)
      ·refine .inr ⟨?_,by omega⟩;cases hz:okR (D9 L E s1 [59]) with
       |false=>rfl
       |true =>
        have h7:=(A7w hz).2;have h8:(D9 L E s1 [59]).i=s1.i+1:=by rw[h7];rfl
        omega
   ·rename_i hk;obtain⟨-,hi, -,hk18⟩:=I6 (show 0<=B8 L E s C5 by omega);have hn:(A6 s).i=s.i+1:=rfl;split at h
    ·split at h
     ·cases h
     ·rename_i e s2 he;split at h
      ·cases h
      ·rename_i t s3 ht;have h1:=A4h hG he;have h2:=i1 _ _ _ ht;rw[hn]at h1;dsimp only at h1 h2;split at h
       ·split at h
        ·cases h
        ·rename_i o s4 ho;cases h;have h3:=i4 _ _ _ ho;have h3:St.szs o+45*(s3.i+1)<=45*s4.i+40:=h3;have hsz:(St.mk 2 [] [] [e] t o (A4 L E s).pos).sz=1+e.sz+St.szs t+St.szs o:=by
          rw[A4x,Ex.szs,Ex.szs];simp
         rw[hsz];dsimp only;exact⟨b8,.inl (by omega),by omega⟩
       ·cases h;have hsz:(St.mk (2+B8 L E s C5) [] [] [e] t [] (A4 L E s).pos).sz=1+e.sz+St.szs t:=by
         rw[A4x,Ex.szs,Ex.szs,St.szs];simp
        rw[hsz];dsimp only;exact⟨b8,.inl (by omega),by omega⟩
    ·have h1:=D4c hG h;rw[hn]at h1;exact⟨b8,.inl (by omega),by omega⟩
  grind[T8,St.szs]
end
def okN(kind:Int)(text:List UInt8)(value:Int)(i n:Nat):DV:=.tup [.agg [I64 kind,.str text,I64 value,I64 i],I64 ((i+n:Nat):Int),I64 0]
def Y7(e:Int)(i:Nat):DV:=.tup [.agg [I64 0,.str [],I64 0,I64 0],I64 i,I64 e]
def nxR(x:Nx)(i:Nat):DV:=if x.err=0 then okN x.kind x.text x.value i x.n else Y7 x.err i
theorem C1b(x:Nx)(i:Nat):(nxR x i).nl=true:=by unfold nxR;split<;>rfl
theorem B0w{k:Int}{t:List UInt8}{v:Int}{n i:Nat}:nxR ⟨k,t,v,n,0⟩ i=okN k t v i n:=if_pos rfl
theorem A6e{e:Int}{i:Nat}(h:e≠0):nxR (nxE e) i=Y7 e i:=if_neg h
def B6e(s:List UInt8):Bool:=decide (2147483647<S1 s)
def smV(s:List UInt8):Nat:=if 2147483647<S1 s then 0 else S1 s
theorem C8u(s:List UInt8):smV s<=2147483647:=by grind[smV]
theorem C8v{s:List UInt8}(h:¬ 2147483647<S1 s):smV s=S1 s:=if_neg h
theorem D7k{s:List UInt8}(h:2147483647<S1 s):smV s=0:=if_pos h
theorem B0i{p:UInt8->Bool}{s:List UInt8}{i j:Nat}{c:UInt8}(h:s[i+j]? = some c)(hj:j<=F3 p (s.drop i)):(p c=true->j+1<=F3 p (s.drop i))/\(p c=false->F3 p (s.drop i)=j) :=
 A9j (by grind) hj
theorem A7b{p:UInt8->Bool}{s:List UInt8}{i j:Nat}(h:s.length<=i+j)(hj:j<=F3 p (s.drop i)):F3 p (s.drop i)=j :=
 B6z (by grind) hj
theorem B7b{s:List UInt8}{i n:Nat}(h:i+n<=s.length):slsR s (some (.int .i64 (i:Int))) (some (.int .i64 ((i+n:Nat):Int)))=some (.str ((s.drop i).take n)):=by
 have b1:∀k:Nat,boundOf s.length (some (.int .i64 (k:Int)))=some k:=λk=>by simp[boundOf]
 have b2:∀k:Nat,boundOf 0 (some (.int .i64 (k:Int)))=some k:=λk=>by simp[boundOf]
 simp only[slsR,b1,b2]
 grind
theorem C6i(x:Nx)(i:Nat):∃(k:Int) (t:List UInt8) (v p n e:Int),nxR x i=.tup [.agg [I64 k,.str t,I64 v,I64 p],I64 n,I64 e]:=by
 unfold nxR;split
 ·exact⟨_,_,_,_,_,_,rfl⟩
 ·exact⟨_,_,_,_,_,_,rfl⟩
def D3j:Blk:=⟨0,true,[I64 0,.str [],I64 0,I64 0]⟩
def quR(i:Nat):Option (List UInt8 × Nat)->DV
 |none=>Y7 48 i
 |some x=>if 32<x.1.length then Y7 9 i else .tup [.agg [I64 4,.str x.1,I64 0,I64 i],I64 (x.2:Int),I64 0]
theorem E0i(i:Nat)(q:Option (List UInt8 × Nat)):(quR i q).nl=true:=by
 cases q with
 |none=>rfl
 |some x=>simp only[quR];split<;>rfl
theorem C9n{s:List UInt8}{i:Nat}{c:UInt8}(h:s[i]? = some c)(h1:ltB c=false)(h2:dgB c=false)(h3:c.toNat=34):quR i (quA [] (i+1) (quM (s.drop (i+1))))=nxR (C3 (s.drop i)) i:=by
 rw[O7 h,C3,if_neg (by rw[h1];simp),if_neg (by rw[h2];simp),if_pos h3]
 grind[quA,quR,A6e,B0w,okN]
theorem A9g{X:Hp}{o:Option Nat}{c:Nat}{b b2 b3 b3':Blk}(hX:∀j q,X j=some q->j<c)(ho:∀i,o=some i->X i=none)(h:b3=b3'):
  Sub (optH X (some (c+1)) b3) ((delO ((optH X o b).upd c b2) o).upd (c+1) b3'):=by
 subst h;intro j q hj;simp only[optH]at hj
 grind[A0,h_ne,A9,A8]
theorem A9d{b:Blk}{c j:Nat}{q:Blk}(hc:1<=c)(h:(Sym.nil.upd 0 b) j=some q):j<c:=by
 by_cases e:j=0
 ·omega
 ·rw[h_ne e]at h;cases h
theorem A9c{b:Blk}{i:Nat}(h:¬i=0):(Sym.nil.upd 0 b) i=none:=by rw[h_ne h];rfl
def T4:List (List UInt8):=[[60,61],[62,61],[61,61],[33,61],[38,38],[124,124],[123],[125],[40],[41],[59],[44],[61],[43],[45],[42],[47],[37],[33],[60],[62]]
theorem C9b:∀k:Nat,k<6->∃a b,T4.getD k []=[a,b]/\C8g a b=true:=by
 intro k hk;have:∀k:Nat,k<6->(match T4.getD k [] with |[a,b]=>C8g a b|_=>false)=true:=r9
 grind
theorem C9c:∀k:Nat,6<=k->k<21->∃a,T4.getD k []=[a]/\B2t a=true:=by
 intro k h6 hk;have:∀k:Nat,k<21->6<=k->(match T4.getD k [] with |[a]=>B2t a|_=>false)=true:=r9
 grind
theorem C8f{c d:UInt8}(h:C8g c d=true):∃k,k<6/\T4.getD k []=[c,d]:=by
 rw[C2r]at h;simp only[A1J,A1T]at h;rcases h with ((((h|h)|h)|h)|h)|h
 ·exact⟨0,b8,h.symm⟩
 ·exact⟨1,b8,h.symm⟩
 ·exact⟨2,b8,h.symm⟩
 ·exact⟨3,b8,h.symm⟩
 ·exact⟨4,b8,h.symm⟩
 ·exact⟨5,b8,h.symm⟩
theorem E0q{c:UInt8}(h:B2t c=true):∃k,6<=k/\k<21/\T4.getD k []=[c]:=by
 have key:∀n:Nat,n<256->B2t (UInt8.ofNat n)=true->∃k,k<21/\6<=k/\T4.getD k []=[UInt8.ofNat n]:=by decide +kernel
 obtain⟨k,h1,h2,h3⟩:=key c.toNat c.toNat_lt (by rw[UInt8.ofNat_toNat];exact h)<;>grind[UInt8.ofNat_toNat]
def A7j(l s:List UInt8):Bool:=decide (l.length<=s.length)&&(s.take l.length==l)
theorem C5w{s:List UInt8}{k:Nat}(hk:k<21)(hno:∀j,j<k->A7j (T4.getD j []) s=false)(h:A7j (T4.getD k []) s=true):L0 s=(T4.getD k []).length/\(T4.getD k [])=s.take (T4.getD k []).length:=by
 simp only[A7j,A0F,A0Q,A1T]at h;refine⟨?_,h.2.symm⟩;by_cases h6:k<6
 ·obtain⟨a,b,e,ht⟩:=C9b k h6;rw[e]at h ⊢
  match s,h with
  |[],h=>grind
  |[x],h=>grind
  |x::y::r,h =>
   grind[L0]
 ·obtain⟨a,e,ho⟩:=C9c k (by omega) hk;rw[e]at h ⊢
  match s,h with
  |[],h=>grind
  |[x],h =>
   grind[L0]
  |x::y::r,h =>
   grind[C8f,A7j,L0]
theorem C9a{s:List UInt8}(hno:∀j,j<21->A7j (T4.getD j []) s=false):L0 s=0:=by
 have h1:∀x r,s=x::r->B2t x=false:=by
  grind[E0q,A7j]
 match s,hno,h1 with
 |[],_,_=>rfl
 |[x],_,h1=>grind[L0]
 |x::y::r,hno,h1 =>
  grind[C8f,A7j,L0]
def T0:Tok:=⟨0,[],0,0⟩
theorem D7y{g:Bool}{a b d a' b' d':Int}{s t:List UInt8}:B1t g [0,2,0,0] (.agg [I64 a,.str s,I64 b,I64 d]) (.agg [I64 a',.str t,I64 b',I64 d'])=some (.bool (g != (a==a'&&(s==t&&(b==b'&&d==d'))))):=by
 simp only[B1t,R1,A3t,if_true]
 grind
theorem B3h:∀(f:Nat) (s:List UInt8) (k:Nat) (acc:List Tok),acc.length<=k->k<=s.length->(M3 f s k acc).1.length<=s.length
 |0,s,k,acc,h1,h2=>by grind[M3]
 |f+1,s,k,acc,h1,h2=>by
  rw[M3];split
  ·grind
  ·split
   ·simp
   ·rename_i h3 h4;have h4:(C3 (s.drop k)).err=0:=by omega
    have hn:=A9p h4;rw[A1P]at hn;have hk:=A0f false (s.drop (k+(C3 (s.drop k)).n));rw[A1P]at hk;exact B3h f s _ _ (by grind) (by omega)
theorem C5z(s:List UInt8):(H4 s).1.length<=s.length:=by
 grind[H4,A0f,B3h]
def nxT(x:Nx)(p:Int):Tok:=⟨x.kind,x.text,x.value,p⟩
def B4o(s:List UInt8):Nat->List Tok->Prop
 |k,[]=>s.length<=k
 |k,t::l=>k<s.length/\(C3 (s.drop k)).err=0/\t=nxT (C3 (s.drop k)) (k:Int)/\B4o s (k+(C3 (s.drop k)).n+skM false (s.drop (k+(C3 (s.drop k)).n))) l
theorem A8n:∀(f:Nat) (s:List UInt8) (k:Nat) (acc:List Tok),s.length+1<=k+f->(M3 f s k acc).2.2=0->∃l,(M3 f s k acc).1=acc++l/\B4o s k l
 |0,s,k,acc,hf,h=>⟨[],by simp[M3],by show s.length<=k;omega⟩
 |f+1,s,k,acc,hf,h=>by
  rw[M3]at h ⊢;by_cases h1:s.length<=k
  ·rw[if_pos h1];exact⟨[],by simp,h1⟩
  ·rw[if_neg h1]at h ⊢;by_cases h2:(C3 (s.drop k)).err=0
   ·rw[if_neg (by simpa using h2)]at h ⊢;have hn:=A9p h2;obtain⟨l,e,hr⟩:=A8n f s _ _ (by omega) h;exact⟨_::l,by rw[e,A0O];rfl,b8,h2,rfl,hr⟩
   grind
theorem A8o{s:List UInt8}(h:(H4 s).2.2=0):s.length<=20000/\B4o s (skM false s) (H4 s).1:=by
 unfold H4 at h ⊢;by_cases h1:20000<s.length
 ·grind
 ·rw[if_neg h1]at h ⊢;have:=A0f false s;obtain⟨l,e,hr⟩:=A8n _ s _ [] (by omega) h<;>simp_all
def TOk(t:Tok):Prop:=∃s p,(C3 s).err=0/\t=nxT (C3 s) p
theorem B4o.ok{s:List UInt8}:∀ {k:Nat} {l:List Tok},B4o s k l->∀t∈l,TOk t
 |k,[],_,t,h=>m9
 |k,x::l,h,t,ht=>by
  rcases A1N.1 ht with rfl|ht
  ·exact⟨_,_,h.2.1,h.2.2.1⟩
  ·exact B4o.ok h.2.2.2 t ht
theorem B4y{s:List UInt8}(h:(H4 s).2.2=0):∀t∈(H4 s).1,TOk t:=(A8o h).2.ok
theorem B3g{p:UInt8->Bool}:∀(s:List UInt8),F3 p (s.take (F3 p s))=F3 p s
 |[]=>rfl
 |c::r=>by
  have ih:=B3g (p:=p) r;by_cases h:p c=true
  ·simp only[F3,h,if_true,A1A];rw[ih]
  simp_all[F3]
theorem B5d:∀ {s t:List UInt8} {n:Nat},quM s=some (t,n)->t.all txB=true
 |[],t,n,h=>l9
 |c::r,t,n,h=>by
  rw[A0h]at h;split at h
  ·grind
  ·split at h
   ·grind
   ·rename_i h34 hr;split at h
    ·cases r with
     |nil=>grind
     |cons d q =>
      simp only at h;split at h
      ·rename_i hd;obtain⟨⟨t',n'⟩,h1,h2⟩:=A0T.1 h;have:=B5d h1;cases h2;simp only[A2N,this,A2U,txB,A0F,A0Q];omega
      grind
    ·obtain⟨⟨t',n'⟩,h1,h2⟩:=A0T.1 h;have:=B5d h1;cases h2<;>simp_all[txB]
theorem C1e{s:List UInt8}{p:Int}(h:(C3 s).err=0):K6 (nxT (C3 s) p)/\0<=(C3 s).value/\(C3 s).value<=2147483647:=by
 unfold K6;cases s with
 |nil=>trivial
 |cons c q =>
  by_cases hl:ltB c=true
  ·by_cases h12:12<F3 ptB (c::q)
   ·simp_all[C3,nxE]
   ·rw[C3,if_pos hl,if_neg h12,nxT]
    simp_all[F3,ptB,T3,F6,B3g];omega
  ·by_cases hd:dgB c=true
   ·by_cases h3:1<F3 dgB (c::q)/\c.toNat=48
    ·simp_all[C3,nxE]
    ·by_cases h2:2147483647<S1 ((c::q).take (F3 dgB (c::q)))
     ·rw[C3,if_neg hl,if_pos hd,if_neg h3,if_pos h2]at h;simp[nxE]at h
     simp_all[C3,if_neg,nxT];omega
   ·by_cases h34:c.toNat=34
    ·cases hq:quM q with
     |none=>simp_all[C3,nxE]
     |some x =>
      obtain⟨t,m⟩:=x;by_cases h32:32<t.length
      ·simp_all[C3,nxE]
      ·rw[C3,if_neg hl,if_neg hd,if_pos h34,hq];simp only;rw[if_neg h32,nxT];refine⟨⟨λhk=>m9,λhk=>by simp,λhk=>?_⟩,by simp,by simp⟩;simp only[V6,B5d hq,A2A,A0Q];omega
    ·by_cases hs:L0 (c::q)=0
     ·rw[C3,if_neg hl,if_neg hd,if_neg h34,if_pos hs]at h;simp[nxE]at h
     simp_all[C3,nxT]
theorem TOk.good{t:Tok}(h:TOk t):K6 t/\0<=t.value/\t.value<=2147483647:=by
 obtain⟨s,p,h1,rfl⟩:=h;obtain⟨h2,h3⟩:=C1e (p:=p) h1
 trivial
theorem C0m{s:List UInt8}(h:(H4 s).2.2=0):∀t∈(H4 s).1,K6 t:=λt ht=>(B4y h t ht).good.1
theorem B7f{s:List UInt8}(h:(H4 s).2.2=0):∀t∈(H4 s).1,0<=t.value/\t.value<=9223372036854775807:=λt ht=>by
 have:=(B4y h t ht).good.2;omega
theorem B4z{s:List UInt8}(h:(H4 s).2.2=0):(H4 s).1.length<=20000:=A1B (C5z s) (A8o h).1
def rd0:Rd:=⟨0,0,0,0,0⟩
def X5(L:List Tok)(E:Int):Ru × Rd:=Classical.choose (C3f (L:=L) (E:=E) rd0)
theorem A7f(L:List Tok)(E:Int):Evt (λf=>A7e L E f rd0) (X5 L E):=Classical.choose_spec (C3f (L:=L) (E:=E) rd0)
def Ru0:Ru:=⟨[],[]⟩
def N6(s:List UInt8):Ru × Int × Int :=
 let q:=H4 s
 if q.2.2≠0 then(Ru0,q.2.1,q.2.2)
 else if okR (X5 q.1 s.length).2=false then(Ru0,(X5 q.1 s.length).2.pos,(X5 q.1 s.length).2.e)
 else((X5 q.1 s.length).1,0,0)
abbrev C0x(q:Ru × Int × Int):DV:=.tup [q.1.v,I64 q.2.1,I64 q.2.2]
theorem C3t(q:Ru × Int × Int):(C0x q).nl=true:=by
 simp[DV.nl,DV.nlL,K4,K3]
section
variable {L:List Tok} {E:Int}
theorem E2p(hG:∀t∈L,K6 t){k:Int}{s:Rd}:(R0 L E k s).1.sz<=13:=by
 grind[A4b,R0,Dc.sz]
theorem C2w{α:Type}(f : α->Nat)(l:List α)(x : α):((l++[x]).map f).sum=(l.map f).sum+f x:=by simp
theorem D0s(hG:∀t∈L,K6 t):∀(f:Nat) (l:List Hd) (s:Rd) (r:List Hd × Rd),R8 L E f l s=some r->(r.1.map Hd.sz).sum+45*s.i<=45*r.2.i+(l.map Hd.sz).sum
 |0,l,s,r,h=>l9
 |f+1,l,s,r,h=>by
  unfold R8 at h;dsimp only at h;split at h
  ·split at h
   ·cases h;show(l.map Hd.sz).sum+45*s.i<=45*(R6 L E s).i+_;rw[X3];omega
   ·have h1:(D3 L E s ((l.length:Int)+1) 32 9).i=s.i:=I5;generalize D3 L E s ((l.length:Int)+1) 32 9=s1 at h h1;split at h
    ·cases h;have h2:=H6 (L:=L) (E:=E) (s:=s1) (x:=[111,110]);show(l.map Hd.sz).sum+45*s.i<=45*(R6 L E (D9 L E s1 [111,110])).i+_;rw[X3];omega
    ·rename_i hk;obtain⟨hok,hi, -⟩:=I6 (show 0<=B8 L E (D9 L E s1 [111,110]) F1 by omega);have h3:(D9 L E s1 [111,110]).i=s1.i+1:=by rw[(A7w hok).2];rfl
     generalize D9 L E s1 [111,110]=s2 at h hk h3;have h4:=M1 (L:=L) (E:=E) (s:=A6 s2) (x:=1);have h5:=A4b (L:=L) (E:=E) hG (s:=A6 s2);have h6:(A6 s2).i=s2.i+1:=rfl;split at h
     ·cases h
     ·rename_i b s5 hb;have h7:=(SZ.all hG f).1 _ _ _ hb;have h8:=D0s hG f _ _ _ h;rw[C2w]at h8;have h9:s2.i+1<=(if 2<=B8 L E s2 F1 then(A7 L E (A6 s2) 1).2 else A6 s2).i:=by
       split
       ·omega
       ·omega
      have h10:(if 2<=B8 L E s2 F1 then(A7 L E (A6 s2) 1).1.text else []).length<=12:=by
       split
       ·exact h5
       ·exact A0N _
      have h11:Hd.sz ⟨1+B8 L E s2 F1,if 2<=B8 L E s2 F1 then(A7 L E (A6 s2) 1).1.text else [],b,(A4 L E s1).pos⟩<=13+St.szs b:=by
       unfold Hd.sz;dsimp only;omega
      dsimp only at h7 h8;omega
  grind[H6]
theorem E1b(hG:∀t∈L,K6 t){f:Nat}{s:Rd}{r:Md × Rd}(h:A3h L E f s=some r)(hm:isR L E s [109,111,100,101]=true):r.1.sz+45*s.i<=45*r.2.i:=by
 unfold A3h at h;dsimp only at h;split at h
 ·grind
 ·rename_i l s3 hml;cases h;have h1:=D0s hG _ _ _ _ hml;have h2:(D9 L E s [109,111,100,101]).i=s.i+1:=by unfold D9;rw[if_neg (by rw[hm];decide)];rfl
  grind[A4b,M1,H6,Md.sz]
theorem C0p(hG:∀t∈L,K6 t):∀(f:Nat) (l:List Dc) (s:Rd) (r:List Dc × Rd),T5 L E f l s=some r->(r.1.map Dc.sz).sum+45*s.i<=45*r.2.i+(l.map Dc.sz).sum
 |0,l,s,r,h=>l9
 |f+1,l,s,r,h=>by
  unfold T5 at h;dsimp only at h;split at h
  ·grind
  ·have h1:(D3 L E s ((l.length:Int)+1) 128 9).i=s.i:=I5;split at h
   ·have h2:=C0p hG f _ _ _ h
    grind[E2p,D2x]
   ·have h2:=C0p hG f _ _ _ h;omega
theorem C0o(hG:∀t∈L,K6 t):∀(f:Nat) (l:List Md) (s:Rd) (r:List Md × Rd),R7 L E f l s=some r->(r.1.map Md.sz).sum+45*s.i<=45*r.2.i+(l.map Md.sz).sum
 |0,l,s,r,h=>l9
 |f+1,l,s,r,h=>by
  unfold R7 at h;dsimp only at h;split at h
  ·split at h
   ·cases h;show(l.map Md.sz).sum+45*s.i<=45*(R6 L E s).i+_;rw[X3];omega
   ·rename_i hm;have hm:isR L E s [109,111,100,101]=true:=by simpa using hm
    split at h
    ·rename_i hl;have e0:=(J2 (by decide) hl).2.2;rw[e0]at h;split at h
     ·cases h
     ·rename_i m s2 hmd;have h1:=E1b hG hmd hm;have h2:=C0o hG f _ _ _ h;rw[C2w]at h2;dsimp only at h1;omega
    ·have h1:(D3 L E s ((l.length:Int)+1) 16 9).i=s.i:=I5;have h2:=C0o hG f _ _ _ h;omega
  grind
theorem D9l(hG:∀t∈L,K6 t){f:Nat}{s:Rd}{r:Ru × Rd}(h:A7e L E f s=some r)(hi:s.i<=L.length):r.1.sz<=45*L.length:=by
 unfold A7e at h;split at h
 ·grind
 ·rename_i d s1 hd;split at h
  ·grind
  ·rename_i m s2 hm;cases h;have h1:=C0p hG _ _ _ _ hd;have h2:=C0o hG _ _ _ _ hm;have h3:=C9e _ _ _ _ hm (C9f _ _ _ _ hd hi)
   grind[Ru.sz]
end
theorem C3g{L:List Tok}{E:Int}(hG:∀t∈L,K6 t):(X5 L E).1.sz<=45*L.length:=by
 obtain⟨f,hf⟩:=(A7f L E).get;exact D9l hG hf (A0N _)
theorem B5h(s:List UInt8):(N6 s).1.sz<=900000:=by
 unfold N6;dsimp only;split
 ·show 0+0<=_;omega
 ·rename_i h;have h:(H4 s).2.2=0:=by simpa using h
  have h1:=B4z h;split
  ·show 0+0<=_;omega
  grind[C3g,C0m]
mutual
theorem Ex.plain_sz:∀e:Ex,e.plain.sz=e.sz
 |.mk k v n a p=>by rw[Ex.plain,Ex.sz,Ex.sz,Ex.plains_sz a]
theorem Ex.plains_sz:∀l:List Ex,Ex.szs (Ex.plains l)=Ex.szs l
 |[]=>rfl
 |e::l=>by rw[Ex.plains,Ex.szs,Ex.szs,Ex.plain_sz e,Ex.plains_sz l]
end
mutual
theorem St.plain_sz:∀e:St,e.plain.sz=e.sz
 |.mk k n t a x y p=>by rw[St.plain,St.sz,St.sz,Ex.plains_sz a,St.plains_sz x,St.plains_sz y]
theorem St.plains_sz:∀l:List St,St.szs (St.plains l)=St.szs l
 |[]=>rfl
 |e::l=>by rw[St.plains,St.szs,St.szs,St.plain_sz e,St.plains_sz l]
end
theorem Md.plain_sz(m:Md):m.plain.sz=m.sz:=by
 grind[Md.sz,Md.plain,List.map_congr_left,Hd.sz,Hd.plain,St.plains_sz]
theorem Ru.plain_sz(r:Ru):r.plain.sz=r.sz:=by
 unfold Ru.sz Ru.plain;dsimp only;rw[A3U,A3U]
 congr 2
 grind[List.map_congr_left,Md.plain_sz]
def C5r(r:Ru):Bool:=okR (X5 (ruT r) 0).2 && @decide ((X5 (ruT r) 0).1.plain=r.plain) (Classical.propDecidable _)
def V8(t:Tok):Bool:=t.kind==5||t.kind==2
def ixA:Nat->List (List UInt8)->List UInt8->Int
 |_,[],_ => -1
 |k,t::l,x=>if x==t then(k:Int) else ixA (k+1) l x
def amT(t:Tok)(l:List (List UInt8)):Int:=if V8 t=true then ixA 0 l t.text else -1
def hd0(E:Int)(ts:List Tok):Tok:=ts.headD ⟨0,[],0,E⟩
def Z3(t:Tok):Int:=if amT t D2<0 then 0 else B9 (12+amT t D2)
abbrev lvo(E:Int)(ts:List Tok):Int:=Z3 (hd0 E ts)
section
variable {L:List Tok} {E:Int}
theorem A9n(s:Rd):A4 L E s=hd0 E (L.drop s.i):=by
 grind[A4,hd0,List.head?_drop]
theorem F0{s:Rd}{t:Tok}{ts:List Tok}(h:L.drop s.i=t::ts):A4 L E s=t:=by rw[A9n,h];rfl
theorem H7{s:Rd}{t:Tok}{ts:List Tok}(h:L.drop s.i=t::ts):L.drop (s.i+1)=ts:=by
 rw[<- A3T,h];rfl
theorem J3{i:Nat}{a b:List Tok}(h:L.drop i=a++b):L.drop (i+a.length)=b:=by
 grind[List.drop_drop,List.drop_left]
theorem D8c{s:Rd}(hok:okR s=true):∀(l:List (List UInt8)) (k:Nat),A0q L E s k l=if V8 (A4 L E s)=true then ixA k l (A4 L E s).text else -1
 |[],k=>by simp[A0q,ixA]
 |t::l,k=>by
  have ih:=D8c hok l (k+1);have hi:isR L E s t=(V8 (A4 L E s)&&(A4 L E s).text==t):=by unfold isR V8;rw[hok,A2A]
  rw[A0q,ixA,ih,hi]
  grind
theorem Y8{s:Rd}(hok:okR s=true)(l:List (List UInt8)):B8 L E s l=amT (A4 L E s) l:=D8c hok l 0
theorem A4s{s:Rd}(hok:okR s=true)(t:List UInt8):isR L E s t=(V8 (A4 L E s)&&(A4 L E s).text==t):=by simp_all[isR,V8]
theorem B3w{s:Rd}(hok:okR s=true)(k:Int):I9 L E s k=((A4 L E s).kind==k):=by simp_all[I9]
theorem D7w{s:Rd}{t:List UInt8}(hok:okR s=true)(h1:V8 (A4 L E s)=true)(h2:(A4 L E s).text=t):D9 L E s t=A6 s:=by
 simp_all[D9,A4s]
theorem B4v{s:Rd}{k:Int}(hok:okR s=true)(h1:(A4 L E s).kind=k):A7 L E s k=(A4 L E s,A6 s):=by
 simp_all[A7,B3w]
def adv(s:Rd)(k:Nat)(o:Nat):Rd:={ s with i:=s.i+k,ops:=s.ops+(o:Int) }
theorem A3w{s:Rd}{k o:Nat}(h:okR s=true):okR (adv s k o)=true:=h
theorem A0l{n:Int}{e:Ex}{s:Rd}(hok:okR s=true)(hn:1<=n)(h:lvo E (L.drop s.i)≠n):Lop L E n e s (e,s):=by
 refine Lop.stop ?_
 simp_all[Y8,A9n,Z3];omega
theorem B2h{s s1:Rd}{e:Ex}(hok:okR s1=true):∀(j:Nat) {m n:Int} {r:Ex × Rd},m-n<=j->Bin L E m s (e,s1)->1<=n->n<m->m<=6->lvo E (L.drop s1.i)<=n->Lop L E n e s1 r->Bin L E n s r
 |0,m,n,r,hj,h,h1,h2,h3,h4,hr=>b8
 |j+1,m,n,r,hj,h,h1,h2,h3,h4,hr=>by
  by_cases he:n+1=m
  ·exact Bin.go (by omega) (by grind) hr
  ·refine Bin.go (by omega) ?_ hr;exact B2h hok j (m:=m) (n:=n+1) (by omega) h (by omega) (by omega) h3 (by omega) (A0l hok (by omega) (by omega))
theorem B4q{s s1:Rd}{e:Ex}{n:Int}{r:Ex × Rd}(hok:okR s1=true)(h:Un L E s (e,s1))(h1:1<=n)(h2:n<=5)(h4:lvo E (L.drop s1.i)<=n)(hr:Lop L E n e s1 r):Bin L E n s r :=
 B2h hok 6 (m:=6) (by omega) (Bin.un (by simp) h) h1 (by omega) (by omega) h4 hr
theorem D8r{s s1:Rd}{e:Ex}{n:Int}(hok:okR s1=true)(h:Un L E s (e,s1))(h1:1<=n)(h2:n<=5)(h4:lvo E (L.drop s1.i)<n):Bin L E n s (e,s1) :=
 B4q hok h h1 h2 (by omega) (A0l hok h1 (by omega))
theorem C5j{t:Tok}(l:List (List UInt8))(h:V8 t=false):amT t l = -1:=by simp_all[amT]
theorem C9w{s:Rd}{v:Int}{ts:List Tok}(hok:okR s=true)(h:L.drop s.i=⟨3,[],v,0⟩::ts)(ho:s.ops+1<=32):Un L E s (.mk 1 v [] [] 0,adv s 1 1):=by
 have hp:=F0 (E:=E) h;have ha:∀l,B8 L E s l = -1:=λl=>by rw[Y8 hok,hp];exact C5j l rfl
 have h1:=Un.prim (L:=L) (E:=E) (s:=s) (by rw[ha];decide);have h2:I7 L E s=(.mk 1 v [] [] 0,adv s 1 1):=by
  unfold I7;dsimp only;rw[ha,hp,B3w hok,B3w hok,hp,if_neg (by simp),show D3 L E { s with ops:=s.ops+1 } (s.ops+1) 32 9 = { s with ops:=s.ops+1 } from if_neg (by omega),if_neg (by show ¬okR s=false;rw[hok];decide),if_neg (by decide),if_pos rfl];rfl
 grind
theorem C9v{s:Rd}{n:List UInt8}{ts:List Tok}(hok:okR s=true)(h:L.drop s.i=⟨1,n,0,0⟩::ts)(ho:s.ops+1<=32):Un L E s (.mk 2 0 n [] 0,adv s 1 1):=by
 have hp:=F0 (E:=E) h;have ha:∀l,B8 L E s l = -1:=λl=>by rw[Y8 hok,hp];exact C5j l rfl
 have h1:=Un.prim (L:=L) (E:=E) (s:=s) (by rw[ha];decide);have h2:I7 L E s=(.mk 2 0 n [] 0,adv s 1 1):=by
  unfold I7;dsimp only;rw[ha,hp,B3w hok,B3w hok,hp,if_neg (by simp),show D3 L E { s with ops:=s.ops+1 } (s.ops+1) 32 9 = { s with ops:=s.ops+1 } from if_neg (by omega),if_neg (by show ¬okR s=false;rw[hok];decide),if_neg (by decide),if_neg (by show ¬(1:Int)=3;decide)];rfl
 grind
theorem A4d{s:Rd}{w:List UInt8}{ts:List Tok}{j:Nat}(hok:okR s=true)(h:L.drop s.i=A5 w::ts)(ho:s.ops+1<=32)(hj:j<4)(hi:amT (A5 w) K7=(j:Int))(hpre:amT (A5 w) O9<0):
  Un L E s (.mk (V9.getD j 0) 0 [] [] 0,adv s 1 1):=by
 have hp:=F0 (E:=E) h;have h1:=Un.prim (L:=L) (E:=E) (s:=s) (by rw[Y8 hok,hp];exact hpre);have ha:B8 L E s K7=(j:Int):=by rw[Y8 hok,hp];exact hi
 have h2:I7 L E s=(.mk (V9.getD j 0) 0 [] [] 0,adv s 1 1):=by
  unfold I7;dsimp only;rw[ha,hp,if_neg (by omega),show D3 L E { s with ops:=s.ops+1 } (s.ops+1) 32 9 = { s with ops:=s.ops+1 } from if_neg (by omega),if_neg (by show ¬okR s=false;rw[hok];decide),if_pos (by omega),if_neg (by omega)];rfl
 grind
theorem A7i{s:Rd}{w n:List UInt8}{ts:List Tok}{j:Nat}(hok:okR s=true)(h:L.drop s.i=A5 w::⟨1,n,0,0⟩::ts)(ho:s.ops+1<=32)(hj4:4<=j)(hj:j<7)(hi:amT (A5 w) K7=(j:Int))(hpre:amT (A5 w) O9<0):
  Un L E s (.mk (V9.getD j 0) 0 n [] 0,adv s 2 1):=by
 have hp:=F0 (E:=E) h;have hd:=H7 h;have h1:=Un.prim (L:=L) (E:=E) (s:=s) (by rw[Y8 hok,hp];exact hpre);have ha:B8 L E s K7=(j:Int):=by rw[Y8 hok,hp];exact hi
 have hp2:A4 L E (A6 { s with ops:=s.ops+1 })=⟨1,n,0,0⟩:=F0 hd;have ht:A7 L E (A6 { s with ops:=s.ops+1 }) 1=(⟨1,n,0,0⟩,A6 (A6 { s with ops:=s.ops+1 })):=by
  rw[B4v (show okR (A6 { s with ops:=s.ops+1 })=true from hok) (by rw[hp2]),hp2]
 have h2:I7 L E s=(.mk (V9.getD j 0) 0 n [] 0,adv s 2 1):=by
  unfold I7;dsimp only;rw[ha,hp,if_neg (by omega),show D3 L E { s with ops:=s.ops+1 } (s.ops+1) 32 9 = { s with ops:=s.ops+1 } from if_neg (by omega),if_neg (by show ¬okR s=false;rw[hok];decide),if_pos (by omega),if_pos (by omega),ht];rfl
 grind
def CE(L:List Tok)(E:Int)(e:Ex):Prop:=∀o d,msM e=some (o,d)->∀(s:Rd) (post:List Tok),L.drop s.i=exT e++post->okR s=true->s.ops+(o:Int)<=32->s.par+(d:Int)<=16 ->
 ∃e',e'.plain=e.plain/\(6<=B9 e.kind->Un L E s (e',adv s (exT e).length o)) /\
  (∀n,1<=n->n<=5->n<=B9 e.kind->lvo E post<=n->(n=3->lvo E post≠3)->∀r,Lop L E n e' (adv s (exT e).length o) r->Bin L E n s r)
theorem E3c:amT (A5 [40]) O9=2:=by rfl
theorem D3o:amT (A5 [45]) O9=0:=by rfl
theorem D7b:amT (A5 [33]) O9=1:=by rfl
theorem C4h:Z3 (A5 [41])=0:=by rfl
theorem D4k:V8 (A5 [41])=true:=by rfl
theorem A5i{s:Rd}{n m e:Int}(h:n<=m):D3 L E s n m e=s:=if_neg (by omega)
theorem D7n{x:Ex}(hx:CE L E x){o d:Nat}(hm:msM x=some (o,d)){s:Rd}{post:List Tok}(h:L.drop s.i=[A5 [40]]++exT x++[A5 [41]]++post)(hok:okR s=true)(ho:s.ops+(o:Int)<=32)(hp:s.par+((d+1:Nat):Int)<=16):
  ∃x',x'.plain=x.plain/\Un L E s (x',adv s ([A5 [40]]++exT x++[A5 [41]]).length o):=by
 have h0:L.drop s.i=A5 [40]::(exT x++([A5 [41]]++post)):=by rw[h];simp
 have h1:=H7 h0;have hpk:=F0 (E:=E) h0;obtain⟨x',e1, -,e3⟩:=hx o d hm { s with i:=s.i+1,par:=s.par+1 } ([A5 [41]]++post) h1 hok ho (by show s.par+1+(d:Int)<=16;omega);have hd2:L.drop (s.i+1+(exT x).length)=A5 [41]::post:=J3 h1;have hb:=e3 1 (by decide) (by decide) (by have:=A0d x.kind;omega) (by show Z3 (A5 [41])<=1;rw[C4h];decide) (λh=>absurd h (by decide)) _ (A0l (show okR s=true from hok) (by decide) (by show Z3 (hd0 E (L.drop (s.i+1+(exT x).length)))≠1;rw[hd2];show Z3 (A5 [41])≠1;rw[C4h];decide));have hu:=Un.par (by rw[Y8 hok,hpk];exact E3c) (by rw[A5i (by omega)];exact hok) hb;refine⟨x',e1,?_⟩;have hpk2:A4 L E (adv { s with i:=s.i+1,par:=s.par+1 } (exT x).length o)=A5 [41]:=F0 hd2;rw[D7w (show okR (adv { s with i:=s.i+1,par:=s.par+1 } (exT x).length o)=true from hok) (by rw[hpk2];exact D4k) (by rw[hpk2];rfl)]at hu;have e4:({ A6 (adv { s with i:=s.i+1,par:=s.par+1 } (exT x).length o) with par:=(A6 (adv { s with i:=s.i+1,par:=s.par+1 } (exT x).length o)).par-1 }:Rd)=adv s ([A5 [40]]++exT x++[A5 [41]]).length o:=by
  have a1:s.i+1+(exT x).length+1=s.i+([A5 [40]]++exT x++[A5 [41]]).length:=a8
  have a2:s.par+1-1=s.par:=b8
  show Rd.mk (s.i+1+(exT x).length+1) s.e s.pos (s.ops+(o:Int)) (s.par+1-1)=Rd.mk (s.i+([A5 [40]]++exT x++[A5 [41]]).length) s.e s.pos (s.ops+(o:Int)) s.par;rw[a1,a2]
 grind
theorem B5k{x:Ex}(hx:CE L E x){o d:Nat}{least:Int}(hm:msM x=some (o,d)){s:Rd}{post:List Tok}(h:L.drop s.i=H9 (x.kind,exT x) least++post)(hok:okR s=true)(ho:s.ops+(o:Int)<=32)(hp:s.par+((if B9 x.kind<least then d+1 else d:Nat):Int)<=16)(h1:1<=least)(h6:least<=6)(hl:lvo E post<least):
  ∃x',x'.plain=x.plain/\(least<=5->Bin L E least s (x',adv s (H9 (x.kind,exT x) least).length o))/\(least=6->Un L E s (x',adv s (H9 (x.kind,exT x) least).length o)):=by
 have hdp:=J3 h;unfold H9 at h hdp ⊢;dsimp only at h hdp ⊢;by_cases hlt:B9 x.kind<least
 ·rw[if_pos hlt]at h hp hdp ⊢;obtain⟨x',e1,e2⟩:=D7n hx hm h hok ho hp;exact⟨x',e1,λh5=>D8r (A3w hok) e2 h1 h5 (by show lvo E (L.drop (s.i+_))<least;grind),λ_=>e2⟩
 ·rw[if_neg hlt]at h hp hdp ⊢;obtain⟨x',e1,e2,e3⟩:=hx o d hm s post h hok ho hp;refine⟨x',e1,λh5=>?_,λh=>e2 (by omega)⟩;refine e3 least h1 h5 (by omega) (by omega) (by omega) _ (A0l (A3w hok) h1 ?_);show lvo E (L.drop (s.i+_))≠least
  grind
theorem D5r{x:Ex}(hx:CE L E x){o d:Nat}{q:Int}(hm:msM x=some (o,d)){s:Rd}{post:List Tok}(h:L.drop s.i=H9 (x.kind,exT x) (if q=3 then 4 else q)++post)(hok:okR s=true)(ho:s.ops+(o:Int)<=32)(hp:s.par+((if B9 x.kind<(if q=3 then 4 else q) then d+1 else d:Nat):Int)<=16)(h1:1<=q)(h5:q<=5)(hl:lvo E post=q):
  ∃x',x'.plain=x.plain/\∀r,Lop L E q x' (adv s (H9 (x.kind,exT x) (if q=3 then 4 else q)).length o) r->Bin L E q s r:=by
 have hdp:=J3 h;by_cases h3:q=3
 ·subst h3;rw[if_pos rfl]at h hp hdp ⊢;obtain⟨x',e1,e2, -⟩:=B5k hx hm h hok ho hp (by simp) (by simp) (by omega);exact⟨x',e1,λr hr=>Bin.go (by simp) (e2 (by simp)) hr⟩
 ·rw[if_neg h3]at h hp hdp ⊢;unfold H9 at h hdp ⊢;dsimp only at h hdp ⊢;by_cases hlt:B9 x.kind<q
  ·rw[if_pos hlt]at h hp hdp ⊢;obtain⟨x',e1,e2⟩:=D7n hx hm h hok ho hp;exact⟨x',e1,λr hr=>B4q (A3w hok) e2 h1 h5 (by show lvo E (L.drop (s.i+_))<=q;grind) hr⟩
  ·rw[if_neg hlt]at h hp hdp ⊢;obtain⟨x',e1,e2,e3⟩:=hx o d hm s post h hok ho hp<;>grind
theorem B1a{k v:Int}{n:List UInt8}{a:List Ex}{p:Int}{o d:Nat}(h:msM (.mk k v n a p)=some (o,d)):
  kOk k=true/\a.length=M9 k/\A7m k n=true/\A5r k v=true/\(M9 k=0->o=1/\d=0)/\(M9 k≠0->∃d',msL k 0 a=some (o,d')/\d=if M9 k=1 then d'+1 else d'):=by
 unfold msM at h
 grind
theorem C8z:∀j:Nat,j<13->amT (A5 (D2.getD j [])) D2=(j:Int)/\V8 (A5 (D2.getD j []))=true:=l9
theorem nm0{k:Int}{n:List UInt8}(h:A7m k n=true)(h2:k≠2)(h5:B8c k=false):n=[]:=by
 simp_all[A7m]
theorem vl0{k v:Int}(h:A5r k v=true)(h1:k≠1):v=0:=by
 simp_all[A5r]
theorem C4n{α:Type}{l:List α}(h:l.length=2):∃x y,l=[x,y]:=by
 match l,h with
 |[x,y],_=>simp
theorem B8v:∀(m:Nat) (e:Ex),e.sz<m->CE L E e:=by
 intro m
 induction m with
 |zero=>omega
 |succ m ih =>
 intro e hm o d hms s post h hok ho hp;cases e with|mk k v n a p =>
 obtain⟨h1,h2,h3,h4,h5,h6⟩:=B1a hms;have hlr:=A0d k
 have viaUn:∀e':Ex,e'.plain=(Ex.mk k v n a p).plain->Un L E s (e',adv s (exT (.mk k v n a p)).length o) ->
   ∃e',e'.plain=(Ex.mk k v n a p).plain/\(6<=B9 k->Un L E s (e',adv s (exT (.mk k v n a p)).length o)) /\
    (∀n',1<=n'->n'<=5->n'<=B9 k->lvo E post<=n'->(n'=3->lvo E post≠3)->∀r,Lop L E n' e' (adv s (exT (.mk k v n a p)).length o) r->Bin L E n' s r):=λe' he hu =>
  ⟨e',he,λ_=>hu,λn' q1 q2 _ q4 _ r hr=>B4q (A3w hok) hu q1 q2 (by show lvo E (L.drop (s.i+_))<=n';grind[J3]) hr⟩
 by_cases hc0:M9 k=0
 ·obtain⟨rfl,rfl⟩:=h5 hc0;have ha:a=[]:=A1Z (by omega);subst ha;have hl7:B9 k=7:=by
   grind[M9]
  have hk9:1<=k/\k<=9:=by
   unfold kOk at h1;simp only[A1J,A0F,A0Q]at h1;have hk24:1<=k/\k<=24:=b8
   refine⟨hk24.1,?_⟩;apply Classical.byContradiction
   grind[B9]
  refine(show ∃e',_ from ?_);have hT:exT (.mk k v n [] p)=N7 k v n []:=by rfl
  rw[hT]at h viaUn ⊢;have ho1:s.ops+1<=32:=ho;have:k=1\/k=2\/k=3\/k=4\/k=5\/k=6\/k=7\/k=8\/k=9:=b8
  rcases this with rfl|rfl|rfl|rfl|rfl|rfl|rfl|rfl|rfl
  ·have hn:=nm0 h3 (by simp) (by rfl);subst hn;have hv:¬(v<0\/2147483647<v):=by
    simp_all[A5r];omega
   have hb:N7 1 v [] []=[⟨3,[],v,0⟩]:=by simp_all[N7,X7,if_neg]
   rw[hb]at h viaUn ⊢;exact viaUn (.mk 1 v [] [] 0) rfl (C9w hok h ho1)
  ·have hv:=vl0 h4 (by simp);subst hv;have hn:F6 n=true:=h3;have hb:N7 2 0 n []=[⟨1,n,0,0⟩]:=by simp_all[N7,F7]
   rw[hb]at h viaUn ⊢;exact viaUn (.mk 2 0 n [] 0) rfl (C9v hok h ho1)
  ·have hv:=vl0 h4 (by simp);have hn:=nm0 h3 (by simp) (by rfl);subst hv hn;have hb:N7 3 0 [] []=[A5 [116,114,117,101]]:=rfl;rw[hb]at h viaUn ⊢;exact viaUn (.mk 3 0 [] [] 0) rfl (A4d (j:=0) hok h ho1 (by simp) (by rfl) (by trivial))
  ·have hv:=vl0 h4 (by simp);have hn:=nm0 h3 (by simp) (by rfl);subst hv hn;have hb:N7 4 0 [] []=[A5 [102,97,108,115,101]]:=rfl;rw[hb]at h viaUn ⊢;exact viaUn (.mk 4 0 [] [] 0) rfl (A4d (j:=1) hok h ho1 (by simp) (by rfl) (by trivial))
  ·have hv:=vl0 h4 (by simp);subst hv;have hn:F6 n=true:=h3;have hb:N7 5 0 n []=[A5 [99,108,111,115,101,100],⟨1,n,0,0⟩]:=by
    show [A5 [99,108,111,115,101,100]]++F7 n=_
    simp_all[F7]
   rw[hb]at h viaUn ⊢;exact viaUn (.mk 5 0 n [] 0) rfl (A7i (j:=4) hok h ho1 (by simp) (by simp) (by rfl) (by trivial))
  ·have hv:=vl0 h4 (by simp);subst hv;have hn:F6 n=true:=h3;have hb:N7 6 0 n []=[A5 [97,99,116,105,118,101],⟨1,n,0,0⟩]:=by
    show [A5 [97,99,116,105,118,101]]++F7 n=_
    simp_all[F7]
   rw[hb]at h viaUn ⊢;exact viaUn (.mk 6 0 n [] 0) rfl (A7i (j:=5) hok h ho1 (by simp) (by simp) (by rfl) (by trivial))
  ·have hv:=vl0 h4 (by simp);subst hv;have hn:F6 n=true:=h3;have hb:N7 7 0 n []=[A5 [108,101,102,116],⟨1,n,0,0⟩]:=by
    show [A5 [108,101,102,116]]++F7 n=_
    simp_all[F7]
   rw[hb]at h viaUn ⊢;exact viaUn (.mk 7 0 n [] 0) rfl (A7i (j:=6) hok h ho1 (by simp) (by simp) (by rfl) (by trivial))
  ·have hv:=vl0 h4 (by simp);have hn:=nm0 h3 (by simp) (by rfl);subst hv hn;have hb:N7 8 0 [] []=[A5 [112,108,97,121,101,114]]:=rfl;rw[hb]at h viaUn ⊢;exact viaUn (.mk 8 0 [] [] 0) rfl (A4d (j:=2) hok h ho1 (by simp) (by rfl) (by trivial))
  ·have hv:=vl0 h4 (by simp);have hn:=nm0 h3 (by simp) (by rfl);subst hv hn;have hb:N7 9 0 [] []=[A5 [98,97,108,108]]:=rfl;rw[hb]at h viaUn ⊢;exact viaUn (.mk 9 0 [] [] 0) rfl (A4d (j:=3) hok h ho1 (by simp) (by rfl) (by trivial))
 obtain⟨d',hl,hd'⟩:=h6 hc0;clear h5 h6;have hv:=vl0 h4 (by rintro rfl;trivial);have hn:=nm0 h3 (by rintro rfl;trivial) (by
  cases hz:B8c k with
  |false=>rfl
  |true =>
   unfold B8c at hz;simp only[A1J,A1T]at hz;rcases hz with rfl|rfl|rfl<;>exact absurd rfl hc0)
 subst hv hn;by_cases hl6:B9 k=6
 ·
  have hk:k=10\/k=11:=by
   grind[B9]
  have hc1:M9 k=1:=by simp_all[M9]
  rw[hc1]at h2 hd';rw[if_pos rfl]at hd';obtain⟨x,rfl⟩:∃x,a=[x]:=List.length_eq_one_iff.1 h2;have hxc:=ih x (by grind[Ex.sz,Ex.szs]);unfold msL at hl;cases hx:msM x with
  |none=>grind
  |some q =>
   obtain⟨o1,d1⟩:=q;rw[hx]at hl;dsimp only at hl;unfold msL at hl;dsimp only at hl;simp only[Option.some.injEq,Prod.mk.injEq,A3B,Nat.max_zero]at hl;obtain⟨rfl,hd1⟩:=hl;have hwr:A1h k x.kind 0=decide (B9 x.kind<6):=by
    unfold A1h;rw[hl6];simp
   rw[hwr]at hd1;have hT:exT (.mk k 0 [] [x] p)=[A5 (if k=10 then [45] else [33])]++H9 (x.kind,exT x) 6:=by
    rw[exT,B1r,B1r];rcases hk with rfl|rfl<;>rfl
   rw[hT]at h viaUn ⊢;have h0:L.drop s.i=A5 (if k=10 then [45] else [33])::(H9 (x.kind,exT x) 6++post):=by rw[h];simp
   have hdn:=H7 h0;have hpk:=F0 (E:=E) h0;have ham:B8 L E s O9=k-10:=by
    rw[Y8 hok,hpk];rcases hk with rfl|rfl
    ·exact D3o
    ·exact D7b
   have hlt6:lvo E post<6:=by
    unfold lvo Z3;split
    ·decide
    ·rename_i hz;have:=A0d (12+amT (hd0 E post) D2);have h13:amT (hd0 E post) D2<13:=by
      have gen:∀(l:List (List UInt8)) (j:Nat) (w:List UInt8),ixA j l w<((j+l.length:Nat):Int):=by
       intro l
       induction l with
       |nil=>intro j w;simp[ixA];omega
       |cons a l ih =>
        intro j w;have:=ih (j+1) w;simp only[ixA,A0G];split<;>omega
      unfold amT;split
      ·exact gen D2 0 _
      ·decide
     exact D5q (by omega) h13
   obtain⟨x',e1, -,e3⟩:=B5k (least:=6) hxc hx (s:={ s with i:=s.i+1,par:=s.par+1 }) hdn hok ho (by
    show s.par+1+_<=16;have:((if B9 x.kind<6 then d1+1 else d1:Nat):Int)=(d':Int):=by
     rw[<- hd1];by_cases hz:B9 x.kind<6
     ·rw[if_pos hz,if_pos (by simpa using hz)]
     ·rw[if_neg hz,if_neg (by simpa using hz)]
    rw[this];omega) (by decide) (by decide) hlt6
   have hu:=Un.pre (L:=L) (E:=E) (s:=s) (by rw[ham];omega) (by rw[ham];omega) (by rw[A5i (by omega)];exact hok) (e3 rfl)
   grind[adv,Ex.plain,Ex.plains]
 ·
  have hl5:B9 k<=5:=by
   simp_all[M9];omega
  have hc2:M9 k=2:=by simp_all[M9]
  rw[hc2]at h2 hd';rw[if_neg (by simp)]at hd';subst hd';obtain⟨x,y,rfl⟩:∃x y,a=[x,y]:=C4n h2;have hxc:=ih x (by grind[Ex.sz,Ex.szs]);have hyc:=ih y (by grind[Ex.sz,Ex.szs]);unfold msL at hl;cases hx:msM x with
  |none=>grind
  |some q =>
   obtain⟨o1,d1⟩:=q;rw[hx]at hl;dsimp only at hl;unfold msL at hl;cases hy:msM y with
   |none=>grind
   |some q2 =>
    obtain⟨o2,d2⟩:=q2;rw[hy]at hl;dsimp only at hl;unfold msL at hl;dsimp only at hl;simp only[Option.some.injEq,Prod.mk.injEq,A3B,Nat.max_zero]at hl;obtain⟨rfl,hdd⟩:=hl;have hlk:=B5r (k:=k) (by omega);have hk12:12<=k:=by
     apply Classical.byContradiction
     grind[A6l]
    obtain⟨j,hj⟩:∃j:Nat,k=12+(j:Int):=⟨(k-12).toNat,by omega⟩;have hj13:j<13:=b8
    have hjn:(k-12).toNat=j:=b8
    obtain⟨hs1,hs2⟩:=C8z j hj13;have hT:exT (.mk k 0 [] [x,y] p)=H9 (x.kind,exT x) (if B9 k=3 then 4 else B9 k)++[A5 (D2.getD j [])]++H9 (y.kind,exT y) (B9 k+1):=by
     rw[exT,B1r,B1r,B1r];unfold N7
     grind
    rw[hT]at h ⊢;generalize A5 (D2.getD j [])=sg at hs1 hs2 hT h ⊢;have hsl:Z3 sg=B9 k:=by simp_all[Z3,if_neg]
    have hdx:((if B9 x.kind<(if B9 k=3 then 4 else B9 k) then d1+1 else d1:Nat):Int)<=(d:Int):=by
     have hwr:(A1h k x.kind 0=true)↔B9 x.kind<(if B9 k=3 then 4 else B9 k):=by
      unfold A1h;simp only[A1J,A0F,A0Q,A1T];by_cases h3:B9 k=3
      ·rw[if_pos h3];omega
      ·rw[if_neg h3];omega
     grind
    have hdy:((if B9 y.kind<B9 k+1 then d2+1 else d2:Nat):Int)<=(d:Int):=by
     have hwr:(A1h k y.kind (0+1)=true)↔B9 y.kind<B9 k+1:=by
      unfold A1h;rw[show((0+1:Nat)==1)=true from rfl,Bool.true_or,A2U];simp only[A1J,A0Q,A1T];omega
     grind
    have h0:L.drop s.i=H9 (x.kind,exT x) (if B9 k=3 then 4 else B9 k)++(sg::(H9 (y.kind,exT y) (B9 k+1)++post)):=m9
    obtain⟨x',e1,e2⟩:=D5r hxc hx h0 hok (by omega) (by omega) hlr.1 hl5 (by assumption);have hd1:=J3 h0;have hpk:A4 L E (adv s (H9 (x.kind,exT x) (if B9 k=3 then 4 else B9 k)).length o1)=sg:=F0 hd1;have hd2:=H7 (s:=adv s (H9 (x.kind,exT x) (if B9 k=3 then 4 else B9 k)).length o1) hd1;have ham:B8 L E (adv s (H9 (x.kind,exT x) (if B9 k=3 then 4 else B9 k)).length o1) D2=(j:Int):=by grind[Y8,A3w]
    have hfin:s.i+(H9 (x.kind,exT x) (if B9 k=3 then 4 else B9 k)).length+1+(H9 (y.kind,exT y) (B9 k+1)).length=s.i+(H9 (x.kind,exT x) (if B9 k=3 then 4 else B9 k)++[sg]++H9 (y.kind,exT y) (B9 k+1)).length:=m9
    have hadv:adv (A6 (adv s (H9 (x.kind,exT x) (if B9 k=3 then 4 else B9 k)).length o1)) (H9 (y.kind,exT y) (B9 k+1)).length o2=adv s (H9 (x.kind,exT x) (if B9 k=3 then 4 else B9 k)++[sg]++H9 (y.kind,exT y) (B9 k+1)).length (o1+o2):=by
     have a2:s.ops+(o1:Int)+(o2:Int)=s.ops+((o1+o2:Nat):Int):=b8
     show Rd.mk (s.i+_+1+_) s.e s.pos (s.ops+(o1:Int)+(o2:Int)) s.par=Rd.mk (s.i+_) s.e s.pos (s.ops+((o1+o2:Nat):Int)) s.par
     grind
    have hdr:=J3 h;have main:lvo E post<=B9 k->∃y',y'.plain=y.plain/\Bin L E (B9 k+1) (A6 (adv s (H9 (x.kind,exT x) (if B9 k=3 then 4 else B9 k)).length o1)) (y',adv s (H9 (x.kind,exT x) (if B9 k=3 then 4 else B9 k)++[sg]++H9 (y.kind,exT y) (B9 k+1)).length (o1+o2)):=by
     intro hlv;obtain⟨y',f1,f2,f3⟩:=B5k (least:=B9 k+1) hyc hy (s:=A6 (adv s (H9 (x.kind,exT x) (if B9 k=3 then 4 else B9 k)).length o1)) hd2 hok (by show s.ops+(o1:Int)+(o2:Int)<=32;omega) (by show s.par+_<=16;omega) (by omega) (by omega) (by omega);rw[hadv]at f2 f3;refine⟨y',f1,?_⟩;by_cases h5':B9 k+1<=5
     ·grind
     ·exact Bin.un (by omega) (f3 (by omega))
    by_cases hlv:lvo E post<=B9 k
    ·obtain⟨y',f1,f2⟩:=main hlv;refine⟨.mk k 0 [] [x',y'] sg.pos,?_,λh=>absurd h (by show ¬ 6<=B9 k;omega),?_⟩
     ·grind[Ex.plain,Ex.plains]
     ·intro n' q1 q2 q3 q4 q5 r hr;have q3:n'<=B9 k:=q3;have key:∀r',Lop L E (B9 k) (.mk k 0 [] [x',y'] sg.pos) (adv s (H9 (x.kind,exT x) (if B9 k=3 then 4 else B9 k)++[sg]++H9 (y.kind,exT y) (B9 k+1)).length (o1+o2)) r'->(B9 k=3->lvo E post≠3)->Bin L E (B9 k) s r':=by
       intro r' hr' h33;refine e2 r' ?_;by_cases h3:B9 k=3
       ·have hst:=A0l (L:=L) (E:=E) (n:=B9 k) (e:=.mk k 0 [] [x',y'] sg.pos) (s:=adv s (H9 (x.kind,exT x) (if B9 k=3 then 4 else B9 k)++[sg]++H9 (y.kind,exT y) (B9 k+1)).length (o1+o2)) (A3w hok) hlr.1 (by show lvo E (L.drop (s.i+_))≠B9 k;rw[hdr,h3];exact h33 h3);have:=Evt.uniq hr' hst;rw[this];have ht:=Lop.three (L:=L) (E:=E) (n:=B9 k) (e:=x') (x:=y') (s:=adv s (H9 (x.kind,exT x) (if B9 k=3 then 4 else B9 k)).length o1) (by rw[ham];omega) (by rw[ham, <- hj]) h3 f2
        grind
       ·refine Lop.more (by rw[ham];omega) (by rw[ham, <- hj]) h3 f2 ?_
        grind
      by_cases hnq:n'=B9 k
      ·simp_all
      ·refine B2h (A3w hok) 6 (m:=B9 k) (by omega) (key _ (A0l (A3w hok) hlr.1 ?_) (by omega)) q1 (by omega) (by omega) ?_ hr
       ·show lvo E (L.drop (s.i+_))≠B9 k
        grind
       ·show lvo E (L.drop (s.i+_))<=n'
        grind
    ·refine⟨.mk k 0 [] [x,y] p,rfl,λh=>absurd h (by show ¬ 6<=B9 k;omega),?_⟩;intro n' q1 q2 q3 q4 q5 r hr;have q3:n'<=B9 k:=q3;omega
theorem O2{e:Ex}(hv:A0e e=true){s:Rd}{post:List Tok}(h:L.drop s.i=exT e++post)(hok:okR s=true)(hl:lvo E post=0):
  ∃e' s',e'.plain=e.plain/\Xpn L E s (e',s')/\s'.i=s.i+(exT e).length/\okR s'=true:=by
 unfold A0e at hv;cases hms:msM e with
 |none=>grind
 |some q =>
  obtain⟨o,d⟩:=q;rw[hms]at hv;simp only[A0F,A0Q]at hv;obtain⟨e',e1, -,e3⟩:=B8v (L:=L) (E:=E) (e.sz+1) e (by omega) o d hms { s with ops:=0,par:=0 } post h hok (by show(0:Int)+(o:Int)<=32;omega) (by show(0:Int)+(d:Int)<=16;omega);refine⟨e',adv { s with ops:=0,par:=0 } (exT e).length o,e1,?_,rfl,hok⟩;refine e3 1 (by decide) (by decide) (A0d _).1 (by omega) (λh=>absurd h (by decide)) _ (A0l (show okR s=true from hok) (by decide) ?_);show lvo E (L.drop (s.i+_))≠1
  grind[J3]
end
section
variable {L:List Tok} {E:Int}
theorem U5{s:Rd}{w:List UInt8}{ts:List Tok}(h:L.drop s.i=A5 w::ts)(hok:okR s=true)(hs:V8 (A5 w)=true):D9 L E s w=A6 s :=
 D7w hok (by grind[F0]) (by rw[F0 h];rfl)
theorem A5d{s:Rd}{n:List UInt8}{ts:List Tok}(h:L.drop s.i=F7 n++ts)(hok:okR s=true)(hn:F6 n=true):A7 L E s 1=(⟨1,n,0,0⟩,A6 s):=by
 have h0:L.drop s.i=⟨1,n,0,0⟩::ts:=by rw[h];unfold F7;rw[if_neg (by rw[hn];decide)];rfl
 grind[B4v,F0]
theorem B4t{s:Rd}{v:Int}{ts:List Tok}(h:L.drop s.i=X7 v++ts)(hok:okR s=true)(h0:0<=v)(h1:v<=2147483647):A7 L E s 3=(⟨3,[],v,0⟩,A6 s):=by
 have h2:L.drop s.i=⟨3,[],v,0⟩::ts:=by rw[h];unfold X7;rw[if_neg (by omega)];rfl
 grind[B4v,F0]
theorem D4b{s:Rd}{t:List UInt8}{ts:List Tok}(h:L.drop s.i=A2s t++ts)(hok:okR s=true)(ht:V6 t=true):A7 L E s 4=(⟨4,t,0,0⟩,A6 s):=by
 unfold V6 at ht;simp only[A0F,A0Q]at ht;have h0:L.drop s.i=⟨4,t,0,0⟩::ts:=by rw[h];unfold A2s;rw[if_neg (by rw[ht.1];simp;omega)];rfl
 grind[B4v,F0]
theorem A0p{s:Rd}{a ts:List Tok}(h:L.drop s.i=a++ts)(ha:a.length=1):L.drop (s.i+1)=ts:=by
 grind[J3]
def D6k(E:Int)(ts:List Tok):Bool:=V8 (hd0 E ts)&&(hd0 E ts).text == [101,108,115,101]
theorem C0h:∀j:Nat,j<18->amT (A5 (C5.getD j [])) C5=(j:Int)/\V8 (A5 (C5.getD j []))=true/\(A5 (C5.getD j [])).text≠[125]/\(A5 (C5.getD j [])).text≠[101,108,115,101]:=l9
theorem w61:V8 (A5 [61])=true:=by rfl
theorem w59:V8 (A5 [59])=true/\Z3 (A5 [59])=0:=l9
theorem w44:V8 (A5 [44])=true/\Z3 (A5 [44])=0:=l9
theorem w123:V8 (A5 [123])=true/\Z3 (A5 [123])=0/\(A5 [123]).text≠[105,102]:=l9
theorem w125:V8 (A5 [125])=true/\(A5 [125]).text≠[101,108,115,101]:=l9
theorem D8m:V8 (A5 [101,108,115,101])=true:=by rfl
def HdS(t:Tok):Prop:=t.kind=1\/∃j,j<18/\t=A5 (C5.getD j [])
theorem HdS.facts{t:Tok}(h:HdS t):(V8 t&&t.text == [125])=false/\(V8 t&&t.text == [101,108,115,101])=false/\(0<=amT t C5\/t.kind=1):=by
 rcases h with h|⟨j,hj,rfl⟩
 ·grind[V8]
 ·obtain⟨h1,h2,h3,h4⟩:=C0h j hj<;>simp_all
theorem C7x{d:Nat}{k p:Int}{n t:List UInt8}{a:List Ex}{x y:List St}(h:S4 d (.mk k n t a x y p)=true):
  (1<=k/\k<=19)/\(a.length=(O4 k).args/\a.all A0e=true)/\((if(O4 k).name=true then F6 n else n == [])=true/\(if(O4 k).text=true then V6 t else t == [])=true) /\
   (((O4 k).thn=true\/x=[])/\((O4 k).els=true\/y=[]))/\Q4 x (d+1)=true/\Q4 y (d+1)=true:=by
 simp_all[S4,Q4]
theorem C2z{d:Nat}{x:St}(h:S4 d x=true):∃t ts,stT x=t::ts/\HdS t:=by
 cases x with|mk k n t a x y p =>
 obtain⟨⟨k1,k2⟩, -,⟨hn, -⟩, -⟩:=C7x h;unfold stT;by_cases h1:k=1
 ·subst h1;rw[if_pos rfl];have hn:F6 n=true:=hn;refine⟨⟨1,n,0,0⟩,[A5 [61]]++agT a 0++[A5 [59]],?_,.inl rfl⟩
  simp_all[F7]
 rw[if_neg h1,if_neg (by omega)];dsimp only;have hw:HdS (A5 (C5.getD (k-2).toNat [])):=.inr ⟨(k-2).toNat,b8,rfl⟩;generalize A5 (C5.getD (k-2).toNat [])=w at hw;by_cases h23:k=2\/k=3
 ·rw[if_pos h23]
  match y with
  |[]=>simp_all
  |[q] =>
   dsimp only;split<;>simp_all
  |q::q2::l=>simp_all
 rw[if_neg h23];repeat' split
 all_goals exact⟨w,_,rfl,hw⟩
def CSt(L:List Tok)(E:Int)(x:St):Prop:=∀(d:Nat) (s:Rd) (post:List Tok),S4 d x=true->d<=8->L.drop s.i=stT x++post->okR s=true->D6k E post=false ->
 ∃x' s',x'.plain=x.plain/\U8 L E d s (x',s')/\s'.i=s.i+(stT x).length/\okR s'=true
theorem A5a:∀(l:List St),(∀x∈l,CSt L E x)->∀(acc:List St) (d:Nat) (s:Rd) (post:List Tok),J0 d l=true->acc.length+l.length<=64->(l=[]\/d<=8)->L.drop s.i=T2 l++([A5 [125]]++post)->okR s=true ->
  ∃l' s',St.plains l'=St.plains l/\A1o L E d acc s (acc++l',s')/\s'.i=s.i+(T2 l).length+1/\okR s'=true
 |[],_,acc,d,s,post,hv,hl,hd,h,hok=>by
  have h0:L.drop s.i=A5 [125]::post:=l9
  have hi:isR L E s [125]=true:=by rw[A4s hok,F0 h0,w125.1];rfl
  have hb:=A1o.stop (L:=L) (E:=E) (d:=d) (l:=acc) (s:=s) (by grind);rw[U5 h0 hok w125.1]at hb;exact⟨[],A6 s,rfl,m9,rfl,hok⟩
 |x::l,hx,acc,d,s,post,hv,hl,hd,h,hok=>by
  rw[J0,A0F]at hv;have hd8:d<=8:=hd.resolve_left (by simp);obtain⟨t,ts,e1,e2⟩:=C2z hv.1;obtain⟨f1,f2,f3⟩:=e2.facts;have h0:L.drop s.i=stT x++(T2 l++([A5 [125]]++post)):=by rw[h,T2,A0O]
  have hp:A4 L E s=t:=F0 (ts:=ts++(T2 l++([A5 [125]]++post))) (by rw[h0,e1];rfl);have hels:D6k E (T2 l++([A5 [125]]++post))=false:=by
   unfold D6k;cases l with
   |nil =>
    show(V8 (A5 [125])&&(A5 [125]).text == [101,108,115,101])=false;rw[w125.1,A2A];simpa using w125.2
   |cons y l =>
    have hv2:=hv.2;rw[J0,A0F]at hv2;obtain⟨u,us,g1,g2⟩:=C2z hv2.1;rw[T2,g1];exact g2.facts.2.1
  obtain⟨x',s1,p1,p2,p3,p4⟩:=hx x A0M d s _ hv.1 hd8 h0 hok hels;have hdr:L.drop s1.i=T2 l++([A5 [125]]++post):=by rw[p3];exact J3 h0
  obtain⟨l',s',q1,q2,q3,q4⟩:=A5a l (λy hy=>hx y (A0H _ hy)) (acc++[x']) d s1 post hv.2 (by simp only[A0A,A0G,A0L]at hl ⊢;omega) (.inr hd8) hdr p4;refine⟨x'::l',s',by rw[St.plains,St.plains,p1,q1],?_,by rw[q3,p3,T2,A0A];omega,q4⟩;refine A1o.more (s1:=s1) (x:=x') ⟨hok,by rw[A4s hok,hp];exact f1⟩ ?_ ?_ (by rw[A0O]at q2;exact q2)
  ·rintro⟨g1,g2⟩;rw[Y8 hok,hp]at g1;rw[B3w hok,hp]at g2;rcases f3 with f3|f3
   ·omega
   ·rw[f3]at g2;simp at g2
  grind[A5i]
theorem U7{l:List St}(hx:∀x∈l,CSt L E x){d:Nat}{s:Rd}{post:List Tok}(hv:Q4 l d=true)(h:L.drop s.i=blT l++post)(hok:okR s=true):
  ∃l' s',St.plains l'=St.plains l/\A9a L E d s (l',s')/\s'.i=s.i+(blT l).length/\okR s'=true:=by
 unfold Q4 at hv;simp only[A0F,A0Q,A1J,List.isEmpty_iff]at hv;have h0:L.drop s.i=A5 [123]::(T2 l++([A5 [125]]++post)):=by grind[blT]
 have he:=U5 (E:=E) h0 hok w123.1;obtain⟨l',s',q1,q2,q3,q4⟩:=A5a l hx [] d (A6 s) post hv.2 (by grind) hv.1.2 (H7 h0) hok;refine⟨l',s',q1,A9a.mk (by grind),?_,q4⟩;rw[q3];unfold blT;simp only[A0A,A0E];show s.i+1+_+1=_;omega
theorem A6v{a:List Ex}(h:a.length=1)(hv:a.all A0e=true):∃e,a=[e]/\A0e e=true:=by
 grind[List.length_eq_one_iff]
theorem ag0(e:Ex)(l:List Ex):agT (e::l) 0=exT e:=rfl
theorem ag1(e e2:Ex)(l:List Ex):agT (e::e2::l) 1=exT e2:=rfl
theorem C5v{k:Int}(h1:k≠1)(h2:k≠2)(h3:k≠3)(h4:k≠4)(h8:k≠8)(h9:k≠9)(h10:k≠10)(h18:k≠18)(h19:k≠19):O4 k=⟨true,false,0,false,false⟩:=by
 simp_all[O4]
def D7l:List St->List Tok
 |[]=>[]
 |[q]=>if q.kind=2 then [A5 [101,108,115,101]]++stT q else [A5 [101,108,115,101]]++blT [q]
 |q::q2::r=>[A5 [101,108,115,101]]++blT (q::q2::r)
theorem B6x:∀(m:Nat) (x:St),x.sz<m->CSt L E x:=by
 intro m
 induction m with
 |zero=>omega
 |succ m ih =>
 intro x hm d s post hv hd h hok hels;cases x with|mk k n t a x y p =>
 obtain⟨⟨k1,k2⟩,⟨ha,hav⟩,⟨hn,ht⟩,⟨hx,hy⟩,hbx,hby⟩:=C7x hv;have hcx:∀q∈x,CSt L E q:=λq hq=>ih q (by rw[St.sz]at hm;have:=St.szs_mem hq;omega);have hcy:∀q∈y,CSt L E q:=λq hq=>ih q (by rw[St.sz]at hm;have:=St.szs_mem hq;omega);have hlim:okR (D3 L E s (d:Int) 8 50)=true:=by grind[A5i]
 have hcast:((d+1:Nat):Int)=(d:Int)+1:=by rfl
 by_cases hk1:k=1
 ·
  subst hk1;have hn:F6 n=true:=hn;have ht:t=[]:=by have h':(t == [])=true:=ht;grind
  have hx:x=[]:=hx.resolve_left (by decide);have hy:y=[]:=hy.resolve_left (by decide);subst ht hx hy;obtain⟨e,rfl,he⟩:=A6v ha hav;have hT:stT (.mk 1 n [] [e] [] [] p)=F7 n++[A5 [61]]++exT e++[A5 [59]]:=by rfl
  rw[hT]at h ⊢;have h0:L.drop s.i=F7 n++(A5 [61]::(exT e++(A5 [59]::post))):=m9
  have h1:=A0p h0 (C6 n);have hpk:A4 L E s=⟨1,n,0,0⟩:=F0 (ts:=A5 [61]::(exT e++(A5 [59]::post))) (by simp_all[F7]);have htk:=A5d (E:=E) h0 hok hn;have h2:=H7 (s:=A6 s) h1;have he1:=U5 (E:=E) (s:=A6 s) h1 hok w61;obtain⟨e',s1,p1,p2,p3,p4⟩:=O2 (L:=L) (E:=E) he (s:=A6 (A6 s)) h2 hok (by rfl);have h3:L.drop s1.i=A5 [59]::post:=by rw[p3];exact J3 h2
  have hst:=U8.set (L:=L) (E:=E) (d:=d) (s:=s) (s1:=s1) (e:=e') hlim (by rw[Y8 hok,hpk];assumption) (by grind);rw[htk,U5 h3 p4 w59.1]at hst;refine⟨_,_,?_,hst,?_,p4⟩
  ·grind[St.plain,Ex.plains]
  ·show s1.i+1=_
   grind[List.length_append]
 obtain⟨j,hj⟩:∃j:Nat,k=2+(j:Int):=⟨(k-2).toNat,by omega⟩;have hj18:j<18:=b8
 have hjn:(k-2).toNat=j:=b8
 obtain⟨a1,a2, -, -⟩:=C0h j hj18;by_cases h23:k=2\/k=3
 ·
  have hsh:(O4 k).args=1/\(O4 k).name=false/\(O4 k).text=false/\(k=3->(O4 k).els=false):=by
   rcases h23 with rfl|rfl
   ·exact⟨rfl,rfl,rfl,λh=>absurd h (by decide)⟩
   trivial
  rw[hsh.1]at ha;rw[hsh.2.1]at hn;rw[hsh.2.2.1]at ht;have hn:n=[]:=m9
  have ht:t=[]:=m9
  subst hn ht;have hy3:k=3->y=[]:=λh=>hy.resolve_left (by grind);obtain⟨e,rfl,he⟩:=A6v ha hav;obtain⟨rest,hrest,hT⟩:∃rest,rest=D7l y/\stT (.mk k [] [] [e] x y p)=[A5 (C5.getD j [])]++exT e++blT x++rest:=by
   refine⟨_,rfl,?_⟩;clear hy hy3 hv hm h hby hcy;rw[stT,if_neg hk1,if_neg (by omega)];dsimp only;rw[if_pos h23,hjn,ag0]
   grind[blT,D7l,T2]
  rw[hT]at h ⊢;generalize A5 (C5.getD j [])=w at a1 a2 h hT ⊢;have h0:L.drop s.i=w::(exT e++(blT x++(rest++post))):=m9
  have hpk:=F0 (E:=E) h0;have ham:B8 L E s C5=(j:Int):=by grind[Y8]
  have h1:=H7 h0;obtain⟨e',s2,p1,p2,p3,p4⟩:=O2 (L:=L) (E:=E) he (s:=A6 s) h1 hok (by rfl);have h2:L.drop s2.i=blT x++(rest++post):=by rw[p3];exact J3 h1
  obtain⟨t',s3,b1,b2,b3,b4⟩:=U7 hcx hbx h2 p4;rw[hcast]at b2;have h3:L.drop s3.i=rest++post:=by grind[J3]
  have hi3:s3.i=s.i+1+(exT e).length+(blT x).length:=by rw[b3,p3];rfl
  have blkCase:¬(B8 L E s C5=0/\isR L E s3 [101,108,115,101]=true)->y=[]->rest=[]->∃x' s',x'.plain=(St.mk k [] [] [e] x y p).plain/\U8 L E d s (x',s')/\s'.i=s.i+([w]++exT e++blT x++rest).length/\okR s'=true:=by
   intro hc hy0 hr0;subst hy0 hr0;have hst:=U8.blk (L:=L) (E:=E) (d:=d) (s:=s) hlim (by rw[ham];omega) p2 b2 hc
   grind[St.plain,Ex.plains]
  by_cases hk3:k=3
  ·have hy0:=hy3 hk3;subst hy0;exact blkCase (by omega) rfl hrest
  ·have hk2:k=2:=by omega
   have hj0:j=0:=b8
   have hd1:y≠[]->d+1<=8:=λhne=>by
    simp_all[Q4]
   have elsCase:∀(o':List St) (s4:Rd),St.plains o'=St.plains y->A8y L E d (A6 s3) (o',s4)->isR L E s3 [101,108,115,101]=true->s4.i=s3.i+rest.length->okR s4=true->∃x' s',x'.plain=(St.mk k [] [] [e] x y p).plain/\U8 L E d s (x',s')/\s'.i=s.i+([w]++exT e++blT x++rest).length/\okR s'=true:=by
    intro o' s4 c1 c2 c3 c4 c5;have hst:=U8.els (L:=L) (E:=E) (d:=d) (s:=s) hlim (by rw[ham,hj0];rfl) p2 b2 c3 c2
    grind[St.plain,Ex.plains]
   clear hy hy3 hv hm hT h h0
   match y,hcy,hby,hd1,hrest,blkCase,elsCase with
   |[],_,_,_,hrest,blkCase,_ =>
    refine blkCase ?_ rfl hrest;rintro⟨-,g⟩;rw[hrest]at h3;rw[A4s b4,A9n,h3]at g;have g:D6k E post=true:=g
    grind
   |[q],hcy,hby,hd1,hrest,_,elsCase =>
    have hrest:rest=if q.kind=2 then [A5 [101,108,115,101]]++stT q else [A5 [101,108,115,101]]++blT [q]:=hrest
    have hd1:=hd1 (by simp);by_cases hq2:q.kind=2
    ·rw[if_pos hq2]at hrest;subst hrest;have h4:L.drop s3.i=A5 [101,108,115,101]::(stT q++post):=by grind
     have hi:isR L E s3 [101,108,115,101]=true:=by rw[A4s b4,F0 h4,D8m];rfl
     have hvq:S4 (d+1) q=true:=by
      simp_all[Q4,J0]
     obtain⟨q',s4,c1,c2,c3,c4⟩:=hcy q A0M (d+1) (A6 s3) post hvq hd1 (H7 h4) b4 hels;rw[hcast]at c2;have hif:isR L E (A6 s3) [105,102]=true:=by
      have h5:=H7 h4;have:∃ts,stT q=A5 (C5.getD 0 [])::ts:=by
       cases q with|mk kq nq tq aq xq yq pq =>
       have hq2:kq=2:=hq2;subst hq2;unfold stT;rw[if_neg (by simp),if_neg (by simp)];dsimp only;rw[if_pos (.inl rfl)]
       match yq with
       |[]=>simp
       |[q3] =>
        dsimp only;split
        ·exact⟨_,rfl⟩
        simp
       |_::_::_=>simp
      obtain⟨ts,hts⟩:=this;rw[A4s (show okR (A6 s3)=true from b4),F0 (s:=A6 s3) (t:=A5 (C5.getD 0 [])) (ts:=ts++post) (by show L.drop (s3.i+1)=_;grind),(C0h 0 (by simp)).2.1];rfl
     refine elsCase [q'] s4 (by grind[St.plains]) (A8y.iff hif c2) hi ?_ c4;rw[c3];simp only[A0A,A0E];show s3.i+1+_=_;omega
    ·rw[if_neg hq2]at hrest;subst hrest;have h4:L.drop s3.i=A5 [101,108,115,101]::(blT [q]++post):=by grind
     have hi:isR L E s3 [101,108,115,101]=true:=by rw[A4s b4,F0 h4,D8m];rfl
     obtain⟨o',s4,c1,c2,c3,c4⟩:=U7 hcy hby (s:=A6 s3) (H7 h4) b4;rw[hcast]at c2;have hif:isR L E (A6 s3) [105,102]=false:=by
      grind[A4s,okR,A6,F0,A5,H7,blT]
     refine elsCase o' s4 c1 (A8y.blk hif c2) hi ?_ c4;rw[c3];simp only[A0A,A0E];show s3.i+1+_=_;omega
   |q::q2::r,hcy,hby,hd1,hrest,_,elsCase =>
    have hrest:rest=[A5 [101,108,115,101]]++blT (q::q2::r):=hrest;subst hrest;have h4:L.drop s3.i=A5 [101,108,115,101]::(blT (q::q2::r)++post):=m9
    have hi:isR L E s3 [101,108,115,101]=true:=by rw[A4s b4,F0 h4,D8m];rfl
    obtain⟨o',s4,c1,c2,c3,c4⟩:=U7 hcy hby (s:=A6 s3) (H7 h4) b4;rw[hcast]at c2;have hif:isR L E (A6 s3) [105,102]=false:=by
     grind[A4s,okR,A6,F0,A5,H7,blT]
    refine elsCase o' s4 c1 (A8y.blk hif c2) hi ?_ c4;rw[c3];simp only[A0A,A0E];show s3.i+1+_=_;omega
 have hshx:(O4 k).thn=false/\(O4 k).els=false:=by
  grind[O4]
 have hx:x=[]:=hx.resolve_left (by grind);have hy:y=[]:=hy.resolve_left (by grind);subst hx hy;have tailGo:∀(toks:List Tok) (n' t':List UInt8) (a':List Ex) (s':Rd),stT (.mk k n t a [] [] p)=[A5 (C5.getD j [])]++toks->n'=n->t'=t->Ex.plains a'=Ex.plains a->s'.i=s.i+1+toks.length->okR s'=true ->
   (L.drop (s.i+1)=toks++post->Evt (λf=>P6 L E f k (A4 L E s).pos (A6 s)) (.mk k n' t' a' [] [] (A4 L E s).pos,s'))->∃x' s',x'.plain=(St.mk k n t a [] [] p).plain/\U8 L E d s (x',s')/\s'.i=s.i+(stT (.mk k n t a [] [] p)).length/\okR s'=true:=by
  grind[F0,Y8,U8.tail,H7,St.plain]
 have hT:stT (.mk k n t a [] [] p)=[A5 (C5.getD j [])]++(if k=4 then agT a 0++[A5 [59]] else if k=18 then A2s t++[A5 [44]]++agT a 0++[A5 [59]] else if k=8\/k=10 then F7 n++agT a 0++[A5 [59]] else if k=9 then F7 n++agT a 0++[A5 [44]]++agT a 1++[A5 [59]] else if k=19 then [A5 [59]] else F7 n++[A5 [59]]):=by
  unfold stT
  grind
 by_cases h4:k=4
 ·subst h4;have hn:n=[]:=by have h':(n == [])=true:=hn;simpa using h'
  have ht:t=[]:=by have h':(t == [])=true:=ht;simpa using h'
  subst hn ht;obtain⟨e,rfl,he⟩:=A6v ha hav;rw[if_pos rfl,ag0]at hT;have h0:L.drop (s.i+1)=exT e++(A5 [59]::post):=by
   rw[hT]at h;have:L.drop s.i=A5 (C5.getD j [])::(exT e++(A5 [59]::post)):=by rw[h];simp
   exact H7 this
  obtain⟨e',s1,p1,p2,p3,p4⟩:=O2 (L:=L) (E:=E) he (s:=A6 s) h0 hok (by show Z3 (A5 [59])=0;exact w59.2);have h3:L.drop s1.i=A5 [59]::post:=by rw[p3];exact J3 h0
  refine tailGo _ [] [] [e'] (A6 s1) hT rfl rfl (by rw[Ex.plains,Ex.plains,Ex.plains,Ex.plains,p1]) (by show s1.i+1=_;rw[p3];simp only[A0A,A0E];show s.i+1+_+1=_;omega) p4 (λ_=>p2.map λf hf=>?_)
  simp_all[P6,U5,w59]
 rw[if_neg h4]at hT;by_cases h18:k=18
 ·subst h18;have hn:n=[]:=by have h':(n == [])=true:=hn;simpa using h'
  have ht:V6 t=true:=ht;subst hn;obtain⟨e,rfl,he⟩:=A6v ha hav;rw[if_pos rfl,ag0]at hT;have h0:L.drop (s.i+1)=A2s t++(A5 [44]::(exT e++(A5 [59]::post))):=by
   rw[hT]at h;have:L.drop s.i=A5 (C5.getD j [])::(A2s t++(A5 [44]::(exT e++(A5 [59]::post)))):=by rw[h];simp
   exact H7 this
  have htk:=D4b (E:=E) (s:=A6 s) h0 hok ht;have h1:=A0p (s:=A6 s) h0 (G8 t);have he1:=U5 (E:=E) (s:=A6 (A6 s)) h1 hok w44.1;have h2:=H7 (s:=A6 (A6 s)) h1;obtain⟨e',s1,p1,p2,p3,p4⟩:=O2 (L:=L) (E:=E) he (s:=A6 (A6 (A6 s))) h2 hok (by show Z3 (A5 [59])=0;exact w59.2);have h3:L.drop s1.i=A5 [59]::post:=by rw[p3];exact J3 h2
  refine tailGo _ [] t [e'] (A6 s1) hT rfl rfl (by rw[Ex.plains,Ex.plains,Ex.plains,Ex.plains,p1]) (by show s1.i+1=_;rw[p3];simp only[A0A,A0E,G8];show s.i+1+1+1+_+1=_;omega) p4 (λ_=>p2.map λf hf=>?_)
  simp_all[P6,U5,w59]
 rw[if_neg h18]at hT;by_cases h8:k=8\/k=10
 ·have hsh:O4 k=⟨true,false,1,false,false⟩:=by rcases h8 with rfl|rfl<;>rfl
  rw[hsh]at ha hn ht;have hn:F6 n=true:=hn;have ht:t=[]:=m9
  subst ht;obtain⟨e,rfl,he⟩:=A6v ha hav;rw[if_pos h8,ag0]at hT;have h0:L.drop (s.i+1)=F7 n++(exT e++(A5 [59]::post)):=by
   grind[H7]
  have htk:=A5d (E:=E) (s:=A6 s) h0 hok hn;have h1:=A0p (s:=A6 s) h0 (C6 n);obtain⟨e',s1,p1,p2,p3,p4⟩:=O2 (L:=L) (E:=E) he (s:=A6 (A6 s)) h1 hok (by rfl);have h3:L.drop s1.i=A5 [59]::post:=by rw[p3];exact J3 h1
  refine tailGo _ n [] [e'] (A6 s1) hT rfl rfl (by grind[Ex.plains]) (by show s1.i+1=_;grind) p4 (λ_=>p2.map λf hf=>?_);unfold P6;rw[if_neg h4,if_neg h18,if_neg (by omega)];dsimp only;rw[if_pos (by omega),htk];dsimp only;rw[hf];dsimp only;rw[if_neg (by omega),U5 h3 p4 w59.1]
 rw[if_neg h8]at hT;by_cases h9:k=9
 ·subst h9;have hn:F6 n=true:=hn;have ht:t=[]:=by have h':(t == [])=true:=ht;simpa using h'
  subst ht;obtain⟨e,e2,rfl⟩:=C4n ha;simp only[A2N,List.all_nil,A2U,A0F]at hav;rw[if_pos rfl,ag0,ag1]at hT;have h0:L.drop (s.i+1)=F7 n++(exT e++(A5 [44]::(exT e2++(A5 [59]::post)))):=by
   rw[hT]at h;have:L.drop s.i=A5 (C5.getD j [])::(F7 n++(exT e++(A5 [44]::(exT e2++(A5 [59]::post))))):=by rw[h];simp
   exact H7 this
  have htk:=A5d (E:=E) (s:=A6 s) h0 hok hn;have h1:=A0p (s:=A6 s) h0 (C6 n);obtain⟨e',s1,p1,p2,p3,p4⟩:=O2 (L:=L) (E:=E) hav.1 (s:=A6 (A6 s)) h1 hok (by show Z3 (A5 [44])=0;exact w44.2);have h3:L.drop s1.i=A5 [44]::(exT e2++(A5 [59]::post)):=by rw[p3];exact J3 h1
  have hx1:=U5 (E:=E) h3 p4 w44.1;obtain⟨e2',s2,r1,r2,r3,r4⟩:=O2 (L:=L) (E:=E) hav.2 (s:=A6 s1) (H7 h3) p4 (by show Z3 (A5 [59])=0;exact w59.2);have h5:L.drop s2.i=A5 [59]::post:=by rw[r3];exact J3 (H7 h3)
  refine tailGo _ n [] [e',e2'] (A6 s2) hT rfl rfl (by rw[Ex.plains,Ex.plains,Ex.plains,Ex.plains,Ex.plains,Ex.plains,p1,r1]) (by show s2.i+1=_;rw[r3];show s1.i+1+_+1=_;rw[p3];simp only[A0A,A0E,C6];show s.i+1+1+_+1+_+1=_;omega) r4 (λ_=>p2.map2 r2 λf hf hf2=>?_);unfold P6;rw[if_neg h4,if_neg h18,if_neg (by decide)]
  simp_all[U5,w59]
 rw[if_neg h9]at hT;by_cases h19:k=19
 ·subst h19;have hn:n=[]:=by have h':(n == [])=true:=hn;grind
  have ht:t=[]:=by have h':(t == [])=true:=ht;grind
  have ha:a=[]:=A1Z ha;subst hn ht ha;rw[if_pos rfl]at hT;have h0:L.drop (s.i+1)=A5 [59]::post:=by
   grind[H7]
  refine tailGo _ [] [] [] (A6 (A6 s)) hT rfl rfl rfl rfl hok (λ_=>Evt.one λf=>?_);unfold P6;rw[if_neg (by simp),if_neg (by simp),if_pos rfl,U5 (s:=A6 s) h0 hok w59.1]
 rw[if_neg h19]at hT;have hsh:=C5v hk1 (λh=>h23 (.inl h)) (λh=>h23 (.inr h)) h4 (λh=>h8 (.inl h)) h9 (λh=>h8 (.inr h)) h18 h19;rw[hsh]at ha hn ht;have hn:F6 n=true:=hn;have ht:t=[]:=m9
 have ha:a=[]:=A1Z ha;subst ht ha;have h0:L.drop (s.i+1)=F7 n++(A5 [59]::post):=by
  grind[H7]
 have htk:=A5d (E:=E) (s:=A6 s) h0 hok hn;have h1:=A0p (s:=A6 s) h0 (C6 n);refine tailGo _ n [] [] (A6 (A6 (A6 s))) hT rfl rfl rfl (by simp only[A0A,A0E,C6];rfl) hok (λ_=>Evt.one λf=>?_);unfold P6;rw[if_neg h4,if_neg h18,if_neg h19];dsimp only;rw[if_neg (by omega),htk];dsimp only;rw[U5 (s:=A6 (A6 s)) h1 hok w59.1]
theorem B6d{l:List St}{d:Nat}{s:Rd}{post:List Tok}(hv:Q4 l d=true)(h:L.drop s.i=blT l++post)(hok:okR s=true):
  ∃l' s',St.plains l'=St.plains l/\A9a L E d s (l',s')/\s'.i=s.i+(blT l).length/\okR s'=true :=
 U7 (λx hx=>B6x (x.sz+1) x (by omega)) hv h hok
end
section
variable {L:List Tok} {E:Int}
theorem E2q:∀j:Nat,j<8->amT (A5 (D7.getD j [])) D7=(j:Int):=l9
theorem D8y:∀j:Nat,j<6->amT (A5 (F1.getD j [])) F1=(j:Int):=l9
theorem C7u:V8 (A5 [109,111,100,101])=true/\amT (A5 [109,111,100,101]) D7 = -1:=l9
theorem won:V8 (A5 [111,110])=true/\(A5 [111,110]).text≠[125]:=l9
theorem E7y:V8 (A5 [45])=true:=by rfl
theorem C1z{d:Dc}{k v:Int}{n:List UInt8}(h1:k=d.kind)(h2:n=d.name)(h3:v=d.value){p:Int}:Dc.plain ⟨k,n,v,p⟩=d.plain:=by
 subst h1 h2 h3;rfl
theorem B5y{d:Dc}(hv:A1i d=true){s:Rd}{post:List Tok}(h:L.drop s.i=dcT d++post)(hok:okR s=true):
  B8 L E s D7=d.kind-1/\(R0 L E (d.kind-1) s).1.plain=d.plain/\(R0 L E (d.kind-1) s).2.i=s.i+(dcT d).length/\okR (R0 L E (d.kind-1) s).2=true:=by
 unfold A1i at hv;simp only[A0F,A0Q]at hv;obtain⟨⟨⟨⟨k1,k8⟩,hn⟩,v0⟩,v1⟩:=hv;obtain⟨j,hj⟩:∃j:Nat,d.kind=1+(j:Int):=⟨(d.kind-1).toNat,by omega⟩;have hj8:j<8:=b8
 have hjn:(d.kind-1).toNat=j:=b8
 have a1:=E2q j hj8;have hT:dcT d=[A5 (D7.getD j [])]++F7 d.name++(if 6<d.kind then [] else if d.value<0 then [A5 [45]]++X7 (-d.value) else X7 d.value)++[A5 [59]]:=by
  unfold dcT
  grind
 rw[hT]at h ⊢;have h0:L.drop s.i=A5 (D7.getD j [])::(F7 d.name++((if 6<d.kind then [] else if d.value<0 then [A5 [45]]++X7 (-d.value) else X7 d.value)++(A5 [59]::post))):=m9
 have hpk:=F0 (E:=E) h0;have h1:=H7 h0;have htk:=A5d (E:=E) (s:=A6 s) h1 hok hn;have h2:=A0p (s:=A6 s) h1 (C6 d.name);refine⟨by grind[Y8],?_⟩;unfold R0;dsimp only;rw[htk];dsimp only;by_cases h6:6<d.kind
 ·rw[if_pos h6]at h2 ⊢;rw[if_neg (by omega)];have h2:L.drop (A6 (A6 s)).i=A5 [59]::post:=h2;rw[U5 h2 hok w59.1];refine⟨C1z (by omega) rfl ?_,?_,hok⟩
  ·omega
  ·simp only[A0A,A0E,C6,A0L];rfl
 ·rw[if_neg h6]at h2 ⊢;rw[if_pos (by omega)];rw[if_neg (by omega)]at v1;by_cases hneg:d.value<0
  ·have hk6:d.kind=6:=by
    by_cases hz:d.kind=6
    ·exact hz
    ·rw[if_neg hz]at v0;omega
   rw[if_pos hk6]at v0;rw[if_pos hneg]at h2 ⊢;have h3:L.drop (A6 (A6 s)).i=A5 [45]::(X7 (-d.value)++(A5 [59]::post)):=by rw[show L.drop (A6 (A6 s)).i=_ from h2];simp
   have hm:(d.kind-1+1==6&&isR L E (A6 (A6 s)) [45])=true:=by
    rw[A4s (show okR (A6 (A6 s))=true from hok),F0 h3,E7y,hk6];rfl
   rw[if_pos hm,if_pos hm];have h4:=H7 h3;have htk2:=B4t (E:=E) (s:=A6 (A6 (A6 s))) h4 hok (by omega) (by omega);rw[htk2];have h5:=A0p (s:=A6 (A6 (A6 s))) h4 (F9 _);have h5:L.drop (A6 (A6 (A6 (A6 s)))).i=A5 [59]::post:=h5;dsimp only;rw[U5 h5 hok w59.1];refine⟨C1z (by omega) rfl (by omega),?_,hok⟩;simp only[A0A,A0E,C6,F9];rfl
  ·rw[if_neg hneg]at h2 ⊢;have h3:L.drop (A6 (A6 s)).i=X7 d.value++(A5 [59]::post):=h2;have hp3:A4 L E (A6 (A6 s))=⟨3,[],d.value,0⟩:=F0 (ts:=A5 [59]::post) (by rw[h3];unfold X7;rw[if_neg (by omega)];rfl);have hm:(d.kind-1+1==6&&isR L E (A6 (A6 s)) [45])=false:=by
    rw[A4s (show okR (A6 (A6 s))=true from hok),hp3];simp[V8]
   rw[hm];simp only[A1R,if_false];have htk2:=B4t (E:=E) (s:=A6 (A6 s)) h3 hok (by omega) (by omega);rw[htk2];have h5:=A0p (s:=A6 (A6 s)) h3 (F9 _);have h5:L.drop (A6 (A6 (A6 s))).i=A5 [59]::post:=h5;dsimp only;rw[U5 h5 hok w59.1];refine⟨C1z (by omega) rfl rfl,?_,hok⟩;simp only[A0A,A0E,C6,F9];rfl
theorem A5z:∀(l acc:List Dc) (s:Rd) (post:List Tok),l.all A1i=true->acc.length+l.length<=128->amT (hd0 E post) D7<0->L.drop s.i=l.flatMap dcT++post->okR s=true ->
  ∃l' s',l'.map Dc.plain=l.map Dc.plain/\Evt (λf=>T5 L E f acc s) (acc++l',s')/\L.drop s'.i=post/\okR s'=true
 |[],acc,s,post,hv,hl,hp,h,hok=>by
  have h:L.drop s.i=post:=h;refine⟨[],s,rfl,Evt.one λf=>?_,h,hok⟩
  simp_all[T5,Y8,A9n]
 |d::l,acc,s,post,hv,hl,hp,h,hok=>by
  simp only[A2N,A0F]at hv;have h0:L.drop s.i=dcT d++(l.flatMap dcT++post):=by rw[h,A2C,A0O]
  obtain⟨e1,e2,e3,e4⟩:=B5y (E:=E) hv.1 h0 hok;have hk1:1<=d.kind:=by
   have:=hv.1;unfold A1i at this;simp only[A0F,A0Q]at this;omega
  obtain⟨l',s',q1,q2,q3,q4⟩:=A5z l (acc++[(R0 L E (d.kind-1) s).1]) (R0 L E (d.kind-1) s).2 post hv.2 (by simp only[A0A,A0G,A0L]at hl ⊢;omega) hp (by rw[e3];exact J3 h0) e4;refine⟨(R0 L E (d.kind-1) s).1::l',s',by rw[A0U,A0U,e2,q1],?_,q3,q4⟩;rw[A0O]at q2;refine q2.ext λf hf=>?_;rw[T5];dsimp only;rw[e1,if_neg (by omega),A5i (by simp only[A0G]at hl;omega),if_pos hok]
  grind
theorem hdp{h:Hd}{b:List St}(hb:St.plains b=St.plains h.body){k:Int}{n:List UInt8}{p:Int}(hk:k=h.trig)(hn:n=h.name):Hd.plain ⟨k,n,b,p⟩=h.plain:=by
 grind[Hd.plain]
theorem A6f:∀(l acc:List Hd) (s:Rd) (post:List Tok),l.all A2e=true->acc.length+l.length<=32->L.drop s.i=l.flatMap hdT++([A5 [125]]++post)->okR s=true ->
  ∃l' s',l'.map Hd.plain=l.map Hd.plain/\Evt (λf=>R8 L E f acc s) (acc++l',s')/\L.drop s'.i=post/\okR s'=true
 |[],acc,s,post,hv,hl,h,hok=>by
  have h:L.drop s.i=A5 [125]::post:=h;have hi:isR L E s [125]=true:=by rw[A4s hok,F0 h,w125.1];rfl
  refine⟨[],A6 s,rfl,Evt.one λf=>?_,H7 h,hok⟩
  simp_all[R8,U5,w125]
 |x::l,acc,s,post,hv,hl,h,hok=>by
  simp only[A2N,A0F]at hv;have hx:=hv.1;unfold A2e at hx;simp only[A0F,A0Q]at hx;obtain⟨⟨⟨t1,t6⟩,hn⟩,hb⟩:=hx;obtain⟨j,hj⟩:∃j:Nat,x.trig=1+(j:Int):=⟨(x.trig-1).toNat,by omega⟩;have hj6:j<6:=b8
  have hjn:(x.trig-1).toNat=j:=b8
  have h0:L.drop s.i=A5 [111,110]::(A5 (F1.getD j [])::((if 2<x.trig then F7 x.name else [])++(blT x.body++(l.flatMap hdT++([A5 [125]]++post))))):=by
   rw[h,A2C];unfold hdT;rw[hjn];simp
  have hpk:=F0 (E:=E) h0;have hi:isR L E s [125]=false:=by rw[A4s hok,hpk,won.1,A2A];simpa using won.2
  have hon:isR L E s [111,110]=true:=by rw[A4s hok,hpk,won.1];rfl
  have he:=U5 (E:=E) h0 hok won.1;have h1:=H7 h0;have h1:L.drop (A6 s).i=_:=h1;have ham:B8 L E (A6 s) F1=(j:Int):=by rw[Y8 (show okR (A6 s)=true from hok),F0 h1];exact D8y j hj6
  have h2:=H7 h1;have h2:L.drop (A6 (A6 s)).i=_:=h2;have key:∃s4,s4=(if 2<=(j:Int) then(A7 L E (A6 (A6 s)) 1).2 else A6 (A6 s))/\okR s4=true/\(if 2<=(j:Int) then(A7 L E (A6 (A6 s)) 1).1.text else [])=x.name/\L.drop s4.i=blT x.body++(l.flatMap hdT++([A5 [125]]++post)):=by
   refine⟨_,rfl,?_⟩;by_cases h2j:2<=(j:Int)
   ·rw[if_pos h2j,if_pos h2j];rw[if_pos (by omega)]at hn h2;rw[A5d (E:=E) h2 hok hn];exact⟨hok,rfl,A0p (s:=A6 (A6 s)) h2 (C6 _)⟩
   ·rw[if_neg h2j,if_neg h2j];rw[if_neg (by omega)]at hn h2;exact⟨hok,by have:x.name=[]:=(by simpa using hn);rw[this],h2⟩
  obtain⟨s4,k1,k2,k3,k4⟩:=key;obtain⟨b',s5,b1,b2,b3,b4⟩:=B6d (L:=L) (E:=E) (d:=1) hb k4 k2;obtain⟨l',s',q1,q2,q3,q4⟩:=A6f l (acc++[⟨1+(j:Int),x.name,b',(A4 L E s).pos⟩]) s5 post hv.2 (by simp only[A0A,A0G,A0L]at hl ⊢;omega) (by rw[b3];exact J3 k4) b4;refine⟨⟨1+(j:Int),x.name,b',(A4 L E s).pos⟩::l',s',by rw[A0U,A0U,hdp b1 hj.symm rfl,q1],?_,q3,q4⟩;rw[A0O]at q2;refine Evt.ext2 b2 q2 λf hf hf2=>?_;rw[R8,if_pos ⟨hok,hi⟩,if_neg (by rw[hon];decide)];dsimp only;rw[A5i (by simp only[A0G]at hl;omega),he,ham,if_neg (by omega), <- k1,k3]
  grind
theorem B5p{m:Md}(hv:V0 m=true){s:Rd}{post:List Tok}(h:L.drop s.i=mdT m++post)(hok:okR s=true):
  isR L E s [109,111,100,101]=true/\∃m' s',m'.plain=m.plain/\Evt (λf=>A3h L E f s) (m',s')/\L.drop s'.i=post/\okR s'=true:=by
 unfold V0 at hv;simp only[A0F,A0Q]at hv;obtain⟨⟨⟨⟨hn,p0⟩,p1⟩,hl⟩,hh⟩:=hv;have h0:L.drop s.i=A5 [109,111,100,101]::(F7 m.name++(X7 m.prio++(A5 [123]::(m.hds.flatMap hdT++([A5 [125]]++post))))):=by
  rw[h];unfold mdT;simp
 have hpk:=F0 (E:=E) h0;have he:=U5 (E:=E) h0 hok C7u.1;have h1:L.drop (A6 s).i=_:=H7 h0;have htk:=A5d (E:=E) h1 hok hn;have h2:L.drop (A6 (A6 s)).i=_:=A0p (s:=A6 s) h1 (C6 _);have htk2:=B4t (E:=E) h2 hok p0 p1;have h3:L.drop (A6 (A6 (A6 s))).i=_:=A0p (s:=A6 (A6 s)) h2 (F9 _);have he3:=U5 (E:=E) h3 hok w123.1;have h4:L.drop (A6 (A6 (A6 (A6 s)))).i=_:=H7 h3;obtain⟨l',s',q1,q2,q3,q4⟩:=A6f (L:=L) (E:=E) m.hds [] _ post hh (by simp only[A0L];omega) h4 hok;refine⟨by rw[A4s hok,hpk,C7u.1];rfl,⟨m.name,m.prio,l',(A4 L E s).pos⟩,s',?_,q2.map λf hf=>?_,q3,q4⟩
 ·unfold Md.plain;dsimp only;rw[q1]
 grind[A3h]
theorem A5y:∀(l acc:List Md) (s:Rd),l.all V0=true->acc.length+l.length<=16->L.drop s.i=l.flatMap mdT->okR s=true ->
  ∃l' s',l'.map Md.plain=l.map Md.plain/\Evt (λf=>R7 L E f acc s) (acc++l',s')/\okR s'=true
 |[],acc,s,hv,hl,h,hok=>by
  have hi:¬s.i<L.length:=λhlt=>by
   have:=List.drop_eq_nil_iff.1 (show L.drop s.i=[] from h);omega
  refine⟨[],s,rfl,Evt.one λf=>?_,hok⟩
  simp_all[R7,if_neg]
 |m::l,acc,s,hv,hl,h,hok=>by
  simp only[A2N,A0F]at hv;have h0:L.drop s.i=mdT m++l.flatMap mdT:=by rw[h,A2C]
  obtain⟨hm,m',s1,e1,e2,e3,e4⟩:=B5p (E:=E) hv.1 h0 hok;obtain⟨l',s',q1,q2,q4⟩:=A5y l (acc++[m']) s1 hv.2 (by simp only[A0A,A0G,A0L]at hl ⊢;omega) e3 e4;refine⟨m'::l',s',by rw[A0U,A0U,e1,q1],?_,q4⟩;rw[A0O]at q2;refine Evt.ext2 e2 q2 λf hf hf2=>?_;rw[R7,if_pos ⟨hok,(A0m hm).2⟩,if_neg (by rw[hm];decide)];dsimp only;rw[A5i (by simp only[A0G]at hl;omega),if_pos hok,hf]
  grind
end
theorem D6e{h:Hd}(hv:A2e h=true):Y0 h=false:=by
 simp_all[A2e,Y0]
theorem B7l{r:Ru}(hv:M8 r=true)(E:Int):okR (X5 (ruT r) E).2=true/\(X5 (ruT r) E).1.plain=r.plain:=by
 unfold M8 at hv;simp only[A0F,A0Q]at hv;obtain⟨⟨⟨h1,h2⟩,h3⟩,h4⟩:=hv;have hbad:(r.modes.any λm=>m.hds.any Y0)=false:=by
  rw[List.any_eq_false];intro m hm;have:=A0V.1 h4 m hm;unfold V0 at this;simp only[A0F]at this;rw[Bool.not_eq_true,List.any_eq_false];intro h hh;rw[D6e (A0V.1 this.2 h hh)];decide
 have hT:ruT r=r.decls.flatMap dcT++r.modes.flatMap mdT:=by unfold ruT;rw[if_neg (by rw[hbad];decide)]
 have hp:amT (hd0 E (r.modes.flatMap mdT)) D7<0:=by
  cases hm:r.modes with
  |nil=>exact(by decide:(-1:Int)<0)
  |cons m l =>
   have:hd0 E ((m::l).flatMap mdT)=A5 [109,111,100,101]:=by rw[A2C];unfold mdT;rfl
   rw[this,C7u.2];decide
 obtain⟨ld,s1,a1,a2,a3,a4⟩:=A5z (L:=ruT r) (E:=E) r.decls [] rd0 (r.modes.flatMap mdT) h3 (by simpa using h1) hp (by rw[hT];rfl) rfl;obtain⟨lm,s2,b1,b2,b4⟩:=A5y (L:=ruT r) (E:=E) r.modes [] s1 h4 (by simpa using h2) a3 a4;have hr:Evt (λf=>A7e (ruT r) E f rd0) (⟨ld,lm⟩,s2):=a2.map2 b2 λf h1 h2=>by
  unfold A7e;rw[h1];dsimp only;rw[h2];rfl
 rw[(A7f (ruT r) E).uniq hr]
 grind[Ru.plain]
mutual
theorem B3q:∀e:Ex,msM e.plain=msM e
 |.mk k v n a p=>by
  rw[Ex.plain,msM,msM,B3r k 0 a,Ex.plains_map,A0I]
theorem B3r:∀(k:Int) (i:Nat) (l:List Ex),msL k i (Ex.plains l)=msL k i l
 |k,i,[]=>rfl
 |k,i,e::l=>by
  have hk:e.plain.kind=e.kind:=by cases e;rfl
  rw[Ex.plains,msL,msL,B3q e,B3r k (i+1) l,hk]
end
theorem C0b(e:Ex):A0e e.plain=A0e e:=by grind[A0e,B3q]
theorem B0s{l:List St}:(St.plains l).isEmpty=l.isEmpty:=by cases l<;>rfl
theorem A5h(l:List St):(St.plains l).length=l.length:=by grind[St.plains_map]
mutual
theorem B9y:∀(d:Nat) (s:St),S4 d s.plain=S4 d s
 |d,.mk k n t a x y p=>by
  have ha:(Ex.plains a).all A0e=a.all A0e:=by
   grind[Ex.plains_map,List.all_map,C0b]
  rw[St.plain,S4,S4,A0w (d+1) x,A0w (d+1) y,ha,Ex.plains_map,A0I,B0s,B0s,A5h,A5h]
theorem A0w:∀(d:Nat) (l:List St),J0 d (St.plains l)=J0 d l
 |d,[]=>rfl
 |d,s::l=>by rw[St.plains,J0,J0,B9y d s,A0w d l]
end
theorem C0a(h:Hd):A2e h.plain=A2e h:=by
 grind[A2e,Hd.plain,Q4,A0w,A5h]
theorem B9z(m:Md):V0 m.plain=V0 m:=by
 grind[V0,Md.plain,List.all_map,C0a]
theorem B9x(r:Ru):M8 r.plain=M8 r:=by
 unfold M8 Ru.plain;dsimp only;rw[A0I,A0I,List.all_map,List.all_map]
 congr 2
 grind[B9z]
theorem D3x(r:Ru):C5r r=M8 r:=by
 cases hv:M8 r with
 |true =>
  simp_all[B7l,C5r]
 |false =>
  cases hd:C5r r with
  |false=>rfl
  |true =>
   unfold C5r at hd;rw[A0F]at hd;have h2:=@of_decide_eq_true _ (_) hd.2;obtain⟨f,hf⟩:=(A7f (ruT r) 0).get;have h3:=C6a (λt ht=>(D1s r t ht).1) hf hd.1
   grind[B9x]
mutual
theorem D7o:∀(e:Ex) (o d:Nat),msM e=some (o,d)->o<=e.sz/\d+1<=2*e.sz
 |.mk k v n a p,o,d,h=>by
  have hs:(Ex.mk k v n a p).sz=1+n.length+Ex.szs a:=by rfl
  obtain⟨h1,h2,h3,h4,h5,h6⟩:=B1a h;by_cases hc:M9 k=0
  ·grind
  ·obtain⟨d',hl,hd⟩:=h6 hc;have:=C1f k 0 a o d' hl
   grind
theorem C1f:∀(k:Int) (i:Nat) (l:List Ex) (o d:Nat),msL k i l=some (o,d)->o<=Ex.szs l/\d<=2*Ex.szs l
 |k,i,[],o,d,h=>by grind[msL]
 |k,i,e::l,o,d,h=>by
  rw[msL]at h;have hs:Ex.szs (e::l)=e.sz+Ex.szs l:=by rfl
  have hp:=e.sz_pos;cases he:msM e with
  |none=>grind
  |some q =>
   obtain⟨o1,d1⟩:=q;have h1:=D7o e o1 d1 he;rw[he]at h;dsimp only at h;cases hl:msL k (i+1) l with
   |none=>grind
   |some q2 =>
    obtain⟨o2,d2⟩:=q2;have h2:=C1f k (i+1) l o2 d2 hl
    grind
end
def msV:Option (Nat × Nat)->DV
 |none=>.tup [I64 0,I64 0,.bool false]
 |some (o,d)=>.tup [I64 o,I64 d,.bool true]
theorem E1a(q:Option (Nat × Nat)):(msV q).nl=true:=by cases q<;>rfl
theorem D0r{k:Int}{a:List Ex}{i:Nat}{x:Ex}(h:a[i]? = some x):msL k i (a.drop i)=match msM x with
  |none=>none
  |some (o,d)=>match msL k (i+1) (a.drop (i+1)) with
   |none=>none
   |some (o2,d2)=>some (o+o2,max (if A1h k x.kind i=true then d+1 else d) d2):=by
 grind[List.drop_eq_getElem_cons,msL]
end Go.Pb
end
