/-
  HELPERS of the claim: part 4 of its texts.
-/
import Derived.Test.YtkkjpohaffjecaaGreatDoorCmxc
import Derived.ReadAgain
import Derived.ChangeBears
import Derived.Deep.Slices
import Derived.Below
import Derived.OpenShut
import Derived.Lib.LaidTab
import Derived.Lib.ParseIntB
import Derived.Lib.Bytealg
import Derived.KernelRfl
import Derived.Lib.Join
noncomputable section
set_option linter.unusedVariables false
set_option linter.unusedSectionVars false
set_option linter.unusedSimpArgs false
namespace Go.Sym
variable [Go.Sym.Tab]
open Go.RowKit Go.Pb Go.Deep
section
variable {H:Type} {enc:TypeId × Value->H} {P:Program} {T:TypeId->Prop} {W W':World} {hT:TabOk W}
theorem arg_kept(K:Kids P T)(hz:∀ t e,T t->P.underlying t=some (.slice e)->0<P.cellsOf e)(hb:Below W.heap.size W W'){sp:Nat->Bool}:
  ∀ {ts:List TypeId} {vs:List Value} {ds:List (DataW H)} {ps:List MemPlace},(∀ t∈ts,T t)->DataW.TrodAll enc P W 0 (fun _=>true) true ts vs ds ps->(∀ p∈ps,sp p.block=true)->DataW.TrodAll enc P W' 0 sp true ts vs ds ps
 |[],[],[],_,_,h,_=>h
 |t :: ts,v :: vs,d :: ds,ps,hT,⟨p,q,h1,h2,e⟩,hs=>by
  have hlt:=h1;refine⟨p,q,?_,arg_kept K hz hb (fun t ht=>hT t (A1P.2 (Or.inr ht))) h2 (fun x hx=>hs x (by rw[e];exact List.mem_append_right _ hx)),e⟩;have h3:=h1.respare K hz (hT _ (A1P.2 (Or.inl rfl))) (spare':=sp) (fun x hx=>hs x (by rw[e];exact A3M _ hx));obtain⟨n,hn⟩:=h3;obtain⟨m,hm⟩:=h1;exact⟨n,DataW.trod_carry n _ _ _ hn fun x hx=>hb.same (DataW.trod_lt m _ _ _ hm x hx)⟩
theorem u8_of{n:Int}(h:(Lit.int .u8 n).wf=true):n=((UInt8.ofNat n.toNat).toNat:Int):=by
 have:=bounds_u8 h;simp;omega
theorem open_bytes{t e:TypeId}{v:Value}{d:DataW H}{ps:List MemPlace}(ht:P.underlying t=some (.slice e))(he:P.underlying e=some (.int .u8))(hc:P.cellsOf e=1)
  (h:DataW.Trod enc P W 0 (fun _=>true) true t v d ps) (hv:v.cells = #[v]):∃ l:List UInt8,l.length<=9223372036854775807/\VRel (topR W hT) (.lst (bytesC l)) v:=by
 obtain⟨n,hn⟩:=h;rcases open_slice1 ht hc hn with ⟨h1, -⟩|⟨a,len,cap,m,n',V,D,Pl,h1,h2,h3,h4,h5,h6,h7⟩
 ·rw[hv]at h1;have:v=.slice none 0 0:=by simpa using h1
  subst this;exact⟨[],by simp,.lnil0⟩
 ·rw[hv]at h1;have hva:v=.slice (some a) len cap:=by simpa using h1
  subst hva;simp only[if_true]at h5;have hk:∀ i,i<len->∃ k:Int,V i=.int .u8 k/\(Lit.int .u8 k).wf=true:=by
   intro i hi;obtain⟨k,q1,q2,q3⟩:=DataW.trod_int he (h7 i (by omega)).2;exact⟨k,by simpa using q1,q3⟩
  by_cases hl0:len=0
  ·subst hl0;exact⟨[],by simp,.lnil a cap⟩
  have hcell:=(h7 0 (by omega)).1;have hadd0:a.add 0=a:=by simp[Addr.add]
  rw[hadd0]at hcell;obtain⟨b,off,spot⟩:=a;have hspot:spot=none:=by
   simp only[World.cell?]at hcell;split at hcell
   ·split at hcell
    ·cases hcell
    ·rename_i h;cases spot with
     |none=>rfl
     |some s=>simp at h
   ·cases hcell
  subst hspot;have hrow:∃ row ty fr,W.heap[b]? = some (.cells row ty fr):=by
   simp only[World.cell?]at hcell;split at hcell
   ·rename_i row ty fr h;exact⟨row,ty,fr,h⟩
   ·cases hcell
  obtain⟨row,ty,fr,hb⟩:=hrow;have hget:∀ i,i<len->row[off+i]? = some (V i):=by
   intro i hi;have h8:=(h7 i (by omega)).1;have e1:(⟨b,off,none⟩:Addr).add i=⟨b,off+i,none⟩:=by
    unfold Addr.add;split
    ·rename_i h0;subst h0;rfl
    ·rfl
   rw[e1]at h8;simp only[World.cell?,hb]at h8;exact h8
  obtain⟨F,hF⟩:∃ F:Nat->UInt8, ∀ i,i<len->V i=.int .u8 ((F i).toNat:Int):=by
   have:∀ i, ∃ f:UInt8,i<len->V i=.int .u8 (f.toNat:Int):=fun i=>by
    by_cases hi:i<len
    ·obtain⟨k,q1,q2⟩:=hk i hi;exact⟨UInt8.ofNat k.toNat,fun _=>by rw[q1, <- u8_of q2]⟩
    ·exact⟨0,fun h=>absurd h hi⟩
   exact⟨fun i=>Classical.choose (this i),fun i hi=>A3H (this i) hi⟩
  refine⟨(List.range len).map F,by simp only[A0F,List.length_range];simp only[maxLen]at h4;omega,?_⟩;have hcl:cellsL (bytesC ((List.range len).map F))=bytesC ((List.range len).map F):=V2 (fun _=>rfl) _;have hlen:(bytesC ((List.range len).map F)).length=len:=by rw[A1w];simp
  refine .lst _ _ 1 b off cap row (A6b hb) hlen.symm h3 h4 (fun x hx=>by obtain⟨y, -,rfl⟩:=A1D.1 hx;rfl) ?_ ?_ ?_
  ·rw[hcl,hlen];have:=(A0X.1 (hget (len-1) (by omega))).1;omega
  ·rw[hcl];intro x hx;obtain⟨y, -,rfl⟩:=A1D.1 hx;rfl
  ·rw[hcl];intro k x y hx hy;have hkl:k<len:=by have:=(A0K.1 hx).1;omega
   rw[hget k hkl,hF k hkl]at hy;cases hy;have hx2:(bytesC ((List.range len).map F))[k]? = some (DV.int .u8 ((F k).toNat:Int)):=by simp[bytesC,hkl]
   rw[hx2]at hx;cases hx;exact .int _ _
end
end Go.Sym
namespace Go.Pb
variable [Go.Sym.Tab]
open Go.Sym
theorem N0{s t:List UInt8}(h:s.length+t.length<=9223372036854775807):binR .add (.str s) (.str t)=some (.str (s++t)):=B9x (by assumption)
def Z5(d:Nat):UInt8:=UInt8.ofNat (48+d)
def B0f(n:Nat):List UInt8:=if n<10 then [Z5 n] else B0f (n / 10)++[Z5 (n % 10)]
termination_by n
decreasing_by omega
theorem A5v{n:Nat}(h:n<10):B0f n=[Z5 n]:=by rw[B0f,if_pos h]
theorem B0e{n:Nat}(h:¬n<10):B0f n=B0f (n / 10)++[Z5 (n % 10)]:=by rw[B0f,if_neg h]
theorem B2n:∀ (k n:Nat),n<10 ^ (k+1)->(B0f n).length<=k+1
 |0,n,h=>by rw[A5v (by omega)];simp
 |k+1,n,h=>by
  by_cases h0:n<10
  ·rw[A5v h0];simp
  ·rw[B0e h0,A0A];have:=B2n k (n / 10) (by rw[Nat.pow_succ]at h;omega)
   grind
def O3(n:Int):List UInt8:=if n<0 then 45 :: B0f n.natAbs else B0f n.natAbs
theorem L6{n:Int}(h1 : -9223372036854775808<=n)(h2:n<=9223372036854775807):(O3 n).length<=21:=by
 have:=B2n 19 n.natAbs (by omega);unfold O3;grind
theorem D1a{d:Nat}(h:d<10):IntKind.u8.wrap (IntKind.i64.wrap (48+(d:Int)))=((Z5 d).toNat:Int):=by
 rw[w6z (by omega),wu8 (by omega) (by omega),Z5];simp;omega
def Q5(n:Int):Nat:=n.natAbs % 10
def U4(n:Int):Nat:=n.natAbs / 10
theorem B6e(n:Int):Q5 n<10:=by unfold Q5;omega
theorem B6i{n:Int}(h:n≠0):U4 n<n.natAbs:=by unfold U4;omega
theorem C4l{n:Int}(h:n<0):n.tdiv 10 = -((U4 n:Nat):Int):=by
 unfold U4
 grind
theorem C4k{n:Int}(h:n<0):n.tmod 10 = -((Q5 n:Nat):Int):=by
 unfold Q5
 grind
theorem C4d{n:Int}(h:0<=n):n.tdiv 10=((U4 n:Nat):Int):=by
 unfold U4
 grind
theorem C4c{n:Int}(h:0<=n):n.tmod 10=((Q5 n:Nat):Int):=by
 unfold Q5
 grind
theorem B8e{n:Int}(h:n<0)(h1:U4 n=0):O3 n=[45]++[Z5 (Q5 n)]:=by
 unfold U4 at h1;have h2:n.natAbs<10:=by omega
 have h3:Q5 n=n.natAbs:=by unfold Q5;omega
 rw[O3,if_pos h,A5v h2,h3];rfl
theorem C2j{n:Int}(h:n<0)(h1:U4 n≠0):O3 n=O3 (-(U4 n:Int))++[Z5 (Q5 n)]:=by
 have h2:¬n.natAbs<10:=by unfold U4 at h1;omega
 rw[O3,if_pos h,B0e h2,O3,if_pos (by omega),Int.natAbs_neg,Int.natAbs_natCast];rfl
theorem B6l{n:Int}(h:0<=n)(h1:n<10):O3 n=[Z5 (Q5 n)]:=by
 have h3:Q5 n=n.natAbs:=by unfold Q5;omega
 rw[O3,if_neg (by omega),A5v (by omega),h3]
theorem C5w{n:Int}(h:¬n<10):O3 n=O3 (U4 n:Int)++[Z5 (Q5 n)]:=by
 rw[O3,if_neg (by omega),B0e (by omega),O3,if_neg (by omega),Int.natAbs_natCast];rfl
end Go.Pb
namespace Go.Sym
variable [Go.Sym.Tab]
open Go.RowKit Go.Pb Go.Deep
theorem A6r:∀ {xs:List DV} {d:DV},d∈cellsL xs->∃ y∈xs,d∈y.cells
 |[],d,h=>by cases h
 |x :: r,d,h=>by
  rcases A1R.1 h with h|h
  ·exact⟨x,A0M,h⟩
  ·obtain⟨y,h1,h2⟩:=A6r h;exact⟨y,A0L _ h1,h2⟩
section
variable {H:Type} {enc:TypeId × Value->H} {P:Program} {W W':World} {hT:TabOk W}
end
end Go.Sym
namespace Go.Pb
variable [Go.Sym.Tab]
open Go.Sym
structure Tok where
 kind:Int
 text:List UInt8
 value:Int
 pos:Int
deriving DecidableEq
abbrev Tok.v(t:Tok):DV:=.agg [I64 t.kind,.str t.text,I64 t.value,I64 t.pos]
abbrev D3(l:List Tok):DV:=.lst (l.map Tok.v)
theorem D7(l:List Tok):∀ x∈l.map Tok.v,x.cells.length=4:=by
 intro x hx;obtain⟨y, -,rfl⟩:=A1D.1 hx;rfl
@[simp]theorem I7(l:List Tok):DV.nlL (l.map Tok.v)=true:=H9 (fun _=>rfl) l
def ltB(c:UInt8):Bool:=(decide (97<=c.toNat) && decide (c.toNat<=122)) || (decide (65<=c.toNat) && decide (c.toNat<=90))
def dgB(c:UInt8):Bool:=decide (48<=c.toNat) && decide (c.toNat<=57)
def ptB(c:UInt8):Bool:=ltB c || dgB c || decide (c.toNat=95)
def D2(p:UInt8->Bool):List UInt8->Nat
 |[]=>0
 |c :: r=>if p c=true then D2 p r+1 else 0
theorem U7(p:UInt8->Bool):∀ s:List UInt8,D2 p s<=s.length
 |[]=>A0G _
 |c :: r=>by
  have:=U7 p r;simp only[D2,A0D];grind
theorem A5j{p:UInt8->Bool}:∀ {s:List UInt8} {k:Nat} {c:UInt8},s[k]? = some c->k<=D2 p s->(p c=true->k+1<=D2 p s)/\(p c=false->D2 p s=k)
 |[],k,c,h,_=>by grind
 |x :: r,0,c,h,_=>by
  cases h;simp only[D2]
  grind
 |x :: r,k+1,c,h,hk=>by
  simp only[D2]at hk ⊢;split at hk
  ·rename_i hx;rw[if_pos hx];have:=A5j (p:=p) (s:=r) (k:=k) (c:=c) (by simpa using h) (by omega);exact⟨fun h=>by have:=this.1 h;omega,fun h=>by have:=this.2 h;omega⟩
  omega
theorem B1d{p:UInt8->Bool}{s:List UInt8}{k:Nat}(h:s.length<=k)(hk:k<=D2 p s):D2 p s=k:=by
 have:=U7 p s;omega
def A4s(c:UInt8):Bool:=decide (c.toNat=9) || decide (c.toNat=10) || decide (c.toNat=13) || decide (c.toNat=32)
def skM:Bool->List UInt8->Nat
 |_,[]=>0
 |true,c :: r=>if c.toNat=10 then skM false r+1 else skM true r+1
 |false,c :: r=>if A4s c=true then skM false r+1 else if c.toNat=35 then skM true r+1 else 0
theorem X9:∀ (b:Bool) (s:List UInt8),skM b s<=s.length
 |_,[]=>by simp[skM]
 |true,c :: r=>by
  have h1:=X9 true r;have h2:=X9 false r;simp only[skM,A0D];grind
 |false,c :: r=>by
  have h1:=X9 true r;have h2:=X9 false r;simp only[skM,A0D];grind
theorem B1f:∀ (s:List UInt8),skM true s=D2 (fun c=>decide (c.toNat≠10)) s+skM false (s.drop (D2 (fun c=>decide (c.toNat≠10)) s))
 |[]=>by rfl
 |c :: r=>by
  by_cases h:c.toNat=10
  ·simp[skM,D2,h,A4s]
  ·have ih:=B1f r;simp only[skM,D2,h,if_false,ne_eq,not_false_eq_true,decide_true,if_true,List.drop_succ_cons]at ih ⊢;omega
def w8(l:List Nat):List UInt8:=l.map UInt8.ofNat
def E6:List (List UInt8):=[w8 [115,119,105,116,99,104],w8 [99,111,105,108],w8 [108,97,109,112],w8 [115,111,117,110,100],w8 [115,104,111,119],w8 [118,97,114],w8 [116,105,109,101,114],w8 [101,118,101,110,116],w8 [109,111,100,101],w8 [111,110],w8 [115,116,97,114,116],w8 [115,116,111,112],w8 [99,108,111,115,101],w8 [111,112,101,110],w8 [105,102],w8 [101,108,115,101],w8 [114,101,112,101,97,116],w8 [115,99,111,114,101],w8 [102,105,114,101],w8 [104,111,108,100],w8 [114,101,108,101,97,115,101],w8 [108,105,103,104,116],w8 [98,108,105,110,107],w8 [98,101,103,105,110],w8 [101,110,100],w8 [112,111,115,116],w8 [112,108,97,121],w8 [114,117,110],w8 [104,97,108,116],w8 [116,101,120,116],w8 [99,111,110,115,117,109,101],w8 [99,108,111,115,101,100],w8 [97,99,116,105,118,101],w8 [108,101,102,116],w8 [112,108,97,121,101,114],w8 [98,97,108,108],w8 [116,114,117,101],w8 [102,97,108,115,101]]
def F9(s:List UInt8):Bool:=E6.contains s
def D0(s:List UInt8):Bool:=decide (1<=s.length) && decide (s.length<=12) && (match s with|c :: _=>ltB c |[]=>false) && decide (D2 ptB s=s.length) && !F9 s
def quM:List UInt8->Option (List UInt8 × Nat)
 |[]=>none
 |c :: r =>
  if c.toNat=34 then some ([],1)
  else if c.toNat<32\/126<c.toNat then none
  else if c.toNat=92 then match r with
   |[]=>none
   |d :: q=>if d.toNat=34\/d.toNat=92 then (quM q).map fun x=>(d :: x.1,x.2+2) else none
  else (quM r).map fun x=>(c :: x.1,x.2+1)
def O9(s:List UInt8):Nat:=s.foldl (fun n c=>10 * n+(c.toNat-48)) 0
theorem B7l{s:List UInt8}{k:Nat}{c:UInt8}(h:s[k]? = some c):O9 (s.take (k+1))=10 * O9 (s.take k)+(c.toNat-48):=by
 unfold O9;rw[A0S,h,List.foldl_append];rfl
def A9a(c d:UInt8):Bool:=[(60,61),(62,61),(61,61),(33,61),(38,38),(124,124)].contains (c.toNat,d.toNat)
def B1q(c:UInt8):Bool:=[123,125,40,41,59,44,61,43,45,42,47,37,33,60,62].contains c.toNat
def M3:List UInt8->Nat
 |c :: d :: _=>if A9a c d=true then 2 else if B1q c=true then 1 else 0
 |[c]=>if B1q c=true then 1 else 0
 |[]=>0
structure Nx where
 kind:Int
 text:List UInt8
 value:Int
 n:Nat
 err:Int
def nxE(e:Int):Nx:=⟨0,[],0,0,e⟩
def C0:List UInt8->Nx
 |[]=>nxE 47
 |c :: r =>
  if ltB c=true then
   if 12<D2 ptB (c :: r) then nxE 9 else ⟨if F9 ((c :: r).take (D2 ptB (c :: r)))=true then 2 else 1,(c :: r).take (D2 ptB (c :: r)),0,D2 ptB (c :: r),0⟩
  else if dgB c=true then
   if 1<D2 dgB (c :: r)/\c.toNat=48 then nxE 47
   else if 2147483647<O9 ((c :: r).take (D2 dgB (c :: r))) then nxE 5
   else ⟨3,[],(O9 ((c :: r).take (D2 dgB (c :: r))):Int),D2 dgB (c :: r),0⟩
  else if c.toNat=34 then match quM r with
   |none=>nxE 48
   |some x=>if 32<x.1.length then nxE 9 else ⟨4,x.1,0,x.2+1,0⟩
  else if M3 (c :: r)=0 then nxE 47 else ⟨5,(c :: r).take (M3 (c :: r)),0,M3 (c :: r),0⟩
def M9:Nat->List UInt8->Nat->List Tok->List Tok × Int × Int
 |0,_,_,acc=>(acc,0,0)
 |f+1,src,at_,acc =>
  if src.length<=at_ then (acc,0,0)
  else if (C0 (src.drop at_)).err≠0 then ([],(at_:Int),(C0 (src.drop at_)).err)
  else M9 f src (at_+(C0 (src.drop at_)).n+skM false (src.drop (at_+(C0 (src.drop at_)).n)))
   (acc++[⟨(C0 (src.drop at_)).kind,(C0 (src.drop at_)).text,(C0 (src.drop at_)).value,(at_:Int)⟩])
def C3(s:List UInt8):List Tok × Int × Int:=if 20000<s.length then ([],0,9) else M9 (s.length+1) s (skM false s) []
abbrev B9r(q:List Tok × Int × Int):DV:=.tup [D3 q.1,I64 q.2.1,I64 q.2.2]
theorem C0d:∀ {s t:List UInt8} {n:Nat},quM s=some (t,n)->1<=n/\n<=s.length/\t.length<=n
 |[],t,n,h=>by trivial
 |c :: r,t,n,h=>by
  unfold quM at h;split at h
  ·grind
  ·split at h
   ·grind
   ·split at h
    ·cases r with
     |nil=>grind
     |cons d q =>
      simp only at h;split at h
      ·obtain⟨⟨t',n'⟩,h1,h2⟩:=A0N.1 h;have:=C0d h1;cases h2;simp only[A0D];omega
      grind
    ·obtain⟨⟨t',n'⟩,h1,h2⟩:=A0N.1 h;have:=C0d h1
     grind
theorem B9l:∀ s:List UInt8,M3 s<=s.length
 |[]=>by trivial
 |[c]=>by simp only[M3];grind
 |c :: d :: r=>by simp only[M3,A0D];grind
theorem A9s{s:List UInt8}(h:(C0 s).err=0):1<=(C0 s).n/\(C0 s).n<=s.length:=by
 cases s with
 |nil=>trivial
 |cons c r =>
  have hp:=U7 ptB (c :: r);have hd:=U7 dgB (c :: r);have hs:=B9l (c :: r);simp only[C0]at h ⊢;split
  ·rename_i hc;rw[if_pos hc]at h;split
   ·rename_i h1;rw[if_pos h1]at h;trivial
   ·have:1<=D2 ptB (c :: r):=by simp[D2,ptB,hc]
    grind
  ·rename_i hc;rw[if_neg hc]at h;split
   ·rename_i hc2;rw[if_pos hc2]at h;split
    ·rename_i h1;rw[if_pos h1]at h;trivial
    ·rename_i h1;rw[if_neg h1]at h;split
     ·rename_i h2;rw[if_pos h2]at h;trivial
     ·have:1<=D2 dgB (c :: r):=by simp[D2,hc2]
      grind
   ·rename_i hc2;rw[if_neg hc2]at h;split
    ·rename_i hc3;rw[if_pos hc3]at h;cases hq:quM r with
     |none=>rw[hq]at h;trivial
     |some x =>
      obtain⟨t,n⟩:=x;rw[hq]at h;simp only at h ⊢;have:=C0d hq;split
      ·rename_i h1;rw[if_pos h1]at h;simp[nxE]at h
      grind
    ·rename_i hc3;rw[if_neg hc3]at h;split
     ·rename_i h1;rw[if_pos h1]at h;simp[nxE]at h
     grind
end Go.Pb
namespace Go.Sym
variable [Go.Sym.Tab]
open Go.RowKit Go.Pb Go.Deep Go.ChangeShapes
theorem B0w{P:Program}{w:World}{n:String}{g:Nat}{cs:Array Value}(e1:P.globalNamed n=some g)(e3:w.var? P n=some cs):B0x w g=some cs:=by
 unfold World.var? at e3;rw[e1,Option.bind_some]at e3;unfold B0x;split at e3
 ·rename_i r ty fr hh;cases e3;rw[hh]
 ·cases e3
theorem A6u{P:Program}{w:World}{n:String}{d:DataW Unit}:∀ {l:List (String × DataW Unit)} {ps:List MemPlace},DataW.LaidVars P w l ps->(n,d)∈l ->
  ∃ g t cs fuel p,P.globalNamed n=some g/\(P.globals[g]?).map (·.type)=some t/\w.var? P n=some cs/\DataW.trod (fun _=>()) P w 0 (fun _=>true) false fuel t cs.toList=some (d,p)
 |[],ps,_,hm=>by cases hm
 |(n',d') :: l,ps,h,hm=>by
  obtain⟨g,t,cs,fuel,p,q,h1,h2,h3,h4,h5, -⟩:=h;rcases A1P.1 hm with e|hm
  ·cases e;exact⟨g,t,cs,fuel,p,h1,h2,h3,h4⟩
  ·exact A6u h5 hm
theorem laid_tab{P:Program}{w:World}{n:String}{d:DataW Unit}{l:List (String × DataW Unit)}{g t e m:Nat}{k:IntKind}{zs:List Int}(h:laidMet P l w)(hm:(n,d)∈l)(hg:P.globalNamed n=some g)
  (ht:(P.globals[g]?).map (·.type)=some t) (hu:P.underlying t=some (.array m e)) (he:P.underlying e=some (.int k)) (hce:P.cellsOf e=1) (hct:P.cellsOf t=m) (hd:d=Lib.tabData k zs) :
  ∃ r,B0x w g=some r/\r=(zs.map fun z=>Value.int k z).toArray:=by
 obtain⟨ps,h1, -⟩:=h;obtain⟨g',t',cs,fuel,p,e1,e2,e3,e4⟩:=A6u h1 hm;rw[hg]at e1;cases e1;rw[ht]at e2;cases e2;rw[hd]at e4;have hc:=Lib.cells_of_tab hu he hce hct e4;exact⟨cs,B0w hg e3,Array.toList_inj.1 (hc.trans (by simp))⟩
theorem B0u{P:Program}{w:World}{fuel:Nat}{t:TypeId}{ms}{cs:List Value}{nm:String}{d:DataW Unit}{p:List MemPlace}(hu:P.underlying t=some (.interface ms))
  (h:DataW.trod (fun _=>()) P w 0 (fun _=>true) false fuel t cs=some (.iface nm d,p)):∃ te pe,cs=[.iface te pe]:=by
 cases fuel with
 |zero=>simp[DataW.trod]at h
 |succ fuel =>
  simp only[DataW.trod,hu]at h;split at h<;>first|exact⟨_,_,rfl⟩|(simp_all;done)
theorem laid_err{P:Program}{w:World}{n:String}{nm:String}{d:DataW Unit}{l:List (String × DataW Unit)}{g t:Nat}{ms}(h:laidMet P l w)(hm:(n,DataW.iface nm d)∈l)(hg:P.globalNamed n=some g)
  (ht:(P.globals[g]?).map (·.type)=some t) (hu:P.underlying t=some (.interface ms)):∃ r,B0x w g=some r/\∃ te pe,r = #[.iface te pe]:=by
 obtain⟨ps,h1, -⟩:=h;obtain⟨g',t',cs,fuel,p,e1,e2,e3,e4⟩:=A6u h1 hm;rw[hg]at e1;cases e1;rw[ht]at e2;cases e2;obtain⟨te,pe,e5⟩:=B0u hu e4;exact⟨cs,B0w hg e3,te,pe,Array.toList_inj.1 e5⟩
section
variable {H:Type} {enc:TypeId × Value->H} {P:Program} {W W':World} {hT:TabOk W}
theorem open_u8{r:Reach}{b0:Nat}{t:TypeId}{v:Value}{d:DataW H}{ps:List MemPlace}(ht:P.underlying t=some (.int .u8))(hval:Value.okWide P W r b0 t v)(hd:DataW.Trod enc P W 0 (fun _=>true) true t v d ps):
  ∃ u:UInt8,VRel (topR W hT) (.int .u8 (u.toNat:Int)) v:=by
 obtain⟨n,rfl, -, -,hw⟩:=open_int ht hval hd;have:=u8_of hw;rw[this];exact⟨_,.int _ _⟩
end
def A1a(ρ : Ren)(ds:List DV)(cs:List Value):Prop:=ds.length=cs.length/\∀ (j:Nat) d v,ds[j]? = some d->cs[j]? = some v->VRel ρ d v
theorem A1a.app{ρ : Ren}{a b:List DV}{x y:List Value}(h:A1a ρ a x)(k:A1a ρ b y):A1a ρ (a++b) (x++y):=by
 refine⟨by rw[A0A,A0A,h.1,k.1],fun j d v hd hv=>?_⟩;by_cases hj:j<a.length
 ·rw[A2C hj]at hd;rw[A2C (by rw[<- h.1];exact hj)]at hv;exact h.2 j d v hd hv
 ·rw[A2K (by omega)]at hd;rw[A2K (by rw[<- h.1];omega), <- h.1]at hv;exact k.2 _ d v hd hv
theorem A1a.one{ρ : Ren}{d:DV}{v:Value}(h:VRel ρ d v):A1a ρ [d] [v]:=⟨rfl,fun j d' v' hd hv=>by
 match j with
 |0=>cases hd;cases hv;exact h
 |_+1=>cases hd⟩
theorem A1a.agg{ρ : Ren}{ds:List DV}{cs:Array Value}(h:A1a ρ ds cs.toList):VRel ρ (.agg ds) (.agg cs) :=
 .agg _ _ (by rw[h.1];simp) (fun i x y hx hy=>h.2 i x y hx (by simpa using hy))
section
variable {H:Type} {enc:TypeId × Value->H} {P:Program} {W W':World} {hT:TabOk W}
end
section
variable {H:Type} {enc:TypeId × Value->H} {P:Program} {W W':World} {hT:TabOk W}
structure Bulky (B:DataW H->Nat):Prop where
 pos:∀ d,1<=B d
 str:∀ l,B (.lit (.string l))=l.length+1
 slc:∀ xs ys,(xs.map B).sum+1<=B (.slice xs ys)
 agg:∀ xs,B (.agg xs)=(xs.map B).sum+1
def ReadsB(enc:TypeId × Value->H)(P:Program)(W:World)(hT:TabOk W)(B:DataW H->Nat)(t:TypeId)(N:Nat){α : Type}(G : α -> DV)(sz : α -> Nat):Prop :=
 ∀ (n:Nat) (cs:List Value) (x:DataW H × List MemPlace),DataW.trod enc P W 0 (fun _=>true) true n t cs=some x->B x.1<=N->∃ a : α,sz a<=B x.1/\A1a (topR W hT) (G a).cells cs
theorem C8l{B:DataW H->Nat}(hB:Bulky B){t:TypeId}{N:Nat}(ht:P.underlying t=some (.int .i64)):ReadsB enc P W hT B t N I64 (fun _=>1):=by
 intro n cs x h _;obtain⟨k,rfl, -,w⟩:=DataW.trod_int ht h;exact⟨k,hB.pos _,.one (.int _ _)⟩
theorem C8k{B:DataW H->Nat}(hB:Bulky B){t:TypeId}{N:Nat}(ht:P.underlying t=some .string):ReadsB enc P W hT B t N DV.str (fun s=>s.length+1):=by
 intro n cs x h _;obtain⟨s,rfl,rfl,w⟩:=DataW.trod_string ht h;refine⟨s.data.toList,?_,.one (.str _)⟩;rw[hB.str];exact A0G _
theorem A2e{f g:Nat->Nat}:∀ {n:Nat},(∀ i,i<n->f i<=g i)->((List.range n).map f).sum<=((List.range n).map g).sum
 |0,_=>A0G _
 |n+1,h=>by
  have:=A2e (f:=f) (g:=g) (n:=n) fun i hi=>h i (by omega);have:=h n (by omega);simp only[List.range_succ,A0R,List.sum_append,A0U,List.map_nil,A3A,List.sum_nil];omega
theorem A2r{g:Nat->Nat}:∀ {n i:Nat},i<n->g i<=((List.range n).map g).sum
 |0,i,h=>by omega
 |n+1,i,h=>by
  simp only[List.range_succ,A0R,List.sum_append,A0U,List.map_nil,A3A,List.sum_nil];by_cases hi:i<n
  ·have:=A2r (g:=g) hi;omega
  ·obtain rfl:i=n:=by omega
   omega
theorem B9v{B:DataW H->Nat}(hB:Bulky B){α : Type}{t e:TypeId}{u N:Nat}{G : α -> DV}{sz : α -> Nat}(hu0:0<u)(ht:P.underlying t=some (.slice e))(hc:P.cellsOf e=u)
  (hF:∀ a,(G a).cells.length=u) (h1:∀ a, ∀ d∈(G a).cells,d.one=true)
  (elem:ReadsB enc P W hT B e N G sz):ReadsB enc P W hT B t (N+1) (fun l:List α => .lst (l.map G)) (fun l=>(l.map sz).sum):=by
 intro n cs x hn hx;rcases open_slice ht hn with ⟨h1',h2'⟩|⟨a,len,cap,m,n',D,Pl,g1,g2,g3,g4,g5,g6,g7⟩
 ·subst h1';exact⟨[],A0O _,.one .lnil0⟩
 subst g1;simp only[if_true]at g5;have hD:((List.range len).map fun i=>B (D i)).sum+1<=B x.1:=by
  rw[g6];have:=hB.slc ((List.range len).map D) ((List.range (m-len)).map fun j=>D (len+j));rw[A2E]at this;exact this
 by_cases hl0:len=0
 ·subst hl0;exact⟨[],A0O _,.one (.lnil a cap)⟩
 rw[hc]at g7;have E:∀ i,i<len->∃ (cs:List Value) (y : α),sz y<=B (D i)/\cs.length=u/\(∀ j,j<u->W.cell? ((a.add (i * u)).add j)=cs[j]?)/\∀ (j:Nat) d,(G y).cells[j]? = some d->∃ v,cs[j]? = some v/\VRel (topR W hT) d v:=by
  intro i hi;obtain⟨cs,q1,q2⟩:=g7 i (by omega);obtain⟨-,q3,q4⟩:=World.cells?_some q1;have hDi:B (D i)<=N:=by
   have:=A2r (g:=fun i=>B (D i)) hi;omega
  obtain⟨y,q5,q6⟩:=elem n' cs _ q2 hDi;refine⟨cs,y,q5,q3,q4,fun j d hd=>?_⟩;have hj:=(A0K.1 hd).1;rw[q6.1]at hj;exact⟨cs[j],A0C hj,q6.2 j d _ hd (A0C hj)⟩
 obtain⟨cs0,y0, -,z1,z2, -⟩:=E 0 (by omega);obtain⟨v0,hv0⟩:∃ v0,cs0[0]? = some v0:=⟨_,A0C (by omega)⟩;have hcell:=z2 0 hu0;rw[hv0,Nat.zero_mul]at hcell;have hadd0:∀ b:Addr,b.add 0=b:=fun b=>by simp[Addr.add]
 rw[hadd0,hadd0]at hcell;obtain⟨b,off,spot⟩:=a;have hspot:spot=none:=by
  simp only[World.cell?]at hcell;split at hcell
  ·split at hcell
   ·cases hcell
   ·rename_i h;cases spot with
    |none=>rfl
    |some s=>simp at h
  ·cases hcell
 subst hspot;have hrow:∃ row ty fr,W.heap[b]? = some (.cells row ty fr):=by
  simp only[World.cell?]at hcell;split at hcell
  ·rename_i row ty fr h;exact⟨row,ty,fr,h⟩
  ·cases hcell
 obtain⟨row,ty,fr,hb⟩:=hrow;have hadd:∀ o i,(⟨b,o,none⟩:Addr).add i=⟨b,o+i,none⟩:=by
  intro o i;unfold Addr.add;split
  ·rename_i h0;subst h0;rfl
  ·rfl
 have E2:∀ i, ∃ y : α,i<len->sz y<=B (D i)/\∀ (j:Nat) d,(G y).cells[j]? = some d->∃ v,row[off+i * u+j]? = some v/\VRel (topR W hT) d v:=by
  intro i;by_cases hi:i<len
  ·obtain⟨cs,y,q1,q2,q3,q4⟩:=E i hi;refine⟨y,fun _=>⟨q1,fun j d hd=>?_⟩⟩;have hj:j<u:=by have:=(A0K.1 hd).1;rw[hF]at this;exact this
   obtain⟨v,e1,e2⟩:=q4 j d hd;have e3:=q3 j hj;rw[hadd,hadd,e1]at e3;simp only[World.cell?,hb]at e3;exact⟨v,e3,e2⟩
  ·exact⟨y0,fun h=>absurd h hi⟩
 obtain⟨K,hK⟩:∃ K:Nat -> α, ∀ i,i<len->sz (K i)<=B (D i)/\∀ (j:Nat) d,(G (K i)).cells[j]? = some d->∃ v,row[off+i * u+j]? = some v/\VRel (topR W hT) d v :=
  ⟨fun i=>Classical.choose (E2 i),fun i hi=>A3H (E2 i) hi⟩
 have hU:∀ y∈((List.range len).map K).map G,y.cells.length=u:=fun y hy=>by obtain⟨z, -,rfl⟩:=A1D.1 hy;exact hF z
 have hlen:(((List.range len).map K).map G).length=len:=by simp
 have hcl:(cellsL (((List.range len).map K).map G)).length=len * u:=by rw[B6 hU,hlen]
 have hget:∀ i j,i<len->j<u->(cellsL (((List.range len).map K).map G))[i * u+j]? = (G (K i)).cells[j]? := by
  intro i j hi hj;have e1:(((List.range len).map K).map G)[i]? = some (G (K i)):=by simp[hi]
  have e2:=A4p hU e1;rw[<- e2,A1I,if_pos hj,A1W]
 refine⟨(List.range len).map K,?_,.one ?_⟩
 ·dsimp only;rw[A2E];have:=A2e (f:=sz∘K) (g:=fun i=>B (D i)) (n:=len) fun i hi=>(hK i hi).1;omega
 ·refine .lst _ len u b off cap row (A6b hb) hlen.symm g3 g4 hU ?_ ?_ ?_
  ·rw[hcl];obtain⟨k,rfl⟩:∃ k,len=k+1:=⟨len-1,by omega⟩;obtain⟨d,hd⟩:∃ d,(G (K k)).cells[u-1]? = some d:=⟨_,A0C (by rw[hF];omega)⟩;obtain⟨v,e1, -⟩:=(hK k (by omega)).2 _ _ hd;have:=(A0X.1 e1).1;rw[Nat.succ_mul];omega
  ·intro d hd;obtain⟨y,hy,hd2⟩:=A6r hd;obtain⟨z, -,rfl⟩:=A1D.1 hy;exact h1 z d hd2
  ·intro k d v hd hv;have hk:k<len * u:=by have:=(A0K.1 hd).1;rw[hcl]at this;exact this
   have hi:k / u<len:=Nat.div_lt_of_lt_mul (by rw[Nat.mul_comm];exact hk);have hj:=Nat.mod_lt k hu0;have hkk:k / u * u+k % u=k:=by rw[Nat.mul_comm];exact Nat.div_add_mod k u
   have e1:=hget (k / u) (k % u) hi hj;rw[hkk,hd]at e1;obtain⟨v2,e2,e3⟩:=(hK (k / u) hi).2 _ _ e1.symm;rw[A2Q,hkk,hv]at e2;cases e2;exact e3
theorem A1a.cons{ρ : Ren}{d:DV}{v:Value}{ds:List DV}{vs:List Value}(h:VRel ρ d v)(k:A1a ρ ds vs):A1a ρ (d :: ds) (v :: vs):=A1a.app (A1a.one h) k
theorem A1a.nil{ρ : Ren}:A1a ρ [] []:=⟨rfl,fun j d v hd=>by cases hd⟩
theorem B9w{B:DataW H->Nat}(hB:Bulky B){t:TypeId}{fs:Array Field}{k:Nat}(ht:P.underlying t=some (.struct fs))(hk:fs.size=k)
  (ho:∀ (j:Nat) f,fs[j]? = some f->f.offset=j/\P.cellsOf f.type=1) (hc:P.cellsOf t=k) {n:Nat} {cs:List Value} {x:DataW H × List MemPlace} (h:DataW.trod enc P W 0 (fun _=>true) true n t cs=some x) :
  ∃ (m:Nat) (ys:List (Value × DataW H × List MemPlace)),cs=ys.map (·.1)/\ys.length=k/\B x.1=(ys.map fun y=>B y.2.1).sum+1 /\
   ∀ (j:Nat) f y,fs[j]? = some f->ys[j]? = some y->DataW.trod enc P W 0 (fun _=>true) true m f.type [y.1]=some y.2:=by
 obtain⟨xs,m, -,hx,hl,h3,h4⟩:=DataW.trod_struct ht h;rw[hc]at hl;have h3':xs.length=k:=h3.trans hk;refine⟨m,cs.zip xs,?_,?_,?_,?_⟩
 ·rw[List.map_fst_zip (by omega)]
 ·rw[List.length_zip];omega
 ·rw[hx,hB.agg];have e:(cs.zip xs).map (fun y=>B y.2.1)=(xs.map (·.1)).map B:=by
   have:((cs.zip xs).map (·.2))=xs:=List.map_snd_zip (by omega);rw[A2E, <- this,A2E,this];rfl
  rw[e]
 ·intro j f y hf hy;obtain⟨e1,e2⟩:=ho j f hf;have e3:=h4 j f hf;rw[e1,e2]at e3;obtain⟨g1,g2⟩:=List.getElem?_zip_eq_some.1 hy;have hj:=(A0K.1 g1).1;have e4:(cs.drop j).take 1=[y.1]:=by
   rw[A1K hj,A1G,A2G];have:=(A0K.1 g1).2;rw[this]
  rw[e4,g2]at e3;exact e3
theorem ReadsB.arg1{B:DataW H->Nat}{α : Type}{t:TypeId}{N:Nat}{G : α -> DV}{sz : α -> Nat}{v:Value}{d:DataW H}{ps:List MemPlace}(h:ReadsB enc P W hT B t N G sz)(hb:B d<=N)(hd:DataW.Trod enc P W 0 (fun _=>true) true t v d ps)(hv:∃ cs:Array Value,v=.agg cs)(hG:∀ a, ∃ ds,G a=.agg ds):
  ∃ a,sz a<=B d/\VRel (topR W hT) (G a) v:=by
 obtain⟨cs,rfl⟩:=hv;obtain⟨n,hn⟩:=hd;obtain⟨a,r,q⟩:=h _ _ _ hn hb;refine⟨a,r,?_⟩;obtain⟨ds,hds⟩:=hG a;rw[hds]at q ⊢;exact q.agg
end
open Go.Eng (IC)
def A7u(p:Prop):Prop:=p
theorem G0{p:Prop}(h:A7u p):p:=h
theorem IW.stage{P:Program}{N:Nat}{x:IC}{T:Tm}{H:Hp}{c:Nat}{Q:Exit->St->Prop}{L:List (Nat × DV)}(hT:C6 L T)(h:IW P N x ⟨tm L,H,c⟩ Q):A7u (IW P N x ⟨T,H,c⟩ Q):=IW.weaken (A4f hT) (Sub.refl _) h
open Go.Eng (Opd FOp AOp EOp IOp IOper DReg IC RV IFn trC A4r J0 G2)
def pre:IC->List IC
 |.seq x y=>.seq x y :: (pre x++pre y)
 |.cond o x y=>.cond o x y :: (pre x++pre y)
 |.blk i x=>.blk i x :: pre x
 |.loop x=>.loop x :: pre x
 |x=>[x]
def szC:IC->Nat
 |.seq x y=>szC x+szC y+1
 |.cond o x y=>szC x+szC y+1
 |.blk i x=>szC x+1
 |.loop x=>szC x+1
 |x=>1
theorem C0i(t:IC):(pre t).length=szC t:=by
 induction t<;>simp_all[pre,szC]
def B3z(k:Nat):List Nat->List Nat
 |[]=>[k]
 |a :: l=>match Nat.blt k a with
  |true=>k :: a :: l
  |false=>match Nat.beq k a with
   |true=>a :: l
   |false=>a :: B3z k l
def B6y:List Nat->List Nat->List Nat
 |[],m=>m
 |a :: l,m=>B3z a (B6y l m)
def rmS(k:Nat):List Nat->List Nat
 |[]=>[]
 |a :: l=>match Nat.beq k a with
  |true=>l
  |false=>a :: rmS k l
def opS:Opd->List Nat
 |.t n=>[n]
 |_=>[]
def A9m:List IOper->List Nat->List Nat
 |[],out=>out
 |o :: r,out=>B6y o.sees (match o.dst with
  |some d=>rmS d (A9m r out)
  |none=>A9m r out)
def slR:List RV->List Nat
 |[]=>[]
 |.tmp t :: r=>B3z t (slR r)
 |.cell a _ _ :: r=>B3z a (slR r)
def upE(ex:Nat->List Nat)(i:Nat)(L:List Nat)(j:Nat):List Nat:=match Nat.beq i j with
 |true=>L
 |false=>ex j
def rgS:Eng.Rg->List Nat->List Nat
 |.bad,_=>[]
 |.r1 io m it,out=>A9m io (B3z m (rmS it out))
 |.r2 it n io,out=>B3z it (rmS n (A9m io out))
 |.r3 it e io,out=>B3z it (rmS e (A9m io out))
def lvC(rl:List Nat):IC->List Nat->(Nat->List Nat)->List Nat
 |.skip,out,_=>out
 |.exit i,_,ex=>ex i
 |.ret,_,_=>rl
 |.bad,_,_=>[]
 |.rg r,out,_=>rgS r out
 |.reg r,out,_=>A9m r out
 |.drw _ d,out,_=>A9m d.ops out
 |.seq x y,out,ex=>lvC rl x (lvC rl y out ex) ex
 |.cond o x y,out,ex=>B6y (opS o) (B6y (lvC rl x out ex) (lvC rl y out ex))
 |.blk i x,out,ex=>lvC rl x out (upE ex i out)
 |.loop x,_,ex=>lvC rl x [] ex
def chC(h:Nat->IC)(k:Nat):IC->IC
 |.skip=>.skip
 |.exit i=>.exit i
 |.ret=>.ret
 |.bad=>.bad
 |.rg r=>.rg r
 |.loop _=>.loop (h (k+1))
 |_=>h k
def C4o:Nat->List (Nat × Option (List Nat))->List IOper->Nat
 |k,(_,some []) :: p,⟨_,.pur _,_⟩ :: r=>2 ^ k+C4o (k+1) p r
 |k,_ :: p,_ :: r=>C4o (k+1) p r
 |_,_,_=>0
def eqO:Option (List Nat)->Option (List Nat)->Bool
 |none,none=>true
 |some [],some []=>true
 |_,_=>false
def eqP:List (Nat × Option (List Nat))->List (Nat × Option (List Nat))->Bool
 |[],[]=>true
 |(a,x) :: p,(b,y) :: q=>Nat.beq a b && eqO x y && eqP p q
 |_,_=>false
theorem D0x{x y:Option (List Nat)}(h:eqO x y=true):x=y:=by
 unfold eqO at h;grind
theorem C2d:∀ {p q:List (Nat × Option (List Nat))},eqP p q=true->p=q
 |[],[],_=>rfl
 |(a,x) :: p,(b,y) :: q,h=>by
  simp only[eqP,A0E]at h;rw[A2V h.1.1,D0x h.1.2,C2d h.2]
 |[],_ :: _,h=>by trivial
 |_ :: _,[],h=>by trivial
def asM(r:List IOper)(p:List (Nat × Option (List Nat)))(m:Nat):Option Nat:=match eqP (A7k m 0 r) p with
 |true=>some m
 |false=>none
inductive PD where
 |S (r:List IOper) (y:IC) (L:List Nat)
 |E (r:List IOper) (L:List Nat)
 |P (r:List IOper) (y:IC) (e n:Nat) (L:List Nat)
 |F (r:List IOper) (e n:Nat) (L:List Nat)
 |D (r:List IOper) (y:IC) (p:List (Nat × Option (List Nat))) (n:Nat) (L:List Nat)
 |G (r:List IOper) (p:List (Nat × Option (List Nat))) (n:Nat) (L:List Nat)
 |C (x y z:IC) (o:Opd) (L:List Nat)
 |K (x z:IC) (o:Opd) (L:List Nat)
 |B (x y:IC) (i:Nat) (L:List Nat)
 |J (x:IC) (i:Nat) (L:List Nat)
 |Q (x y:IC) (L:List Nat)
 |X (x:IC)
def PD.ic:PD->IC
 |.S r y _=>.seq (.reg r) y
 |.E r _=>.reg r
 |.P r y e n _=>.seq (.drw n (dQ r e)) y
 |.F r e n _=>.drw n (dQ r e)
 |.D r y p n _=>.seq (.drw n ⟨r,[],p⟩) y
 |.G r p n _=>.drw n ⟨r,[],p⟩
 |.C x y z o _=>.seq (.cond o x z) y
 |.K x z o _=>.cond o x z
 |.B x y i _=>.seq (.blk i x) y
 |.J x i _=>.blk i x
 |.Q x y _=>.seq x y
 |.X x=>x
def fuC(h:Nat->IC)(k:Nat)(x y:IC)(L:List Nat):PD:=match x with
 |.reg r=>.S r y L
 |.drw n ⟨r,[],p⟩=>match asM r p (C4o 0 p r) with
  |some m=>.P r y m n L
  |none=>.D r y p n L
 |.cond o a b=>.C (chC h (k+1) a) y (chC h (k+1+szC a) b) o L
 |.blk i a=>.B (chC h (k+1) a) y i L
 |x=>.Q (chC h k x) y L
def B7j(h:Nat->IC)(k:Nat)(x:IC)(L:List Nat):PD:=match x with
 |.reg r=>.E r L
 |.drw n ⟨r,[],p⟩=>match asM r p (C4o 0 p r) with
  |some m=>.F r m n L
  |none=>.G r p n L
 |.cond o a b=>.K (chC h (k+1) a) (chC h (k+1+szC a) b) o L
 |.blk i a=>.J (chC h (k+1) a) i L
 |x=>.X x
def D7n:IC->Bool
 |.reg _=>true
 |.drw _ _=>true
 |.cond _ _ _=>true
 |.blk _ _=>true
 |_=>false
def tlC(b:Bool)(l:List (Nat × PD)):List (Nat × PD):=match b with
 |true=>l.tail
 |false=>l
def flC(h:Nat->IC)(rl:List Nat):IC->Nat->List Nat->(Nat->List Nat)->List Nat × List (Nat × PD)
 |.skip,_,out,_=>(out,[])
 |.exit i,_,_,ex=>(ex i,[])
 |.ret,_,_,_=>(rl,[])
 |.bad,_,_,_=>([],[])
 |.rg r,_,out,_=>(rgS r out,[])
 |.reg r,k,out,_=>match A9m r out with
  |L=>(L,[(k,B7j h k (.reg r) L)])
 |.drw n d,k,out,_=>match A9m d.ops out with
  |L=>(L,[(k,B7j h k (.drw n d) L)])
 |.seq x y,k,out,ex=>match flC h rl y (k+1+szC x) out ex with
  |(Ly,ly)=>match flC h rl x (k+1) Ly ex with
   |(Lx,lx)=>(Lx,(k,fuC h (k+1) x (chC h (k+1+szC x) y) Lx) :: (tlC (D7n x) lx++ly))
 |.cond o x y,k,out,ex=>match flC h rl x (k+1) out ex with
  |(Lx,lx)=>match flC h rl y (k+1+szC x) out ex with
   |(Ly,ly)=>match B6y (opS o) (B6y Lx Ly) with
    |L=>(L,(k,B7j h k (.cond o x y) L) :: (lx++ly))
 |.blk i x,k,out,ex=>match flC h rl x (k+1) out (upE ex i out) with
  |(L,l)=>(L,(k,B7j h k (.blk i x) L) :: l)
 |.loop x,k,_,ex=>match lvC rl x [] ex with
  |L=>(L,(flC h rl x (k+1) L ex).2)
def Num(h:Nat->IC)(k:Nat)(t:IC):Prop:=∀ j x,(pre t)[j]? = some x->h (k+j)=x
section
variable {h:Nat->IC} {k:Nat} {x y t:IC}
theorem Num.self(n:Num h k t):h k=t:=by
 have:=n 0 t (by cases t<;>simp[pre]);omega
theorem Num.sub{l:List IC}{i:Nat}(n:Num h k t)(e:∀ j x,(pre y)[j]? = some x->(pre t)[i+j]? = some x):Num h (k+i) y:=fun j x hx=>by
 rw[A2Q];exact n (i+j) x (e j x hx)
theorem D8t{a:IC}{l r:List IC}(j:Nat)(z:IC)(hz:l[j]? = some z):(a :: (l++r))[1+j]? = some z:=by
 grind
theorem C6h{a:IC}{l r:List IC}{n:Nat}(hn:l.length=n)(j:Nat)(z:IC)(hz:r[j]? = some z):(a :: (l++r))[1+n+j]? = some z:=by
 grind
theorem Num.s1(n:Num h k (.seq x y)):Num h (k+1) x:=n.sub (l:=[]) fun j z hz=>by rw[pre];grind
theorem Num.s2(n:Num h k (.seq x y)):Num h (k+1+szC x) y:=by
 rw[A2Q];exact n.sub (l:=[]) fun j z hz=>by rw[pre];exact C6h (C0i x) j z hz
theorem Num.c1{o:Opd}(n:Num h k (.cond o x y)):Num h (k+1) x:=n.sub (l:=[]) fun j z hz=>by rw[pre];grind
theorem Num.c2{o:Opd}(n:Num h k (.cond o x y)):Num h (k+1+szC x) y:=by
 rw[A2Q];exact n.sub (l:=[]) fun j z hz=>by rw[pre];exact C6h (C0i x) j z hz
theorem Num.b1{i:Nat}(n:Num h k (.blk i x)):Num h (k+1) x:=n.sub (l:=[]) fun j z hz=>by rw[pre,Nat.add_comm,A2T,hz]
theorem Num.l1(n:Num h k (.loop x)):Num h (k+1) x:=n.sub (l:=[]) fun j z hz=>by rw[pre,Nat.add_comm,A2T,hz]
theorem A3d(n:Num h k t):chC h k t=t:=by
 cases t<;>simp only[chC]<;>first|rfl|exact n.self|rw[n.l1.self]
theorem C2v{r:List IOper}{p:List (Nat × Option (List Nat))}{m m':Nat}(e:asM r p m=some m'):A7k m' 0 r=p:=by
 unfold asM at e;split at e<;>cases e;rename_i q;exact C2d q
theorem A9o{L:List Nat}(n:Num h k x):(B7j h k x L).ic=x:=by
 unfold B7j;split
 ·rfl
 ·split
  ·rename_i m e;simp only[PD.ic,dQ,C2v e]
  ·rfl
 ·simp only[PD.ic,A3d n.c1,A3d n.c2]
 ·simp only[PD.ic,A3d n.b1]
 rfl
theorem D3z{L:List Nat}(n:Num h k x):(fuC h k x y L).ic=.seq x y:=by
 unfold fuC;split
 ·rfl
 ·split
  ·rename_i m e;simp only[PD.ic,dQ,C2v e]
  rfl
 ·simp only[PD.ic,A3d n.c1,A3d n.c2]
 ·simp only[PD.ic,A3d n.b1]
 ·simp only[PD.ic,A3d n]
theorem C7z{b:Bool}{l:List (Nat × PD)}{e:Nat × PD}(hm:e∈tlC b l):e∈l:=by
 unfold tlC at hm;split at hm
 ·exact List.mem_of_mem_tail hm
 omega
theorem D4b(rl:List Nat):∀ (t:IC) (k:Nat) (out:List Nat) (ex:Nat->List Nat),Num h k t->∀ e∈(flC h rl t k out ex).2,h e.1=e.2.ic:=by
 intro t
 induction t with
 |skip=>intro k out ex n e he;trivial
 |exit i=>intro k out ex n e he;trivial
 |ret=>intro k out ex n e he;trivial
 |bad=>intro k out ex n e he;trivial
 |rg r=>intro k out ex n e he;trivial
 |reg r=>intro k out ex n e he;simp only[flC,A1H]at he;subst he;simp only[A9o n];exact n.self
 |drw m d=>intro k out ex n e he;simp only[flC,A1H]at he;subst he;simp only[A9o n];exact n.self
 |seq x y ihx ihy =>
  intro k out ex n e he;simp only[flC,A1P,A1R]at he;rcases he with rfl|he|he
  ·simp only[D3z n.s1,A3d n.s2];exact n.self
  ·exact ihx _ _ _ n.s1 e (C7z he)
  ·exact ihy _ _ _ n.s2 e he
 |cond o x y ihx ihy =>
  intro k out ex n e he;simp only[flC,A1P,A1R]at he;rcases he with rfl|he|he
  ·simp only[A9o n];exact n.self
  ·exact ihx _ _ _ n.c1 e he
  ·exact ihy _ _ _ n.c2 e he
 |blk i x ih =>
  intro k out ex n e he;simp only[flC,A1P]at he;rcases he with rfl|he
  ·simp only[A9o n];exact n.self
  ·exact ih _ _ _ n.b1 e he
 |loop x ih =>
  intro k out ex n e he;simp only[flC]at he;exact ih _ _ _ n.l1 e he
end
inductive Ps where
 |h
 |o (p:Ps)
 |i (p:Ps)
def Ps.n:Ps->Nat
 |.h=>1
 |.o p=>2 * p.n
 |.i p=>2 * p.n+1
def Ps.s:Ps->Ps
 |.h=>.o .h
 |.o p=>.i p
 |.i p=>.o p.s
theorem Ps.s_n:∀ p:Ps,p.s.n=p.n+1
 |.h=>rfl
 |.o p=>rfl
 |.i p=>by simp only[Ps.s,Ps.n,Ps.s_n p];rfl
def Ps.of:Nat->Ps
 |0=>.h
 |k+1=>(Ps.of k).s
theorem Ps.of_n:∀ k:Nat,(Ps.of k).n=k+1
 |0=>rfl
 |k+1=>by rw[Ps.of,Ps.s_n,Ps.of_n k]
def Ps.frc:Ps->(Ps->IC)->IC
 |.h,K=>K .h
 |.o p,K=>Ps.frc p fun q=>K (.o q)
 |.i p,K=>Ps.frc p fun q=>K (.i q)
theorem Ps.frc_eq:∀ (p:Ps) (K:Ps->IC),p.frc K=K p
 |.h,K=>rfl
 |.o p,K=>by rw[Ps.frc,Ps.frc_eq p]
 |.i p,K=>by rw[Ps.frc,Ps.frc_eq p]
def hk(h:Ps->IC)(k:Nat):IC:=(Ps.of k).frc h
inductive Tr where
 |e
 |d (x:Option PD) (l r:Tr)
def Tr.get:Tr->Ps->Option PD
 |.e,_=>none
 |.d x _ _,.h=>x
 |.d _ l _,.o p=>l.get p
 |.d _ _ r,.i p=>r.get p
def Tr.put(y:PD):Ps->Tr->Tr
 |.h,.e=>.d (some y) .e .e
 |.o p,.e=>.d none (Tr.put y p .e) .e
 |.i p,.e=>.d none .e (Tr.put y p .e)
 |.h,.d _ l r=>.d (some y) l r
 |.o p,.d x l r=>.d x (Tr.put y p l) r
 |.i p,.d x l r=>.d x l (Tr.put y p r)
theorem Tr.get_put(y:PD):∀ (p:Ps) (t:Tr) (q:Ps) (z:PD),(Tr.put y p t).get q=some z->(q=p/\z=y)\/t.get q=some z:=by
 intro p
 induction p with
 |h=>intro t q z h;cases t<;>cases q<;>simp_all[Tr.put,Tr.get]
 |o p ih =>
  intro t q z h;cases t<;>cases q<;>simp only[Tr.put,Tr.get]at h ⊢ <;> first|exact .inr h|(cases h;done)|skip
  ·rcases ih _ _ _ h with ⟨rfl,rfl⟩|h
   ·exact .inl ⟨rfl,rfl⟩
   ·cases h
  grind
 |i p ih =>
  intro t q z h;cases t<;>cases q<;>simp only[Tr.put,Tr.get]at h ⊢ <;> first|exact .inr h|(cases h;done)|skip
  ·rcases ih _ _ _ h with ⟨rfl,rfl⟩|h
   ·exact .inl ⟨rfl,rfl⟩
   ·cases h
  grind
def C9v:List (Nat × PD)->Tr->Tr
 |[],t=>t
 |e :: l,t=>C9v l (Tr.put e.2 (Ps.of e.1) t)
theorem B2a:∀ (l:List (Nat × PD)) (t:Tr) (q:Ps) (z:PD),(C9v l t).get q=some z->(∃ k,q=Ps.of k/\(k,z)∈l)\/t.get q=some z
 |[],t,q,z,h=>.inr h
 |e :: l,t,q,z,h=>by
  rcases B2a l _ q z h with ⟨k,h1,h2⟩|h
  ·grind
  ·rcases Tr.get_put _ _ _ _ _ h with ⟨rfl,rfl⟩|h
   ·exact .inl ⟨e.1,rfl,A0M⟩
   grind
def pz(P:Program)(f:Nat)(p:Ps):IC:=match (P.funcs[f]?).bind (A4r P) with
 |some i=>(pre i.body).getD (p.n-1) .bad
 |none=>.bad
theorem C0e{P:Program}{f:Nat}{i:IFn}(h:J0 P f i):Num (hk (pz P f)) 0 i.body:=fun j x hx=>by
 rw[hk,Ps.frc_eq];unfold pz;unfold J0 at h;rw[h];simp only[A1C,A0Y,Ps.of_n,Nat.add_sub_cancel,hx,A3I]
inductive TD where
 |mk (n:Nat) (rs:List RV) (top:IC) (l:Tr)
 |no
def TD.l:TD->Tr
 |.mk _ _ _ l=>l
 |.no=>.e
def mkT(h:Ps->IC)(i:IFn):TD:=.mk i.n i.res (chC (hk h) 0 i.body) (C9v (flC (hk h) (slR i.res) i.body 0 (slR i.res) (fun _=>[])).2 .e)
structure XT (P:Program) (f:Nat) where
 d:(Ps->IC)->TD
 i:IFn
 hi:J0 P f i
 hd:∀ h,mkT h i=d h
class FT (P:Program) (f:Nat) (D:outParam ((Ps->IC)->TD)):Prop where
 of:∃ i,J0 P f i/\∀ h,mkT h i=D h
theorem XT.ft{P:Program}{f:Nat}(x:XT P f):FT P f x.d:=⟨⟨x.i,x.hi,x.hd⟩⟩
theorem u8n(n:Nat):UInt8.ofBitVec (BitVec.ofNat 8 n)=UInt8.ofNat n:=rfl
abbrev mkF{P:Program}{f:Nat}{i:IFn}{d:(Ps->IC)->TD}(hi:J0 P f i:=by unfold J0;conv=>lhs;reduce;simp only[seval,u8n])(hd:∀ h,mkT h i=d h:=by intro h;conv=>lhs;cbv):XT P f:=⟨d,i,hi,hd⟩
class LkI (t:Tr) (p:Ps) (x:outParam PD):Prop where
 get:t.get p=some x
instance lkTh {x:PD} {l r:Tr}:LkI (.d (some x) l r) .h x:=⟨rfl⟩
instance lkTo {x:PD} {y:Option PD} {l r:Tr} {p:Ps} [k:LkI l p x]:LkI (.d y l r) (.o p) x:=⟨k.get⟩
instance lkTi {x:PD} {y:Option PD} {l r:Tr} {p:Ps} [k:LkI r p x]:LkI (.d y l r) (.i p) x:=⟨k.get⟩
class WDp (P:Program) (N:Nat) (u:PD) (r:outParam Rl):Prop where
 out:∀ {Q:Exit->St->Prop} {T:Tm} {H:Hp} {c:Nat},r P N Q T H c->IW P N u.ic ⟨T,H,c⟩ Q
section
variable {P:Program} {N n i e:Nat} {x y z:IC} {r:List IOper} {p:List (Nat × Option (List Nat))} {L:List Nat} {o:Opd}
instance dS:WDp P N (.S r y L) (rS r y L):=⟨mkS⟩
instance dE:WDp P N (.E r L) (rE r L):=⟨mkE⟩
instance dP:WDp P N (.P r y e n L) (rP r y n L):=⟨mkP (d:=dQ r e) (T8 e r 0)⟩
instance dF:WDp P N (.F r e n L) (rPE r n L):=⟨D6g (d:=dQ r e) (T8 e r 0)⟩
instance dD:WDp P N (.D r y p n L) (rD r p y n L):=⟨mkD (d:=⟨r,[],p⟩)⟩
instance dG:WDp P N (.G r p n L) (rDE r p n L):=⟨D6h (d:=⟨r,[],p⟩)⟩
instance dC:WDp P N (.C x y z o L) (rC o x z y L):=⟨mkC⟩
instance dK:WDp P N (.K x z o L) (rCE o x z L):=⟨D6i⟩
instance dB:WDp P N (.B x y i L) (rB i x y L):=⟨mkB⟩
instance dJ:WDp P N (.J x i L) (rBE i x L):=⟨D6j⟩
instance dQQ:WDp P N (.Q x y L) (rQ x y L):=⟨mkQ⟩
end
class LkD (t:TD) (p:Ps) (x:outParam PD):Prop where
 get:t.l.get p=some x
instance lkTd {n:Nat} {rs:List RV} {top:IC} {x:PD} {l:Tr} {p:Ps} [k:LkI l p x]:LkD (.mk n rs top l) p x:=⟨k.get⟩
section
variable {P:Program} {f:Nat} {D:(Ps->IC)->TD} [F:FT P f D]
theorem wz{p:Ps}{x:PD}(e:(D (pz P f)).l.get p=some x):pz P f p=x.ic:=by
 obtain⟨i,hi,hd⟩:=F.of;rw[<- hd]at e;simp only[mkT,TD.l]at e;rcases B2a _ _ _ _ e with ⟨k,rfl,h⟩|h
 ·have:=D4b (slR i.res) i.body 0 (slR i.res) (fun _=>[]) (C0e hi) _ h;rw[hk,Ps.frc_eq]at this;exact this
 trivial
instance wZ {N:Nat} {p:Ps} {x:PD} {w:Rl} [g:LkD (D (pz P f)) p x] [k:WDp P N x w]:WR P N (pz P f p) w:=⟨fun h=>by rw[wz g.get];exact k.out h⟩
theorem FT.eqs{n:Nat}{rs:List RV}{top:IC}{l:Tr}(e:D (pz P f)=.mk n rs top l):J0 P f ⟨n,top,rs⟩:=by
 obtain⟨i,hi,hd⟩:=F.of;rw[<- hd]at e;simp only[mkT,A3d (C0e hi),TD.mk.injEq]at e;rw[<- e.1, <- e.2.1, <- e.2.2.1];omega
theorem PC.ofT(hm:P.follows .mixedOrders=true){n:Nat}{rs:List RV}{top:IC}{l:Tr}(e:D (pz P f)=.mk n rs top l){args:List DV}(hn:args.length<=n){r:DV}(na:DV.nlL args=true)(nr:r.nl=true)
  (h:IW P n top ⟨A1x args,nil,0⟩ (rt rs fun v H' _ => ∃ H2,GL H' [v] H2 [r])):PC P f args r :=
 PC.of hm (i:=⟨n,top,rs⟩) (FT.eqs e) hn na nr h
theorem PC.go(hm:P.follows .mixedOrders=true){n:Nat}{rs:List RV}{top:IC}{l:Tr}{args:List DV}{r:DV}(h:IW P n top ⟨A1x args,nil,0⟩ (rt rs fun v H' _ => ∃ H2,GL H' [v] H2 [r]))(e:D (pz P f)=.mk n rs top l:=by rfl)(hn:args.length<=n:=by exact A0B rfl)(na:DV.nlL args=true:=by first|(simp[DV.nlL,DV.nl];done)|rfl)(nr:r.nl=true:=by first|rfl|simp[DV.nlL,DV.nl]):PC P f args r:=PC.ofT hm e hn na nr h
theorem AC.bodyT(hm:P.follows .mixedOrders=true){n:Nat}{rs:List RV}{top:IC}{l:Tr}(e:D (pz P f)=.mk n rs top l){args:List DV}(hn:args.length<=n){H:Hp}{c:Nat}{Q:DV->Hp->Nat->Prop}
  (h:(∀ id,c<=id->H id=none)->IW P n top ⟨A1x args,H,c⟩ (rt rs fun v H' c' => ∃ v2 H2,GL H' [v] H2 [v2]/\Q v2 H2 c')):AC P f args H c Q :=
 AC.body hm (i:=⟨n,top,rs⟩) (FT.eqs e) hn h
end
end Go.Sym
namespace Go.Pb
variable [Go.Sym.Tab]
open Go.Sym
def B1u(n:Nat)(s:List UInt8):Nat:=s.foldl (fun n c=>10 * n+(c.toNat-48)) n
theorem B5t:∀ (s:List UInt8) (n:Nat),n<=B1u n s
 |[],n=>A0G _
 |c :: r,n=>by
  have:=B5t r (10 * n+(c.toNat-48));simp only[B1u,List.foldl_cons]at this ⊢;omega
theorem B7m(c:UInt8)(r:List UInt8)(n:Nat):B1u n (c :: r)=B1u (10 * n+(c.toNat-48)) r:=by rfl
theorem D2p{M acc d v w:Nat}(hM:M=18446744073709551615)(hd:d<=9)(hv:10 * acc+d<=v)(hw:w=1844674407370955162):
  (w<=acc->M<v)/\(M<acc * 10+d->M<v):=by
 omega
theorem C0f(M acc:Nat)(c:UInt8)(r:List UInt8):Lib.parseUintM M acc (c :: r) =
  if 48<=c.toNat/\c.toNat<=57 then
   if 1844674407370955162<=acc then .range
   else if M<acc * 10+(c.toNat-48) then .range
   else Lib.parseUintM M (acc * 10+(c.toNat-48)) r
  else .syntax:=by rfl
theorem pum{M:Nat}(hM:M=18446744073709551615):∀ (l:List UInt8) (acc:Nat),(∀ c∈l,dgB c=true)->acc<=M ->
  Lib.parseUintM M acc l=if B1u acc l<=M then .ok (B1u acc l) else .range:=by
 intro l
 induction l with
 |nil =>
  intro acc h ha;rw[if_pos (show B1u acc []<=M from ha),Lib.parseUintM];rfl
 |cons c r ih =>
  intro acc h ha;have hc:=h c A0M;simp only[dgB,A0E,A0J]at hc;have hg:=B5t r (10 * acc+(c.toNat-48));rw[C0f,if_pos hc,B7m]
  grind
theorem pib{l:List UInt8}(h:∀ c∈l,dgB c=true)(h0:l≠[]):
  Lib.parseIntB 64 l=if O9 l<=9223372036854775807 then .ok (O9 l:Int) else .range:=by
 cases l with
 |nil=>grind
 |cons c r =>
  have hc:=h c A0M;simp only[dgB,A0E,A0J]at hc;have e1:¬ c.toNat=43:=by omega
  have e2:¬ c.toNat=45:=by omega
  have hp:=pum (M:=2 ^ 64-1) (by decide) (c :: r) 0 h (A0O _);have hv:B1u 0 (c :: r)=O9 (c :: r):=rfl;rw[hv]at hp;unfold Lib.parseIntB;simp only[e1,e2,or_self,if_false,not_false_eq_true,true_and,false_and];unfold Lib.parseUintB
  grind
def A1r(l:List Ins):List DV:=cellsL (l.map Ins.v)
theorem C1k(a b:List Ins):A1r (a++b)=A1r a++A1r b:=by simp[A1r,B8]
theorem C1j(i:Ins):A1r [i]=[I64 i.op,I64 i.A]:=by rfl
theorem B2e(l:List Ins):(A1r l).length=l.length * 2:=by
 unfold A1r;rw[B6 (u:=2)]
 ·simp
 ·intro x hx;obtain⟨y, -,rfl⟩:=A1D.1 hx;rfl
theorem L3(l:List (List UInt8)):∀ x∈l.map DV.str,x.cells.length=1:=by
 intro x hx;obtain⟨y, -,rfl⟩:=A1D.1 hx;rfl
theorem A5r{α : Type}{l:List α}(h:l=[]):l.length=0:=by grind
def delO(H:Hp):Option Nat->Hp
 |none=>H
 |some i=>H.del i
theorem A3o{o:Option Nat}{n:Nat}(h:o=none->n=0):A4u (todoV o n)=some (I64 (n:Int)):=by
 cases o with
 |none=>rw[h rfl];rfl
 |some i=>rfl
theorem D8{H:Hp}{c sz bytes n m:Nat}{o:Option Nat}{cs src:List DV}(hn:o=none->n=0/\cs=[])(hb:∀ i,o=some i->H i=some ⟨sz,true,cs⟩)(hl:cs.length=n * sz)(hm:1<=m)(h2:(n+m) * bytes<=140737488355328)(h3:n+m<=9223372036854775807):
  A4b H c sz bytes (todoV o n) m src=some (.slc c 0 (n+m),(delO H o).upd c ⟨sz,true,cs++src⟩,c+1):=by
 cases o with
 |none =>
  obtain⟨rfl,rfl⟩:=hn rfl;rw[A9d,A5l (by omega) (by grind) (by omega)];simp[delO]
 |some i=>rw[A3i,C0a,hb i rfl,Y5 hl h2 h3];rfl
theorem D1{H:Hp}{o:Option Nat}{j:Nat}(h:∀ i,o=some i->¬ j=i):delO H o j=H j:=by
 cases o with
 |none=>rfl
 |some i=>exact F1 (h i rfl)
theorem B7{H:Hp}{o:Option Nat}{b:Blk}{j:Nat}(h:∀ i,o=some i->¬ j=i):optH H o b j=H j:=by
 cases o with
 |none=>rfl
 |some i=>exact h_ne (h i rfl)
section
variable {l:List UInt8} {k p:Nat} {S P V:DV} {I:List Ins} {E:List Ent} {o1 o2:Option Nat} {cc:Nat}
end
theorem B2r{a b:Nat}(h:((a:Int) == (b:Int))=true):a=b:=by grind
theorem A4y{a b:Nat}(h:((a:Int) == (b:Int))=false):a≠b:=fun e=>by grind
theorem C6a{a b:Nat}(h:((a:Int) != (b:Int))=true):a≠b:=fun e=>by grind
theorem D1f{a b:Nat}(h:((a:Int) != (b:Int))=false):a=b:=by
 grind
theorem B7x{a b:Nat}(h:decide ((a:Int)>(b:Int))=true):b<a:=by grind
theorem A7s{a b:Nat}(h:decide ((a:Int)>(b:Int))=false):¬ b<a:=by grind
theorem J8{α : Type}{s:List α}{i:Nat}{c : α}(h:s[i]? = some c):s.drop i=c :: s.drop (i+1):=by
 obtain⟨hi,rfl⟩:=A0K.1 h;simp
theorem C8e{s:List UInt8}{i:Nat}{c:UInt8}(h:s[i]? = some c)(hc:A4s c=true):skM false (s.drop i)=skM false (s.drop (i+1))+1:=by
 rw[J8 h];simp only[skM];grind
theorem C8g{s:List UInt8}{i:Nat}{c:UInt8}(h:s[i]? = some c)(hc:c.toNat=35):
  skM false (s.drop i)=D2 (fun c=>decide (c.toNat≠10)) (s.drop i)+skM false (s.drop (i+D2 (fun c=>decide (c.toNat≠10)) (s.drop i))):=by
 have hs:¬ A4s c=true:=by simp[A4s,hc]
 have e1:skM false (s.drop i)=skM true (s.drop i):=by
  rw[J8 h];simp only[skM]
  grind
 rw[e1,B1f,A3E]
theorem C3t{s:List UInt8}{i:Nat}{c:UInt8}(h:s[i]? = some c)(h1:¬ A4s c=true)(h2:¬ c.toNat=35):skM false (s.drop i)=0:=by
 rw[J8 h];simp only[skM];grind
theorem C8f{s:List UInt8}{i:Nat}(h:s.length<=i):skM false (s.drop i)=0:=by
 rw[A3D h];rfl
theorem C3u{s:List UInt8}{i:Nat}{c:UInt8}(h:s[i]? = some c)(hc:c.toNat=35):1<=D2 (fun c=>decide (c.toNat≠10)) (s.drop i):=by
 rw[J8 h];simp only[D2];grind
def quA(acc:List UInt8)(k:Nat)(q:Option (List UInt8 × Nat)):Option (List UInt8 × Nat):=q.map fun x=>(acc++x.1,x.2+k)
theorem T2(c:UInt8)(r:List UInt8):quM (c :: r)=if c.toNat=34 then some ([],1)
  else if c.toNat<32\/126<c.toNat then none
  else if c.toNat=92 then match r with
   |[]=>none
   |d :: q=>if d.toNat=34\/d.toNat=92 then (quM q).map fun x=>(d :: x.1,x.2+2) else none
  else (quM r).map fun x=>(c :: x.1,x.2+1):=by rw[quM.eq_def];try rfl
theorem A2i{s acc:List UInt8}{k:Nat}{c:UInt8}(h:s[k]? = some c)(hc:c.toNat=34):quA acc k (quM (s.drop k))=some (acc,k+1):=by
 rw[J8 h,T2,if_pos hc];simp[quA];omega
theorem A9i{s acc:List UInt8}{k:Nat}{c:UInt8}(h:s[k]? = some c)(h0:c.toNat≠34)(hc:c.toNat<32\/126<c.toNat):quA acc k (quM (s.drop k))=none:=by
 rw[J8 h,T2,if_neg h0,if_pos hc];rfl
theorem C9f{s acc:List UInt8}{k:Nat}(h:s.length<=k):quA acc k (quM (s.drop k))=none:=by
 rw[A3D h,quM];rfl
theorem B5l{s acc:List UInt8}{k:Nat}{c:UInt8}(h:s[k]? = some c)(h0:c.toNat≠34)(h1:32<=c.toNat)(h2:c.toNat<=126)(h3:c.toNat≠92):
  quA acc k (quM (s.drop k))=quA (acc++[c]) (k+1) (quM (s.drop (k+1))):=by
 rw[J8 h,T2,if_neg h0,if_neg (by omega),if_neg h3];cases quM (s.drop (k+1)) with
 |none=>rfl
 |some x=>simp[quA];omega
theorem C0b{s acc:List UInt8}{k:Nat}{c d:UInt8}(h:s[k]? = some c)(h3:c.toNat=92)(hd:s[k+1]? = some d)(h4:d.toNat=34\/d.toNat=92):
  quA acc k (quM (s.drop k))=quA (acc++[d]) (k+2) (quM (s.drop (k+2))):=by
 rw[J8 h,J8 hd,T2,if_neg (by omega),if_neg (by omega),if_pos h3];simp only;rw[if_pos h4];cases quM (s.drop (k+1+1)) with
 |none=>rfl
 |some x=>simp[quA];omega
theorem B5k{s acc:List UInt8}{k:Nat}{c:UInt8}(h:s[k]? = some c)(h3:c.toNat=92)(hd:∀ d,s[k+1]? = some d->d.toNat≠34/\d.toNat≠92):
  quA acc k (quM (s.drop k))=none:=by
 rw[J8 h];cases hq:s.drop (k+1) with
 |nil=>rw[T2,if_neg (by omega),if_neg (by omega),if_pos h3];rfl
 |cons d q =>
  have h5:s[k+1]? = some d:=by
   have:=congrArg List.head? hq
   rwa [List.head?_drop]at this
  have h6:=hd d h5;rw[T2,if_neg (by omega),if_neg (by omega),if_pos h3];simp only;rw[if_neg (by omega)];rfl
theorem B9z{H:Hp}{o:Option Nat}{u:Nat}{acc:List UInt8}(hn:o=none->acc=[])(hb:∀ i,o=some i->H i=some ⟨u,true,bytesC acc⟩):Z2 H (todoV o acc.length)=some (.str acc):=by
 cases o with
 |none=>rw[hn rfl];rfl
 |some i=>exact A7e (hb i rfl) rfl rfl
theorem X8{X:Hp}{id:Nat}{b b':Blk}(h:b=b'):Sub (optH Sym.nil (some id) b) (X.upd id b'):=by
 intro j q hj;simp only[optH]at hj;by_cases e:j=id
 ·subst e;rw[h_same]at hj ⊢;grind
 ·rw[h_ne e]at hj;cases hj
theorem B7g{X:Hp}{o:Option Nat}{c sz bytes n m:Nat}{cs src:List DV}{b2:Blk}(hn:o=none->n=0/\cs=[])(ho:∀ i,o=some i->i<c)(hl:cs.length=n * sz)(hm:1<=m)
  (h2:(n+m) * bytes<=140737488355328) (h3:n+m<=9223372036854775807) :
  A4b ((optH X o ⟨sz,true,cs⟩).upd c b2) (c+1) sz bytes (todoV o n) m src=some (.slc (c+1) 0 (n+m),(delO ((optH X o ⟨sz,true,cs⟩).upd c b2) o).upd (c+1) ⟨sz,true,cs++src⟩,c+1+1) :=
 D8 hn (fun i hi=>by have:=ho i hi;rw[hnO];subst hi;exact h_same) hl hm h2 h3
theorem B1m{X:Hp}{o:Option Nat}{c:Nat}{acc:List UInt8}(hn:o=none->acc=[])(ho:∀ i,o=some i->i<c)(hl:acc.length<=10000000)(b2:Blk)(x:UInt8):
  A4b ((optH X o ⟨1,true,bytesC acc⟩).upd c b2) (c+1) 1 1 (todoV o acc.length) 1 [.int .u8 (x.toNat:Int)]=some (.slc (c+1) 0 (acc.length+1),(delO ((optH X o ⟨1,true,bytesC acc⟩).upd c b2) o).upd (c+1) ⟨1,true,bytesC (acc++[x])⟩,c+1+1):=by
 rw[B4l];exact B7g (fun e=>by rw[hn e];trivial) ho (B2q acc) (by omega) (by omega) (by omega)
theorem B9q(q:List Tok × Int × Int):(B9r q).nl=true:=by
 simp only[DV.nl,DV.nlL,I7,A1T]
theorem B1o{H:Hp}{a b:DV}:∃ H2,GL H [.tup [.snil,a,b]] H2 [.tup [.lst [],a,b]] :=
 ⟨H,GL.view fun ρ vs hA=>⟨hA.1,fun i x y hx hy=>by
  match i with
  |0 =>
   cases hx;have:=hA.2 0 _ y rfl hy;obtain⟨b',rfl,k1,k2⟩:=this.tup_inv;refine .tup _ _ k1 fun j x' y' hx' hy'=>?_
   match j with
   |0=>cases hx';exact (k2 0 _ y' rfl hy').snil_lst
   |1=>grind
   |2=>grind
   |_+3=>grind
  |_+1=>grind⟩⟩
theorem B1g{H:Hp}{a b:Int}:∃ H2,GL H [.tup [.snil,I64 a,I64 b]] H2 [B9r ([],a,b)]:=B1o
theorem C0k{o:Option Nat}{xs:List DV}{u n:Nat}{a b:DV}(hno:o=none->xs=[])(hl:xs.length=n)(hu:∀ x∈xs,x.cells.length=u):
  ∃ H2,GL (optH Sym.nil o ⟨u,true,cellsL xs⟩) [.tup [todoV o n,a,b]] H2 [.tup [.lst xs,a,b]]:=by
 cases o with
 |none=>rw[hno rfl];exact B1o
 |some i=>exact⟨nil,GL.one (id:=i) h_same rfl (.cons _ _ _ _ (.tup _ _ (.cons _ _ _ _ (P1 hl hu ⟨[],by simp⟩) (.cons _ _ _ _ (.same _) (.cons _ _ _ _ (.same _) .nil)))) .nil)⟩
theorem Z8{X:Hp}{o:Option Nat}{b:Blk}{i:Nat}(hi:o=some i):optH X o b i=some b:=by subst hi;exact h_same
theorem u8_eq(c:UInt8)(n:Nat)(h:n<256):(c == UInt8.ofNat n)=decide (c.toNat=n):=by
 rw[A2O,A1F,decide_eq_true_iff, <- UInt8.toNat_inj];simp;omega
theorem C3i(c d:UInt8):A9a c d=([c,d] == [60,61] || [c,d] == [62,61] || [c,d] == [61,61] || [c,d] == [33,61] || [c,d] == [38,38] || [c,d] == [124,124]):=by
 have hk:∀ a b:UInt8,([c,d] == [a,b])=(c == a && d == b):=fun a b=>by simp[List.cons_beq_cons]
 rw[hk,hk,hk,hk,hk,hk];have hu:∀ (x:UInt8) (n:Nat),n<256->(x == UInt8.ofNat n)=(x.toNat == n):=fun x n h=>by rw[u8_eq x n h];rfl
 have e:∀ n:Nat,(OfNat.ofNat n:UInt8)=UInt8.ofNat n:=fun _=>rfl;show ([(60,61),(62,61),(61,61),(33,61),(38,38),(124,124)]:List (Nat × Nat)).contains (c.toNat,d.toNat)=(c == UInt8.ofNat 60 && d == UInt8.ofNat 61 || c == UInt8.ofNat 62 && d == UInt8.ofNat 61 || c == UInt8.ofNat 61 && d == UInt8.ofNat 61 || c == UInt8.ofNat 33 && d == UInt8.ofNat 61 || c == UInt8.ofNat 38 && d == UInt8.ofNat 38 || c == UInt8.ofNat 124 && d == UInt8.ofNat 124);rw[hu c 60 (by omega),hu c 61 (by omega),hu c 62 (by omega),hu c 33 (by omega),hu c 38 (by omega),hu c 124 (by omega),hu d 61 (by omega),hu d 38 (by omega),hu d 124 (by omega)]
 grind
inductive Ex where
 |mk (kind value:Int) (name:List UInt8) (args:List Ex) (pos:Int)
def Ex.kind:Ex->Int |.mk k _ _ _ _=>k
def Ex.value:Ex->Int |.mk _ v _ _ _=>v
def Ex.name:Ex->List UInt8 |.mk _ _ n _ _=>n
def Ex.args:Ex->List Ex |.mk _ _ _ a _=>a
def Ex.pos:Ex->Int |.mk _ _ _ _ p=>p
mutual
def Ex.v:Ex->DV
 |.mk k v n a p=>.agg [I64 k,I64 v,.str n,.lst (Ex.vs a),I64 p]
def Ex.vs:List Ex->List DV
 |[]=>[]
 |e :: l=>Ex.v e :: Ex.vs l
end
theorem Ex.vs_map:∀ l:List Ex,Ex.vs l=l.map Ex.v
 |[]=>rfl
 |e :: l=>by rw[Ex.vs,Ex.vs_map l];rfl
abbrev F7(l:List Ex):DV:=.lst (l.map Ex.v)
abbrev Ex.w(e:Ex):DV:=.agg [I64 e.kind,I64 e.value,.str e.name,F7 e.args,I64 e.pos]
theorem Ex.v_w(e:Ex):e.v=e.w:=by
 cases e with|mk k v n a p=>rw[Ex.v,Ex.vs_map];rfl
theorem A2y(l:List Ex):∀ x∈l.map Ex.v,x.cells.length=5:=fun x hx=>by
 obtain⟨y, -,rfl⟩:=A1D.1 hx;rw[Ex.v_w];rfl
mutual
@[simp]theorem Ex.nl:∀ e:Ex,e.v.nl=true
 |.mk k v n a p=>by
  have:=Ex.nls a;rw[Ex.v];simp only[DV.nl,DV.nlL,this,A1T]
theorem Ex.nls:∀ l:List Ex,DV.nlL (Ex.vs l)=true
 |[]=>rfl
 |e :: l=>by rw[Ex.vs,DV.nlL,Ex.nl e,Ex.nls l];rfl
end
@[simp]theorem Y2(l:List Ex):DV.nlL (l.map Ex.v)=true:=by rw[<- Ex.vs_map];exact Ex.nls l
def Ex0:Ex:=.mk 0 0 [] [] 0
inductive St where
 |mk (kind:Int) (name text:List UInt8) (args:List Ex) (thn els:List St) (pos:Int)
def St.kind:St->Int |.mk k _ _ _ _ _ _=>k
def St.name:St->List UInt8 |.mk _ n _ _ _ _ _=>n
def St.text:St->List UInt8 |.mk _ _ t _ _ _ _=>t
def St.args:St->List Ex |.mk _ _ _ a _ _ _=>a
def St.thn:St->List St |.mk _ _ _ _ t _ _=>t
def St.els:St->List St |.mk _ _ _ _ _ e _=>e
def St.pos:St->Int |.mk _ _ _ _ _ _ p=>p
mutual
def St.v:St->DV
 |.mk k n t a x y p=>.agg [I64 k,.str n,.str t,F7 a,.lst (St.vs x),.lst (St.vs y),I64 p]
def St.vs:List St->List DV
 |[]=>[]
 |e :: l=>St.v e :: St.vs l
end
theorem St.vs_map:∀ l:List St,St.vs l=l.map St.v
 |[]=>rfl
 |e :: l=>by rw[St.vs,St.vs_map l];rfl
abbrev H3(l:List St):DV:=.lst (l.map St.v)
abbrev St.w(s:St):DV:=.agg [I64 s.kind,.str s.name,.str s.text,F7 s.args,H3 s.thn,H3 s.els,I64 s.pos]
theorem St.v_w(s:St):s.v=s.w:=by
 cases s with|mk k n t a x y p=>rw[St.v,St.vs_map,St.vs_map];rfl
theorem A5h(l:List St):∀ x∈l.map St.v,x.cells.length=7:=fun x hx=>by
 obtain⟨y, -,rfl⟩:=A1D.1 hx;rw[St.v_w];rfl
mutual
@[simp]theorem St.nl:∀ e:St,e.v.nl=true
 |.mk k n t a x y p=>by
  have h1:=Y2 a;have h2:=St.nls x;have h3:=St.nls y;rw[St.v];simp only[DV.nl,DV.nlL,h1,h2,h3,A1T]
theorem St.nls:∀ l:List St,DV.nlL (St.vs l)=true
 |[]=>rfl
 |e :: l=>by rw[St.vs,DV.nlL,St.nl e,St.nls l];rfl
end
@[simp]theorem Y1(l:List St):DV.nlL (l.map St.v)=true:=by rw[<- St.vs_map];exact St.nls l
def St0:St:=.mk 0 [] [] [] [] [] 0
structure Dc where
 kind:Int
 name:List UInt8
 value:Int
 pos:Int
deriving DecidableEq
abbrev Dc.v(d:Dc):DV:=.agg [I64 d.kind,.str d.name,I64 d.value,I64 d.pos]
abbrev C5(l:List Dc):DV:=.lst (l.map Dc.v)
structure Hd where
 trig:Int
 name:List UInt8
 body:List St
 pos:Int
abbrev Hd.v(h:Hd):DV:=.agg [I64 h.trig,.str h.name,H3 h.body,I64 h.pos]
abbrev A0z(l:List Hd):DV:=.lst (l.map Hd.v)
structure Md where
 name:List UInt8
 prio:Int
 hds:List Hd
 pos:Int
abbrev Md.v(m:Md):DV:=.agg [.str m.name,I64 m.prio,A0z m.hds,I64 m.pos]
abbrev E4(l:List Md):DV:=.lst (l.map Md.v)
structure Ru where
 decls:List Dc
 modes:List Md
abbrev Ru.v(r:Ru):DV:=.agg [C5 r.decls,E4 r.modes]
theorem A3c(l:List Dc):∀ x∈l.map Dc.v,x.cells.length=4:=fun x hx=>by obtain⟨y, -,rfl⟩:=A1D.1 hx;rfl
theorem A2u(l:List Hd):∀ x∈l.map Hd.v,x.cells.length=4:=fun x hx=>by obtain⟨y, -,rfl⟩:=A1D.1 hx;rfl
theorem A9v(l:List Md):∀ x∈l.map Md.v,x.cells.length=4:=fun x hx=>by obtain⟨y, -,rfl⟩:=A1D.1 hx;rfl
@[simp]theorem J6(l:List Dc):DV.nlL (l.map Dc.v)=true:=H9 (fun _=>rfl) l
@[simp]theorem C4j(l:List Hd):DV.nlL (l.map Hd.v)=true:=H9 (fun h=>by simp[DV.nl,DV.nlL,Y1]) l
@[simp]theorem J5(l:List Md):DV.nlL (l.map Md.v)=true:=H9 (fun h=>by simp[DV.nl,DV.nlL,C4j]) l
theorem Ru.nl(r:Ru):r.v.nl=true:=by simp[DV.nl,DV.nlL,J6,J5]
structure Rd where
 i:Nat
 e:Int
 pos:Int
 ops:Int
 par:Int
section
variable (L:List Tok) (E:Int)
abbrev csR(s:Rd):List DV:=[D3 L,I64 E,I64 s.i,I64 s.e,I64 s.pos,I64 s.ops,I64 s.par]
abbrev rdR(s:Rd):Blk:=⟨0,true,csR L E s⟩
def okR(s:Rd):Bool:=s.e == 0
def J7(s:Rd)(p e:Int):Rd:=if okR s=true then { s with e:=e,pos:=p } else s
def B1(s:Rd):Tok:=L.getD s.i ⟨0,[],0,E⟩
def isR(s:Rd)(t:List UInt8):Bool:=okR s && ((B1 L E s).kind == 5 || (B1 L E s).kind == 2) && (B1 L E s).text == t
def H7(s:Rd)(k:Int):Bool:=okR s && (B1 L E s).kind == k
def K3(s:Rd):Rd:=J7 s (B1 L E s).pos 4
def C2(s:Rd)(n most e:Int):Rd:=if most<n then J7 s (B1 L E s).pos e else s
def A7(s:Rd):Rd:={ s with i:=s.i+1 }
def D4(s:Rd)(t:List UInt8):Rd:=if isR L E s t=false then K3 L E s else A7 s
def S8:Tok:=⟨0,[],0,0⟩
def A8(s:Rd)(k:Int):Tok × Rd:=if H7 L E s k=false then (S8,K3 L E s) else (B1 L E s,A7 s)
def Y6(s:Rd):Nat->List (List UInt8)->Int
 |_,[] => -1
 |k,t :: l=>if isR L E s t=true then (k:Int) else Y6 s (k+1) l
def B5(s:Rd)(l:List (List UInt8)):Int:=Y6 L E s 0 l
end
def D6:List (List UInt8):=[[115,119,105,116,99,104],[99,111,105,108],[108,97,109,112],[115,111,117,110,100],[115,104,111,119],[118,97,114],[116,105,109,101,114],[101,118,101,110,116]]
def E3:List (List UInt8):=[[115,116,97,114,116],[115,116,111,112],[99,108,111,115,101],[111,112,101,110],[116,105,109,101,114],[101,118,101,110,116]]
def B4:List (List UInt8):=[[105,102],[114,101,112,101,97,116],[115,99,111,114,101],[102,105,114,101],[104,111,108,100],[114,101,108,101,97,115,101],[108,105,103,104,116],[98,108,105,110,107],[115,116,97,114,116],[115,116,111,112],[98,101,103,105,110],[101,110,100],[112,111,115,116],[112,108,97,121],[114,117,110],[104,97,108,116],[116,101,120,116],[99,111,110,115,117,109,101]]
def C9:List (List UInt8):=[[42],[47],[37],[43],[45],[60],[60,61],[62],[62,61],[61,61],[33,61],[38,38],[124,124]]
def B0(k:Int):Int:=if k=24 then 1 else if k=23 then 2 else if 17<=k/\k<=22 then 3 else if k=15\/k=16 then 4 else if 12<=k/\k<=14 then 5 else if k=10\/k=11 then 6 else 7
section
variable (L:List Tok) (E:Int)
def A3q:List Int:=[3,4,8,9,5,6,7]
def O7:List (List UInt8):=[[116,114,117,101],[102,97,108,115,101],[112,108,97,121,101,114],[98,97,108,108],[99,108,111,115,101,100],[97,99,116,105,118,101],[108,101,102,116]]
def M5:List (List UInt8):=[[45],[33],[40]]
def H4(s:Rd):Ex × Rd :=
 let t:=B1 L E s
 let k:=B5 L E s O7
 if k<0/\H7 L E s 3=false/\H7 L E s 1=false then (Ex0,K3 L E s)
 else
  let s1:Rd:={ s with ops:=s.ops+1 }
  let s2:=C2 L E s1 s1.ops 32 9
  if okR s2=false then (Ex0,s2)
  else
   let s3:=A7 s2
   if 0<=k then
    if 4<=k then (.mk (A3q.getD k.toNat 0) 0 (A8 L E s3 1).1.text [] t.pos,(A8 L E s3 1).2)
    else (.mk (A3q.getD k.toNat 0) 0 [] [] t.pos,s3)
   else if t.kind=3 then (.mk 1 t.value [] [] t.pos,s3)
   else (.mk 2 0 t.text [] t.pos,s3)
mutual
def I4:Nat->Int->Rd->Option (Ex × Rd)
 |0,_,_=>none
 |f+1,n,s=>if 5<n then U1 f s else
  match I4 f (n+1) s with
  |none=>none
  |some (e,s)=>Q4 f n e s
def Q4:Nat->Int->Ex->Rd->Option (Ex × Rd)
 |0,_,_,_=>none
 |f+1,n,e,s =>
  let k:=B5 L E s C9
  if k<0\/B0 (12+k)≠n then some (e,s) else
  match I4 f (n+1) (A7 s) with
  |none=>none
  |some (x,s1) =>
   let y:=Ex.mk (12+k) 0 [] [e,x] (B1 L E s).pos
   if n=3 then some (y,s1) else Q4 f n y s1
def U1:Nat->Rd->Option (Ex × Rd)
 |0,_=>none
 |f+1,s =>
  let t:=B1 L E s
  let k:=B5 L E s M5
  if k<0 then some (H4 L E s) else
  let s1:=C2 L E s (s.par+1) 16 50
  if okR s1=false then some (Ex0,s1) else
  let s2:Rd:={ s1 with i:=s1.i+1,par:=s1.par+1 }
  if k=2 then
   match I4 f 1 s2 with
   |none=>none
   |some (e,s3)=>let s4:=D4 L E s3 [41];some (e, { s4 with par:=s4.par-1 })
  else
   match U1 f s2 with
   |none=>none
   |some (e,s3)=>some (.mk (10+k) 0 [] [e] t.pos, { s3 with par:=s3.par-1 })
end
def N8(f:Nat)(s:Rd):Option (Ex × Rd):=I4 L E f 1 { s with ops:=0,par:=0 }
def K2(f:Nat)(k p:Int)(s:Rd):Option (St × Rd) :=
 if k=4 then
  match N8 L E f s with
  |none=>none
  |some (e,s1)=>some (.mk k [] [] [e] [] [] p,D4 L E s1 [59])
 else if k=18 then
  match N8 L E f (D4 L E (A8 L E s 4).2 [44]) with
  |none=>none
  |some (e,s1)=>some (.mk k [] (A8 L E s 4).1.text [e] [] [] p,D4 L E s1 [59])
 else if k=19 then some (.mk k [] [] [] [] [] p,D4 L E s [59])
 else
  let n:=(A8 L E s 1).1.text
  let s0:=(A8 L E s 1).2
  if k=8\/k=9\/k=10 then
   match N8 L E f s0 with
   |none=>none
   |some (e,s1) =>
    if k=9 then
     match N8 L E f (D4 L E s1 [44]) with
     |none=>none
     |some (e2,s2)=>some (.mk k n [] [e,e2] [] [] p,D4 L E s2 [59])
    else some (.mk k n [] [e] [] [] p,D4 L E s1 [59])
  else some (.mk k n [] [] [] [] p,D4 L E s0 [59])
mutual
def M4:Nat->Int->Rd->Option (List St × Rd)
 |0,_,_=>none
 |f+1,d,s=>R9 f d [] (D4 L E s [123])
def R9:Nat->Int->List St->Rd->Option (List St × Rd)
 |0,_,_,_=>none
 |f+1,d,l,s =>
  if okR s=true/\isR L E s [125]=false then
   if B5 L E s B4<0/\H7 L E s 1=false then some ([],K3 L E s) else
   match S1 f d (C2 L E s ((l.length:Int)+1) 64 9) with
   |none=>none
   |some (x,s1)=>R9 f d (l++[x]) s1
  else some (l,D4 L E s [125])
def S1:Nat->Int->Rd->Option (St × Rd)
 |0,_,_=>none
 |f+1,d,s0 =>
  let s:=C2 L E s0 d 8 50
  if okR s=false then some (St0,s) else
  let p:=(B1 L E s).pos
  let k:=B5 L E s B4
  if k<0 then
   match N8 L E f (D4 L E (A8 L E s 1).2 [61]) with
   |none=>none
   |some (e,s1)=>some (.mk 1 (A8 L E s 1).1.text [] [e] [] [] p,D4 L E s1 [59])
  else
   let s1:=A7 s
   if k=0\/k=1 then
    match N8 L E f s1 with
    |none=>none
    |some (e,s2) =>
     match M4 f (d+1) s2 with
     |none=>none
     |some (t,s3) =>
      if k=0/\isR L E s3 [101,108,115,101]=true then
       match R6 f d (A7 s3) with
       |none=>none
       |some (o,s4)=>some (.mk 2 [] [] [e] t o p,s4)
      else some (.mk (2+k) [] [] [e] t [] p,s3)
   else K2 L E f (2+k) p s1
def R6:Nat->Int->Rd->Option (List St × Rd)
 |0,_,_=>none
 |f+1,d,s =>
  if isR L E s [105,102]=true then
   match S1 f (d+1) s with
   |none=>none
   |some (x,s1)=>some ([x],s1)
  else M4 f (d+1) s
end
def P4(k:Int)(s:Rd):Dc × Rd :=
 let p:=(B1 L E s).pos
 let s1:=A7 s
 let n:=(A8 L E s1 1).1.text
 let s2:=(A8 L E s1 1).2
 if k+1<=6 then
  let m:=k+1 == 6 && isR L E s2 [45]
  let s3:=if m=true then A7 s2 else s2
  let v:=(A8 L E s3 3).1.value
  (⟨1+k,n,if m=true then -v else v,p⟩,D4 L E (A8 L E s3 3).2 [59])
 else (⟨1+k,n,0,p⟩,D4 L E s2 [59])
def W8:Nat->List Hd->Rd->Option (List Hd × Rd)
 |0,_,_=>none
 |f+1,l,s =>
  if okR s=true/\isR L E s [125]=false then
   if isR L E s [111,110]=false then some (l,K3 L E s) else
   let s1:=C2 L E s ((l.length:Int)+1) 32 9
   let p:=(B1 L E s1).pos
   let s2:=D4 L E s1 [111,110]
   let k:=B5 L E s2 E3
   if k<0 then some (l,K3 L E s2) else
   let s3:=A7 s2
   let n:=if 2<=k then (A8 L E s3 1).1.text else []
   let s4:=if 2<=k then (A8 L E s3 1).2 else s3
   match M4 L E f 1 s4 with
   |none=>none
   |some (b,s5)=>W8 f (l++[⟨1+k,n,b,p⟩]) s5
  else some (l,D4 L E s [125])
def A2n(f:Nat)(s:Rd):Option (Md × Rd) :=
 let p:=(B1 L E s).pos
 let s1:=D4 L E s [109,111,100,101]
 let n:=(A8 L E s1 1).1.text
 let s2:=(A8 L E s1 1).2
 let v:=(A8 L E s2 3).1.value
 match W8 L E f [] (D4 L E (A8 L E s2 3).2 [123]) with
 |none=>none
 |some (l,s3)=>some (⟨n,v,l,p⟩,s3)
def U2:Nat->List Dc->Rd->Option (List Dc × Rd)
 |0,_,_=>none
 |f+1,l,s =>
  let k:=B5 L E s D6
  if k<0 then some (l,s) else
  let s1:=C2 L E s ((l.length:Int)+1) 128 9
  if okR s1=true then U2 f (l++[(P4 L E k s1).1]) (P4 L E k s1).2 else U2 f l s1
def T1:Nat->List Md->Rd->Option (List Md × Rd)
 |0,_,_=>none
 |f+1,l,s =>
  if okR s=true/\s.i<L.length then
   if isR L E s [109,111,100,101]=false then some (l,K3 L E s) else
   let s1:=C2 L E s ((l.length:Int)+1) 16 9
   if okR s1=true then
    match A2n L E f s1 with
    |none=>none
    |some (m,s2)=>T1 f (l++[m]) s2
   else T1 f l s1
  else some (l,s)
def A6h(f:Nat)(s:Rd):Option (Ru × Rd) :=
 match U2 L E f [] s with
 |none=>none
 |some (d,s1) =>
  match T1 L E f [] s1 with
  |none=>none
  |some (m,s2)=>some (⟨d,m⟩,s2)
end
end Go.Pb
namespace Go.Sym
variable [Go.Sym.Tab]
open Go.Eng (KKey)
inductive Mz (id:Nat) (r:DV):DV->DV->Prop where
 |same (d:DV):Mz id r d d
 |mid:Mz id r (.mid id) r
 |agg (a a':List DV) (hl:a.length=a'.length) (h:∀ (i:Nat) x y,a[i]? = some x->a'[i]? = some y->Mz id r x y):Mz id r (.agg a) (.agg a')
 |tup (a a':List DV) (hl:a.length=a'.length) (h:∀ (i:Nat) x y,a[i]? = some x->a'[i]? = some y->Mz id r x y):Mz id r (.tup a) (.tup a')
theorem Mz.rel{ρ ρ':Ren}{id:Nat}{r:DV}(hl : ρ.le ρ')(hr:∀ v,VRel ρ (.mid id) v->VRel ρ' r v){d d':DV}(h:Mz id r d d'):∀ v,VRel ρ d v->VRel ρ' d' v:=by
 induction h with
 |same d=>exact fun v hv=>hv.mono hl
 |mid=>omega
 |agg a a' hl' _ ih =>
  intro v hv;obtain⟨b,rfl,h1,h2⟩:=hv.agg_inv;refine .agg _ _ (hl'▸h1) fun i x y hx hy=>?_
  grind
 |tup a a' hl' _ ih =>
  intro v hv;obtain⟨b,rfl,h1,h2⟩:=hv.tup_inv;refine .tup _ _ (hl'▸h1) fun i x y hx hy=>?_
  grind
theorem GL.frzm{H H':Hp}{ds ds':List DV}{id u:Nat}{kd:KKey}{ks vs:List DV}(hb:H id=some ⟨u,true,[.mpc kd ks vs]⟩)(hH:∀ j,H' j=none\/(j≠id/\H' j=H j))
  (hl:ds.length=ds'.length) (hd:∀ (i:Nat) x y,ds[i]? = some x->ds'[i]? = some y->Mz id (.mp kd ks vs) x y):GL H ds H' ds':=by
 refine⟨fun j hj=>?_,fun ρ w a2 hR hA=>?_⟩
 ·grind
 have back:∀ j bj,H' j=some bj->j≠id/\H j=some bj:=by
  grind
 obtain⟨t,ht,hB⟩:=hR.blk id _ hb;rcases hB with ⟨hm,c,e,fr, -, -, -, -,g5, -⟩|⟨hm, -,hs,es,cl,kd',ks',vs',g1,g2,g3,g6⟩
 ·have:=(g5 0 _ rfl).1
  trivial
 cases g2;have hnone : ρ.fm t.block=none:=by
  cases hf : ρ.fm t.block with
  |none=>rfl
  |some es'=>exact absurd rfl ((hR.frm _ _ hf).2 id _ t hb rfl ht)
 obtain⟨ρ2,hρ⟩:∃ ρ2:Ren, ρ2=⟨ρ.nm, ρ.fz, ρ.tab,fun k=>if k=t.block then some es else ρ.fm k⟩:=⟨_,rfl⟩;have n1 : ρ2.nm = ρ.nm:=by grind
 have n2 : ρ2.fz = ρ.fz:=by grind
 have n3:∀ k r, ρ2.fm k=some r->(k=t.block/\r=es) \/ ρ.fm k=some r:=by
  intro k r hk;rw[hρ]at hk
  grind
 have n4 : ρ2.fm t.block=some es:=by simp_all
 have hle : ρ.le ρ2:=⟨fun i x h=>by grind,fun b r h=>by grind,fun b r h=>by
  rw[hρ]
  grind⟩
 have hval:∀ v,VRel ρ (.mid id) v->VRel ρ2 (.mp kd ks vs) v:=by
  intro v hv;obtain⟨t',ht', -,rfl⟩:=hv.mid_inv;rw[ht]at ht';cases ht';obtain⟨a1,a2,a3,a4,a5⟩:=g3;exact .mp kd ks vs t.block es n4 a1 a2 a3 (fun i x e hx he=>(a4 i x e hx he).mono hle) (fun i x e hx he=>(a5 i x e hx he).mono hle)
 refine⟨ρ2,n1,⟨fun j bj hj=>?_,fun i j bi bj ti tj hi hj hij h1 h2 ho=>?_,fun k r hk=>?_,fun j bj tj hj ho hjt=>?_,fun k r hk=>?_⟩,⟨hl▸hA.1,fun i x y hx hy=>?_⟩,?_⟩
 ·rw[n1];obtain⟨-,h1⟩:=back j bj hj;obtain⟨tj,q1,q2⟩:=hR.blk j bj h1;exact⟨tj,q1,q2.mono hle⟩
 ·rw[n1]at h1 h2;exact hR.sep i j bi bj ti tj (back i bi hi).2 (back j bj hj).2 hij h1 h2 ho
 ·rw[n2]at hk;exact hR.frz k r hk
 ·rw[n1]at hjt;rw[n2];exact hR.dis j bj tj (back j bj hj).2 ho hjt
 ·rcases n3 k r hk with ⟨rfl,rfl⟩|h1
  ·refine⟨⟨cl,g1,g6⟩,fun j bj tj hj ho hjt=>?_⟩;rw[n1]at hjt;obtain⟨hne,h2⟩:=back j bj hj;exact hR.sep j id bj _ tj t h2 hb hne hjt ht ho
  ·refine⟨(hR.frm k r h1).1,fun j bj tj hj ho hjt=>?_⟩;rw[n1]at hjt;exact (hR.frm k r h1).2 j bj tj (back j bj hj).2 ho hjt
 ·have hi:i<ds.length:=by grind
  exact (hd i ds[i] x (A0C hi) hx).rel hle hval y (hA.2 i _ y (A0C hi) hy)
 ·refine⟨hle,rfl,rfl,rfl,A0G _,fun _ _ _=>rfl,fun j bj tj hj hjt=>?_,fun k r hk=>.inl (by rw[<- n2];exact hk),fun k r hk=>?_⟩
  ·rw[n1]at hjt;exact .inr ⟨j,bj,tj,(back j bj hj).2,fun h=>h,hjt,rfl⟩
  grind
theorem C0m{H:Hp}{id u:Nat}{kd:KKey}{ks vs:List DV}(hb:H id=some ⟨u,true,[.mpc kd ks vs]⟩):∃ H2,GL H [.mid id] H2 [.mp kd ks vs] :=
 ⟨nil,GL.frzm hb (fun j=>.inl rfl) rfl (fun i x y hx hy=>by
  match i with
  |0=>cases hx;cases hy;exact .mid
  |_+1=>grind)⟩
theorem A8j{a b:List UInt8}:A6v (.str a) (.str b)=(a == b):=id rfl
theorem A3u{s:List UInt8}:∀ (l:List (List UInt8)) (i:Nat),(E7 (.str s) (l.map DV.str) i).isSome=l.contains s
 |[],i=>rfl
 |x :: r,i=>by
  simp only[A0U,E7,A8j,List.contains_cons];cases h:s == x with
  |true=>simp
  |false=>simp[A3u r (i+1)]
theorem A6q{s:List UInt8}{l:List (List UInt8)}(h:l.contains s=false)(i:Nat):E7 (.str s) (l.map DV.str) i=none:=by
 have:=A3u (s:=s) l i
 simp_all
theorem B3v{s:List UInt8}{l:List (List UInt8)}(h:l.contains s=true)(i:Nat):∃ j,E7 (.str s) (l.map DV.str) i=some j:=by
 have:=A3u (s:=s) l i;rw[h]at this;cases hm:E7 (.str s) (l.map DV.str) i with
 |none=>grind
 |some j=>simp
theorem B2b{k:DV}:∀ {ks:List DV} {i j:Nat},E7 k ks i=some j->i<=j/\j<i+ks.length
 |[],i,j,h=>by cases h
 |x :: r,i,j,h=>by
  simp only[E7]at h;split at h
  ·grind
  ·have:=B2b h
   grind
open Go.Eng (G2)
open Go.RowKit
variable {P:Program}
theorem PC.of_callsF{f:Nat}{args:List DV}{r:DV}(hc:G2 P f=true)(na:DV.nlL args=true)(nr:r.nl=true)
  (h:∀ (ρ : Ren) (w:World) (vs:Array Value),(∀ b r, ρ.fz b=some r->∃ e fr,w.heap[b]? = some (.cells r e fr))->E8 ρ args vs ->
   Calls P f vs w fun e w' => ∃ v' b row ty fr,e=.returned v'/\w.heap.size<=b/\w'.heap[b]? = some (.cells row ty fr)/\(∀ ρ':Ren, ρ'.fz b=some row->VRel ρ' r v')/\Below w.heap.size w w'):PC P f args r:=by
 refine⟨na,nr,hc,fun ρ w vs hR hf hA=>?_⟩;refine (h ρ w vs hR.frz hA).mono ?_;rintro e w' ⟨v',b,row,ty,fr,rfl,hb,hrow,hv,b1,b2,b3,b4,b5⟩;have hnone : ρ.fz b=none:=by
  cases hz : ρ.fz b with
  |none=>rfl
  |some r=>have:=hR.flt hz;omega
 have hfz:(ρ.frz b row hnone).fz b=some row:=by simp[Ren.frz]
 refine⟨r,v',nil,0, ρ.frz b row hnone,rfl,rfl,hv _ hfz,⟨fun id b h=>(by cases h),fun i j bi bj ti tj h=>(by cases h),fun k r' hk=>?_,fun id b t h=>(by cases h),fun k r' hk=>⟨?_,fun id b t h=>(by cases h)⟩⟩,hf,A0G _,fun id hid h=>absurd rfl h,fun _ _=>rfl,
  ⟨Ren.le_frz hnone,b1,b2,b3,b4,fun k hk _=>b5 k hk,fun id b t h1=>(by cases h1),fun k r' hk=>?_,fun k r h=>.inl h⟩⟩
 ·simp only[Ren.frz]at hk;split at hk
  ·grind
  ·obtain⟨e,fr,h1⟩:=hR.frz k r' hk
   grind
 ·obtain⟨⟨cl,h1,hst⟩, -⟩:=hR.frm k r' hk
  grind
 ·simp only[Ren.frz]at hk
  grind
theorem VRel.strs{ρ : Ren}{l:List (List UInt8)}{b n c:Nat}(h : ρ.fz b=some ((l.map fun s=>Value.string ⟨s.toArray⟩).toArray))(hn:n=l.length)(hc:n<=c)(hm:c<=maxLen):
  VRel ρ (.lst (l.map DV.str)) (.slice (some ⟨b,0,none⟩) n c):=by
 have hcl:cellsL (l.map DV.str)=l.map DV.str:=by
  clear h hn
  induction l with
  |nil=>rfl
  |cons x r ih =>
   have:cellsL ((x :: r).map DV.str)=[DV.str x]++cellsL (r.map DV.str):=rfl
   grind
 refine .lst _ n 1 b 0 c _ h (by grind) hc hm (fun x hx=>by obtain⟨y, -,rfl⟩:=A1D.1 hx;rfl) ?_ ?_ ?_
 ·grind
 ·rw[hcl];intro d hd;obtain⟨y, -,rfl⟩:=A1D.1 hd;rfl
 ·rw[hcl];intro k d v hd hv;rw[A1U]at hd;obtain⟨s,hs,rfl⟩:=A0N.1 hd;simp only[A1C,A1L,A1U,hs,A2U,Option.some.injEq]at hv;subst hv;exact .mkStr
end Go.Sym
namespace Go.Pb
variable [Go.Sym.Tab]
open Go.Sym
section
variable {L:List Tok} {E:Int}
theorem B0b{s:Rd}{p e:Int}(he:e≠0):okR (J7 s p e)=false:=by
 unfold J7;split
 ·simp[okR,he]
 grind
theorem A1i{s:Rd}:okR (K3 L E s)=false:=B0b (by simp)
theorem F4{s:Rd}{n m e:Int}(he:e≠0)(h:okR (C2 L E s n m e)=true):okR s=true/\n<=m/\C2 L E s n m e=s:=by
 unfold C2 at h ⊢;split at h
 ·rw[B0b he]at h;cases h
 grind
theorem A0a{s:Rd}{t:List UInt8}(h:isR L E s t=true):okR s=true/\s.i<L.length:=by
 unfold isR at h;simp only[A0E,A0Z,A1F]at h;refine⟨h.1.1,?_⟩;by_cases hi:s.i<L.length
 ·omega
 ·have e:B1 L E s=⟨0,[],0,E⟩:=by unfold B1;rw[A0Y,A2M (by omega)];rfl
  grind
theorem G1{s:Rd}{k:Int}(h:H7 L E s k=true):okR s=true/\(B1 L E s).kind=k:=by
 unfold H7 at h
 grind
theorem H5{s:Rd}{k:Int}(hk:k≠0)(h:(B1 L E s).kind=k):B1 L E s∈L/\s.i<L.length:=by
 by_cases hi:s.i<L.length
 ·refine⟨?_,hi⟩;unfold B1
  grind
 ·exfalso;have e:B1 L E s=⟨0,[],0,E⟩:=by unfold B1;rw[A0Y,A2M (by omega)];rfl
  grind
theorem B0c{s:Rd}{t:List UInt8}(h:okR (D4 L E s t)=true):isR L E s t=true/\D4 L E s t=A7 s:=by
 unfold D4 at h ⊢;cases hi:isR L E s t with
 |false=>rw[hi]at h;simp only[if_true]at h;rw[A1i]at h;grind
 |true=>simp
theorem A2d{s:Rd}{k:Int}(h:okR (A8 L E s k).2=true):H7 L E s k=true/\A8 L E s k=(B1 L E s,A7 s):=by
 unfold A8 at h ⊢;cases hi:H7 L E s k with
 |false=>rw[hi]at h;simp only[if_true]at h;rw[A1i]at h;grind
 |true=>simp
theorem F6{s:Rd}:∀ {l:List (List UInt8)} {k:Nat},0<=Y6 L E s k l->okR s=true/\s.i<L.length/\(k:Int)<=Y6 L E s k l/\Y6 L E s k l<(k+l.length:Nat)
 |[],k,h=>by trivial
 |t :: l,k,h=>by
  unfold Y6 at h ⊢;cases hi:isR L E s t with
  |true =>
   rw[if_pos rfl];obtain⟨h1,h2⟩:=A0a hi
   grind
  |false =>
   rw[hi]at h;simp only[A1J,if_false]at h ⊢;obtain⟨h1,h2,h3,h4⟩:=F6 h
   grind
end
structure RI (L:List Tok) (s:Rd):Prop where
 i:s.i<=L.length
 o0:0<=s.ops
 o1:s.ops<=33
 o2:okR s=true->s.ops<=32
 p0:0<=s.par
 p1:s.par<=16
section
variable {L:List Tok} {E:Int}
theorem RI.fail{s:Rd}{p e:Int}(he:e≠0)(h:RI L s):RI L (J7 s p e)/\(J7 s p e).par=s.par:=by
 have hk:=B0b (s:=s) (p:=p) he;have e1:(J7 s p e).i=s.i:=by unfold J7;grind
 have e2:(J7 s p e).ops=s.ops:=by unfold J7;grind
 have e3:(J7 s p e).par=s.par:=by unfold J7;grind
 exact⟨⟨by rw[e1];exact h.i,by rw[e2];exact h.o0,by rw[e2];exact h.o1,(fun k=>by grind),by rw[e3];exact h.p0,by rw[e3];exact h.p1⟩,e3⟩
theorem RI.syn{s:Rd}(h:RI L s):RI L (K3 L E s)/\(K3 L E s).par=s.par:=h.fail (by simp)
theorem RI.lim{s:Rd}{n m e:Int}(he:e≠0)(h:RI L s):RI L (C2 L E s n m e)/\(C2 L E s n m e).par=s.par:=by
 unfold C2;split
 ·exact h.fail he
 grind
theorem RI.nxt{s:Rd}(h:RI L s)(hi:s.i<L.length):RI L (A7 s):=⟨hi,h.o0,h.o1,h.o2,h.p0,h.p1⟩
theorem RI.exp{s:Rd}{x:List UInt8}(h:RI L s):RI L (D4 L E s x)/\(D4 L E s x).par=s.par:=by
 unfold D4;cases k:isR L E s x with
 |false=>rw[if_pos rfl];exact h.syn
 |true=>rw[if_neg (by simp)];exact⟨h.nxt (A0a k).2,rfl⟩
theorem RI.take{s:Rd}{x:Int}(hx:x≠0)(h:RI L s):RI L (A8 L E s x).2/\(A8 L E s x).2.par=s.par:=by
 unfold A8;cases k:H7 L E s x with
 |false=>rw[if_pos rfl];exact h.syn
 |true=>rw[if_neg (by simp)];exact⟨h.nxt (H5 hx (G1 k).2).2,rfl⟩
theorem RI.prim{s:Rd}(h:RI L s):RI L (H4 L E s).2/\(H4 L E s).2.par=s.par:=by
 unfold H4;dsimp only;split
 ·exact h.syn
 ·rename_i hc;have hok:okR s=true/\s.i<L.length:=by
   by_cases hk:0<=B5 L E s O7
   ·obtain⟨h1,h2, -⟩:=F6 hk;grind
   ·cases h3:H7 L E s 3 with
    |true=>exact⟨(G1 h3).1,(H5 (by simp) (G1 h3).2).2⟩
    |false =>
     cases h1:H7 L E s 1 with
     |true=>exact⟨(G1 h1).1,(H5 (by simp) (G1 h1).2).2⟩
     |false=>grind
  have h32:=h.o2 hok.1;have ho:=h.o0;obtain⟨s2,hs2⟩:∃ s2,s2=C2 L E { s with ops:=s.ops+1 } (s.ops+1) 32 9:=⟨_,rfl⟩;rw[<- hs2];cases h2:okR s2 with
  |false =>
   rw[if_pos rfl];have e1:s2.i=s.i:=by rw[hs2];unfold C2 J7;grind
   have e2:s2.ops=s.ops+1:=by rw[hs2];unfold C2 J7;grind
   have e3:s2.par=s.par:=by rw[hs2];unfold C2 J7;grind
   refine⟨⟨?_,?_,?_,(fun k=>by rw[h2]at k;cases k),?_,?_⟩,e3⟩<;>dsimp only
   ·omega
   ·omega
   ·omega
   ·rw[e3];exact h.p0
   ·rw[e3];exact h.p1
  |true =>
   rw[if_neg (by simp)];rw[hs2]at h2;obtain⟨-,h4,h5⟩:=F4 (by simp) h2;rw[h5]at hs2;have h3:RI L (A7 s2):=by
    rw[hs2];exact⟨hok.2,by show 0<=s.ops+1;omega,by show s.ops+1<=33;omega,fun _=>h4,h.p0,h.p1⟩
   have hp:(A7 s2).par=s.par:=by rw[hs2];rfl
   repeat' split
   ·exact⟨(h3.take (by simp)).1,(h3.take (by simp)).2.trans hp⟩
   all_goals exact⟨h3,hp⟩
theorem RI.all:∀ f:Nat,(∀ n s r,I4 L E f n s=some r->RI L s->RI L r.2/\r.2.par=s.par)/\(∀ n e s r,Q4 L E f n e s=some r->RI L s->RI L r.2/\r.2.par=s.par)/\(∀ s r,U1 L E f s=some r->RI L s->RI L r.2/\r.2.par=s.par)
 |0=>⟨fun n s r h=>by trivial,fun n e s r h=>by trivial,fun s r h=>by trivial⟩
 |f+1=>by
  obtain⟨i1,i2,i3⟩:=RI.all f;refine⟨fun n s r h k=>?_,fun n e s r h k=>?_,fun s r h k=>?_⟩
  ·unfold I4 at h
   grind
  ·unfold Q4 at h;dsimp only at h;split at h
   ·grind
   ·rename_i hk;have hk0:0<=B5 L E s C9:=Classical.byContradiction fun g=>hk (.inl (by omega));obtain⟨-,hi, -⟩:=F6 hk0;cases hb:I4 L E f (n+1) (A7 s) with
    |none=>grind
    |some q =>
     obtain⟨x,s1⟩:=q;rw[hb]at h;obtain⟨a1,a2⟩:=i1 _ _ _ hb (k.nxt hi);dsimp only at h;split at h
     ·cases h;trivial
     ·obtain⟨b1,b2⟩:=i2 _ _ _ _ h a1;exact⟨b1,b2.trans a2⟩
  ·unfold U1 at h;dsimp only at h;split at h
   ·cases h;exact k.prim
   ·rename_i hk;have hk0:0<=B5 L E s M5:=by omega
    obtain⟨-,hi, -⟩:=F6 hk0;split at h
    ·cases h;exact k.lim (by simp)
    ·rename_i hl;have hl:okR (C2 L E s (s.par+1) 16 50)=true:=by simpa using hl
     obtain⟨h1,h2,h3⟩:=F4 (by decide) hl;rw[h3]at h;have k2:RI L { s with i:=s.i+1,par:=s.par+1 }:=⟨hi,k.o0,k.o1,k.o2,by have:=k.p0;show 0<=s.par+1;omega,h2⟩;have fin:∀ z:Rd,RI L z->z.par=s.par+1->RI L { z with par:=z.par-1 }/\z.par-1=s.par:=fun z hz hp =>
      ⟨⟨hz.i,hz.o0,hz.o1,hz.o2,by have:=k.p0;show 0<=z.par-1;omega,by have:=k.p1;show z.par-1<=16;omega⟩,by omega⟩
     split at h
     ·cases hb:I4 L E f 1 { s with i:=s.i+1,par:=s.par+1 } with
      |none=>rw[hb]at h;cases h
      |some q =>
       obtain⟨e,s3⟩:=q;rw[hb]at h;cases h;obtain⟨a1,a2⟩:=i1 _ _ _ hb k2;obtain⟨b1,b2⟩:=a1.exp (E:=E) (x:=[41]);exact fin _ b1 (b2.trans a2)
     grind
theorem C1x{s:Rd}{p e:Int}:(J7 s p e).i=s.i:=by unfold J7;grind
theorem Q0{s:Rd}:(K3 L E s).i=s.i:=C1x
theorem F0{s:Rd}{n m e:Int}:(C2 L E s n m e).i=s.i:=by unfold C2;split;exact C1x;rfl
theorem H6{s:Rd}{x:List UInt8}(h:s.i<=L.length):(D4 L E s x).i<=L.length:=by
 unfold D4;cases k:isR L E s x with
 |false=>rw[if_pos rfl,Q0];omega
 |true=>rw[if_neg (by simp)];exact (A0a k).2
theorem I9{s:Rd}{x:Int}(hx:x≠0)(h:s.i<=L.length):(A8 L E s x).2.i<=L.length:=by
 unfold A8;cases k:H7 L E s x with
 |false=>rw[if_pos rfl,Q0];omega
 |true=>rw[if_neg (by simp)];exact (H5 hx (G1 k).2).2
theorem M0{f:Nat}{s:Rd}{r:Ex × Rd}(h:N8 L E f s=some r)(hi:s.i<=L.length):r.2.i<=L.length :=
 ((RI.all f).1 1 { s with ops:=0,par:=0 } r h ⟨hi,A3Q 0,(by simp:(0:Int)<=33),fun _=>(by simp:(0:Int)<=32),A3Q 0,(by simp:(0:Int)<=16)⟩).1.i
theorem C8a{f:Nat}{k p:Int}{s:Rd}{r:St × Rd}(h:K2 L E f k p s=some r)(hi:s.i<=L.length):r.2.i<=L.length:=by
 unfold K2 at h;dsimp only at h;split at h
 ·split at h
  ·grind
  ·rename_i he;cases h;exact H6 (M0 he hi)
 split at h
 ·split at h
  ·grind
  ·rename_i he;cases h;exact H6 (M0 he (H6 (I9 (by simp) hi)))
 split at h
 ·cases h;exact H6 hi
 have h0:=I9 (E:=E) (x:=1) (by simp) hi;split at h
 ·split at h
  ·grind
  ·rename_i he;split at h
   ·split at h
    ·grind
    ·rename_i he2;cases h;exact H6 (M0 he2 (H6 (M0 he h0)))
   ·cases h;exact H6 (M0 he h0)
 ·cases h;exact H6 h0
theorem C8c{f:Nat}{d:Int}{s:Rd}{r:St × Rd}(h:S1 L E f d s=some r)(ho:okR s=false):okR r.2=false:=by
 cases f with
 |zero=>trivial
 |succ f =>
  have hl:okR (C2 L E s d 8 50)=false:=by
   cases k:okR (C2 L E s d 8 50) with
   |false=>rfl
   |true=>rw[(F4 (by decide) k).1]at ho;cases ho
  unfold S1 at h
  grind
theorem II.all:∀ f:Nat,(∀ d s r,M4 L E f d s=some r->s.i<=L.length->r.2.i<=L.length)/\(∀ d l s r,R9 L E f d l s=some r->s.i<=L.length->r.2.i<=L.length)/\(∀ d s r,S1 L E f d s=some r->s.i<=L.length->r.2.i<=L.length)/\(∀ d s r,R6 L E f d s=some r->s.i<=L.length->r.2.i<=L.length)
 |0=>⟨fun d s r h=>by trivial,fun d l s r h=>by trivial,fun d s r h=>by trivial,fun d s r h=>by trivial⟩
 |f+1=>by
  obtain⟨i1,i2,i3,i4⟩:=II.all f;refine⟨fun d s r h k=>?_,fun d l s r h k=>?_,fun d s r h k=>?_,fun d s r h k=>?_⟩
  ·unfold M4 at h;exact i2 _ _ _ _ h (H6 k)
  ·unfold R9 at h;split at h
   ·split at h
    ·cases h;rw[Q0];omega
    ·split at h
     ·grind
     ·rename_i he;exact i2 _ _ _ _ h (i3 _ _ _ he (by rw[F0];omega))
   ·cases h;exact H6 k
  ·unfold S1 at h;dsimp only at h;split at h
   ·cases h;rw[F0];omega
   ·split at h
    ·split at h
     ·grind
     ·rename_i he;cases h;exact H6 (M0 he (H6 (I9 (by simp) (by rw[F0];omega))))
    ·rename_i hk;have hn:(A7 (C2 L E s d 8 50)).i<=L.length:=(F6 (show 0<=B5 L E (C2 L E s d 8 50) B4 by omega)).2.1;split at h
     ·split at h
      ·grind
      ·rename_i he;split at h
       ·grind
       ·rename_i hb;have h3:=i1 _ _ _ hb (M0 he hn);split at h
        ·rename_i hc;split at h
         ·cases h
         ·rename_i ho;cases h;exact i4 _ _ _ ho (A0a hc.2).2
        grind
     ·exact C8a h hn
  ·unfold R6 at h
   grind
end
end Go.Pb
namespace Go.Sym
variable [Go.Sym.Tab]
variable {P:Program}
theorem AC.own{f:Nat}{args:List DV}{V:Nat->DV}{u:Nat}{cs:List DV}(h:AC P f args nil 0 (fun v H' _ => ∃ id,v=V id/\H'=nil.upd id ⟨u,true,cs⟩))(hn:DV.nlL args=true)(hcs:∀ d∈cs,d.nl=true)
  (hV:∀ (ρ ρ':Ren) (id id':Nat) (v:Value), ρ.nm id = ρ'.nm id'->((∀ b r, ρ.fz b=some r -> ρ'.fz b=some r)/\∀ b r, ρ.fm b=some r -> ρ'.fm b=some r)->VRel ρ (V id) v->VRel ρ' (V id') v) (H:Hp) (c:Nat) :
  AC P f args H c (fun v H' c'=>v=V c/\H'=H.upd c ⟨u,true,cs⟩/\c'=c+1):=by
 refine⟨h.1,fun ρ w vs hR hf hA=>?_⟩;refine (h.2 ⟨fun _=>none, ρ.fz, ρ.tab, ρ.fm⟩ w vs hR.nil (fun _ _=>rfl) (hA.nl (ρ := ρ) (ρ':=⟨fun _=>none, ρ.fz, ρ.tab, ρ.fm⟩) (fun _ _ h=>h) (fun _ _ h=>h) hn)).mono ?_;rintro e w' ⟨v,v',H1,c1, ρ1,rfl,⟨id,rfl,rfl⟩,d⟩;have hb:=d.ext.below (fun id b hb=>by cases hb);obtain⟨b1,b2,b3,b4,b5⟩:=hb;obtain⟨t,ht,hbr⟩:=d.rep.blk id _ h_same;have hsz:w.heap.size<=t.block:=by
  rcases d.ext.mine id _ t h_same ht with h1|⟨i,b0,t0,e1, -⟩
  ·exact h1
  trivial
 obtain⟨ρ2,hρ⟩:∃ ρ2:Ren, ρ2=⟨fun j=>if j=c then some t else ρ.nm j, ρ1.fz, ρ1.tab, ρ1.fm⟩:=⟨_,rfl⟩;have n1 : ρ2.nm c=some t:=by simp_all
 have n2:∀ {j},¬ j=c -> ρ2.nm j = ρ.nm j:=fun {j} hj=>by simp_all
 have n3 : ρ2.fz = ρ1.fz:=by grind
 have n4 : ρ2.fm = ρ1.fm:=by grind
 have hle : ρ.le ρ2:=⟨fun j x hj=>by
  grind,fun b r hb=>by rw[n3];exact d.ext.le.fz b r hb,fun b r hb=>by rw[n4];exact d.ext.le.fm b r hb⟩
 refine⟨V c,v',_,_, ρ2,rfl,⟨rfl,rfl,rfl⟩,hV ρ1 ρ2 id c v' (by grind) ⟨fun b r hb=>by grind,fun b r hb=>by grind⟩ d.val,?_,fun j hj=>by grind,by omega,
  fun j hj hne=>by rw[hnO]at hne;omega,fun j hj=>n2 (by omega),?_⟩
 ·refine⟨fun j b hb=>?_,fun i j bi bj ti tj hi hj hij h1 h2 ho=>?_,by rw[n3];exact d.rep.frz,fun j b t2 hb ho ht2=>?_,fun k es hk=>?_⟩
  ·by_cases e:j=c
   ·subst e;rw[h_same]at hb;cases hb;refine⟨t,n1,?_⟩;rcases hbr with ⟨gm,c0,e0,fr,g1,g2,g3,g4,g5,g6⟩|⟨-, -, -,es,cl,kd,ks,vs', -,g2, -⟩
    case inr =>
     simp only at g2;subst g2;have:=hcs _ A0M
     trivial
    refine .inl ⟨gm,c0,e0,fr,g1,g2,g3,g4,fun i x hx=>?_,g6⟩;obtain⟨q1,x',q2,q3⟩:=g5 i x hx;exact⟨q1,x',q2,q3.nl (ρ := ρ1) (ρ' := ρ2) (fun b r hb=>by grind) (fun b r hb=>by grind) (hcs x (A0V hx))⟩
   ·rw[h_ne e]at hb;obtain⟨t2,ht2,hb2⟩:=hR.blk j b hb;exact⟨t2,by grind,(hb2.mono hle).world (b5 _ hb2.lt)⟩
  ·by_cases e1:i=c
   ·subst e1;have e2:¬ j=i:=fun e=>hij e.symm;rw[h_ne e2]at hj;rw[n1]at h1;cases h1;rw[n2 e2]at h2;have:=(hR.blk j bj hj);obtain⟨t2,ht2,hb2⟩:=this;rw[h2]at ht2;cases ht2;have:=hb2.lt;omega
   ·rw[h_ne e1]at hi;rw[n2 e1]at h1;by_cases e2:j=c
    ·subst e2;rw[n1]at h2;cases h2;obtain⟨t2,ht2,hb2⟩:=hR.blk i bi hi;rw[h1]at ht2;cases ht2;have:=hb2.lt;omega
    ·rw[h_ne e2]at hj;rw[n2 e2]at h2;exact hR.sep i j bi bj ti tj hi hj hij h1 h2 ho
  ·rw[n3];by_cases e:j=c
   ·subst e;rw[h_same]at hb;cases hb;rw[n1]at ht2;cases ht2;exact d.rep.dis id _ t h_same rfl ht
   ·rw[h_ne e]at hb;rw[n2 e]at ht2;cases hf1 : ρ1.fz t2.block with
    |none=>rfl
    |some r =>
     rcases d.ext.fzn _ _ hf1 with h1|h1|⟨i,b0,t0,e1, -⟩
     ·rw[hR.dis j b t2 hb ho ht2]at h1;cases h1
     ·have:=(hR.lookb hb ht2).lt;omega
     trivial
  ·rw[n4]at hk;refine⟨(d.rep.frm k es hk).1,fun j b t2 hb ho ht2=>?_⟩;by_cases e:j=c
   ·subst e;rw[h_same]at hb;cases hb;rw[n1]at ht2;cases ht2;exact (d.rep.frm k es hk).2 id _ t h_same rfl ht
   ·rw[h_ne e]at hb;rw[n2 e]at ht2;rcases d.ext.fmn _ _ hk with h1|h1|⟨i,b0,t0,e1, -⟩
    ·exact (hR.frm k es h1).2 j b t2 hb ho ht2
    ·have:=(hR.lookb hb ht2).lt;omega
    trivial
 ·refine⟨hle,b1,b2,b3,b4,fun k hk _=>b5 k hk,fun j b t2 h1 h2=>?_,fun k r hk=>?_,fun k r hk=>?_⟩
  ·by_cases e:j=c
   ·grind
   ·rw[h_ne e]at h1
    grind
  ·rw[n3]at hk;rcases d.ext.fzn k r hk with h1|h1|⟨i,b0,t0,e1, -⟩
   ·exact .inl h1
   ·exact .inr (.inl h1)
   trivial
  ·rw[n4]at hk;rcases d.ext.fmn k r hk with h1|h1|⟨i,b0,t0,e1, -⟩
   ·exact .inl h1
   ·exact .inr (.inl h1)
   trivial
section
open Go.Eng (IC)
variable {N:Nat} {x:IC} {T:Tm} {H:Hp} {c:Nat} {Q:Exit->St->Prop}
theorem IW.gl{s:St}(h:IW P N x s (fun e s'=>Q e s'\/∃ (ks:List Nat) (ds':List DV) (H2:Hp),GL s'.H (ks.map s'.T) H2 ds'/\Q e ⟨tm (ks.zip ds'),H2,s'.c⟩)):IW P N x s Q:=by
 intro hm cd hc ρ a w hS;refine wp_mono (h hm cd hc ρ a w hS) fun e a' w' hq=>?_;obtain⟨ρ2,s2,q,hS2,hst⟩:=hq;rcases q with q|⟨ks,ds',H2,g,q⟩
 ·exact⟨ρ2,s2,q,hS2,hst⟩
 have hA:E8 ρ2 (ks.map s2.T) ((ks.map fun k=>a'.tmps.getD k undef)).toArray:=by
  refine⟨by simp,fun i x y hx hy=>?_⟩;simp only[A1U,A0N,A1L]at hx hy;obtain⟨k,hk,rfl⟩:=hx;obtain⟨k',hk',rfl⟩:=hy;rw[hk]at hk';cases hk';exact hS2.tm k
 obtain⟨ρ1,e1,r1,a1,x1⟩:=g.2 ρ2 w' _ hS2.rep hA;refine⟨ρ1,⟨tm (ks.zip ds'),H2,s2.c⟩,q,⟨B8y fun i k d hk hd=>a1.2 i d _ hd (by grind),r1,by rw[e1];exact hS2.fresh,hS2.size,hS2.dfr⟩,?_⟩;exact⟨hst.up,fun id hid hne=>hst.dom id hid (g.1 id hne),fun id hid=>by rw[e1];exact hst.same id hid,hst.ext.trans x1⟩
theorem B0y:∀ {L:List (Nat × DV)} {T:Tm},C6 L T->(L.map Prod.fst).map T=L.map Prod.snd
 |[],_,_=>rfl
 |(k,v) :: r,T,⟨h1,h2⟩=>by simp only[A0U,h1,B0y h2]
theorem C7j(L:List (Nat × DV)):(L.map Prod.fst).zip (L.map Prod.snd)=L:=by
 induction L with
 |nil=>rfl
 |cons a r ih=>grind
def lpG{σ : Type}(L : σ -> List (Nat × DV))(h : σ -> Hp)(I : σ -> Nat->Prop)(μ : σ -> Nat)(m:Nat)(Q:Exit->St->Prop):Exit->St->Prop
 |.normal,⟨T,H,c⟩ => ∃ b,C6 (L b) T/\GL H ((L b).map Prod.snd) (h b) ((L b).map Prod.snd)/\I b c /\ μ b<m
 |e,s=>Q e s
theorem C5j{σ : Type}(L : σ -> List (Nat × DV))(h : σ -> Hp)(I : σ -> Nat->Prop)(μ : σ -> Nat)(a : σ)(hL:∀ b,C6 (L b) (tm (L b)))(h0:C6 (L a) T)(hH:Sub (h a) H)(hI:I a c)
  (step:∀ a c,I a c->IW P N x ⟨tm (L a),h a,c⟩ (lpG L h I μ (μ a) Q)):IW P N (.loop x) ⟨T,H,c⟩ Q:=by
 refine C1 L h I μ a h0 hH hI fun a c hI=>IW.gl ((step a c hI).mono fun e s' q=>?_);obtain⟨T',H',c'⟩:=s';cases e with
 |normal =>
  obtain⟨b,q1,q2,q3,q4⟩:=q;refine .inr ⟨(L b).map Prod.fst,(L b).map Prod.snd,h b,by rw[B0y q1];omega,?_⟩;rw[C7j];exact⟨b,hL b,Sub.refl _,q3,q4⟩
 |_=>exact .inl q
theorem D3e{σ : Type}{L : σ -> List (Nat × DV)}{h : σ -> Hp}{I : σ -> Nat->Prop}{μ : σ -> Nat}{m:Nat}:lpG L h I μ m Q .normal ⟨T,H,c⟩ = ∃ b,C6 (L b) T/\GL H ((L b).map Prod.snd) (h b) ((L b).map Prod.snd)/\B2s I b c /\ μ b<m:=propext Iff.rfl
theorem D3d{σ : Type}{L : σ -> List (Nat × DV)}{h : σ -> Hp}{I : σ -> Nat->Prop}{μ : σ -> Nat}{m:Nat}:lpG L h I μ m Q .ret ⟨T,H,c⟩=Q .ret ⟨T,H,c⟩:=propext Iff.rfl
end
section
open Go.Eng (AOp)
variable {c0:Nat} {T:Tm} {H:Hp}
def agN(T:Tm)(H:Hp)(d n:Nat):Option (Option Nat × Blk)->Prop
 |some (k,b)=>T d=mkv n k/\H n=some b
 |none=>False
theorem D5e{j d:Nat}{f:AOp}:agK c0 j T H (some d) (.new f) (some true)=agN T H d (c0+j) (aev (ev T) f):=by
 simp only[agK,agN]
 grind
theorem D5f{d n:Nat}{k:Option Nat}{b:Blk}:agN T H d n (some (k,b))=(T d=mkv n k/\H n=some b):=propext Iff.rfl
end
attribute [go_sem] D5e D5f
attribute [go_sem] D3e D3d
end Go.Sym
namespace Go.Pb
variable [Go.Sym.Tab]
open Go.Sym
section
variable {L:List Tok} {E:Int}
theorem C7c{k:Int}{s:Rd}(hi:s.i<L.length):(P4 L E k s).2.i<=L.length:=by
 have hn:(A7 s).i<=L.length:=hi;have h2:=I9 (E:=E) (x:=1) (by simp) hn;unfold P4;dsimp only;split
 ·refine H6 (I9 (by decide) ?_);split
  ·rename_i hm;rw[A0E]at hm;exact (A0a hm.2).2
  omega
 ·exact H6 h2
theorem C6r:∀ (f:Nat) (l:List Hd) (s:Rd) (r:List Hd × Rd),W8 L E f l s=some r->s.i<=L.length->r.2.i<=L.length
 |0,l,s,r,h,hi=>by trivial
 |f+1,l,s,r,h,hi=>by
  unfold W8 at h;dsimp only at h;split at h
  ·split at h
   ·cases h;rw[Q0];omega
   ·have h1:(C2 L E s ((l.length:Int)+1) 32 9).i<=L.length:=by rw[F0];omega
    have h2:=H6 (E:=E) (x:=[111,110]) h1;split at h
    ·cases h;rw[Q0];omega
    ·rename_i hk;have h3:(A7 (D4 L E (C2 L E s ((l.length:Int)+1) 32 9) [111,110])).i<=L.length:=(F6 (show 0<=B5 L E (D4 L E (C2 L E s ((l.length:Int)+1) 32 9) [111,110]) E3 by omega)).2.1;split at h
     ·grind
     ·rename_i hb;refine C6r f _ _ _ h ((II.all f).1 _ _ _ hb ?_);split
      ·exact I9 (by decide) h3
      omega
  ·cases h;exact H6 hi
theorem C6q{f:Nat}{s:Rd}{r:Md × Rd}(h:A2n L E f s=some r)(hi:s.i<=L.length):r.2.i<=L.length:=by
 unfold A2n at h;dsimp only at h;split at h
 ·grind
 ·rename_i hm;cases h;exact C6r f _ _ _ hm (H6 (I9 (by simp) (I9 (by simp) (H6 hi))))
theorem B9u:∀ (f:Nat) (l:List Dc) (s:Rd) (r:List Dc × Rd),U2 L E f l s=some r->s.i<=L.length->r.2.i<=L.length
 |0,l,s,r,h,hi=>by trivial
 |f+1,l,s,r,h,hi=>by
  unfold U2 at h;dsimp only at h;split at h
  ·grind
  ·rename_i hk;have hlt:=(F6 (show 0<=B5 L E s D6 by omega)).2.1;split at h
   ·exact B9u f _ _ _ h (C7c (by rw[F0];omega))
   ·exact B9u f _ _ _ h (by rw[F0];omega)
theorem B9t:∀ (f:Nat) (l:List Md) (s:Rd) (r:List Md × Rd),T1 L E f l s=some r->s.i<=L.length->r.2.i<=L.length
 |0,l,s,r,h,hi=>by trivial
 |f+1,l,s,r,h,hi=>by
  unfold T1 at h;dsimp only at h;split at h
  ·split at h
   ·cases h;rw[Q0];exact hi
   ·split at h
    ·split at h
     ·cases h
     ·rename_i hm;exact B9t f _ _ _ h (C6q hm (by rw[F0];exact hi))
    ·exact B9t f _ _ _ h (by rw[F0];exact hi)
  grind
end
def okN(kind:Int)(text:List UInt8)(value:Int)(i n:Nat):DV:=.tup [.agg [I64 kind,.str text,I64 value,I64 i],I64 ((i+n:Nat):Int),I64 0]
def Q9(e:Int)(i:Nat):DV:=.tup [.agg [I64 0,.str [],I64 0,I64 0],I64 i,I64 e]
def nxR(x:Nx)(i:Nat):DV:=if x.err=0 then okN x.kind x.text x.value i x.n else Q9 x.err i
theorem B3p(x:Nx)(i:Nat):(nxR x i).nl=true:=by unfold nxR;split<;>rfl
theorem A6l{k:Int}{t:List UInt8}{v:Int}{n i:Nat}:nxR ⟨k,t,v,n,0⟩ i=okN k t v i n:=if_pos rfl
theorem A5n{e:Int}{i:Nat}(h:e≠0):nxR (nxE e) i=Q9 e i:=if_neg h
def B0k(s:List UInt8):Bool:=decide (2147483647<O9 s)
def smV(s:List UInt8):Nat:=if 2147483647<O9 s then 0 else O9 s
theorem B9i(s:List UInt8):smV s<=2147483647:=by unfold smV;grind
theorem B9j{s:List UInt8}(h:¬ 2147483647<O9 s):smV s=O9 s:=if_neg h
theorem C6i{s:List UInt8}(h:2147483647<O9 s):smV s=0:=if_pos h
theorem A6d{p:UInt8->Bool}{s:List UInt8}{i j:Nat}{c:UInt8}(h:s[i+j]? = some c)(hj:j<=D2 p (s.drop i)):(p c=true->j+1<=D2 p (s.drop i))/\(p c=false->D2 p (s.drop i)=j) :=
 A5j (by grind) hj
theorem A3j{p:UInt8->Bool}{s:List UInt8}{i j:Nat}(h:s.length<=i+j)(hj:j<=D2 p (s.drop i)):D2 p (s.drop i)=j :=
 B1d (by grind) hj
theorem B1e{s:List UInt8}{i n:Nat}(h:i+n<=s.length):slsR s (some (.int .i64 (i:Int))) (some (.int .i64 ((i+n:Nat):Int)))=some (.str ((s.drop i).take n)):=by
 have b1:∀ k:Nat,boundOf s.length (some (.int .i64 (k:Int)))=some k:=fun k=>by simp[boundOf]
 have b2:∀ k:Nat,boundOf 0 (some (.int .i64 (k:Int)))=some k:=fun k=>by simp[boundOf]
 simp only[slsR,b1,b2]
 grind
theorem B7k(x:Nx)(i:Nat):∃ (k:Int) (t:List UInt8) (v p n e:Int),nxR x i=.tup [.agg [I64 k,.str t,I64 v,I64 p],I64 n,I64 e]:=by
 unfold nxR;split
 ·exact⟨_,_,_,_,_,_,rfl⟩
 ·exact⟨_,_,_,_,_,_,rfl⟩
def C2s:Blk:=⟨0,true,[I64 0,.str [],I64 0,I64 0]⟩
def quR(i:Nat):Option (List UInt8 × Nat)->DV
 |none=>Q9 48 i
 |some x=>if 32<x.1.length then Q9 9 i else .tup [.agg [I64 4,.str x.1,I64 0,I64 i],I64 (x.2:Int),I64 0]
theorem C9g(i:Nat)(q:Option (List UInt8 × Nat)):(quR i q).nl=true:=by
 cases q with
 |none=>rfl
 |some x=>simp only[quR];split<;>rfl
theorem C0c{s:List UInt8}{i:Nat}{c:UInt8}(h:s[i]? = some c)(h1:ltB c=false)(h2:dgB c=false)(h3:c.toNat=34):quR i (quA [] (i+1) (quM (s.drop (i+1))))=nxR (C0 (s.drop i)) i:=by
 rw[J8 h,C0,if_neg (by grind),if_neg (by grind),if_pos h3];cases hq:quM (s.drop (i+1)) with
 |none=>rfl
 |some x =>
  simp only[quA,A2U,List.nil_append,quR];split
  ·rfl
  ·rw[A6l,okN]
   grind
theorem A5g{X:Hp}{o:Option Nat}{c:Nat}{b b2 b3 b3':Blk}(hX:∀ j q,X j=some q->j<c)(ho:∀ i,o=some i->X i=none)(h:b3=b3'):
  Sub (optH X (some (c+1)) b3) ((delO ((optH X o b).upd c b2) o).upd (c+1) b3'):=by
 subst h;intro j q hj;simp only[optH]at hj;by_cases e:j=c+1
 ·subst e;rw[h_same]at hj ⊢;omega
 ·rw[h_ne e]at hj ⊢;have h1:=hX j q hj;have h2:∀ i,o=some i->¬ j=i:=fun i hi e2=>by rw[e2,ho i hi]at hj;cases hj
  rw[D1 h2,hnO,B7 h2];omega
theorem A5e{b:Blk}{c j:Nat}{q:Blk}(hc:1<=c)(h:(Sym.nil.upd 0 b) j=some q):j<c:=by
 by_cases e:j=0
 ·omega
 ·rw[h_ne e]at h;cases h
theorem A5d{b:Blk}{i:Nat}(h:¬ i=0):(Sym.nil.upd 0 b) i=none:=by rw[h_ne h];rfl
def M8:List (List UInt8):=[[60,61],[62,61],[61,61],[33,61],[38,38],[124,124],[123],[125],[40],[41],[59],[44],[61],[43],[45],[42],[47],[37],[33],[60],[62]]
theorem B9n:∀ k:Nat,k<6->∃ a b,M8.getD k []=[a,b]/\A9a a b=true:=by
 intro k hk;have:∀ k:Nat,k<6->(match M8.getD k [] with |[a,b]=>A9a a b|_=>false)=true:=by decide
 grind
theorem B9o:∀ k:Nat,6<=k->k<21->∃ a,M8.getD k []=[a]/\B1q a=true:=by
 intro k h6 hk;have:∀ k:Nat,k<21->6<=k->(match M8.getD k [] with |[a]=>B1q a|_=>false)=true:=by decide
 grind
theorem B8t{c d:UInt8}(h:A9a c d=true):∃ k,k<6/\M8.getD k []=[c,d]:=by
 rw[C3i]at h;simp only[A0Z,A1F]at h;rcases h with ((((h|h)|h)|h)|h)|h
 ·exact⟨0,by omega,h.symm⟩
 ·exact⟨1,by omega,h.symm⟩
 ·exact⟨2,by omega,h.symm⟩
 ·exact⟨3,by omega,h.symm⟩
 ·exact⟨4,by omega,h.symm⟩
 ·exact⟨5,by omega,h.symm⟩
theorem C9j{c:UInt8}(h:B1q c=true):∃ k,6<=k/\k<21/\M8.getD k []=[c]:=by
 have key:∀ n:Nat,n<256->B1q (UInt8.ofNat n)=true->∃ k,k<21/\6<=k/\M8.getD k []=[UInt8.ofNat n]:=by decide +kernel
 obtain⟨k,h1,h2,h3⟩:=key c.toNat c.toNat_lt (by rw[UInt8.ofNat_toNat];exact h);rw[UInt8.ofNat_toNat]at h3
 grind
def A3r(l s:List UInt8):Bool:=decide (l.length<=s.length) && (s.take l.length == l)
theorem B7d{s:List UInt8}{k:Nat}(hk:k<21)(hno:∀ j,j<k->A3r (M8.getD j []) s=false)(h:A3r (M8.getD k []) s=true):M3 s=(M8.getD k []).length/\(M8.getD k [])=s.take (M8.getD k []).length:=by
 simp only[A3r,A0E,A0J,A1F]at h;refine⟨?_,h.2.symm⟩;by_cases h6:k<6
 ·obtain⟨a,b,e,ht⟩:=B9n k h6;rw[e]at h ⊢
  match s,h with
  |[],h=>grind
  |[x],h=>grind
  |x :: y :: r,h =>
   simp at h;obtain⟨rfl,rfl⟩:=h;simp[M3,ht]
 ·obtain⟨a,e,ho⟩:=B9o k (by omega) hk;rw[e]at h ⊢
  match s,h with
  |[],h=>grind
  |[x],h =>
   simp at h;subst h;simp[M3,ho]
  |x :: y :: r,h =>
   simp at h;subst h;have h2:A9a x y=false:=by
    cases ht:A9a x y with
    |false=>rfl
    |true =>
     obtain⟨j,hj,e2⟩:=B8t ht;have:=hno j (by omega);rw[e2]at this;simp[A3r]at this
   simp[M3,h2,ho]
theorem B9m{s:List UInt8}(hno:∀ j,j<21->A3r (M8.getD j []) s=false):M3 s=0:=by
 have h1:∀ x r,s=x :: r->B1q x=false:=by
  intro x r e;cases ho:B1q x with
  |false=>rfl
  |true =>
   obtain⟨j, -,hj,e2⟩:=C9j ho;have:=hno j hj;rw[e2,e]at this;simp[A3r]at this
 match s,hno,h1 with
 |[],_,_=>rfl
 |[x],_,h1=>simp[M3,h1 x [] rfl]
 |x :: y :: r,hno,h1 =>
  have h2:A9a x y=false:=by
   cases ht:A9a x y with
   |false=>rfl
   |true =>
    obtain⟨j,hj,e2⟩:=B8t ht;have:=hno j (by omega);rw[e2]at this;simp[A3r]at this
  simp[M3,h2,h1 x _ rfl]
def T0:Tok:=⟨0,[],0,0⟩
theorem C7b{g:Bool}{a b d a' b' d':Int}{s t:List UInt8}:B2l g [0,2,0,0] (.agg [I64 a,.str s,I64 b,I64 d]) (.agg [I64 a',.str t,I64 b',I64 d'])=some (.bool (g != (a == a' && (s == t && (b == b' && d == d'))))):=by
 simp only[B2l,L7,A1v,if_true]
 grind
theorem A8c:∀ (f:Nat) (s:List UInt8) (k:Nat) (acc:List Tok),acc.length<=k->k<=s.length->(M9 f s k acc).1.length<=s.length
 |0,s,k,acc,h1,h2=>by simp only[M9];omega
 |f+1,s,k,acc,h1,h2=>by
  rw[M9];split
  ·grind
  ·split
   ·simp
   ·rename_i h3 h4;have h4:(C0 (s.drop k)).err=0:=by omega
    have hn:=A9s h4;rw[A1Z]at hn;have hk:=X9 false (s.drop (k+(C0 (s.drop k)).n));rw[A1Z]at hk;exact A8c f s _ _ (by grind) (by omega)
theorem B7e(s:List UInt8):(C3 s).1.length<=s.length:=by
 unfold C3;split
 ·simp
 ·have:=X9 false s;exact A8c _ _ _ _ (by simp) this
def nxT(x:Nx)(p:Int):Tok:=⟨x.kind,x.text,x.value,p⟩
def A8x(s:List UInt8):Nat->List Tok->Prop
 |k,[]=>s.length<=k
 |k,t :: l=>k<s.length/\(C0 (s.drop k)).err=0/\t=nxT (C0 (s.drop k)) (k:Int)/\A8x s (k+(C0 (s.drop k)).n+skM false (s.drop (k+(C0 (s.drop k)).n))) l
theorem A4j:∀ (f:Nat) (s:List UInt8) (k:Nat) (acc:List Tok),s.length+1<=k+f->(M9 f s k acc).2.2=0->∃ l,(M9 f s k acc).1=acc++l/\A8x s k l
 |0,s,k,acc,hf,h=>⟨[],by simp[M9],by show s.length<=k;omega⟩
 |f+1,s,k,acc,hf,h=>by
  rw[M9]at h ⊢;by_cases h1:s.length<=k
  ·rw[if_pos h1];exact⟨[],by simp,h1⟩
  ·rw[if_neg h1]at h ⊢;by_cases h2:(C0 (s.drop k)).err=0
   ·rw[if_neg (by simpa using h2)]at h ⊢;have hn:=A9s h2;obtain⟨l,e,hr⟩:=A4j f s _ _ (by omega) h;exact⟨_ :: l,by rw[e,A0T];rfl,by omega,h2,rfl,hr⟩
   grind
theorem A4k{s:List UInt8}(h:(C3 s).2.2=0):s.length<=20000/\A8x s (skM false s) (C3 s).1:=by
 unfold C3 at h ⊢;by_cases h1:20000<s.length
 ·grind
 ·rw[if_neg h1]at h ⊢;have:=X9 false s;obtain⟨l,e,hr⟩:=A4j _ s _ [] (by omega) h
  grind
def TOk(t:Tok):Prop:=∃ s p,(C0 s).err=0/\t=nxT (C0 s) p
theorem A8x.ok{s:List UInt8}:∀ {k:Nat} {l:List Tok},A8x s k l->∀ t∈l,TOk t
 |k,[],_,t,h=>by grind
 |k,x :: l,h,t,ht=>by
  rcases A1P.1 ht with rfl|ht
  ·exact⟨_,_,h.2.1,h.2.2.1⟩
  ·exact A8x.ok h.2.2.2 t ht
theorem B5g{s:List UInt8}(h:(C3 s).2.2=0):∀ t∈(C3 s).1,TOk t:=(A4k h).2.ok
def Evt{α : Type}(g:Nat->Option α)(r : α):Prop:=∃ N, ∀ f,N<=f->g f=some r
theorem Evt.one{α : Type}{g:Nat->Option α}{r : α}(h:∀ f,g (f+1)=some r):Evt g r :=
 ⟨1,fun f hf=>by obtain⟨k,rfl⟩:∃ k,f=k+1:=⟨f-1,by omega⟩;grind⟩
theorem Evt.ext{α β : Type}{g:Nat->Option α}{h:Nat->Option β}{r : α}{q : β}(hg:Evt g r)(e:∀ f,g f=some r->h (f+1)=some q):Evt h q:=by
 obtain⟨N,hg⟩:=hg;exact⟨N+1,fun f hf=>by obtain⟨k,rfl⟩:∃ k,f=k+1:=⟨f-1,by omega⟩;grind⟩
theorem Evt.map{α β : Type}{g:Nat->Option α}{h:Nat->Option β}{r : α}{q : β}(hg:Evt g r)(e:∀ f,g f=some r->h f=some q):Evt h q:=by
 obtain⟨N,hg⟩:=hg;exact⟨N,fun f hf=>e f (hg f hf)⟩
theorem Evt.and{α β : Type}{g:Nat->Option α}{h:Nat->Option β}{r : α}{q : β}(hg:Evt g r)(hh:Evt h q):Evt (fun f=>match g f,h f with|some a,some b=>some (a,b)|_,_=>none) (r,q):=by
 obtain⟨N,hg⟩:=hg;obtain⟨M,hh⟩:=hh;exact⟨max N M,fun f hf=>by grind⟩
theorem Evt.ext2{α β γ : Type}{g:Nat->Option α}{h:Nat->Option β}{k:Nat->Option γ}{r : α}{q : β}{w : γ}(hg:Evt g r)(hh:Evt h q)(e:∀ f,g f=some r->h f=some q->k (f+1)=some w):Evt k w:=by
 obtain⟨N,hg⟩:=hg;obtain⟨M,hh⟩:=hh;exact⟨max N M+1,fun f hf=>by obtain⟨j,rfl⟩:∃ j,f=j+1:=⟨f-1,by omega⟩;grind⟩
theorem Evt.map2{α β γ : Type}{g:Nat->Option α}{h:Nat->Option β}{k:Nat->Option γ}{r : α}{q : β}{w : γ}(hg:Evt g r)(hh:Evt h q)(e:∀ f,g f=some r->h f=some q->k f=some w):Evt k w:=by
 obtain⟨N,hg⟩:=hg;obtain⟨M,hh⟩:=hh;exact⟨max N M,fun f hf=>e f (hg f (by omega)) (hh f (by omega))⟩
theorem Evt.uniq{α : Type}{g:Nat->Option α}{r q : α}(h1:Evt g r)(h2:Evt g q):r=q:=by
 obtain⟨N,h1⟩:=h1;obtain⟨M,h2⟩:=h2;exact Option.some.inj ((h1 (max N M) (by omega)).symm.trans (h2 (max N M) (by omega)))
theorem Evt.get{α : Type}{g:Nat->Option α}{r : α}(h:Evt g r):∃ f,g f=some r:=by
 obtain⟨N,h⟩:=h;exact⟨N,h N (A0G _)⟩
section
variable {L:List Tok} {E:Int}
abbrev Bin(L:List Tok)(E n:Int)(s:Rd)(r:Ex × Rd):Prop:=Evt (fun f=>I4 L E f n s) r
abbrev Lop(L:List Tok)(E n:Int)(e:Ex)(s:Rd)(r:Ex × Rd):Prop:=Evt (fun f=>Q4 L E f n e s) r
abbrev Un(L:List Tok)(E:Int)(s:Rd)(r:Ex × Rd):Prop:=Evt (fun f=>U1 L E f s) r
theorem Bin.un{n:Int}{s:Rd}{r:Ex × Rd}(hn:5<n)(h:Un L E s r):Bin L E n s r :=
 h.ext fun f h=>by rw[I4,if_pos hn];omega
theorem Bin.go{n:Int}{s s1:Rd}{e:Ex}{r:Ex × Rd}(hn:n<=5)(h:Bin L E (n+1) s (e,s1))(h2:Lop L E n e s1 r):Bin L E n s r :=
 h.ext2 h2 fun f h h2=>by rw[I4,if_neg (by omega),h];omega
theorem Lop.stop{n:Int}{e:Ex}{s:Rd}(h:B5 L E s C9<0\/B0 (12+B5 L E s C9)≠n):Lop L E n e s (e,s) :=
 Evt.one fun f=>by rw[Q4];grind
theorem Lop.three{n:Int}{e x:Ex}{s s1:Rd}(h0:0<=B5 L E s C9)(h1:B0 (12+B5 L E s C9)=n)(hn:n=3)(hb:Bin L E (n+1) (A7 s) (x,s1)):Lop L E n e s (.mk (12+B5 L E s C9) 0 [] [e,x] (B1 L E s).pos,s1) :=
 hb.ext fun f h=>by rw[Q4];grind
theorem Lop.more{n:Int}{e x:Ex}{s s1:Rd}{r:Ex × Rd}(h0:0<=B5 L E s C9)(h1:B0 (12+B5 L E s C9)=n)(hn:n≠3)(hb:Bin L E (n+1) (A7 s) (x,s1))(hl:Lop L E n (.mk (12+B5 L E s C9) 0 [] [e,x] (B1 L E s).pos) s1 r):Lop L E n e s r :=
 hb.ext2 hl fun f h h2=>by rw[Q4];grind
theorem Un.prim{s:Rd}(h:B5 L E s M5<0):Un L E s (H4 L E s) :=
 Evt.one fun f=>by rw[U1];grind
theorem Un.bad{s:Rd}(h:0<=B5 L E s M5)(hl:okR (C2 L E s (s.par+1) 16 50)=false):Un L E s (Ex0,C2 L E s (s.par+1) 16 50) :=
 Evt.one fun f=>by rw[U1];grind
theorem Un.par{s s3:Rd}{e:Ex}(h:B5 L E s M5=2)(hl:okR (C2 L E s (s.par+1) 16 50)=true)(hb:Bin L E 1 { s with i:=s.i+1,par:=s.par+1 } (e,s3)):Un L E s (e, { D4 L E s3 [41] with par:=(D4 L E s3 [41]).par-1 }) :=
 hb.ext fun f hf=>by
  have e0:=(F4 (by decide) hl).2.2;rw[U1];grind
theorem Un.pre{s s3:Rd}{e:Ex}(h0:0<=B5 L E s M5)(h:B5 L E s M5≠2)(hl:okR (C2 L E s (s.par+1) 16 50)=true)(hb:Un L E { s with i:=s.i+1,par:=s.par+1 } (e,s3)):Un L E s (.mk (10+B5 L E s M5) 0 [] [e] (B1 L E s).pos, { s3 with par:=s3.par-1 }) :=
 hb.ext fun f hf=>by
  have e0:=(F4 (by decide) hl).2.2;rw[U1];grind
theorem E1{s:Rd}{x:List UInt8}:s.i<=(D4 L E s x).i:=by
 unfold D4;cases k:isR L E s x with
 |false=>rw[if_pos rfl,Q0];omega
 |true=>rw[if_neg (by simp)];exact A2X _
theorem G7{s:Rd}{x:Int}:s.i<=(A8 L E s x).2.i:=by
 unfold A8;cases k:H7 L E s x with
 |false=>rw[if_pos rfl];show s.i<=(K3 L E s).i;rw[Q0];omega
 |true=>rw[if_neg (by simp)];exact A2X _
theorem B5o{s:Rd}:s.i<=(H4 L E s).2.i:=by
 unfold H4;dsimp only;have h2:(C2 L E { s with ops:=s.ops+1 } (s.ops+1) 32 9).i=s.i:=F0;have h3:(A7 (C2 L E { s with ops:=s.ops+1 } (s.ops+1) 32 9)).i=s.i+1:=by show (C2 L E { s with ops:=s.ops+1 } (s.ops+1) 32 9).i+1=_;omega
 split
 ·show s.i<=(K3 L E s).i;rw[Q0];omega
 ·split
  ·grind
  ·have:=G7 (L:=L) (E:=E) (s:=A7 (C2 L E { s with ops:=s.ops+1 } (s.ops+1) 32 9)) (x:=1)
   grind
theorem ET.all:∀ (m:Nat),(∀ s:Rd,L.length-s.i<=m->∃ r,Un L E s r/\s.i<=r.2.i)/\(∀ (n:Int) e (s:Rd),n<=5->1<=n->L.length-s.i<=m->∃ r,Lop L E n e s r/\s.i<=r.2.i)/\(∀ (n:Int) (s:Rd),1<=n->L.length-s.i<=m->∃ r,Bin L E n s r/\s.i<=r.2.i):=by
 intro m
 induction m using Nat.strongRecOn with
 |_ m ih =>
  have A:∀ s:Rd,L.length-s.i<=m->∃ r,Un L E s r/\s.i<=r.2.i:=by
   intro s hs;by_cases hk:B5 L E s M5<0
   ·exact⟨_,Un.prim hk,B5o⟩
   ·obtain⟨-,hi, -⟩:=F6 (show 0<=B5 L E s M5 by omega);cases hl:okR (C2 L E s (s.par+1) 16 50) with
    |false=>exact⟨_,Un.bad (by omega) hl,by show s.i<=(C2 L E s (s.par+1) 16 50).i;rw[F0];omega⟩
    |true =>
     by_cases h2:B5 L E s M5=2
     ·obtain⟨⟨e,s3⟩,hb,hge⟩:=(ih (m-1) (by omega)).2.2 1 { s with i:=s.i+1,par:=s.par+1 } (by decide) (by show L.length-(s.i+1)<=m-1;omega);refine⟨_,Un.par h2 hl hb,?_⟩;have h4:=E1 (L:=L) (E:=E) (s:=s3) (x:=[41])
      grind
     ·obtain⟨⟨e,s3⟩,hb,hge⟩:=(ih (m-1) (by omega)).1 { s with i:=s.i+1,par:=s.par+1 } (by show L.length-(s.i+1)<=m-1;omega);refine⟨_,Un.pre (by omega) h2 hl hb,?_⟩
      grind
  have B:∀ (n:Int) e (s:Rd),n<=5->1<=n->L.length-s.i<=m->∃ r,Lop L E n e s r/\s.i<=r.2.i:=by
   intro n e s h5 h1 hs;by_cases hk:B5 L E s C9<0\/B0 (12+B5 L E s C9)≠n
   ·exact⟨_,Lop.stop hk,A0G _⟩
   ·have h0:0<=B5 L E s C9:=by omega
    obtain⟨-,hi, -⟩:=F6 h0;obtain⟨⟨x,s1⟩,hb,hge⟩:=(ih (m-1) (by omega)).2.2 (n+1) (A7 s) (by omega) (by show L.length-(s.i+1)<=m-1;omega);have hge:s.i+1<=s1.i:=hge;by_cases h3:n=3
    ·exact⟨_,Lop.three h0 (by omega) h3 hb,by grind⟩
    ·obtain⟨r,hl,hg2⟩:=(ih (m-1) (by omega)).2.1 n (.mk (12+B5 L E s C9) 0 [] [e,x] (B1 L E s).pos) s1 h5 h1 (by omega);exact⟨_,Lop.more h0 (by omega) h3 hb hl,by omega⟩
  refine⟨A,B,?_⟩;have C:∀ (j:Nat) (n:Int) (s:Rd),6-n<=j->1<=n->L.length-s.i<=m->∃ r,Bin L E n s r/\s.i<=r.2.i:=by
   intro j
   induction j with
   |zero =>
    intro n s hj h1 hs;obtain⟨r,h,hg⟩:=A s hs;exact⟨r,Bin.un (by omega) h,hg⟩
   |succ j ihj =>
    intro n s hj h1 hs;by_cases h5:5<n
    ·grind
    ·obtain⟨⟨e,s1⟩,h,hg⟩:=ihj (n+1) s (by omega) (by omega) hs;have hg:s.i<=s1.i:=hg;obtain⟨r,h2,hg2⟩:=B n e s1 (by omega) h1 (by omega);exact⟨r,Bin.go (by omega) h h2,by omega⟩
  exact fun n s h1 hs=>C (6-n).toNat n s (by omega) h1 hs
abbrev Xpn(L:List Tok)(E:Int)(s:Rd)(r:Ex × Rd):Prop:=Evt (fun f=>N8 L E f s) r
theorem U5(s:Rd):∃ r,Xpn L E s r/\s.i<=r.2.i:=by
 obtain⟨r,h,hg⟩:=(ET.all (L:=L) (E:=E) (L.length-s.i)).2.2 1 { s with ops:=0,par:=0 } (by simp) (A0G _);exact⟨r,h,hg⟩
theorem B9a(k p:Int)(s:Rd):∃ r,Evt (fun f=>K2 L E f k p s) r/\s.i<=r.2.i:=by
 by_cases h4:k=4
 ·obtain⟨⟨e,s1⟩,h,hg⟩:=U5 (L:=L) (E:=E) s;exact⟨_,h.map fun f h=>by unfold K2;rw[if_pos h4,h],A1A hg E1⟩
 by_cases h18:k=18
 ·obtain⟨⟨e,s1⟩,h,hg⟩:=U5 (L:=L) (E:=E) (D4 L E (A8 L E s 4).2 [44]);exact⟨_,h.map fun f h=>by unfold K2;rw[if_neg h4,if_pos h18,h],A1A (A1A G7 (A1A E1 hg)) E1⟩
 by_cases h19:k=19
 ·exact⟨_,Evt.one fun f=>by unfold K2;rw[if_neg h4,if_neg h18,if_pos h19],E1⟩
 by_cases h8:k=8\/k=9\/k=10
 ·obtain⟨⟨e,s1⟩,h,hg⟩:=U5 (L:=L) (E:=E) (A8 L E s 1).2;by_cases h9:k=9
  ·obtain⟨⟨e2,s2⟩,h2,hg2⟩:=U5 (L:=L) (E:=E) (D4 L E s1 [44]);exact⟨_,h.map2 h2 fun f h h2=>by unfold K2;rw[if_neg h4,if_neg h18,if_neg h19];dsimp only;rw[if_pos h8,h];dsimp only;rw[if_pos h9,h2],A1A (A1A G7 (A1A hg (A1A E1 hg2))) E1⟩
  ·exact⟨_,h.map fun f h=>by unfold K2;rw[if_neg h4,if_neg h18,if_neg h19];dsimp only;rw[if_pos h8,h];dsimp only;rw[if_neg h9],A1A (A1A G7 hg) E1⟩
 ·exact⟨_,Evt.one fun f=>by unfold K2;rw[if_neg h4,if_neg h18,if_neg h19];dsimp only;rw[if_neg h8],A1A G7 E1⟩
abbrev A5b(L:List Tok)(E d:Int)(s:Rd)(r:List St × Rd):Prop:=Evt (fun f=>M4 L E f d s) r
abbrev V9(L:List Tok)(E d:Int)(l:List St)(s:Rd)(r:List St × Rd):Prop:=Evt (fun f=>R9 L E f d l s) r
abbrev O1(L:List Tok)(E d:Int)(s:Rd)(r:St × Rd):Prop:=Evt (fun f=>S1 L E f d s) r
abbrev A4z(L:List Tok)(E d:Int)(s:Rd)(r:List St × Rd):Prop:=Evt (fun f=>R6 L E f d s) r
theorem A5b.mk{d:Int}{s:Rd}{r:List St × Rd}(h:V9 L E d [] (D4 L E s [123]) r):A5b L E d s r :=
 h.ext fun f h=>by assumption
theorem V9.stop{d:Int}{l:List St}{s:Rd}(h:¬ (okR s=true/\isR L E s [125]=false)):V9 L E d l s (l,D4 L E s [125]) :=
 Evt.one fun f=>by rw[R9,if_neg h]
theorem V9.bad{d:Int}{l:List St}{s:Rd}(h:okR s=true/\isR L E s [125]=false)(h2:B5 L E s B4<0/\H7 L E s 1=false):V9 L E d l s ([],K3 L E s) :=
 Evt.one fun f=>by rw[R9,if_pos h,if_pos h2]
theorem V9.more{d:Int}{l:List St}{s s1:Rd}{x:St}{r:List St × Rd}(h:okR s=true/\isR L E s [125]=false)(h2:¬ (B5 L E s B4<0/\H7 L E s 1=false))(hx:O1 L E d (C2 L E s ((l.length:Int)+1) 64 9) (x,s1))(hl:V9 L E d (l++[x]) s1 r):V9 L E d l s r :=
 hx.ext2 hl fun f hx hl=>by rw[R9,if_pos h,if_neg h2,hx];omega
theorem O1.bad{d:Int}{s:Rd}(h:okR (C2 L E s d 8 50)=false):O1 L E d s (St0,C2 L E s d 8 50) :=
 Evt.one fun f=>by rw[S1];grind
theorem O1.set{d:Int}{s s1:Rd}{e:Ex}(h:okR (C2 L E s d 8 50)=true)(hk:B5 L E s B4<0)(he:Xpn L E (D4 L E (A8 L E s 1).2 [61]) (e,s1)):O1 L E d s (.mk 1 (A8 L E s 1).1.text [] [e] [] [] (B1 L E s).pos,D4 L E s1 [59]) :=
 he.ext fun f hf=>by
  have e0:=(F4 (by decide) h).2.2;rw[S1];grind
theorem O1.els{d:Int}{s s2 s3 s4:Rd}{e:Ex}{t o:List St}(h:okR (C2 L E s d 8 50)=true)(hk:B5 L E s B4=0)(he:Xpn L E (A7 s) (e,s2))(ht:A5b L E (d+1) s2 (t,s3))(hi:isR L E s3 [101,108,115,101]=true)(ho:A4z L E d (A7 s3) (o,s4)):O1 L E d s (.mk 2 [] [] [e] t o (B1 L E s).pos,s4) :=
 (he.and ht).ext2 ho fun f hf h2=>by
  have e0:=(F4 (by simp) h).2.2;cases h3:N8 L E f (A7 s) with
  |none=>grind
  |some q =>
   cases h4:M4 L E f (d+1) s2 with
   |none=>grind
   |some w =>
    rw[h3,h4]at hf;obtain⟨rfl,rfl⟩:=Prod.mk.inj (Option.some.inj hf);rw[S1];grind
theorem O1.blk{d:Int}{s s2 s3:Rd}{e:Ex}{t:List St}(h:okR (C2 L E s d 8 50)=true)(hk:B5 L E s B4=0\/B5 L E s B4=1)(he:Xpn L E (A7 s) (e,s2))(ht:A5b L E (d+1) s2 (t,s3))(hi:¬ (B5 L E s B4=0/\isR L E s3 [101,108,115,101]=true)):O1 L E d s (.mk (2+B5 L E s B4) [] [] [e] t [] (B1 L E s).pos,s3) :=
 he.ext2 ht fun f h3 h4=>by
  have e0:=(F4 (by decide) h).2.2;rw[S1];grind
theorem O1.tail{d:Int}{s:Rd}{r:St × Rd}(h:okR (C2 L E s d 8 50)=true)(hk:2<=B5 L E s B4)(he:Evt (fun f=>K2 L E f (2+B5 L E s B4) (B1 L E s).pos (A7 s)) r):O1 L E d s r :=
 he.ext fun f h3=>by
  have e0:=(F4 (by decide) h).2.2;rw[S1];grind
theorem A4z.iff{d:Int}{s s1:Rd}{x:St}(h:isR L E s [105,102]=true)(hs:O1 L E (d+1) s (x,s1)):A4z L E d s ([x],s1) :=
 hs.ext fun f hf=>by rw[R6,if_pos h,hf]
theorem A4z.blk{d:Int}{s:Rd}{r:List St × Rd}(h:isR L E s [105,102]=false)(hs:A5b L E (d+1) s r):A4z L E d s r :=
 hs.ext fun f hf=>by rw[R6,if_neg (by rw[h];decide)];omega
theorem ST.all:∀ (m:Nat),(∀ d (s:Rd),L.length-s.i<=m->∃ r,O1 L E d s r/\s.i<=r.2.i/\(okR (C2 L E s d 8 50)=true->(0<=B5 L E s B4\/H7 L E s 1=true)->s.i<r.2.i)) /\
  (∀ d l (s:Rd),L.length-s.i<=m->∃ r,V9 L E d l s r/\s.i<=r.2.i):=by
 intro m
 induction m using Nat.strongRecOn with
 |_ m ih =>
  have blk:∀ d (s:Rd),L.length-s.i<m->∃ r,A5b L E d s r/\s.i<=r.2.i:=by
   intro d s hs;have h0:=E1 (L:=L) (E:=E) (s:=s) (x:=[123]);obtain⟨r,h,hg⟩:=(ih _ hs).2 d [] (D4 L E s [123]) (by omega);exact⟨r,A5b.mk h,by omega⟩
  have oth:∀ d (s:Rd),L.length-s.i<m->∃ r,A4z L E d s r/\s.i<=r.2.i:=by
   intro d s hs;cases hi:isR L E s [105,102] with
   |true =>
    obtain⟨⟨x,s1⟩,h,hg, -⟩:=(ih _ hs).1 (d+1) s (A0G _);exact⟨_,A4z.iff hi h,hg⟩
   |false =>
    obtain⟨r,h,hg⟩:=blk (d+1) s hs;exact⟨r,A4z.blk hi h,hg⟩
  have A:∀ d (s:Rd),L.length-s.i<=m->∃ r,O1 L E d s r/\s.i<=r.2.i/\(okR (C2 L E s d 8 50)=true->(0<=B5 L E s B4\/H7 L E s 1=true)->s.i<r.2.i):=by
   intro d s hs;cases hl:okR (C2 L E s d 8 50) with
   |false=>exact⟨_,O1.bad hl,by show s.i<=(C2 L E s d 8 50).i;rw[F0];omega,fun h=>by grind⟩
   |true =>
    by_cases hk:B5 L E s B4<0
    ·obtain⟨⟨e,s1⟩,he,hg⟩:=U5 (L:=L) (E:=E) (D4 L E (A8 L E s 1).2 [61]);have hg:(D4 L E (A8 L E s 1).2 [61]).i<=s1.i:=hg;have h1:=E1 (L:=L) (E:=E) (s:=s1) (x:=[59]);have h2:=E1 (L:=L) (E:=E) (s:=(A8 L E s 1).2) (x:=[61]);have h3:=G7 (L:=L) (E:=E) (s:=s) (x:=1);refine⟨_,O1.set hl hk he,by show s.i<=(D4 L E s1 [59]).i;omega,fun _ hc=>?_⟩;have h4:H7 L E s 1=true:=hc.resolve_left (by omega);have h5:(A8 L E s 1).2.i=s.i+1:=by unfold A8;rw[if_neg (by rw[h4];decide)];rfl
     grind
    ·obtain⟨-,hi, -,hk18⟩:=F6 (show 0<=B5 L E s B4 by omega);by_cases h01:B5 L E s B4=0\/B5 L E s B4=1
     ·obtain⟨⟨e,s2⟩,he,hg⟩:=U5 (L:=L) (E:=E) (A7 s);have hg:s.i+1<=s2.i:=hg;obtain⟨⟨t,s3⟩,ht,hg3⟩:=blk (d+1) s2 (by omega);have hg3:s2.i<=s3.i:=hg3;by_cases hc:B5 L E s B4=0/\isR L E s3 [101,108,115,101]=true
      ·have hi3:=(A0a hc.2).2;obtain⟨⟨o,s4⟩,ho,hg4⟩:=oth d (A7 s3) (by show L.length-(s3.i+1)<m;omega);have hg4:s3.i+1<=s4.i:=hg4;exact⟨_,O1.els hl hc.1 he ht hc.2 ho,by grind,fun _ _=>by grind⟩
      ·exact⟨_,O1.blk hl h01 he ht hc,by grind,fun _ _=>by grind⟩
     ·obtain⟨r,hr,hg⟩:=B9a (L:=L) (E:=E) (2+B5 L E s B4) (B1 L E s).pos (A7 s);have hg:s.i+1<=r.2.i:=hg;exact⟨_,O1.tail hl (by omega) hr,by omega,fun _ _=>by omega⟩
  refine⟨A,fun d l s hs=>?_⟩;by_cases hc:okR s=true/\isR L E s [125]=false
  ·by_cases h2:B5 L E s B4<0/\H7 L E s 1=false
   ·exact⟨_,V9.bad hc h2,by show s.i<=(K3 L E s).i;rw[Q0];omega⟩
   ·have hlt:s.i<L.length:=by
     by_cases hk:0<=B5 L E s B4
     ·exact (F6 hk).2.1
     ·cases h1:H7 L E s 1 with
      |false=>grind
      |true=>exact (H5 (by simp) (G1 h1).2).2
    cases hl:okR (C2 L E s ((l.length:Int)+1) 64 9) with
    |false =>
     have hb:okR (C2 L E (C2 L E s ((l.length:Int)+1) 64 9) d 8 50)=false:=by
      cases hz:okR (C2 L E (C2 L E s ((l.length:Int)+1) 64 9) d 8 50) with
      |false=>rfl
      |true=>rw[(F4 (by decide) hz).1]at hl;cases hl
     have hx:=O1.bad hb;refine⟨_,V9.more hc h2 hx (V9.stop (by rw[hb];simp)),?_⟩;have h1:=E1 (L:=L) (E:=E) (s:=C2 L E (C2 L E s ((l.length:Int)+1) 64 9) d 8 50) (x:=[125]);rw[F0,F0]at h1;omega
    |true =>
     have e0:=(F4 (by simp) hl).2.2;obtain⟨⟨x,s1⟩,hx,hg,hprog⟩:=A d s hs;have hg:s.i<=s1.i:=hg;cases hd:okR (C2 L E s d 8 50) with
     |false =>
      have hx:=O1.bad hd;refine⟨_,V9.more hc h2 (by rw[e0];exact hx) (V9.stop (by rw[hd];simp)),?_⟩;have h1:=E1 (L:=L) (E:=E) (s:=C2 L E s d 8 50) (x:=[125]);rw[F0]at h1;omega
     |true =>
      have hlt2:s.i<s1.i:=hprog hd (by
       grind)
      obtain⟨r,hr,hg2⟩:=(ih (L.length-s1.i) (by omega)).2 d (l++[x]) s1 (A0G _);exact⟨r,V9.more hc h2 (by grind) hr,by omega⟩
  ·exact⟨_,V9.stop hc,E1⟩
theorem C6b(d:Int)(s:Rd):∃ r,A5b L E d s r/\s.i<=r.2.i:=by
 obtain⟨r,h,hg⟩:=(ST.all (L:=L) (E:=E) _).2 d [] (D4 L E s [123]) (A0G _);exact⟨r,A5b.mk h,A1A E1 hg⟩
theorem C4r:∀ (m:Nat) (l:List Hd) (s:Rd),L.length-s.i<=m->∃ r,Evt (fun f=>W8 L E f l s) r/\s.i<=r.2.i:=by
 intro m
 induction m using Nat.strongRecOn with
 |_ m ih =>
  intro l s hs;by_cases hc:okR s=true/\isR L E s [125]=false
  ·cases hon:isR L E s [111,110] with
   |false=>exact⟨_,Evt.one fun f=>by rw[W8,if_pos hc,if_pos hon],by show s.i<=(K3 L E s).i;rw[Q0];omega⟩
   |true =>
    have hi:=(A0a hon).2;have h1:(C2 L E s ((l.length:Int)+1) 32 9).i=s.i:=F0;generalize hl:C2 L E s ((l.length:Int)+1) 32 9=s1 at h1;have h2:=E1 (L:=L) (E:=E) (s:=s1) (x:=[111,110]);generalize he:D4 L E s1 [111,110]=s2 at h2;by_cases hk:B5 L E s2 E3<0
    ·exact⟨_,Evt.one fun f=>by rw[W8,if_pos hc,if_neg (by grind),hl];dsimp only;rw[he,if_pos hk],by show s.i<=(K3 L E s2).i;rw[Q0];omega⟩
    ·have hi2:=(F6 (show 0<=B5 L E s2 E3 by omega)).2.1;have h4:s2.i+1<=(if 2<=B5 L E s2 E3 then (A8 L E (A7 s2) 1).2 else A7 s2).i:=by
      split
      ·exact G7 (L:=L) (E:=E) (s:=A7 s2) (x:=1)
      ·exact A0G _
     obtain⟨⟨b,s5⟩,hb,hg⟩:=C6b (L:=L) (E:=E) 1 (if 2<=B5 L E s2 E3 then (A8 L E (A7 s2) 1).2 else A7 s2);have hg:(if 2<=B5 L E s2 E3 then (A8 L E (A7 s2) 1).2 else A7 s2).i<=s5.i:=hg;obtain⟨r,hr,hg2⟩:=ih (L.length-s5.i) (by omega) (l++[⟨1+B5 L E s2 E3,if 2<=B5 L E s2 E3 then (A8 L E (A7 s2) 1).1.text else [],b,(B1 L E s1).pos⟩]) s5 (A0G _);exact⟨r,hb.ext2 hr fun f hb hr=>by rw[W8,if_pos hc,if_neg (by rw[hon];decide),hl];grind,by omega⟩
  ·exact⟨_,Evt.one fun f=>by rw[W8,if_neg hc],E1⟩
theorem C4q(s:Rd):∃ r,Evt (fun f=>A2n L E f s) r/\s.i<=r.2.i/\(isR L E s [109,111,100,101]=true->s.i<r.2.i):=by
 obtain⟨⟨l,s3⟩,h,hg⟩:=C4r (L:=L) (E:=E) _ [] (D4 L E (A8 L E (A8 L E (D4 L E s [109,111,100,101]) 1).2 3).2 [123]) (A0G _);have hg:(D4 L E (A8 L E (A8 L E (D4 L E s [109,111,100,101]) 1).2 3).2 [123]).i<=s3.i:=hg;have h1:=E1 (L:=L) (E:=E) (s:=(A8 L E (A8 L E (D4 L E s [109,111,100,101]) 1).2 3).2) (x:=[123]);have h2:=G7 (L:=L) (E:=E) (s:=(A8 L E (D4 L E s [109,111,100,101]) 1).2) (x:=3);have h3:=G7 (L:=L) (E:=E) (s:=D4 L E s [109,111,100,101]) (x:=1);have h4:=E1 (L:=L) (E:=E) (s:=s) (x:=[109,111,100,101]);refine⟨_,h.map fun f h=>by unfold A2n;dsimp only;rw[h],by show s.i<=s3.i;omega,fun hi=>?_⟩;have h5:(D4 L E s [109,111,100,101]).i=s.i+1:=by unfold D4;rw[if_neg (by rw[hi];decide)];rfl
 grind
theorem C2k{k:Int}{s:Rd}:s.i+1<=(P4 L E k s).2.i:=by
 unfold P4;dsimp only;have h1:=G7 (L:=L) (E:=E) (s:=A7 s) (x:=1);have h0:(A7 s).i=s.i+1:=rfl;split
 ·generalize (A8 L E (A7 s) 1).2=s2 at h1 ⊢;have h3:s2.i<=(if (k+1 == 6 && isR L E s2 [45])=true then A7 s2 else s2).i:=by
   split
   ·exact A2X _
   ·exact A0G _
  generalize (if (k+1 == 6 && isR L E s2 [45])=true then A7 s2 else s2)=s3 at h3 ⊢;have h4:=G7 (L:=L) (E:=E) (s:=s3) (x:=3);have h5:=E1 (L:=L) (E:=E) (s:=(A8 L E s3 3).2) (x:=[59])
  grind
 ·have h5:=E1 (L:=L) (E:=E) (s:=(A8 L E (A7 s) 1).2) (x:=[59])
  grind
theorem B6p{s:Rd}(h:okR s=false):∀ (l:List (List UInt8)) (k:Nat),Y6 L E s k l = -1
 |[],k=>rfl
 |t :: l,k=>by rw[Y6,show isR L E s t=false by unfold isR;grind,if_neg (by simp),B6p h l]
theorem C3z:∀ (m:Nat) (l:List Dc) (s:Rd),L.length-s.i<=m->∃ r,Evt (fun f=>U2 L E f l s) r/\s.i<=r.2.i:=by
 intro m
 induction m using Nat.strongRecOn with
 |_ m ih =>
  intro l s hs;by_cases hk:B5 L E s D6<0
  ·exact⟨_,Evt.one fun f=>by rw[U2];dsimp only;rw[if_pos hk],A0G _⟩
  ·have hi:=(F6 (show 0<=B5 L E s D6 by omega)).2.1;have h1:(C2 L E s ((l.length:Int)+1) 128 9).i=s.i:=F0;cases hl:okR (C2 L E s ((l.length:Int)+1) 128 9) with
   |false =>
    have hz:B5 L E (C2 L E s ((l.length:Int)+1) 128 9) D6<0:=by
     show Y6 L E _ 0 D6<0;rw[B6p hl];simp
    have h2:Evt (fun f=>U2 L E f l (C2 L E s ((l.length:Int)+1) 128 9)) (l,C2 L E s ((l.length:Int)+1) 128 9):=Evt.one fun f=>by rw[U2];grind
    exact⟨_,h2.ext fun f h=>by rw[U2];dsimp only;rw[if_neg hk,if_neg (by grind)];exact h,by grind⟩
   |true =>
    have h3:=C2k (L:=L) (E:=E) (k:=B5 L E s D6) (s:=C2 L E s ((l.length:Int)+1) 128 9);obtain⟨r,hr,hg⟩:=ih (L.length-(P4 L E (B5 L E s D6) (C2 L E s ((l.length:Int)+1) 128 9)).2.i) (by omega) (l++[(P4 L E (B5 L E s D6) (C2 L E s ((l.length:Int)+1) 128 9)).1]) _ (A0G _);exact⟨r,hr.ext fun f h=>by rw[U2];grind,by omega⟩
theorem C3y:∀ (m:Nat) (l:List Md) (s:Rd),L.length-s.i<=m->∃ r,Evt (fun f=>T1 L E f l s) r/\s.i<=r.2.i:=by
 intro m
 induction m using Nat.strongRecOn with
 |_ m ih =>
  intro l s hs;by_cases hc:okR s=true/\s.i<L.length
  ·cases hm:isR L E s [109,111,100,101] with
   |false=>exact⟨_,Evt.one fun f=>by rw[T1,if_pos hc,if_pos hm],by show s.i<=(K3 L E s).i;rw[Q0];omega⟩
   |true =>
    have h1:(C2 L E s ((l.length:Int)+1) 16 9).i=s.i:=F0;cases hl:okR (C2 L E s ((l.length:Int)+1) 16 9) with
    |false =>
     have h2:Evt (fun f=>T1 L E f l (C2 L E s ((l.length:Int)+1) 16 9)) (l,C2 L E s ((l.length:Int)+1) 16 9):=Evt.one fun f=>by rw[T1,if_neg (by grind)]
     exact⟨_,h2.ext fun f h=>by rw[T1,if_pos hc,if_neg (by grind)];dsimp only;rw[if_neg (by grind)];exact h,by grind⟩
    |true =>
     have e0:=(F4 (by simp) hl).2.2;obtain⟨⟨md,s2⟩,h2,hg,hlt⟩:=C4q (L:=L) (E:=E) s;have hlt:s.i<s2.i:=hlt hm;obtain⟨r,hr,hg2⟩:=ih (L.length-s2.i) (by omega) (l++[md]) s2 (A0G _);exact⟨r,h2.ext2 hr fun f h2 hr=>by rw[T1,if_pos hc,if_neg (by rw[hm];decide)];grind,by omega⟩
  ·exact⟨_,Evt.one fun f=>by rw[T1,if_neg hc],A0G _⟩
theorem B5h(s:Rd):∃ r,Evt (fun f=>A6h L E f s) r:=by
 obtain⟨⟨d,s1⟩,h1, -⟩:=C3z (L:=L) (E:=E) _ [] s (A0G _);obtain⟨⟨m,s2⟩,h2, -⟩:=C3y (L:=L) (E:=E) _ [] s1 (A0G _);exact⟨_,h1.map2 h2 fun f h1 h2=>by unfold A6h;rw[h1];dsimp only;rw[h2]⟩
end
def A2(s:List UInt8):Tok:=⟨if F9 s=true then 2 else if D0 s=true then 1 else 5,s,0,0⟩
def C4(s:List UInt8):List Tok:=if D0 s=false then [S8] else [⟨1,s,0,0⟩]
def Q2(n:Int):List Tok:=if n<0\/2147483647<n then [S8] else [⟨3,[],n,0⟩]
def txB(c:UInt8):Bool:=decide (32<=c.toNat) && decide (c.toNat<=126)
def Y7(s:List UInt8):List Tok:=if s.all txB=false\/32<s.length then [S8] else [⟨4,s,0,0⟩]
def D9(q:Int × List Tok)(least:Int):List Tok:=if B0 q.1<least then [A2 [40]]++q.2++[A2 [41]] else q.2
def I2(k v:Int)(n:List UInt8)(as1:List (Int × List Tok)):List Tok :=
 let lv:=B0 k
 if k=1 then Q2 v
 else if k=2 then C4 n
 else if k=3 then [A2 [116,114,117,101]]
 else if k=4 then [A2 [102,97,108,115,101]]
 else if k=8 then [A2 [112,108,97,121,101,114]]
 else if k=9 then [A2 [98,97,108,108]]
 else if k=5 then [A2 [99,108,111,115,101,100]]++C4 n
 else if k=6 then [A2 [97,99,116,105,118,101]]++C4 n
 else if k=7 then [A2 [108,101,102,116]]++C4 n
 else match as1 with
  |[q]=>if lv=6 then [A2 (if k=10 then [45] else [33])]++D9 q 6 else [S8]
  |[q,r]=>if lv<6 then D9 q (if lv=3 then 4 else lv)++[A2 (C9.getD (k-12).toNat [])]++D9 r (lv+1) else [S8]
  |_=>[S8]
mutual
def exT:Ex->List Tok
 |.mk k v n a p=>I2 k v n (A7b a)
def A7b:List Ex->List (Int × List Tok)
 |[]=>[]
 |e :: l=>(e.kind,exT e) :: A7b l
end
def agT(l:List Ex)(i:Nat):List Tok:=match l[i]? with
 |some e=>exT e
 |none=>[S8]
mutual
def stT:St->List Tok
 |.mk k n t a x y p =>
  if k=1 then C4 n++[A2 [61]]++agT a 0++[A2 [59]]
  else if k<2\/19<k then [S8]
  else
   let w:=A2 (B4.getD (k-2).toNat [])
   if k=2\/k=3 then
    let o:=[w]++agT a 0++([A2 [123]]++L9 x++[A2 [125]])
    match y with
    |[]=>o
    |[s]=>if s.kind=2 then o++[A2 [101,108,115,101]]++stT s else o++[A2 [101,108,115,101]]++([A2 [123]]++stT s++[A2 [125]])
    |s :: s2 :: r=>o++[A2 [101,108,115,101]]++([A2 [123]]++L9 (s :: s2 :: r)++[A2 [125]])
   else if k=4 then [w]++agT a 0++[A2 [59]]
   else if k=18 then [w]++Y7 t++[A2 [44]]++agT a 0++[A2 [59]]
   else if k=8\/k=10 then [w]++C4 n++agT a 0++[A2 [59]]
   else if k=9 then [w]++C4 n++agT a 0++[A2 [44]]++agT a 1++[A2 [59]]
   else if k=19 then [w]++[A2 [59]]
   else [w]++C4 n++[A2 [59]]
def L9:List St->List Tok
 |[]=>[]
 |s :: l=>stT s++L9 l
end
def blT(l:List St):List Tok:=[A2 [123]]++L9 l++[A2 [125]]
def dcT(d:Dc):List Tok :=
 if d.kind<1\/8<d.kind then [S8]
 else
  let o:=[A2 (D6.getD (d.kind-1).toNat [])]++C4 d.name
  (if 6<d.kind then o
  else if d.value<0 /\ -2147483647<=d.value/\d.kind=6 then o++[A2 [45]]++Q2 (-d.value)
  else o++Q2 d.value)++[A2 [59]]
def hdT(h:Hd):List Tok:=[A2 [111,110],A2 (E3.getD (h.trig-1).toNat [])]++(if 2<h.trig then C4 h.name else [])++blT h.body
def Q7(h:Hd):Bool:=decide (h.trig<1) || decide (6<h.trig)
def mdT(m:Md):List Tok:=[A2 [109,111,100,101]]++C4 m.name++Q2 m.prio++[A2 [123]]++m.hds.flatMap hdT++[A2 [125]]
def ruT(r:Ru):List Tok:=if (r.modes.any fun m=>m.hds.any Q7)=true then [S8] else r.decls.flatMap dcT++r.modes.flatMap mdT
mutual
def Ex.plain:Ex->Ex
 |.mk k v n a p=>.mk k v n (Ex.plains a) 0
def Ex.plains:List Ex->List Ex
 |[]=>[]
 |e :: l=>e.plain :: Ex.plains l
end
mutual
def St.plain:St->St
 |.mk k n t a x y p=>.mk k n t (Ex.plains a) (St.plains x) (St.plains y) 0
def St.plains:List St->List St
 |[]=>[]
 |e :: l=>e.plain :: St.plains l
end
def Dc.plain(d:Dc):Dc:={ d with pos:=0 }
def Hd.plain(h:Hd):Hd:=⟨h.trig,h.name,St.plains h.body,0⟩
def Md.plain(m:Md):Md:=⟨m.name,m.prio,m.hds.map Hd.plain,0⟩
def Ru.plain(r:Ru):Ru:=⟨r.decls.map Dc.plain,r.modes.map Md.plain⟩
theorem Ex.plains_map:∀ l:List Ex,Ex.plains l=l.map Ex.plain
 |[]=>rfl
 |e :: l=>by rw[Ex.plains,Ex.plains_map l];rfl
theorem St.plains_map:∀ l:List St,St.plains l=l.map St.plain
 |[]=>rfl
 |e :: l=>by rw[St.plains,St.plains_map l];rfl
mutual
def A3b(p:Bool):Ex->Ex->Bool
 |.mk k v n a q,.mk k' v' n' a' q'=>k == k' && (v == v' && (n == n' && ((p || q == q') && I1 p a a')))
def I1(p:Bool):List Ex->List Ex->Bool
 |[],[]=>true
 |e :: l,e' :: l'=>A3b p e e' && I1 p l l'
 |_,_=>false
end
mutual
def B2z:St->St->Bool
 |.mk k n t a x y q,.mk k' n' t' a' x' y' q'=>k == k' && (n == n' && (t == t' && (q == q' && (I1 false a a' && (J1 x x' && J1 y y')))))
def J1:List St->List St->Bool
 |[],[]=>true
 |e :: l,e' :: l'=>B2z e e' && J1 l l'
 |_,_=>false
end
mutual
theorem C1z:∀ a b:Ex,A3b false a b=true↔a=b
 |.mk k v n a q,.mk k' v' n' a' q'=>by
  have:=A3z a a';simp only[A3b,A0E,A1F,Bool.false_or,this,Ex.mk.injEq]
  grind
theorem A3z:∀ a b:List Ex,I1 false a b=true↔a=b
 |[],[]=>by trivial
 |[],_ :: _=>by simp[I1]
 |_ :: _,[]=>by simp[I1]
 |e :: l,e' :: l'=>by
  have h1:=C1z e e';have h2:=A3z l l';simp only[I1,A0E,h1,h2,List.cons.injEq]
end
mutual
theorem B9h:∀ a b:St,B2z a b=true↔a=b
 |.mk k n t a x y q,.mk k' n' t' a' x' y' q'=>by
  have h1:=A3z a a';have h2:=W5 x x';have h3:=W5 y y';simp only[B2z,A0E,A1F,h1,h2,h3,St.mk.injEq]
  grind
theorem W5:∀ a b:List St,J1 a b=true↔a=b
 |[],[]=>by trivial
 |[],_ :: _=>by simp[J1]
 |_ :: _,[]=>by simp[J1]
 |e :: l,e' :: l'=>by
  have h1:=B9h e e';have h2:=W5 l l';simp only[J1,A0E,h1,h2,List.cons.injEq]
end
def H8(k:Int):Nat:=if B0 k=6 then 1 else if B0 k<6 then 2 else 0
def B1z(k:Int):Bool:=k == 5 || (k == 6 || k == 7)
def kOk(k:Int):Bool:=decide (B0 k<7) || (decide (1<=k) && decide (k<=24))
def A1o(k:Int)(n:List UInt8):Bool:=if k=2\/B1z k=true then D0 n else n == []
def A2a(k v:Int):Bool:=v == 0 || (k == 1 && (decide (0<v) && decide (v<=2147483647)))
def V5(k q:Int)(i:Nat):Bool:=decide (B0 q<B0 k) || (B0 q == B0 k && (i == 1 || B0 k == 3))
mutual
def msM:Ex->Option (Nat × Nat)
 |.mk k v n a p =>
  if kOk k=false\/a.length≠H8 k\/A1o k n=false\/A2a k v=false then none
  else if H8 k=0 then some (1,0)
  else match msL k 0 a with
   |none=>none
   |some (o,d)=>some (o,if H8 k=1 then d+1 else d)
def msL(k:Int):Nat->List Ex->Option (Nat × Nat)
 |_,[]=>some (0,0)
 |i,e :: l=>match msM e with
  |none=>none
  |some (o,d)=>match msL k (i+1) l with
   |none=>none
   |some (o2,d2)=>some (o+o2,max (if V5 k e.kind i=true then d+1 else d) d2)
end
def L0(e:Ex):Bool:=match msM e with
 |some (o,d)=>decide (o<=32) && decide (d<=16)
 |none=>false
structure Shp where
 name:Bool
 text:Bool
 args:Nat
 thn:Bool
 els:Bool
def K4(k:Int):Shp :=
 if k=1\/k=8\/k=10 then ⟨true,false,1,false,false⟩
 else if k=9 then ⟨true,false,2,false,false⟩
 else if k=2 then ⟨false,false,1,true,true⟩
 else if k=3 then ⟨false,false,1,true,false⟩
 else if k=4 then ⟨false,false,1,false,false⟩
 else if k=18 then ⟨false,true,1,false,false⟩
 else if k=19 then ⟨false,false,0,false,false⟩
 else ⟨true,false,0,false,false⟩
def Q6(s:List UInt8):Bool:=s.all txB && decide (s.length<=32)
mutual
def S0:Nat->St->Bool
 |d,.mk k n t a x y p =>
  (decide (1<=k) && decide (k<=19)) && (a.length == (K4 k).args && a.all L0) &&
   ((if (K4 k).name=true then D0 n else n == []) && (if (K4 k).text=true then Q6 t else t == [])) &&
   (((K4 k).thn || x.isEmpty) && ((K4 k).els || y.isEmpty)) &&
   ((decide (x.length<=64) && (x.isEmpty || decide (d+1<=8)) && K0 (d+1) x) && (decide (y.length<=64) && (y.isEmpty || decide (d+1<=8)) && K0 (d+1) y))
def K0:Nat->List St->Bool
 |_,[]=>true
 |d,s :: l=>S0 d s && K0 d l
end
def L8(l:List St)(d:Nat):Bool:=decide (l.length<=64) && (l.isEmpty || decide (d<=8)) && K0 d l
def A0x(d:Dc):Bool:=decide (1<=d.kind) && decide (d.kind<=8) && D0 d.name && decide ((if d.kind=6 then -2147483647 else 0)<=d.value) && decide (d.value<=(if d.kind=7\/d.kind=8 then 0 else 2147483647))
def Z6(h:Hd):Bool:=decide (1<=h.trig) && decide (h.trig<=6) && (if 3<=h.trig then D0 h.name else h.name == []) && L8 h.body 1
def U0(m:Md):Bool:=D0 m.name && decide (0<=m.prio) && decide (m.prio<=2147483647) && decide (m.hds.length<=32) && m.hds.all Z6
def P9(r:Ru):Bool:=decide (r.decls.length<=128) && decide (r.modes.length<=16) && r.decls.all A0x && r.modes.all U0
def F8(t:Tok):Prop:=(t.kind=1->D0 t.text=true)/\(t.kind=3->0<=t.value/\t.value<=2147483647)/\(t.kind=4->Q6 t.text=true)
def SE(n:Int)(s:Rd)(e:Ex)(s':Rd):Prop :=
 okR s=true/\s'.par=s.par/\∃ o d,msM e=some (o,d)/\s'.ops=s.ops+(o:Int)/\s'.ops<=32/\((n<=B0 e.kind/\s.par+(d:Int)<=16)\/s.par+(d:Int)+1<=16)
theorem S6(k:Int):1<=B0 k/\B0 k<=7:=by
 unfold B0;omega
theorem A9x{k:Int}(h:B0 k<7):10<=k/\k<=24:=by
 unfold B0 at h;omega
theorem C4x{k:Int}(h0:0<=k)(h1:k<13):B0 (12+k)<6:=by
 unfold B0;omega
theorem A2q{k:Int}(h:k=10\/k=11):B0 k=6:=by
 rcases h with rfl|rfl<;>rfl
theorem C9s{k:Int}{a b:Ex}{o1 d1 o2 d2:Nat}{p:Int}(hk:B0 k<6)(ha:msM a=some (o1,d1))(hb:msM b=some (o2,d2)):
  msM (.mk k 0 [] [a,b] p)=some (o1+o2,max (if V5 k a.kind 0=true then d1+1 else d1) (if V5 k b.kind 1=true then d2+1 else d2)):=by
 have hl:=A9x (k:=k) (by omega);have h1:kOk k=true:=by simp[kOk];omega
 have h2:H8 k=2:=by unfold H8;grind
 have h3:A1o k []=true:=by
  unfold A1o;rw[if_neg]
  ·rfl
  ·simp only[B1z,A0Z,A1F];omega
 have h4:A2a k 0=true:=by rfl
 unfold msM;rw[if_neg (by grind),h2,if_neg (by omega)];simp only[msL,ha,hb,A2P,A1C,Nat.max_zero,if_neg (show ¬ 2=1 by omega)]
theorem D2x{k:Int}{a:Ex}{o d:Nat}{p:Int}(hk:k=10\/k=11)(ha:msM a=some (o,d)):
  msM (.mk k 0 [] [a] p)=some (o,(if V5 k a.kind 0=true then d+1 else d)+1):=by
 have hl:=A2q hk;have h1:kOk k=true:=by simp[kOk];omega
 have h2:H8 k=1:=by unfold H8;grind
 have h3:A1o k []=true:=by
  unfold A1o;rw[if_neg]
  ·rfl
  ·simp only[B1z,A0Z,A1F];omega
 have h4:A2a k 0=true:=by rfl
 unfold msM;rw[if_neg (by grind),h2,if_neg (by omega)];simp only[msL,ha,A2P,Nat.max_zero,if_true]
theorem C4p{k v:Int}{n:List UInt8}{p:Int}(hk:B0 k=7)(h1:kOk k=true)(h3:A1o k n=true)(h4:A2a k v=true):msM (.mk k v n [] p)=some (1,0):=by
 have h2:H8 k=0:=by unfold H8;rw[if_neg (by omega),if_neg (by omega)]
 unfold msM
 grind
section
variable {L:List Tok} {E:Int}
theorem G4{s:Rd}{t:List UInt8}(h:okR (D4 L E s t)=true):okR s=true:=(A0a (B0c h).1).1
theorem T4{s:Rd}{k:Int}(h:okR (A8 L E s k).2=true):okR s=true:=(G1 (A2d h).1).1
theorem B5n{s:Rd}(h:okR (H4 L E s).2=true):okR s=true:=by
 unfold H4 at h;dsimp only at h;split at h
 ·rw[A1i]at h;grind
 ·split at h
  ·grind
  ·rename_i h1;have h2:okR (C2 L E { s with ops:=s.ops+1 } (s.ops+1) 32 9)=true:=by grind
   exact (F4 (by simp) h2).1
theorem B3j(hG:∀ t∈L,F8 t){s s':Rd}{e:Ex}(h:H4 L E s=(e,s'))(hok:okR s'=true)(hp:s.par<=16):SE 7 s e s':=by
 have hs:okR s=true:=B5n (L:=L) (E:=E) (by grind);have leaf:∀ (k v:Int) (n:List UInt8) (p:Int),B0 k=7->kOk k=true->A1o k n=true->A2a k v=true->s.ops+1<=32->∀ s2:Rd,s2.par=s.par->s2.ops=s.ops+1->SE 7 s (.mk k v n [] p) s2:=by
  intro k v n p q1 q2 q3 q4 q6 s2 q7 q8;refine⟨hs,q7,1,0,C4p q1 q2 q3 q4,by omega,by omega,.inl ⟨?_,by omega⟩⟩;show 7<=B0 k;omega
 unfold H4 at h;dsimp only at h;split at h
 ·cases h;rw[A1i]at hok;grind
 rename_i hc;split at h
 ·grind
 rename_i h1;have h2:okR (C2 L E { s with ops:=s.ops+1 } (s.ops+1) 32 9)=true:=by grind
 obtain⟨-,h3,h4⟩:=F4 (by simp) h2;rw[h4]at h;split at h
 ·rename_i hk;obtain⟨-, -, -,hk7⟩:=F6 hk;have hk7:B5 L E s O7<7:=hk7;generalize B5 L E s O7=k at h hk hk7;split at h
  ·rename_i hk4;cases h;obtain⟨t1,t2⟩:=A2d hok;obtain⟨t3,t4⟩:=G1 t1;have hn:=(hG _ (H5 (by simp) t4).1).1 t4;rw[t2];have:k=4\/k=5\/k=6:=by omega
   rcases this with rfl|rfl|rfl
   ·exact leaf 5 _ _ _ (by rfl) (by rfl) hn (by rfl) h3 _ rfl rfl
   ·exact leaf 6 _ _ _ (by rfl) (by rfl) hn (by rfl) h3 _ rfl rfl
   ·exact leaf 7 _ _ _ (by rfl) (by rfl) hn (by rfl) h3 _ rfl rfl
  ·rename_i hk4;cases h;have:k=0\/k=1\/k=2\/k=3:=by omega
   rcases this with rfl|rfl|rfl|rfl
   all_goals exact leaf _ _ _ _ (by decide) (by decide) (by decide) (by decide) h3 _ rfl rfl
 ·rename_i hk;split at h
  ·rename_i hk3;cases h;have hn:=(hG _ (H5 (by decide) hk3).1).2.1 hk3;refine leaf 1 _ _ _ (by decide) (by decide) (by decide) ?_ h3 _ rfl rfl;simp only[A2a,A0Z,A0E,A1F,A0J]
   grind
  ·rename_i hk3;cases h;have h1k:H7 L E s 1=true:=by
    cases hz:H7 L E s 1 with
    |true=>rfl
    |false =>
     refine absurd ⟨by omega,?_,hz⟩ hc;cases hy:H7 L E s 3 with
     |false=>rfl
     |true=>exact absurd (G1 hy).2 hk3
   have hn:=(hG _ (H5 (by simp) (G1 h1k).2).1).1 (G1 h1k).2;exact leaf 2 _ _ _ (by rfl) (by rfl) hn (by rfl) h3 _ rfl rfl
theorem OB.all:∀ f:Nat,(∀ n s r,I4 L E f n s=some r->okR r.2=true->okR s=true)/\(∀ n e s r,Q4 L E f n e s=some r->okR r.2=true->okR s=true)/\(∀ s r,U1 L E f s=some r->okR r.2=true->okR s=true)
 |0=>⟨fun n s r h=>by trivial,fun n e s r h=>by trivial,fun s r h=>by trivial⟩
 |f+1=>by
  obtain⟨i1,i2,i3⟩:=OB.all f;refine⟨fun n s r h k=>?_,fun n e s r h k=>?_,fun s r h k=>?_⟩
  ·unfold I4 at h
   grind
  ·unfold Q4 at h;dsimp only at h;split at h
   ·grind
   ·rename_i hk;exact (F6 (show 0<=B5 L E s C9 from Classical.byContradiction fun g=>hk (.inl (by omega)))).1
  ·unfold U1 at h;dsimp only at h;split at h
   ·cases h;exact B5n k
   ·rename_i hk;exact (F6 (show 0<=B5 L E s M5 by omega)).1
theorem SE.weak{m n:Int}{s s':Rd}{e:Ex}(hmn:n<=m)(h:SE m s e s'):SE n s e s':=by
 obtain⟨h1,h2,o,d,h3,h4,h5,h6⟩:=h;exact⟨h1,h2,o,d,h3,h4,h5,h6.imp (fun h=>⟨by omega,h.2⟩) id⟩
theorem SE.all(hG:∀ t∈L,F8 t):∀ f:Nat,(∀ n s r,1<=n->n<=6->I4 L E f n s=some r->okR r.2=true->s.par<=16->SE n s r.1 r.2) /\
  (∀ n m e s s0 r,1<=n->n<=5->(m=n+1\/m=n/\n≠3)->Q4 L E f n e s=some r->okR r.2=true->SE m s0 e s->s0.par<=16->SE n s0 r.1 r.2) /\
  (∀ s r,U1 L E f s=some r->okR r.2=true->s.par<=16->SE 6 s r.1 r.2)
 |0=>⟨fun n s r _ _ h=>by trivial,fun n m e s s0 r _ _ _ h=>by trivial,fun s r h=>by trivial⟩
 |f+1=>by
  obtain⟨i1,i2,i3⟩:=SE.all hG f;refine⟨fun n s r n1 n6 h k hp=>?_,fun n m e s s0 r n1 n5 hm h k he hp=>?_,fun s r h k hp=>?_⟩
  ·unfold I4 at h;split at h
   ·grind
   ·rename_i hn;split at h
    ·grind
    ·rename_i e s1 hb;have k1:=(OB.all f).2.1 _ _ _ _ h k;have h1:=i1 _ _ _ (by omega) (by omega) hb k1 hp
     grind
  ·unfold Q4 at h;dsimp only at h;split at h
   ·cases h;exact he.weak (by omega)
   ·rename_i hk;have hk0:0<=B5 L E s C9:=Classical.byContradiction fun g=>hk (.inl (by omega));have hlv:B0 (12+B5 L E s C9)=n:=Classical.byContradiction fun g=>hk (.inr g);split at h
    ·grind
    ·rename_i x s1 hb;obtain⟨e1,e2,o1,d1,e3,e4,e5,e6⟩:=he;have step:okR s1=true->SE n s0 (.mk (12+B5 L E s C9) 0 [] [e,x] (B1 L E s).pos) s1:=by
      intro k1;obtain⟨x1,x2,o2,d2,x3,x4,x5,x6⟩:=i1 _ _ _ (by omega) (by omega) hb k1 (by show s.par<=16;omega);have x2':s1.par=s.par:=x2;have x4':s1.ops=s.ops+(o2:Int):=x4;have x6':((n+1<=B0 x.kind/\s.par+(d2:Int)<=16)\/s.par+(d2:Int)+1<=16):=x6;refine⟨e1,by omega,_,_,C9s (by omega) e3 x3,by omega,x5,.inl ⟨?_,?_⟩⟩
      ·show n<=B0 (12+B5 L E s C9);omega
      ·have w1:s0.par+((if V5 (12+B5 L E s C9) e.kind 0=true then d1+1 else d1:Nat):Int)<=16:=by
        split
        ·rename_i hw;simp only[V5,A0Z,A0E,A0J,A1F,hlv]at hw;omega
        omega
       have w2:s0.par+((if V5 (12+B5 L E s C9) x.kind 1=true then d2+1 else d2:Nat):Int)<=16:=by
        split
        ·rename_i hw;simp only[V5,A0Z,A0E,A0J,A1F,hlv]at hw;omega
        omega
       omega
     split at h
     ·grind
     ·rename_i hn3;have k1:=(OB.all f).2.1 _ _ _ _ h k
      grind
  ·unfold U1 at h;dsimp only at h;split at h
   ·cases h;exact (B3j hG rfl k hp).weak (by simp)
   ·rename_i hk;obtain⟨hs,hi, -,hk3⟩:=F6 (show 0<=B5 L E s M5 by omega);have hk3:B5 L E s M5<3:=hk3;split at h
    ·grind
    rename_i hl;have hl:okR (C2 L E s (s.par+1) 16 50)=true:=by grind
    obtain⟨-,h2,h3⟩:=F4 (by simp) hl;rw[h3]at h;split at h
    ·split at h
     ·grind
     ·rename_i e s3 hb;cases h;have k3:okR (D4 L E s3 [41])=true:=k;obtain⟨-,x2⟩:=B0c k3;obtain⟨e1,e2,o,d,e3,e4,e5,e6⟩:=i1 1 _ _ (by simp) (by simp) hb (G4 k3) (show s.par+1<=16 from h2);have e2':s3.par=s.par+1:=e2;have e4':s3.ops=s.ops+(o:Int):=e4;have e6':((1<=B0 e.kind/\s.par+1+(d:Int)<=16)\/s.par+1+(d:Int)+1<=16):=e6;rw[x2];refine⟨hs,by show s3.par-1=s.par;omega,o,d,e3,e4',e5,.inr (by omega)⟩
    ·rename_i hk2;split at h
     ·grind
     ·rename_i e s3 hb;cases h;have k3:okR s3=true:=k;obtain⟨e1,e2,o,d,e3,e4,e5,e6⟩:=i3 _ _ hb k3 (show s.par+1<=16 from h2);have e2':s3.par=s.par+1:=e2;have e4':s3.ops=s.ops+(o:Int):=e4;have e6':((6<=B0 e.kind/\s.par+1+(d:Int)<=16)\/s.par+1+(d:Int)+1<=16):=e6;have hk10:10+B5 L E s M5=10\/10+B5 L E s M5=11:=by omega
      refine⟨hs,by grind,o,_,D2x hk10 e3,e4',e5,.inl ⟨?_,?_⟩⟩
      ·show 6<=B0 (10+B5 L E s M5);rw[A2q hk10];simp
      ·split
       ·rename_i hw;simp only[V5,A0Z,A0E,A0J,A1F,A2q hk10]at hw;omega
       omega
theorem I6(hG:∀ t∈L,F8 t){f:Nat}{s:Rd}{r:Ex × Rd}(h:N8 L E f s=some r)(hok:okR r.2=true):okR s=true/\L0 r.1=true:=by
 obtain⟨h1,h2,o,d,h3,h4,h5,h6⟩:=(SE.all hG f).1 1 _ _ (by decide) (by decide) h hok (by decide:(0:Int)<=16);refine⟨h1,?_⟩;have h4':r.2.ops=0+(o:Int):=h4;have h6':((1<=B0 r.1.kind/\0+(d:Int)<=16)\/0+(d:Int)+1<=16):=h6;unfold L0
 grind
end
section
variable {L:List Tok} {E:Int}
theorem M2(hG:∀ t∈L,F8 t){s:Rd}(h:okR (A8 L E s 1).2=true):D0 (A8 L E s 1).1.text=true:=by
 obtain⟨h1,h2⟩:=A2d h;rw[h2];exact (hG _ (H5 (by simp) (G1 h1).2).1).1 (G1 h1).2
theorem B0z(hG:∀ t∈L,F8 t){s:Rd}(h:okR (A8 L E s 3).2=true):0<=(A8 L E s 3).1.value/\(A8 L E s 3).1.value<=2147483647:=by
 obtain⟨h1,h2⟩:=A2d h;rw[h2];exact (hG _ (H5 (by simp) (G1 h1).2).1).2.1 (G1 h1).2
theorem B8z(hG:∀ t∈L,F8 t){s:Rd}(h:okR (A8 L E s 4).2=true):Q6 (A8 L E s 4).1.text=true:=by
 obtain⟨h1,h2⟩:=A2d h;rw[h2];exact (hG _ (H5 (by simp) (G1 h1).2).1).2.2 (G1 h1).2
theorem X6{d:Nat}{k p:Int}{n t:List UInt8}{a:List Ex}(h1:1<=k)(h2:k<=19)(h3:a.length=(K4 k).args)(h4:a.all L0=true)
  (h5:(if (K4 k).name=true then D0 n else n == [])=true) (h6:(if (K4 k).text=true then Q6 t else t == [])=true):S0 d (.mk k n t a [] [] p)=true:=by
 unfold S0;simp only[A0E,A0J,A1F];exact⟨⟨⟨⟨⟨h1,h2⟩,h3,h4⟩,h5,h6⟩,by simp⟩,by trivial⟩
theorem B2x(hG:∀ t∈L,F8 t){f:Nat}{k p:Int}{s:Rd}{r:St × Rd}(d:Nat)(hk4:4<=k)(hk:k<=19)(h:K2 L E f k p s=some r)(hok:okR r.2=true):okR s=true/\S0 d r.1=true:=by
 unfold K2 at h;dsimp only at h;split at h
 ·rename_i hk;subst hk;split at h
  ·grind
  ·rename_i e s1 he;cases h;obtain⟨h1,h2⟩:=I6 hG he (G4 hok);exact⟨h1,X6 (by simp) (by simp) rfl (by grind) rfl rfl⟩
 split at h
 ·rename_i hk;subst hk;split at h
  ·grind
  ·rename_i e s1 he;cases h;obtain⟨h1,h2⟩:=I6 hG he (G4 hok);have h3:=G4 h1;exact⟨T4 h3,X6 (by simp) (by simp) rfl (by grind) rfl (B8z hG h3)⟩
 split at h
 ·rename_i hk;subst hk;cases h;exact⟨G4 hok,X6 (by simp) (by simp) rfl rfl rfl rfl⟩
 rename_i n4 n18 n19;split at h
 ·rename_i hk;split at h
  ·grind
  ·rename_i e s1 he;split at h
   ·rename_i hk9;subst hk9;split at h
    ·grind
    ·rename_i e2 s2 he2;cases h;obtain⟨h1,h2⟩:=I6 hG he2 (G4 hok);obtain⟨h3,h4⟩:=I6 hG he (G4 h1);exact⟨T4 h3,X6 (by simp) (by simp) rfl (by grind) (M2 hG h3) rfl⟩
   ·rename_i hk9;cases h;obtain⟨h1,h2⟩:=I6 hG he (G4 hok);have:k=8\/k=10:=by omega
    rcases this with rfl|rfl
    all_goals exact⟨T4 h1,X6 (by decide) (by decide) rfl (by simp[h2]) (M2 hG h1) rfl⟩
 ·rename_i hk8;cases h;have h1:=G4 hok;have hs:K4 k=⟨true,false,0,false,false⟩:=by
   unfold K4
   grind
  exact⟨T4 h1,X6 (by omega) hk (by grind) rfl (by rw[hs];exact M2 hG h1) (by grind)⟩
theorem A5y{d:Nat}:∀ {l:List St} {x:St},K0 d (l++[x])=(K0 d l && S0 d x)
 |[],x=>by simp[K0]
 |a :: l,x=>by rw[List.cons_append,K0,K0,A5y,Bool.and_assoc]
theorem B0q{d:Nat}{k p:Int}{e:Ex}{t o:List St}(hk:k=2\/k=3)(he:L0 e=true)(ht:L8 t (d+1)=true)(ho:L8 o (d+1)=true)(h3:k=3->o=[]):S0 d (.mk k [] [] [e] t o p)=true:=by
 unfold L8 at ht ho;unfold S0;rcases hk with rfl|rfl
 ·simp only[K4]
  grind
 ·obtain rfl:=h3 rfl;simp only[K4]
  grind
theorem SS.all(hG:∀ t∈L,F8 t):∀ f:Nat,(∀ (d:Nat) s r,M4 L E f d s=some r->okR r.2=true->okR s=true/\L8 r.1 d=true) /\
  (∀ (d:Nat) l s r,R9 L E f d l s=some r->okR r.2=true->okR s=true/\(K0 d l=true->l.length<=64->(l=[]\/d<=8)->L8 r.1 d=true)) /\
  (∀ (d:Nat) s r,S1 L E f d s=some r->okR r.2=true->okR s=true/\d<=8/\S0 d r.1=true) /\
  (∀ (d:Nat) s r,R6 L E f d s=some r->okR r.2=true->okR s=true/\L8 r.1 (d+1)=true)
 |0=>⟨fun d s r h=>by trivial,fun d l s r h=>by trivial,fun d s r h=>by trivial,fun d s r h=>by trivial⟩
 |f+1=>by
  obtain⟨i1,i2,i3,i4⟩:=SS.all hG f;have hd1:∀ d:Nat,(d:Int)+1=((d+1:Nat):Int):=fun d=>by rfl
  refine⟨fun d s r h k=>?_,fun d l s r h k=>?_,fun d s r h k=>?_,fun d s r h k=>?_⟩
  ·unfold M4 at h;obtain⟨h1,h2⟩:=i2 _ _ _ _ h k;exact⟨G4 h1,h2 rfl (by simp) (.inl rfl)⟩
  ·unfold R9 at h;split at h
   ·rename_i hc;refine⟨hc.1,fun h1 h2 h3=>?_⟩;split at h
    ·cases h;rfl
    ·split at h
     ·grind
     ·rename_i x s1 he;obtain⟨h4,h5⟩:=i2 _ _ _ _ h k;obtain⟨h6,h7,h8⟩:=i3 _ _ _ he h4;obtain⟨-,h9, -⟩:=F4 (by simp) h6;exact h5 (by rw[A5y,h1,h8];rfl) (by grind) (.inr h7)
   ·cases h;refine⟨G4 k,fun h1 h2 h3=>?_⟩;unfold L8
    grind
  ·unfold S1 at h;dsimp only at h;split at h
   ·grind
   rename_i hl;have hl:okR (C2 L E s d 8 50)=true:=by grind
   obtain⟨hs,hd,hle⟩:=F4 (by simp) hl;rw[hle]at h;refine⟨hs,by omega,?_⟩;split at h
   ·split at h
    ·grind
    ·rename_i e s1 he;cases h;obtain⟨h1,h2⟩:=I6 hG he (G4 k);exact X6 (by simp) (by simp) rfl (by grind) (M2 hG (G4 h1)) rfl
   ·rename_i hk;obtain⟨-,hi, -,hk18⟩:=F6 (show 0<=B5 L E s B4 by omega);have hk18:B5 L E s B4<18:=hk18;generalize B5 L E s B4=q at h hk hk18;split at h
    ·rename_i hq;split at h
     ·grind
     ·rename_i e s2 he;split at h
      ·grind
      ·rename_i t s3 ht;rw[hd1]at ht;split at h
       ·rename_i hc;split at h
        ·grind
        ·rename_i o s4 ho;cases h;obtain⟨o1,o2⟩:=i4 _ _ _ ho k;obtain⟨t1,t2⟩:=i1 _ _ _ ht (show okR s3=true from o1);obtain⟨e1,e2⟩:=I6 hG he t1;exact B0q (.inl rfl) e2 t2 o2 (fun h=>absurd h (by simp))
       ·cases h;obtain⟨t1,t2⟩:=i1 _ _ _ ht k;obtain⟨e1,e2⟩:=I6 hG he t1;exact B0q (by omega) e2 t2 (by rfl) (fun _=>rfl)
    ·rename_i hq;exact (B2x hG d (by omega) (by omega) h k).2
  ·unfold R6 at h;rw[hd1]at h;split at h
   ·split at h
    ·grind
    ·rename_i x s1 he;cases h;obtain⟨h1,h2,h3⟩:=i3 _ _ _ he k;refine⟨h1,?_⟩;unfold L8;simp only[A0E,A0Z,A0J];exact⟨⟨by simp,.inr h2⟩,by rw[K0,K0,h3];rfl⟩
   ·exact i1 _ _ _ h k
theorem B8f(hG:∀ t∈L,F8 t){k:Int}{s:Rd}(h0:0<=k)(h8:k<8)(h:okR (P4 L E k s).2=true):A0x (P4 L E k s).1=true:=by
 have key:∀ d:Dc,1<=d.kind->d.kind<=8->D0 d.name=true->(if d.kind=6 then -2147483647 else 0)<=d.value->d.value<=(if d.kind=7\/d.kind=8 then 0 else 2147483647)->A0x d=true:=by
  intro d a1 a2 a3 a4 a5;simp only[A0x,A0E,A0J]
  grind
 unfold P4 at h ⊢;dsimp only at h ⊢;split at h
 ·rename_i hk;rw[if_pos hk];have h1:=G4 h;obtain⟨n0,n1⟩:=B0z hG h1;have h2:=T4 h1;have h3:okR (A8 L E (A7 s) 1).2=true:=by
   split at h2
   ·exact h2
   ·exact h2
  refine key _ (by dsimp only;omega) (by dsimp only;omega) (M2 hG h3) ?_ ?_
  ·dsimp only;generalize (A8 L E (if (k+1 == 6 && isR L E (A8 L E (A7 s) 1).2 [45])=true then A7 (A8 L E (A7 s) 1).2 else (A8 L E (A7 s) 1).2) 3).1.value=w at n0 n1 ⊢;by_cases h6:k+1=6
   ·rw[if_pos (by omega)];split<;>omega
   ·rw[if_neg (by omega),if_neg (by simp[h6])];exact n0
  grind
 ·rename_i hk;rw[if_neg hk];have h3:=G4 h;refine key _ (by dsimp only;omega) (by dsimp only;omega) (M2 hG h3) ?_ ?_
  ·dsimp only;rw[if_neg (by omega)];decide
  grind
theorem A8h(hG:∀ t∈L,F8 t):∀ (f:Nat) (l:List Hd) (s:Rd) (r:List Hd × Rd),W8 L E f l s=some r->okR r.2=true->okR s=true/\(l.length<=32->l.all Z6=true->r.1.length<=32/\r.1.all Z6=true)
 |0,l,s,r,h,_=>by trivial
 |f+1,l,s,r,h,k=>by
  unfold W8 at h;dsimp only at h;split at h
  ·rename_i hc;refine⟨hc.1,fun h1 h2=>?_⟩;split at h
   ·grind
   split at h
   ·grind
   rename_i hk;obtain⟨hok2,hi2, -,hk6⟩:=F6 (show 0<=B5 L E (D4 L E (C2 L E s ((l.length:Int)+1) 32 9) [111,110]) E3 by omega);have hk6:B5 L E (D4 L E (C2 L E s ((l.length:Int)+1) 32 9) [111,110]) E3<6:=hk6;obtain⟨-,hll, -⟩:=F4 (by simp) (G4 hok2);generalize B5 L E (D4 L E (C2 L E s ((l.length:Int)+1) 32 9) [111,110]) E3=q at h hk hk6;split at h
   ·grind
   ·rename_i b s5 hb;obtain⟨m1,m2⟩:=A8h hG f _ _ _ h k;obtain⟨b1,b2⟩:=(SS.all hG f).1 1 _ _ hb m1;refine m2 (by simp only[A0A,A0H];omega) ?_;rw[A3B,h2,A1S];simp only[A1X,List.all_nil,A1T,Z6,A0E,A0J];refine⟨⟨⟨by omega,by omega⟩,?_⟩,b2⟩;by_cases hq:2<=q
    ·rw[if_pos (by omega),if_pos hq];rw[if_pos hq]at b1;exact M2 hG b1
    grind
  ·cases h;exact⟨G4 k,fun h1 h2=>⟨h1,h2⟩⟩
theorem B7o(hG:∀ t∈L,F8 t){f:Nat}{s:Rd}{r:Md × Rd}(h:A2n L E f s=some r)(k:okR r.2=true):okR s=true/\U0 r.1=true:=by
 unfold A2n at h;dsimp only at h;split at h
 ·grind
 ·rename_i l s3 hm;cases h;obtain⟨m1,m2⟩:=A8h hG _ _ _ _ hm k;obtain⟨m3,m4⟩:=m2 (by simp) rfl;have h1:=G4 m1;have h2:=T4 h1;obtain⟨n0,n1⟩:=B0z hG h1;refine⟨G4 (T4 h2),?_⟩;simp only[U0,A0E,A0J];exact⟨⟨⟨⟨M2 hG h2,n0⟩,n1⟩,m3⟩,m4⟩
theorem A3n(hG:∀ t∈L,F8 t):∀ (f:Nat) (l:List Dc) (s:Rd) (r:List Dc × Rd),U2 L E f l s=some r->okR r.2=true->okR s=true/\(l.length<=128->l.all A0x=true->r.1.length<=128/\r.1.all A0x=true)
 |0,l,s,r,h,_=>by trivial
 |f+1,l,s,r,h,k=>by
  unfold U2 at h;dsimp only at h;split at h
  ·grind
  ·rename_i hk;obtain⟨hs,hi, -,hk8⟩:=F6 (show 0<=B5 L E s D6 by omega);have hk8:B5 L E s D6<8:=hk8;refine⟨hs,fun h1 h2=>?_⟩;split at h
   ·rename_i hl;obtain⟨-,hll,hle⟩:=F4 (by simp) hl;obtain⟨m1,m2⟩:=A3n hG f _ _ _ h k;exact m2 (by grind) (by rw[A3B,h2,A1S,A1X,B8f hG (by omega) hk8 m1];rfl)
   ·rename_i hl;obtain⟨m1,m2⟩:=A3n hG f _ _ _ h k
    grind
theorem A3m(hG:∀ t∈L,F8 t):∀ (f:Nat) (l:List Md) (s:Rd) (r:List Md × Rd),T1 L E f l s=some r->okR r.2=true->okR s=true/\(l.length<=16->l.all U0=true->r.1.length<=16/\r.1.all U0=true)
 |0,l,s,r,h,_=>by trivial
 |f+1,l,s,r,h,k=>by
  unfold T1 at h;dsimp only at h;split at h
  ·rename_i hc;refine⟨hc.1,fun h1 h2=>?_⟩;split at h
   ·cases h;rw[A1i]at k;cases k
   split at h
   ·rename_i hl;split at h
    ·cases h
    ·rename_i m s2 hm;obtain⟨m1,m2⟩:=A3m hG f _ _ _ h k;obtain⟨q1,q2⟩:=B7o hG hm m1;obtain⟨-,hll,hle⟩:=F4 (by decide) hl;exact m2 (by simp only[A0A,A0H];omega) (by rw[A3B,h2,A1S,A1X,q2];rfl)
   ·rename_i hl;obtain⟨m1,m2⟩:=A3m hG f _ _ _ h k;exact absurd m1 hl
  grind
theorem B7f(hG:∀ t∈L,F8 t){f:Nat}{s:Rd}{r:Ru × Rd}(h:A6h L E f s=some r)(k:okR r.2=true):P9 r.1=true:=by
 unfold A6h at h;split at h
 ·grind
 ·rename_i d s1 hd;split at h
  ·grind
  ·rename_i m s2 hm;cases h;obtain⟨m1,m2⟩:=A3m hG _ _ _ _ hm k;obtain⟨m3,m4⟩:=m2 (by simp) rfl;obtain⟨d1,d2⟩:=A3n hG _ _ _ _ hd m1;obtain⟨d3,d4⟩:=d2 (by simp) rfl;simp only[P9,A0E,A0J]
   grind
end
theorem A8b{p:UInt8->Bool}:∀ (s:List UInt8),D2 p (s.take (D2 p s))=D2 p s
 |[]=>rfl
 |c :: r=>by
  have ih:=A8b (p:=p) r;by_cases h:p c=true
  ·simp only[D2,h,if_true,A1G];omega
  ·simp only[D2,h,if_false,A2G,A1J]
theorem A9j:∀ {s t:List UInt8} {n:Nat},quM s=some (t,n)->t.all txB=true
 |[],t,n,h=>by trivial
 |c :: r,t,n,h=>by
  rw[T2]at h;split at h
  ·grind
  ·split at h
   ·grind
   ·rename_i h34 hr;split at h
    ·cases r with
     |nil=>grind
     |cons d q =>
      simp only at h;split at h
      ·rename_i hd;obtain⟨⟨t',n'⟩,h1,h2⟩:=A0N.1 h;have:=A9j h1;cases h2;simp only[A1X,this,A1T,txB,A0E,A0J];omega
      grind
    ·obtain⟨⟨t',n'⟩,h1,h2⟩:=A0N.1 h;have:=A9j h1;cases h2;simp only[A1X,this,A1T,txB,A0E,A0J];omega
theorem B3s{s:List UInt8}{p:Int}(h:(C0 s).err=0):F8 (nxT (C0 s) p)/\0<=(C0 s).value/\(C0 s).value<=2147483647:=by
 unfold F8;cases s with
 |nil=>trivial
 |cons c q =>
  by_cases hl:ltB c=true
  ·by_cases h12:12<D2 ptB (c :: q)
   ·rw[C0,if_pos hl,if_pos h12]at h;trivial
   ·rw[C0,if_pos hl,if_neg h12,nxT];refine⟨⟨fun hk=>?_,fun hk=>?_,fun hk=>?_⟩,by simp,by simp⟩
    ·simp only at hk ⊢;have hw:F9 ((c :: q).take (D2 ptB (c :: q)))=false:=by
      cases hz:F9 ((c :: q).take (D2 ptB (c :: q))) with
      |false=>rfl
      |true=>rw[hz]at hk;simp at hk
     have hp:ptB c=true:=by unfold ptB;rw[hl];rfl
     have h1:1<=D2 ptB (c :: q):=by simp only[D2,hp,if_true];omega
     have hle:=U7 ptB (c :: q);have hlen:((c :: q).take (D2 ptB (c :: q))).length=D2 ptB (c :: q):=by rw[A0W];omega
     have hhd:∃ r,(c :: q).take (D2 ptB (c :: q))=c :: r:=by
      obtain⟨k,hk⟩:∃ k,D2 ptB (c :: q)=k+1:=⟨D2 ptB (c :: q)-1,by omega⟩;rw[hk];exact⟨_,rfl⟩
     unfold D0;rw[hlen,hw,A8b];obtain⟨r,hr⟩:=hhd;rw[hr];simp only[hl,A1T,Bool.not_false,A0E,A0J];exact⟨⟨h1,by omega⟩,trivial⟩
    ·simp only at hk;split at hk<;>simp at hk
    grind
  ·by_cases hd:dgB c=true
   ·by_cases h3:1<D2 dgB (c :: q)/\c.toNat=48
    ·rw[C0,if_neg hl,if_pos hd,if_pos h3]at h;trivial
    ·by_cases h2:2147483647<O9 ((c :: q).take (D2 dgB (c :: q)))
     ·rw[C0,if_neg hl,if_pos hd,if_neg h3,if_pos h2]at h;trivial
     ·rw[C0,if_neg hl,if_pos hd,if_neg h3,if_neg h2,nxT]
      grind
   ·by_cases h34:c.toNat=34
    ·cases hq:quM q with
     |none=>rw[C0,if_neg hl,if_neg hd,if_pos h34,hq]at h;trivial
     |some x =>
      obtain⟨t,m⟩:=x;by_cases h32:32<t.length
      ·rw[C0,if_neg hl,if_neg hd,if_pos h34,hq]at h;simp only at h;rw[if_pos h32]at h;trivial
      ·rw[C0,if_neg hl,if_neg hd,if_pos h34,hq];simp only;rw[if_neg h32,nxT];refine⟨⟨fun hk=>by grind,fun hk=>by simp,fun hk=>?_⟩,by simp,by simp⟩;simp only[Q6,A9j hq,A1S,A0J];omega
    ·by_cases hs:M3 (c :: q)=0
     ·rw[C0,if_neg hl,if_neg hd,if_neg h34,if_pos hs]at h;trivial
     ·rw[C0,if_neg hl,if_neg hd,if_neg h34,if_neg hs,nxT];simp
theorem TOk.good{t:Tok}(h:TOk t):F8 t/\0<=t.value/\t.value<=2147483647:=by
 obtain⟨s,p,h1,rfl⟩:=h;obtain⟨h2,h3⟩:=B3s (p:=p) h1
 trivial
theorem A6f{s:List UInt8}(h:(C3 s).2.2=0):∀ t∈(C3 s).1,F8 t:=fun t ht=>(B5g h t ht).good.1
theorem B9p{s:List UInt8}(h:(C3 s).2.2=0):∀ t∈(C3 s).1,0<=t.value/\t.value<=9223372036854775807:=fun t ht=>by
 have:=(B5g h t ht).good.2;omega
theorem A5k{s:List UInt8}(h:(C3 s).2.2=0):(C3 s).1.length<=20000:=A1A (B7e s) (A4k h).1
def rd0:Rd:=⟨0,0,0,0,0⟩
def V6(L:List Tok)(E:Int):Ru × Rd:=Classical.choose (B5h (L:=L) (E:=E) rd0)
theorem A6i(L:List Tok)(E:Int):Evt (fun f=>A6h L E f rd0) (V6 L E):=A3H (B5h (L:=L) (E:=E) rd0)
def P8(L:List Tok)(E:Int):Ex × Rd:=Classical.choose (U5 (L:=L) (E:=E) rd0)
theorem A5x(L:List Tok)(E:Int):Xpn L E rd0 (P8 L E):=(A3H (U5 (L:=L) (E:=E) rd0)).1
def Ru0:Ru:=⟨[],[]⟩
def Z4(s:List UInt8):Ru × Int × Int :=
 let q:=C3 s
 if q.2.2≠0 then (Ru0,q.2.1,q.2.2)
 else if okR (V6 q.1 s.length).2=false then (Ru0,(V6 q.1 s.length).2.pos,(V6 q.1 s.length).2.e)
 else ((V6 q.1 s.length).1,0,0)
abbrev C4g(q:Ru × Int × Int):DV:=.tup [q.1.v,I64 q.2.1,I64 q.2.2]
def A9l(s:List UInt8):Ex × Int × Int :=
 let q:=C3 s
 if q.2.2≠0 then (Ex0,q.2.1,q.2.2)
 else
  let w:=P8 q.1 s.length
  let z:=if okR w.2=true/\w.2.i<q.1.length then K3 q.1 s.length w.2 else w.2
  if okR z=false then (Ex0,z.pos,z.e) else (w.1,0,0)
abbrev B5r(q:Ex × Int × Int):DV:=.tup [q.1.v,I64 q.2.1,I64 q.2.2]
theorem C4f(q:Ru × Int × Int):(C4g q).nl=true:=by
 simp only[DV.nl,DV.nlL,J6,J5,A1T]
theorem C0n(q:Ex × Int × Int):(B5r q).nl=true:=by
 simp only[DV.nl,DV.nlL,Ex.nl,A1T]
mutual
def Ex.sz:Ex->Nat
 |.mk k v n a p=>1+n.length+Ex.szs a
def Ex.szs:List Ex->Nat
 |[]=>0
 |e :: l=>e.sz+Ex.szs l
end
mutual
def St.sz:St->Nat
 |.mk k n t a x y p=>1+n.length+t.length+Ex.szs a+St.szs x+St.szs y
def St.szs:List St->Nat
 |[]=>0
 |e :: l=>e.sz+St.szs l
end
def Dc.sz(d:Dc):Nat:=1+d.name.length
def Hd.sz(h:Hd):Nat:=1+h.name.length+St.szs h.body
def Md.sz(m:Md):Nat:=1+m.name.length+(m.hds.map Hd.sz).sum
def Ru.sz(r:Ru):Nat:=(r.decls.map Dc.sz).sum+(r.modes.map Md.sz).sum
theorem Ex.szs_map:∀ l:List Ex,Ex.szs l=(l.map Ex.sz).sum
 |[]=>rfl
 |e :: l=>by rw[Ex.szs,Ex.szs_map l];rfl
theorem St.szs_map:∀ l:List St,St.szs l=(l.map St.sz).sum
 |[]=>rfl
 |e :: l=>by rw[St.szs,St.szs_map l];rfl
theorem I5{α : Type}{f : α -> Nat}{x : α}:∀ {l:List α},x∈l->f x<=(l.map f).sum
 |a :: l,h=>by
  rw[A0U,A3A];rcases A1P.1 h with rfl|h
  ·omega
  ·have:=I5 (f:=f) h;omega
theorem G3{α : Type}{f : α -> Nat}:∀ {l:List α},(∀ x∈l,1<=f x)->l.length<=(l.map f).sum
 |[],h=>A0O _
 |a :: l,h=>by
  have:=G3 (f:=f) (l:=l) fun x hx=>h x (A0L _ hx)
  grind
theorem Ex.sz_pos(e:Ex):1<=e.sz:=by cases e with|mk k v n a p=>rw[Ex.sz];omega
theorem St.sz_pos(e:St):1<=e.sz:=by cases e with|mk k n t a x y p=>rw[St.sz];omega
theorem Ex.sz_arg{e x:Ex}(h:x∈e.args):x.sz<e.sz:=by
 cases e with|mk k v n a p =>
 have:=I5 (f:=Ex.sz) h;rw[Ex.sz,Ex.szs_map];have h':(Ex.mk k v n a p).args=a:=rfl
 grind
theorem Ex.sz_name(e:Ex):e.name.length<e.sz:=by
 cases e with|mk k v n a p=>rw[Ex.sz];show n.length<_;omega
theorem Ex.sz_args(e:Ex):e.args.length<e.sz:=by
 cases e with|mk k v n a p =>
 have:=G3 (f:=Ex.sz) (l:=a) fun x _=>x.sz_pos;rw[Ex.sz,Ex.szs_map];show a.length<_;omega
theorem St.sz_name(e:St):e.name.length<e.sz:=by
 cases e with|mk k n t a x y p=>rw[St.sz];show n.length<_;omega
theorem St.sz_text(e:St):e.text.length<e.sz:=by
 cases e with|mk k n t a x y p=>rw[St.sz];show t.length<_;omega
theorem St.sz_arg{e:St}{x:Ex}(h:x∈e.args):x.sz<e.sz:=by
 cases e with|mk k n t a u w p =>
 have:=I5 (f:=Ex.sz) h;have h':(St.mk k n t a u w p).args=a:=rfl;rw[h']at this;rw[St.sz,Ex.szs_map];omega
theorem St.sz_args(e:St):e.args.length<e.sz:=by
 cases e with|mk k n t a u w p =>
 have:=G3 (f:=Ex.sz) (l:=a) fun x _=>x.sz_pos;rw[St.sz,Ex.szs_map];show a.length<_;omega
theorem St.sz_thn(e:St):St.szs e.thn<e.sz:=by
 cases e with|mk k n t a u w p=>rw[St.sz];show St.szs u<_;omega
theorem St.sz_els(e:St):St.szs e.els<e.sz:=by
 cases e with|mk k n t a u w p=>rw[St.sz];show St.szs w<_;omega
theorem St.szs_len(l:List St):l.length<=St.szs l:=by rw[St.szs_map];exact G3 fun x _=>x.sz_pos
theorem St.szs_mem{l:List St}{x:St}(h:x∈l):x.sz<=St.szs l:=by rw[St.szs_map];exact I5 h
theorem Ex.szs_mem{l:List Ex}{x:Ex}(h:x∈l):x.sz<=Ex.szs l:=by rw[Ex.szs_map];exact I5 h
theorem Ex.szs_len(l:List Ex):l.length<=Ex.szs l:=by rw[Ex.szs_map];exact G3 fun x _=>x.sz_pos
theorem A0(s:List UInt8):(C4 s).length=1:=by unfold C4;grind
theorem A5(n:Int):(Q2 n).length=1:=by unfold Q2;grind
theorem A3(s:List UInt8):(Y7 s).length=1:=by unfold Y7;grind
theorem A0m(q:Int × List Tok)(n:Int):q.2.length<=(D9 q n).length/\(D9 q n).length<=q.2.length+2:=by
 unfold D9;grind
theorem A3a:∀ l:List Ex,A7b l=l.map fun e=>(e.kind,exT e)
 |[]=>rfl
 |e :: l=>by rw[A7b,A3a l];rfl
set_option maxHeartbeats 2000000 in
theorem B4m{k v:Int}{n:List UInt8}{as1:List (Int × List Tok)}:1<=(I2 k v n as1).length/\(I2 k v n as1).length<=5+(as1.map fun q=>q.2.length).sum:=by
 unfold I2
 match as1 with
 |[] =>
  dsimp only;repeat' split
  all_goals simp only[A0A,A0H,A0,A5]
  all_goals omega
 |[q] =>
  have:=A0m q 6;dsimp only;repeat' split
  all_goals simp only[A0A,A0H,A0,A5,A0U,List.map_nil,A3A,List.sum_nil]
  all_goals omega
 |[q,r] =>
  have h1:=A0m q (if B0 k=3 then 4 else B0 k);have h2:=A0m r (B0 k+1);dsimp only;generalize D9 q (if B0 k=3 then 4 else B0 k)=A at h1 ⊢;generalize D9 r (B0 k+1)=B at h2 ⊢;generalize A2 (C9.getD (k-12).toNat [])=W;generalize B0 k=lv;repeat' split
  all_goals simp only[A0A,A0H,A0,A5,A0U,List.map_nil,A3A,List.sum_nil]
  all_goals omega
 |q :: r :: w :: l =>
  dsimp only;repeat' split
  all_goals simp only[A0A,A0H,A0,A5]
  all_goals omega
theorem Y4:∀ e:Ex,1<=(exT e).length/\(exT e).length<=5 * e.sz
 |.mk k v n a p=>by
  have ih:∀ x∈a,(exT x).length<=5 * x.sz:=fun x hx=>(Y4 x).2;have h:=B4m (k:=k) (v:=v) (n:=n) (as1:=A7b a);rw[exT];refine⟨h.1,?_⟩;have h2:((A7b a).map fun q=>q.2.length).sum<=5 * Ex.szs a:=by
   rw[A3a,A2E,Ex.szs_map];clear h
   induction a with
   |nil=>simp
   |cons x l ihl =>
    grind
  rw[Ex.sz];omega
theorem C2z(l:List Ex)(i:Nat):1<=(agT l i).length/\(agT l i).length<=1+5 * Ex.szs l:=by
 unfold agT;cases h:l[i]? with
 |none=>simp
 |some e =>
  have h1:=Y4 e;have h2:=Ex.szs_mem (A0V h)
  grind
mutual
theorem A5i:∀ s:St,1<=(stT s).length/\(stT s).length<=11 * s.sz
 |.mk k n t a x y p=>by
  have h0:=C2z a 0;have h1:=C2z a 1;have hx:=A2f x;have hy:∀ l,l=y->(L9 l).length<=11 * St.szs l:=fun l h=>by subst h;exact A2f l
  have hq:∀ q,y=[q]->(stT q).length<=11 * q.sz:=fun q h=>by subst h;exact (A5i q).2
  rw[St.sz];unfold stT;dsimp only;generalize agT a 0=A at h0 ⊢;generalize agT a 1=B at h1 ⊢;generalize L9 x=X at hx ⊢;generalize A2 (B4.getD (k-2).toNat [])=W
  match y,hy,hq with
  |[],hy,hq =>
   dsimp only;rw[St.szs];repeat' split
   all_goals simp only[A0A,A0H,A0,A3]
   all_goals omega
  |[q],hy,hq =>
   have hq:=hq q rfl;dsimp only;rw[St.szs,St.szs];generalize stT q=Q at hq ⊢;repeat' split
   all_goals simp only[A0A,A0H,A0,A3]
   all_goals omega
  |q :: q2 :: r,hy,hq =>
   have hy:=hy _ rfl;dsimp only;generalize L9 (q :: q2 :: r)=Y at hy ⊢;generalize St.szs (q :: q2 :: r)=z at hy ⊢;repeat' split
   all_goals simp only[A0A,A0H,A0,A3]
   all_goals omega
theorem A2f:∀ l:List St,(L9 l).length<=11 * St.szs l
 |[]=>A0O _
 |s :: l=>by
  have h1:=A5i s;have h2:=A2f l;rw[L9,St.szs,A0A];omega
end
theorem A5w(l:List St):1<=(blT l).length/\(blT l).length<=11 * St.szs l+2:=by
 have:=A2f l;unfold blT
 grind
theorem B6m(d:Dc):1<=(dcT d).length/\(dcT d).length<=6:=by
 unfold dcT;dsimp only;generalize A2 (D6.getD (d.kind-1).toNat [])=W;repeat' split
 all_goals simp only[A0A,A0H,A0,A5]
 all_goals (first|omega|simp)
theorem C5m(h:Hd):1<=(hdT h).length/\(hdT h).length<=11 * h.sz:=by
 have:=A5w h.body;unfold hdT Hd.sz;generalize A2 (E3.getD (h.trig-1).toNat [])=W;split
 ·simp only[A0A,A0D,List.length_nil,A0];omega
 grind
theorem A5u{α : Type}{f : α -> List Tok}{g : α -> Nat}{c:Nat}:∀ {l:List α},(∀ x∈l,(f x).length<=c * g x)->(l.flatMap f).length<=c * (l.map g).sum
 |[],_=>by simp
 |a :: l,h=>by
  have h1:=h a A0M;have h2:=A5u (l:=l) fun x hx=>h x (A0L _ hx);rw[A1V,A0A,A0U,A3A,Nat.mul_add];omega
theorem C4u(m:Md):1<=(mdT m).length/\(mdT m).length<=11 * m.sz:=by
 have:=A5u (l:=m.hds) (f:=hdT) (g:=Hd.sz) (c:=11) fun x _=>(C5m x).2;unfold mdT Md.sz;simp only[A0A,A0H,A0,A5];omega
theorem C3x(r:Ru):(ruT r).length<=11 * r.sz+1/\(r.decls.flatMap dcT++r.modes.flatMap mdT).length<=11 * r.sz:=by
 have h1:=A5u (l:=r.decls) (f:=dcT) (g:=Dc.sz) (c:=11) fun x _=>by have:=B6m x;unfold Dc.sz;omega
 have h2:=A5u (l:=r.modes) (f:=mdT) (g:=Md.sz) (c:=11) fun x _=>(C4u x).2;have h3:(r.decls.flatMap dcT++r.modes.flatMap mdT).length<=11 * r.sz:=by
  unfold Ru.sz;rw[A0A];omega
 refine⟨?_,h3⟩;unfold ruT
 grind
def B6t(t:Tok):Prop:=F8 t/\0<=t.value/\t.value<=2147483647
abbrev C7(l:List Tok):Prop:=∀ t∈l,B6t t
theorem A4l:B6t S8:=⟨⟨fun h=>by trivial,fun h=>by trivial,fun h=>by rfl⟩,by trivial,by trivial⟩
theorem O4(s:List UInt8):B6t (A2 s):=by
 refine⟨⟨fun h=>?_,fun h=>?_,fun h=>?_⟩,by simp[A2],by simp[A2]⟩;all_goals simp only[A2]at h ⊢
 all_goals (by_cases h1:F9 s=true)
 all_goals (by_cases h2:D0 s=true)
 all_goals (simp_all)
theorem X2(s:List UInt8):C7 (C4 s):=by
 intro t ht;unfold C4 at ht;split at ht
 ·rw[A1H]at ht;subst ht;trivial
 ·rename_i h;rw[A1H]at ht;subst ht;exact⟨⟨fun _=>by grind,fun h=>by simp,fun h=>by grind⟩,by simp,by simp⟩
theorem B6j(n:Int):C7 (Q2 n):=by
 intro t ht;unfold Q2 at ht;split at ht
 ·rw[A1H]at ht;subst ht;trivial
 ·rename_i h;rw[A1H]at ht;subst ht;refine⟨⟨fun h=>by simp at h,fun _=>?_,fun h=>by simp at h⟩,?_,?_⟩<;>simp only<;>omega
theorem D3r(s:List UInt8):C7 (Y7 s):=by
 intro t ht;unfold Y7 at ht;split at ht
 ·rw[A1H]at ht;subst ht;trivial
 ·rename_i h;rw[A1H]at ht;subst ht;refine⟨⟨fun h=>by simp at h,fun h=>by simp at h,fun _=>?_⟩,by simp,by simp⟩;simp only[Q6,A0E,A0J]
  grind
theorem C7.app{a b:List Tok}(ha:C7 a)(hb:C7 b):C7 (a++b):=fun t ht=>(A1R.1 ht).elim (ha t) (hb t)
theorem C7.one{t:Tok}(h:B6t t):C7 [t]:=fun x hx=>by grind
theorem C7.nil:C7 []:=fun x hx=>by grind
theorem C7.flat{α : Type}{f : α -> List Tok}{l:List α}(h:∀ x∈l,C7 (f x)):C7 (l.flatMap f):=fun t ht=>by
 grind
theorem C1r{q:Int × List Tok}(n:Int)(h:C7 q.2):C7 (D9 q n):=by
 unfold D9;split
 ·exact ((C7.one (O4 _)).app h).app (C7.one (O4 _))
 omega
theorem D3s{k v:Int}{n:List UInt8}{as1:List (Int × List Tok)}(h:∀ q∈as1,C7 q.2):C7 (I2 k v n as1):=by
 unfold I2;dsimp only;by_cases h1:k=1
 ·rw[if_pos h1];exact B6j _
 rw[if_neg h1];by_cases h2:k=2
 ·rw[if_pos h2];exact X2 _
 rw[if_neg h2];by_cases h3:k=3
 ·rw[if_pos h3];exact C7.one (O4 _)
 rw[if_neg h3];by_cases h4:k=4
 ·rw[if_pos h4];exact C7.one (O4 _)
 rw[if_neg h4];by_cases h8:k=8
 ·rw[if_pos h8];exact C7.one (O4 _)
 rw[if_neg h8];by_cases h9:k=9
 ·rw[if_pos h9];exact C7.one (O4 _)
 rw[if_neg h9];by_cases h5:k=5
 ·rw[if_pos h5];exact (C7.one (O4 _)).app (X2 _)
 rw[if_neg h5];by_cases h6:k=6
 ·rw[if_pos h6];exact (C7.one (O4 _)).app (X2 _)
 rw[if_neg h6];by_cases h7:k=7
 ·rw[if_pos h7];exact (C7.one (O4 _)).app (X2 _)
 rw[if_neg h7]
 match as1,h with
 |[],_=>exact C7.one A4l
 |[q],h =>
  dsimp only;split
  ·exact (C7.one (O4 _)).app (C1r _ (h q A0M))
  ·exact C7.one A4l
 |[q,r],h =>
  dsimp only;split
  ·exact ((C1r _ (h q A0M)).app (C7.one (O4 _))).app (C1r _ (h r (A0L _ A0M)))
  ·exact C7.one A4l
 |_ :: _ :: _ :: _,_=>exact C7.one A4l
theorem B6k:∀ e:Ex,C7 (exT e)
 |.mk k v n a p=>by
  have ih:∀ x∈a,C7 (exT x):=fun x hx=>B6k x;rw[exT,A3a];exact D3s fun q hq=>by
   grind
theorem A6w(l:List Ex)(i:Nat):C7 (agT l i):=by
 unfold agT;cases h:l[i]? with
 |none=>exact C7.one A4l
 |some e=>exact B6k e
mutual
theorem C1p:∀ s:St,C7 (stT s)
 |.mk k n t a x y p=>by
  have hx:=A5t x;have hy:∀ l,l=y->C7 (L9 l):=fun l h=>by subst h;exact A5t l
  have hq:∀ q,y=[q]->C7 (stT q):=fun q h=>by subst h;exact C1p q
  have w:∀ s,C7 [A2 s]:=fun s=>C7.one (O4 s);unfold stT;split
  ·exact (((X2 _).app (w _)).app (A6w _ _)).app (w _)
  split
  ·exact C7.one A4l
  dsimp only;split
  ·have ho:C7 ([A2 (B4.getD (k-2).toNat [])]++agT a 0++([A2 [123]]++L9 x++[A2 [125]])):=((w _).app (A6w _ _)).app (((w _).app hx).app (w _))
   match y,hy,hq with
   |[],_,_=>omega
   |[q],_,hq =>
    dsimp only;split
    ·exact (ho.app (w _)).app (hq q rfl)
    grind
   |q :: q2 :: r,hy,_=>grind
  split
  ·exact ((w _).app (A6w _ _)).app (w _)
  split
  ·exact ((((w _).app (D3r _)).app (w _)).app (A6w _ _)).app (w _)
  split
  ·exact (((w _).app (X2 _)).app (A6w _ _)).app (w _)
  split
  ·exact (((((w _).app (X2 _)).app (A6w _ _)).app (w _)).app (A6w _ _)).app (w _)
  split
  ·grind
  ·exact ((w _).app (X2 _)).app (w _)
theorem A5t:∀ l:List St,C7 (L9 l)
 |[]=>by rw[L9];grind
 |s :: l=>by rw[L9];exact (C1p s).app (A5t l)
end
theorem D0q(l:List St):C7 (blT l):=((C7.one (O4 _)).app (A5t l)).app (C7.one (O4 _))
theorem D0p(d:Dc):C7 (dcT d):=by
 have w:∀ s,C7 [A2 s]:=fun s=>C7.one (O4 s);unfold dcT;split
 ·exact C7.one A4l
 ·dsimp only;refine C7.app ?_ (w _);split
  ·exact (w _).app (X2 _)
  split
  ·exact (((w _).app (X2 _)).app (w _)).app (B6j _)
  ·exact ((w _).app (X2 _)).app (B6j _)
theorem D0o(h:Hd):C7 (hdT h):=by
 unfold hdT;refine C7.app (C7.app ?_ ?_) (D0q _)
 ·exact (C7.one (O4 _)).app (C7.one (O4 _))
 ·split
  ·exact X2 _
  grind
theorem D0n(m:Md):C7 (mdT m):=by
 have w:∀ s,C7 [A2 s]:=fun s=>C7.one (O4 s);unfold mdT;exact (((((w _).app (X2 _)).app (B6j _)).app (w _)).app (C7.flat fun x _=>D0o x)).app (w _)
theorem C1q(r:Ru):C7 (ruT r):=by
 unfold ruT;split
 ·exact C7.one A4l
 ·exact (C7.flat fun x _=>D0p x).app (C7.flat fun x _=>D0n x)
section
variable {L:List Tok} {E:Int}
theorem B5x{s:List UInt8}(h:D0 s=true):s.length<=12:=by
 unfold D0 at h
 grind
theorem A0j(hG:∀ t∈L,F8 t){s:Rd}:(A8 L E s 1).1.text.length<=12:=by
 cases h:H7 L E s 1 with
 |false=>unfold A8;rw[if_pos h];exact A0O _
 |true =>
  unfold A8;rw[if_neg (by grind)];exact B5x ((hG _ (H5 (by simp) (G1 h).2).1).1 (G1 h).2)
theorem C3l(hG:∀ t∈L,F8 t){s:Rd}:(A8 L E s 4).1.text.length<=32:=by
 cases h:H7 L E s 4 with
 |false=>unfold A8;rw[if_pos h];exact A0O _
 |true =>
  unfold A8;rw[if_neg (by rw[h];decide)];have:=(hG _ (H5 (by decide) (G1 h).2).1).2.2 (G1 h).2;unfold Q6 at this
  grind
theorem C4b(hG:∀ t∈L,F8 t){s:Rd}:(H4 L E s).1.sz+13 * s.i<=13 * (H4 L E s).2.i+1:=by
 have hge:=B5o (L:=L) (E:=E) (s:=s);have h2:(C2 L E { s with ops:=s.ops+1 } (s.ops+1) 32 9).i=s.i:=F0;unfold H4 at hge ⊢;dsimp only at hge ⊢;split
 ·rename_i hc;rw[if_pos hc]at hge;show 1+0+0+_<=_;omega
 ·rename_i hc;rw[if_neg hc]at hge;split
  ·show 1+0+0+13 * s.i<=13 * (C2 L E { s with ops:=s.ops+1 } (s.ops+1) 32 9).i+1;omega
  ·have h3:(A7 (C2 L E { s with ops:=s.ops+1 } (s.ops+1) 32 9)).i=s.i+1:=by show (C2 L E { s with ops:=s.ops+1 } (s.ops+1) 32 9).i+1=_;omega
   generalize A7 (C2 L E { s with ops:=s.ops+1 } (s.ops+1) 32 9)=s3 at h3;have h4:=G7 (L:=L) (E:=E) (s:=s3) (x:=1);have h5:=A0j (L:=L) (E:=E) hG (s:=s3);split
   ·split
    ·show 1+(A8 L E s3 1).1.text.length+0+13 * s.i<=13 * (A8 L E s3 1).2.i+1;omega
    ·show 1+0+0+13 * s.i<=13 * s3.i+1;omega
   ·rename_i hk;split
    ·show 1+0+0+13 * s.i<=13 * s3.i+1;omega
    ·rename_i hk3;have h1k:H7 L E s 1=true:=by
      cases hz:H7 L E s 1 with
      |true=>rfl
      |false =>
       refine absurd ⟨by omega,?_,hz⟩ hc;cases hy:H7 L E s 3 with
       |false=>rfl
       |true=>exact absurd (G1 hy).2 hk3
     have:=B5x ((hG _ (H5 (by simp) (G1 h1k).2).1).1 (G1 h1k).2);show 1+(B1 L E s).text.length+0+13 * s.i<=13 * s3.i+1;omega
theorem EZ.all(hG:∀ t∈L,F8 t):∀ f:Nat,(∀ n s r,I4 L E f n s=some r->r.1.sz+13 * s.i<=13 * r.2.i+1)/\(∀ n e s r,Q4 L E f n e s=some r->r.1.sz+13 * s.i<=13 * r.2.i+e.sz)/\(∀ s r,U1 L E f s=some r->r.1.sz+13 * s.i<=13 * r.2.i+1)
 |0=>⟨fun n s r h=>by trivial,fun n e s r h=>by trivial,fun s r h=>by trivial⟩
 |f+1=>by
  obtain⟨i1,i2,i3⟩:=EZ.all hG f;refine⟨fun n s r h=>?_,fun n e s r h=>?_,fun s r h=>?_⟩
  ·unfold I4 at h
   grind
  ·unfold Q4 at h;dsimp only at h;split at h
   ·grind
   ·split at h
    ·grind
    ·rename_i x s1 hb;have h1:=i1 _ _ _ hb;have h1:x.sz+13 * (s.i+1)<=13 * s1.i+1:=h1;have h3:(Ex.mk (12+B5 L E s C9) 0 [] [e,x] (B1 L E s).pos).sz=1+e.sz+x.sz:=by rw[Ex.sz,Ex.szs,Ex.szs,Ex.szs];simp;omega
     grind
  ·unfold U1 at h;dsimp only at h;split at h
   ·cases h;exact C4b hG
   ·split at h
    ·cases h;show 1+0+0+13 * s.i<=13 * (C2 L E s (s.par+1) 16 50).i+1;rw[F0];omega
    ·rename_i hl;have hl:okR (C2 L E s (s.par+1) 16 50)=true:=by grind
     obtain⟨-, -,h3⟩:=F4 (by simp) hl;rw[h3]at h;split at h
     ·split at h
      ·grind
      ·rename_i e s3 hb;cases h;have h1:=i1 _ _ _ hb;have h1:e.sz+13 * (s.i+1)<=13 * s3.i+1:=h1;have h2:=E1 (L:=L) (E:=E) (s:=s3) (x:=[41])
       grind
     ·split at h
      ·grind
      ·rename_i e s3 hb;cases h;have h1:=i3 _ _ hb;have h1:e.sz+13 * (s.i+1)<=13 * s3.i+1:=h1;have h4:(Ex.mk (10+B5 L E s M5) 0 [] [e] (B1 L E s).pos).sz=1+e.sz:=by rw[Ex.sz,Ex.szs,Ex.szs];simp
       grind
theorem Y3(hG:∀ t∈L,F8 t){f:Nat}{s:Rd}{r:Ex × Rd}(h:N8 L E f s=some r):r.1.sz+13 * s.i<=13 * r.2.i+1:=(EZ.all hG f).1 1 { s with ops:=0,par:=0 } r h
theorem A4h(k p:Int)(n t:List UInt8)(a:List Ex)(x y:List St):(St.mk k n t a x y p).sz=1+n.length+t.length+Ex.szs a+St.szs x+St.szs y:=by rfl
theorem C3n(hG:∀ t∈L,F8 t){f:Nat}{k p:Int}{s:Rd}{r:St × Rd}(h:K2 L E f k p s=some r):r.1.sz+100 * s.i<=100 * r.2.i+40:=by
 have t1:=A0j (L:=L) (E:=E) hG (s:=s);have t4:=C3l (L:=L) (E:=E) hG (s:=s);have g1:=G7 (L:=L) (E:=E) (s:=s) (x:=1);have g4:=G7 (L:=L) (E:=E) (s:=s) (x:=4);unfold K2 at h;dsimp only at h;split at h
 ·split at h
  ·grind
  ·rename_i e s1 he;cases h;have h1:=Y3 hG he;have h2:=E1 (L:=L) (E:=E) (s:=s1) (x:=[59]);rw[A4h,Ex.szs,Ex.szs,St.szs]
   grind
 split at h
 ·split at h
  ·grind
  ·rename_i e s1 he;cases h;have h1:=Y3 hG he;have h2:=E1 (L:=L) (E:=E) (s:=s1) (x:=[59]);have h3:=E1 (L:=L) (E:=E) (s:=(A8 L E s 4).2) (x:=[44]);rw[A4h,Ex.szs,Ex.szs,St.szs]
   grind
 split at h
 ·cases h;have h2:=E1 (L:=L) (E:=E) (s:=s) (x:=[59]);rw[A4h,Ex.szs,St.szs]
  grind
 split at h
 ·split at h
  ·grind
  ·rename_i e s1 he;have h1:=Y3 hG he;split at h
   ·split at h
    ·grind
    ·rename_i e2 s2 he2;cases h;have h4:=Y3 hG he2;have h2:=E1 (L:=L) (E:=E) (s:=s2) (x:=[59]);have h3:=E1 (L:=L) (E:=E) (s:=s1) (x:=[44]);rw[A4h,Ex.szs,Ex.szs,Ex.szs,St.szs]
     grind
   ·cases h;have h2:=E1 (L:=L) (E:=E) (s:=s1) (x:=[59]);rw[A4h,Ex.szs,Ex.szs,St.szs]
    grind
 ·cases h;have h2:=E1 (L:=L) (E:=E) (s:=(A8 L E s 1).2) (x:=[59]);rw[A4h,Ex.szs,St.szs]
  grind
theorem B5a:∀ (l:List St) (x:St),St.szs (l++[x])=St.szs l+x.sz
 |[],x=>by simp[St.szs]
 |a :: l,x=>by rw[List.cons_append,St.szs,St.szs,B5a l x];omega
theorem SZ.all(hG:∀ t∈L,F8 t):∀ f:Nat,(∀ d s r,M4 L E f d s=some r->St.szs r.1+100 * s.i<=100 * r.2.i+40) /\
  (∀ d l s r,R9 L E f d l s=some r->St.szs r.1+100 * s.i<=100 * r.2.i+St.szs l+40/\(okR s=false->St.szs r.1<=St.szs l)) /\
  (∀ d s r,S1 L E f d s=some r->r.1.sz+100 * s.i<=100 * r.2.i+40/\(r.1.sz+100 * s.i<=100 * r.2.i\/okR r.2=false/\r.1.sz<=40)/\s.i<=r.2.i) /\
  (∀ d s r,R6 L E f d s=some r->St.szs r.1+100 * s.i<=100 * r.2.i+40)
 |0=>⟨fun d s r h=>by trivial,fun d l s r h=>by trivial,fun d s r h=>by trivial,fun d s r h=>by trivial⟩
 |f+1=>by
  obtain⟨i1,i2,i3,i4⟩:=SZ.all hG f;refine⟨fun d s r h=>?_,fun d l s r h=>?_,fun d s r h=>?_,fun d s r h=>?_⟩
  ·unfold M4 at h;have h1:=(i2 _ _ _ _ h).1;have h2:=E1 (L:=L) (E:=E) (s:=s) (x:=[123]);rw[St.szs]at h1;omega
  ·unfold R9 at h;split at h
   ·rename_i hc;refine⟨?_,fun h0=>by grind⟩;split at h
    ·cases h;show St.szs []+100 * s.i<=100 * (K3 L E s).i+St.szs l+40;rw[Q0,St.szs];omega
    ·split at h
     ·grind
     ·rename_i x s1 he;obtain⟨h1,h2⟩:=i2 _ _ _ _ h;obtain⟨h3,h4,h5⟩:=i3 _ _ _ he;rw[F0]at h3 h4 h5;rw[B5a]at h1 h2;dsimp only at h3 h4 h5;rcases h4 with h4|⟨h4,h6⟩
      ·omega
      ·have h7:=h2 h4;have h8:s1.i<=r.2.i:=by
        obtain⟨N,hN⟩:=(ST.all (L:=L) (E:=E) _).2 d (l++[x]) s1 (A0G _);obtain⟨⟨M,hM⟩,hg⟩:=hN;have h9:okR s1=false:=h4;have hfr:V9 L E d (l++[x]) s1 (l++[x],D4 L E s1 [125]):=V9.stop (by grind);cases f with
        |zero=>trivial
        |succ f =>
         rw[R9,if_neg (by grind)]at h;cases h;exact E1
       omega
   ·rename_i hc;cases h;have h2:=E1 (L:=L) (E:=E) (s:=s) (x:=[125])
    grind
  ·have hst:=(ST.all (L:=L) (E:=E) (L.length-s.i)).1 d s (A0G _);unfold S1 at h;dsimp only at h;split at h
   ·rename_i hl;cases h;have e1:St0.sz=1:=by rfl
    refine⟨?_,.inr ⟨hl,by grind⟩,?_⟩
    ·show St0.sz+100 * s.i<=100 * (C2 L E s d 8 50).i+40;rw[F0];omega
    ·show s.i<=(C2 L E s d 8 50).i;rw[F0];omega
   rename_i hl;have hl:okR (C2 L E s d 8 50)=true:=by grind
   obtain⟨hs,hd,hle⟩:=F4 (by simp) hl;rw[hle]at h;split at h
   ·split at h
    ·grind
    ·rename_i e s1 he;cases h;have h1:=Y3 hG he;have h2:=E1 (L:=L) (E:=E) (s:=s1) (x:=[59]);have h3:=E1 (L:=L) (E:=E) (s:=(A8 L E s 1).2) (x:=[61]);have h4:=G7 (L:=L) (E:=E) (s:=s) (x:=1);have h5:=A0j (L:=L) (E:=E) hG (s:=s);have hsz:(St.mk 1 (A8 L E s 1).1.text [] [e] [] [] (B1 L E s).pos).sz=1+(A8 L E s 1).1.text.length+e.sz:=by
      rfl
     rw[hsz];dsimp only at h1 ⊢;refine⟨by omega,?_,by omega⟩;by_cases ht:H7 L E s 1=true
     ·have h6:(A8 L E s 1).2.i=s.i+1:=by unfold A8;rw[if_neg (by rw[ht];decide)];rfl
      omega
     ·have ht:H7 L E s 1=false:=by grind
      have h6:(A8 L E s 1).2=K3 L E s:=by unfold A8;grind
      by_cases hp:1<=(D4 L E s1 [59]).i-s.i
      ·omega
      ·refine .inr ⟨?_,by omega⟩;cases hz:okR (D4 L E s1 [59]) with
       |false=>rfl
       |true =>
        have h7:=(B0c hz).2;have h8:(D4 L E s1 [59]).i=s1.i+1:=by rw[h7];rfl
        omega
   ·rename_i hk;obtain⟨-,hi, -,hk18⟩:=F6 (show 0<=B5 L E s B4 by omega);have hn:(A7 s).i=s.i+1:=rfl;split at h
    ·split at h
     ·grind
     ·rename_i e s2 he;split at h
      ·grind
      ·rename_i t s3 ht;have h1:=Y3 hG he;have h2:=i1 _ _ _ ht;rw[hn]at h1;dsimp only at h1 h2;split at h
       ·split at h
        ·grind
        ·rename_i o s4 ho;cases h;have h3:=i4 _ _ _ ho;have h3:St.szs o+100 * (s3.i+1)<=100 * s4.i+40:=h3;have hsz:(St.mk 2 [] [] [e] t o (B1 L E s).pos).sz=1+e.sz+St.szs t+St.szs o:=by
          rw[A4h,Ex.szs,Ex.szs];simp
         grind
       ·cases h;have hsz:(St.mk (2+B5 L E s B4) [] [] [e] t [] (B1 L E s).pos).sz=1+e.sz+St.szs t:=by
         rw[A4h,Ex.szs,Ex.szs,St.szs];simp
        grind
    ·have h1:=C3n hG h;omega
  ·unfold R6 at h;split at h
   ·split at h
    ·cases h
    ·rename_i x s1 he;cases h;have h1:=(i3 _ _ _ he).1;rw[St.szs,St.szs];dsimp only at h1 ⊢;omega
   grind
end
section
variable {L:List Tok} {E:Int}
theorem D1b(hG:∀ t∈L,F8 t){k:Int}{s:Rd}:(P4 L E k s).1.sz<=13:=by
 have h:=A0j (L:=L) (E:=E) hG (s:=A7 s);unfold P4 Dc.sz
 grind
theorem A9h{α : Type}(f : α -> Nat)(l:List α)(x : α):((l++[x]).map f).sum=(l.map f).sum+f x:=by simp
theorem C0t(hG:∀ t∈L,F8 t):∀ (f:Nat) (l:List Hd) (s:Rd) (r:List Hd × Rd),W8 L E f l s=some r->(r.1.map Hd.sz).sum+100 * s.i<=100 * r.2.i+(l.map Hd.sz).sum
 |0,l,s,r,h=>by trivial
 |f+1,l,s,r,h=>by
  unfold W8 at h;dsimp only at h;split at h
  ·split at h
   ·cases h;show (l.map Hd.sz).sum+100 * s.i<=100 * (K3 L E s).i+_;rw[Q0];omega
   ·have h1:(C2 L E s ((l.length:Int)+1) 32 9).i=s.i:=F0;generalize C2 L E s ((l.length:Int)+1) 32 9=s1 at h h1;split at h
    ·cases h;have h2:=E1 (L:=L) (E:=E) (s:=s1) (x:=[111,110]);show (l.map Hd.sz).sum+100 * s.i<=100 * (K3 L E (D4 L E s1 [111,110])).i+_;rw[Q0];omega
    ·rename_i hk;obtain⟨hok,hi, -⟩:=F6 (show 0<=B5 L E (D4 L E s1 [111,110]) E3 by omega);have h3:(D4 L E s1 [111,110]).i=s1.i+1:=by rw[(B0c hok).2];rfl
     generalize D4 L E s1 [111,110]=s2 at h hk h3;have h4:=G7 (L:=L) (E:=E) (s:=A7 s2) (x:=1);have h5:=A0j (L:=L) (E:=E) hG (s:=A7 s2);have h6:(A7 s2).i=s2.i+1:=rfl;split at h
     ·grind
     ·rename_i b s5 hb;have h7:=(SZ.all hG f).1 _ _ _ hb;have h8:=C0t hG f _ _ _ h;rw[A9h]at h8;have h9:s2.i+1<=(if 2<=B5 L E s2 E3 then (A8 L E (A7 s2) 1).2 else A7 s2).i:=by
       split
       ·omega
       ·omega
      have h10:(if 2<=B5 L E s2 E3 then (A8 L E (A7 s2) 1).1.text else []).length<=12:=by
       split
       ·exact h5
       ·exact A0O _
      have h11:Hd.sz ⟨1+B5 L E s2 E3,if 2<=B5 L E s2 E3 then (A8 L E (A7 s2) 1).1.text else [],b,(B1 L E s1).pos⟩<=13+St.szs b:=by
       unfold Hd.sz;dsimp only;omega
      grind
  ·cases h;have h2:=E1 (L:=L) (E:=E) (s:=s) (x:=[125])
   grind
theorem C9u(hG:∀ t∈L,F8 t){f:Nat}{s:Rd}{r:Md × Rd}(h:A2n L E f s=some r)(hm:isR L E s [109,111,100,101]=true):r.1.sz+100 * s.i<=100 * r.2.i:=by
 unfold A2n at h;dsimp only at h;split at h
 ·grind
 ·rename_i l s3 hml;cases h;have h1:=C0t hG _ _ _ _ hml;have h2:(D4 L E s [109,111,100,101]).i=s.i+1:=by unfold D4;rw[if_neg (by rw[hm];decide)];rfl
  generalize D4 L E s [109,111,100,101]=s1 at h1 h2 ⊢;have h3:=A0j (L:=L) (E:=E) hG (s:=s1);have h4:=G7 (L:=L) (E:=E) (s:=s1) (x:=1);have h5:=G7 (L:=L) (E:=E) (s:=(A8 L E s1 1).2) (x:=3);have h6:=E1 (L:=L) (E:=E) (s:=(A8 L E (A8 L E s1 1).2 3).2) (x:=[123]);unfold Md.sz
  grind
theorem B3e(hG:∀ t∈L,F8 t):∀ (f:Nat) (l:List Dc) (s:Rd) (r:List Dc × Rd),U2 L E f l s=some r->(r.1.map Dc.sz).sum+100 * s.i<=100 * r.2.i+(l.map Dc.sz).sum
 |0,l,s,r,h=>by trivial
 |f+1,l,s,r,h=>by
  unfold U2 at h;dsimp only at h;split at h
  ·grind
  ·have h1:(C2 L E s ((l.length:Int)+1) 128 9).i=s.i:=F0;split at h
   ·have h2:=B3e hG f _ _ _ h;rw[A9h]at h2;have h3:=D1b (L:=L) (E:=E) hG (k:=B5 L E s D6) (s:=C2 L E s ((l.length:Int)+1) 128 9);have h4:=C2k (L:=L) (E:=E) (k:=B5 L E s D6) (s:=C2 L E s ((l.length:Int)+1) 128 9);omega
   ·have h2:=B3e hG f _ _ _ h;omega
theorem B3d(hG:∀ t∈L,F8 t):∀ (f:Nat) (l:List Md) (s:Rd) (r:List Md × Rd),T1 L E f l s=some r->(r.1.map Md.sz).sum+100 * s.i<=100 * r.2.i+(l.map Md.sz).sum
 |0,l,s,r,h=>by trivial
 |f+1,l,s,r,h=>by
  unfold T1 at h;dsimp only at h;split at h
  ·split at h
   ·cases h;show (l.map Md.sz).sum+100 * s.i<=100 * (K3 L E s).i+_;rw[Q0];omega
   ·rename_i hm;have hm:isR L E s [109,111,100,101]=true:=by simpa using hm
    split at h
    ·rename_i hl;have e0:=(F4 (by decide) hl).2.2;rw[e0]at h;split at h
     ·cases h
     ·rename_i m s2 hmd;have h1:=C9u hG hmd hm;have h2:=B3d hG f _ _ _ h;rw[A9h]at h2;dsimp only at h1;omega
    ·have h1:(C2 L E s ((l.length:Int)+1) 16 9).i=s.i:=F0;have h2:=B3d hG f _ _ _ h;omega
  grind
theorem C8h(hG:∀ t∈L,F8 t){f:Nat}{s:Rd}{r:Ru × Rd}(h:A6h L E f s=some r)(hi:s.i<=L.length):r.1.sz<=100 * L.length:=by
 unfold A6h at h;split at h
 ·grind
 ·rename_i d s1 hd;split at h
  ·grind
  ·rename_i m s2 hm;cases h;have h1:=B3e hG _ _ _ _ hd;have h2:=B3d hG _ _ _ _ hm;have h3:=B9t _ _ _ _ hm (B9u _ _ _ _ hd hi);unfold Ru.sz
   grind
end
theorem B5i{L:List Tok}{E:Int}(hG:∀ t∈L,F8 t):(V6 L E).1.sz<=100 * L.length:=by
 obtain⟨f,hf⟩:=(A6i L E).get;exact C8h hG hf (A0O _)
theorem B4u{L:List Tok}{E:Int}(hG:∀ t∈L,F8 t):(P8 L E).1.sz<=13 * L.length+1:=by
 obtain⟨f,hf⟩:=(A5x L E).get;have h1:=Y3 hG hf;have h2:=M0 hf (show rd0.i<=L.length from A0O _);omega
theorem C4h(s:List UInt8):(Z4 s).1.sz<=2000000:=by
 unfold Z4;dsimp only;split
 ·show 0+0<=_;omega
 ·rename_i h;have h:(C3 s).2.2=0:=by omega
  have h1:=A5k h;split
  ·show 0+0<=_;omega
  ·have:=B5i (E:=s.length) (A6f h)
   grind
theorem B5q(s:List UInt8):(A9l s).1.sz<=300000:=by
 have e0:Ex0.sz=1:=by rfl
 unfold A9l;dsimp only;split
 ·grind
 ·rename_i h;have h:(C3 s).2.2=0:=by simpa using h
  have h1:=A5k h;have h2:=B4u (E:=s.length) (A6f h)
  grind
mutual
theorem Ex.plain_sz:∀ e:Ex,e.plain.sz=e.sz
 |.mk k v n a p=>by rw[Ex.plain,Ex.sz,Ex.sz,Ex.plains_sz a]
theorem Ex.plains_sz:∀ l:List Ex,Ex.szs (Ex.plains l)=Ex.szs l
 |[]=>rfl
 |e :: l=>by rw[Ex.plains,Ex.szs,Ex.szs,Ex.plain_sz e,Ex.plains_sz l]
end
mutual
theorem St.plain_sz:∀ e:St,e.plain.sz=e.sz
 |.mk k n t a x y p=>by rw[St.plain,St.sz,St.sz,Ex.plains_sz a,St.plains_sz x,St.plains_sz y]
theorem St.plains_sz:∀ l:List St,St.szs (St.plains l)=St.szs l
 |[]=>rfl
 |e :: l=>by rw[St.plains,St.szs,St.szs,St.plain_sz e,St.plains_sz l]
end
theorem Md.plain_sz(m:Md):m.plain.sz=m.sz:=by
 unfold Md.sz Md.plain;dsimp only;rw[A2E]
 congr 2
 refine A3O fun h _=>?_;show Hd.sz h.plain=Hd.sz h;unfold Hd.sz Hd.plain;dsimp only;rw[St.plains_sz]
theorem Ru.plain_sz(r:Ru):r.plain.sz=r.sz:=by
 unfold Ru.sz Ru.plain;dsimp only;rw[A2E,A2E]
 congr 2
 exact A3O fun m _=>Md.plain_sz m
def B6x(r:Ru):Bool:=okR (V6 (ruT r) 0).2 && @decide ((V6 (ruT r) 0).1.plain=r.plain) (Classical.propDecidable _)
def A7y(e:Ex):Bool:=okR (P8 (exT e) 0).2 && (decide ((P8 (exT e) 0).2.i=(exT e).length) && A3b true (P8 (exT e) 0).1 e)
def O6(t:Tok):Bool:=t.kind == 5 || t.kind == 2
def ixA:Nat->List (List UInt8)->List UInt8->Int
 |_,[],_ => -1
 |k,t :: l,x=>if x == t then (k:Int) else ixA (k+1) l x
def amT(t:Tok)(l:List (List UInt8)):Int:=if O6 t=true then ixA 0 l t.text else -1
def hd0(E:Int)(ts:List Tok):Tok:=ts.headD ⟨0,[],0,E⟩
def Y9(t:Tok):Int:=if amT t C9<0 then 0 else B0 (12+amT t C9)
abbrev lvo(E:Int)(ts:List Tok):Int:=Y9 (hd0 E ts)
section
variable {L:List Tok} {E:Int}
theorem A5m(s:Rd):B1 L E s=hd0 E (L.drop s.i):=by
 unfold B1 hd0;simp
theorem B9{s:Rd}{t:Tok}{ts:List Tok}(h:L.drop s.i=t :: ts):B1 L E s=t:=by rw[A5m,h];rfl
theorem E5{s:Rd}{t:Tok}{ts:List Tok}(h:L.drop s.i=t :: ts):L.drop (s.i+1)=ts:=by
 rw[<- A3E,h];rfl
theorem F5{i:Nat}{a b:List Tok}(h:L.drop i=a++b):L.drop (i+a.length)=b:=by
 rw[<- A3E,h,List.drop_left]
theorem C7e{s:Rd}(hok:okR s=true):∀ (l:List (List UInt8)) (k:Nat),Y6 L E s k l=if O6 (B1 L E s)=true then ixA k l (B1 L E s).text else -1
 |[],k=>by simp[Y6,ixA]
 |t :: l,k=>by
  have ih:=C7e hok l (k+1);have hi:isR L E s t=(O6 (B1 L E s) && (B1 L E s).text == t):=by unfold isR O6;rw[hok,A1S]
  rw[Y6,ixA,ih,hi]
  grind
theorem R0{s:Rd}(hok:okR s=true)(l:List (List UInt8)):B5 L E s l=amT (B1 L E s) l:=C7e hok l 0
theorem A0y{s:Rd}(hok:okR s=true)(t:List UInt8):isR L E s t=(O6 (B1 L E s) && (B1 L E s).text == t):=by unfold isR O6;grind
theorem A8l{s:Rd}(hok:okR s=true)(k:Int):H7 L E s k=((B1 L E s).kind == k):=by unfold H7;grind
theorem C7a{s:Rd}{t:List UInt8}(hok:okR s=true)(h1:O6 (B1 L E s)=true)(h2:(B1 L E s).text=t):D4 L E s t=A7 s:=by
 unfold D4;rw[A0y hok,h1,h2,if_neg (by simp)]
theorem A9g{s:Rd}{k:Int}(hok:okR s=true)(h1:(B1 L E s).kind=k):A8 L E s k=(B1 L E s,A7 s):=by
 unfold A8;rw[A8l hok,if_neg (by grind)]
def adv(s:Rd)(k:Nat)(o:Nat):Rd:={ s with i:=s.i+k,ops:=s.ops+(o:Int) }
theorem A0g{s:Rd}{k o:Nat}(h:okR s=true):okR (adv s k o)=true:=h
theorem T6{n:Int}{e:Ex}{s:Rd}(hok:okR s=true)(hn:1<=n)(h:lvo E (L.drop s.i)≠n):Lop L E n e s (e,s):=by
 refine Lop.stop ?_;rw[R0 hok,A5m];unfold lvo Y9 at h;omega
theorem A7h{s s1:Rd}{e:Ex}(hok:okR s1=true):∀ (j:Nat) {m n:Int} {r:Ex × Rd},m-n<=j->Bin L E m s (e,s1)->1<=n->n<m->m<=6->lvo E (L.drop s1.i)<=n->Lop L E n e s1 r->Bin L E n s r
 |0,m,n,r,hj,h,h1,h2,h3,h4,hr=>by omega
 |j+1,m,n,r,hj,h,h1,h2,h3,h4,hr=>by
  by_cases he:n+1=m
  ·exact Bin.go (by omega) (by grind) hr
  ·refine Bin.go (by omega) ?_ hr;exact A7h hok j (m:=m) (n:=n+1) (by omega) h (by omega) (by omega) h3 (by omega) (T6 hok (by omega) (by omega))
theorem A8z{s s1:Rd}{e:Ex}{n:Int}{r:Ex × Rd}(hok:okR s1=true)(h:Un L E s (e,s1))(h1:1<=n)(h2:n<=5)(h4:lvo E (L.drop s1.i)<=n)(hr:Lop L E n e s1 r):Bin L E n s r :=
 A7h hok 6 (m:=6) (by omega) (Bin.un (by simp) h) h1 (by omega) (by omega) h4 hr
theorem C7p{s s1:Rd}{e:Ex}{n:Int}(hok:okR s1=true)(h:Un L E s (e,s1))(h1:1<=n)(h2:n<=5)(h4:lvo E (L.drop s1.i)<n):Bin L E n s (e,s1) :=
 A8z hok h h1 h2 (by omega) (T6 hok h1 (by omega))
theorem B6q{t:Tok}(l:List (List UInt8))(h:O6 t=false):amT t l = -1:=by unfold amT;grind
theorem C0h{s:Rd}{v:Int}{ts:List Tok}(hok:okR s=true)(h:L.drop s.i=⟨3,[],v,0⟩ :: ts)(ho:s.ops+1<=32):Un L E s (.mk 1 v [] [] 0,adv s 1 1):=by
 have hp:=B9 (E:=E) h;have ha:∀ l,B5 L E s l = -1:=fun l=>by rw[R0 hok,hp];exact B6q l rfl
 have h1:=Un.prim (L:=L) (E:=E) (s:=s) (by rw[ha];decide);have h2:H4 L E s=(.mk 1 v [] [] 0,adv s 1 1):=by
  unfold H4;dsimp only;rw[ha,hp,A8l hok,A8l hok,hp,if_neg (by simp),show C2 L E { s with ops:=s.ops+1 } (s.ops+1) 32 9 = { s with ops:=s.ops+1 } from if_neg (by omega),if_neg (by show ¬ okR s=false;rw[hok];decide),if_neg (by decide),if_pos rfl];rfl
 grind
theorem C0g{s:Rd}{n:List UInt8}{ts:List Tok}(hok:okR s=true)(h:L.drop s.i=⟨1,n,0,0⟩ :: ts)(ho:s.ops+1<=32):Un L E s (.mk 2 0 n [] 0,adv s 1 1):=by
 have hp:=B9 (E:=E) h;have ha:∀ l,B5 L E s l = -1:=fun l=>by rw[R0 hok,hp];exact B6q l rfl
 have h1:=Un.prim (L:=L) (E:=E) (s:=s) (by rw[ha];decide);have h2:H4 L E s=(.mk 2 0 n [] 0,adv s 1 1):=by
  unfold H4;dsimp only;rw[ha,hp,A8l hok,A8l hok,hp,if_neg (by simp),show C2 L E { s with ops:=s.ops+1 } (s.ops+1) 32 9 = { s with ops:=s.ops+1 } from if_neg (by omega),if_neg (by show ¬ okR s=false;rw[hok];decide),if_neg (by decide),if_neg (by show ¬ (1:Int)=3;decide)];rfl
 grind
theorem A0k{s:Rd}{w:List UInt8}{ts:List Tok}{j:Nat}(hok:okR s=true)(h:L.drop s.i=A2 w :: ts)(ho:s.ops+1<=32)(hj:j<4)(hi:amT (A2 w) O7=(j:Int))(hpre:amT (A2 w) M5<0):
  Un L E s (.mk (A3q.getD j 0) 0 [] [] 0,adv s 1 1):=by
 have hp:=B9 (E:=E) h;have h1:=Un.prim (L:=L) (E:=E) (s:=s) (by rw[R0 hok,hp];exact hpre);have ha:B5 L E s O7=(j:Int):=by rw[R0 hok,hp];exact hi
 have h2:H4 L E s=(.mk (A3q.getD j 0) 0 [] [] 0,adv s 1 1):=by
  unfold H4;dsimp only;rw[ha,hp,if_neg (by omega),show C2 L E { s with ops:=s.ops+1 } (s.ops+1) 32 9 = { s with ops:=s.ops+1 } from if_neg (by omega),if_neg (by show ¬ okR s=false;rw[hok];decide),if_pos (by omega),if_neg (by omega)];rfl
 grind
theorem A3p{s:Rd}{w n:List UInt8}{ts:List Tok}{j:Nat}(hok:okR s=true)(h:L.drop s.i=A2 w :: ⟨1,n,0,0⟩ :: ts)(ho:s.ops+1<=32)(hj4:4<=j)(hj:j<7)(hi:amT (A2 w) O7=(j:Int))(hpre:amT (A2 w) M5<0):
  Un L E s (.mk (A3q.getD j 0) 0 n [] 0,adv s 2 1):=by
 have hp:=B9 (E:=E) h;have hd:=E5 h;have h1:=Un.prim (L:=L) (E:=E) (s:=s) (by rw[R0 hok,hp];exact hpre);have ha:B5 L E s O7=(j:Int):=by rw[R0 hok,hp];exact hi
 have hp2:B1 L E (A7 { s with ops:=s.ops+1 })=⟨1,n,0,0⟩:=B9 hd;have ht:A8 L E (A7 { s with ops:=s.ops+1 }) 1=(⟨1,n,0,0⟩,A7 (A7 { s with ops:=s.ops+1 })):=by
  rw[A9g (show okR (A7 { s with ops:=s.ops+1 })=true from hok) (by rw[hp2]),hp2]
 have h2:H4 L E s=(.mk (A3q.getD j 0) 0 n [] 0,adv s 2 1):=by
  unfold H4;dsimp only;rw[ha,hp,if_neg (by omega),show C2 L E { s with ops:=s.ops+1 } (s.ops+1) 32 9 = { s with ops:=s.ops+1 } from if_neg (by omega),if_neg (by show ¬ okR s=false;rw[hok];decide),if_pos (by omega),if_pos (by omega),ht];rfl
 grind
def CE(L:List Tok)(E:Int)(e:Ex):Prop:=∀ o d,msM e=some (o,d)->∀ (s:Rd) (post:List Tok),L.drop s.i=exT e++post->okR s=true->s.ops+(o:Int)<=32->s.par+(d:Int)<=16 ->
 ∃ e',e'.plain=e.plain/\(6<=B0 e.kind->Un L E s (e',adv s (exT e).length o)) /\
  (∀ n,1<=n->n<=5->n<=B0 e.kind->lvo E post<=n->(n=3->lvo E post≠3)->∀ r,Lop L E n e' (adv s (exT e).length o) r->Bin L E n s r)
theorem D1j:amT (A2 [40]) M5=2:=by rfl
theorem C2w:amT (A2 [45]) M5=0:=by rfl
theorem C6d:amT (A2 [33]) M5=1:=by rfl
theorem B6d:Y9 (A2 [41])=0:=by rfl
theorem C3v:O6 (A2 [41])=true:=by rfl
theorem A1q{s:Rd}{n m e:Int}(h:n<=m):C2 L E s n m e=s:=if_neg (by omega)
theorem C6l{x:Ex}(hx:CE L E x){o d:Nat}(hm:msM x=some (o,d)){s:Rd}{post:List Tok}(h:L.drop s.i=[A2 [40]]++exT x++[A2 [41]]++post)(hok:okR s=true)(ho:s.ops+(o:Int)<=32)(hp:s.par+((d+1:Nat):Int)<=16):
  ∃ x',x'.plain=x.plain/\Un L E s (x',adv s ([A2 [40]]++exT x++[A2 [41]]).length o):=by
 have h0:L.drop s.i=A2 [40] :: (exT x++([A2 [41]]++post)):=by rw[h];simp
 have h1:=E5 h0;have hpk:=B9 (E:=E) h0;obtain⟨x',e1, -,e3⟩:=hx o d hm { s with i:=s.i+1,par:=s.par+1 } ([A2 [41]]++post) h1 hok ho (by show s.par+1+(d:Int)<=16;omega);have hd2:L.drop (s.i+1+(exT x).length)=A2 [41] :: post:=F5 h1;have hb:=e3 1 (by decide) (by decide) (by have:=S6 x.kind;omega) (by show Y9 (A2 [41])<=1;rw[B6d];decide) (fun h=>absurd h (by decide)) _ (T6 (show okR s=true from hok) (by decide) (by show Y9 (hd0 E (L.drop (s.i+1+(exT x).length)))≠1;rw[hd2];show Y9 (A2 [41])≠1;rw[B6d];decide));have hu:=Un.par (by rw[R0 hok,hpk];exact D1j) (by rw[A1q (by omega)];exact hok) hb;refine⟨x',e1,?_⟩;have hpk2:B1 L E (adv { s with i:=s.i+1,par:=s.par+1 } (exT x).length o)=A2 [41]:=B9 hd2;rw[C7a (show okR (adv { s with i:=s.i+1,par:=s.par+1 } (exT x).length o)=true from hok) (by rw[hpk2];exact C3v) (by rw[hpk2];rfl)]at hu;have e4:({ A7 (adv { s with i:=s.i+1,par:=s.par+1 } (exT x).length o) with par:=(A7 (adv { s with i:=s.i+1,par:=s.par+1 } (exT x).length o)).par-1 }:Rd)=adv s ([A2 [40]]++exT x++[A2 [41]]).length o:=by
  have a1:s.i+1+(exT x).length+1=s.i+([A2 [40]]++exT x++[A2 [41]]).length:=by simp;omega
  have a2:s.par+1-1=s.par:=by omega
  show Rd.mk (s.i+1+(exT x).length+1) s.e s.pos (s.ops+(o:Int)) (s.par+1-1)=Rd.mk (s.i+([A2 [40]]++exT x++[A2 [41]]).length) s.e s.pos (s.ops+(o:Int)) s.par;rw[a1,a2]
 grind
theorem A9n{x:Ex}(hx:CE L E x){o d:Nat}{least:Int}(hm:msM x=some (o,d)){s:Rd}{post:List Tok}(h:L.drop s.i=D9 (x.kind,exT x) least++post)(hok:okR s=true)(ho:s.ops+(o:Int)<=32)(hp:s.par+((if B0 x.kind<least then d+1 else d:Nat):Int)<=16)(h1:1<=least)(h6:least<=6)(hl:lvo E post<least):
  ∃ x',x'.plain=x.plain/\(least<=5->Bin L E least s (x',adv s (D9 (x.kind,exT x) least).length o))/\(least=6->Un L E s (x',adv s (D9 (x.kind,exT x) least).length o)):=by
 have hdp:=F5 h;unfold D9 at h hdp ⊢;dsimp only at h hdp ⊢;by_cases hlt:B0 x.kind<least
 ·rw[if_pos hlt]at h hp hdp ⊢;obtain⟨x',e1,e2⟩:=C6l hx hm h hok ho hp;exact⟨x',e1,fun h5=>C7p (A0g hok) e2 h1 h5 (by show lvo E (L.drop (s.i+_))<least;grind),fun _=>e2⟩
 ·rw[if_neg hlt]at h hp hdp ⊢;obtain⟨x',e1,e2,e3⟩:=hx o d hm s post h hok ho hp;refine⟨x',e1,fun h5=>?_,fun h=>e2 (by omega)⟩;refine e3 least h1 h5 (by omega) (by omega) (by omega) _ (T6 (A0g hok) h1 ?_);show lvo E (L.drop (s.i+_))≠least
  grind
theorem C4y{x:Ex}(hx:CE L E x){o d:Nat}{q:Int}(hm:msM x=some (o,d)){s:Rd}{post:List Tok}(h:L.drop s.i=D9 (x.kind,exT x) (if q=3 then 4 else q)++post)(hok:okR s=true)(ho:s.ops+(o:Int)<=32)(hp:s.par+((if B0 x.kind<(if q=3 then 4 else q) then d+1 else d:Nat):Int)<=16)(h1:1<=q)(h5:q<=5)(hl:lvo E post=q):
  ∃ x',x'.plain=x.plain/\∀ r,Lop L E q x' (adv s (D9 (x.kind,exT x) (if q=3 then 4 else q)).length o) r->Bin L E q s r:=by
 have hdp:=F5 h;by_cases h3:q=3
 ·subst h3;rw[if_pos rfl]at h hp hdp ⊢;obtain⟨x',e1,e2, -⟩:=A9n hx hm h hok ho hp (by simp) (by simp) (by omega);exact⟨x',e1,fun r hr=>Bin.go (by simp) (e2 (by simp)) hr⟩
 ·rw[if_neg h3]at h hp hdp ⊢;unfold D9 at h hdp ⊢;dsimp only at h hdp ⊢;by_cases hlt:B0 x.kind<q
  ·rw[if_pos hlt]at h hp hdp ⊢;obtain⟨x',e1,e2⟩:=C6l hx hm h hok ho hp;exact⟨x',e1,fun r hr=>A8z (A0g hok) e2 h1 h5 (by show lvo E (L.drop (s.i+_))<=q;grind) hr⟩
  ·rw[if_neg hlt]at h hp hdp ⊢;obtain⟨x',e1,e2,e3⟩:=hx o d hm s post h hok ho hp
   grind
theorem A6p{k v:Int}{n:List UInt8}{a:List Ex}{p:Int}{o d:Nat}(h:msM (.mk k v n a p)=some (o,d)):
  kOk k=true/\a.length=H8 k/\A1o k n=true/\A2a k v=true/\(H8 k=0->o=1/\d=0)/\(H8 k≠0->∃ d',msL k 0 a=some (o,d')/\d=if H8 k=1 then d'+1 else d'):=by
 unfold msM at h
 grind
theorem B9k:∀ j:Nat,j<13->amT (A2 (C9.getD j [])) C9=(j:Int)/\O6 (A2 (C9.getD j []))=true:=by trivial
theorem nm0{k:Int}{n:List UInt8}(h:A1o k n=true)(h2:k≠2)(h5:B1z k=false):n=[]:=by
 unfold A1o at h
 grind
theorem vl0{k v:Int}(h:A2a k v=true)(h1:k≠1):v=0:=by
 unfold A2a at h
 grind
theorem B6g{α : Type}{l:List α}(h:l.length=2):∃ x y,l=[x,y]:=by
 match l,h with
 |[x,y],_=>simp
theorem B2j:∀ (m:Nat) (e:Ex),e.sz<m->CE L E e:=by
 intro m
 induction m with
 |zero=>omega
 |succ m ih =>
 intro e hm o d hms s post h hok ho hp;cases e with|mk k v n a p =>
 obtain⟨h1,h2,h3,h4,h5,h6⟩:=A6p hms;have hlr:=S6 k
 have viaUn:∀ e':Ex,e'.plain=(Ex.mk k v n a p).plain->Un L E s (e',adv s (exT (.mk k v n a p)).length o) ->
   ∃ e',e'.plain=(Ex.mk k v n a p).plain/\(6<=B0 k->Un L E s (e',adv s (exT (.mk k v n a p)).length o)) /\
    (∀ n',1<=n'->n'<=5->n'<=B0 k->lvo E post<=n'->(n'=3->lvo E post≠3)->∀ r,Lop L E n' e' (adv s (exT (.mk k v n a p)).length o) r->Bin L E n' s r):=fun e' he hu =>
  ⟨e',he,fun _=>hu,fun n' q1 q2 _ q4 _ r hr=>A8z (A0g hok) hu q1 q2 (by show lvo E (L.drop (s.i+_))<=n';rw[F5 h];omega) hr⟩
 by_cases hc0:H8 k=0
 ·obtain⟨rfl,rfl⟩:=h5 hc0;have ha:a=[]:=A1N (by omega);subst ha;have hl7:B0 k=7:=by
   unfold H8 at hc0
   grind
  have hk9:1<=k/\k<=9:=by
   unfold kOk at h1;simp only[A0Z,A0E,A0J]at h1;have hk24:1<=k/\k<=24:=by omega
   refine⟨hk24.1,?_⟩;apply Classical.byContradiction;intro hc;unfold B0 at hl7;omega
  refine (show ∃ e',_ from ?_);have hT:exT (.mk k v n [] p)=I2 k v n []:=by rfl
  rw[hT]at h viaUn ⊢;have ho1:s.ops+1<=32:=ho;have:k=1\/k=2\/k=3\/k=4\/k=5\/k=6\/k=7\/k=8\/k=9:=by omega
  rcases this with rfl|rfl|rfl|rfl|rfl|rfl|rfl|rfl|rfl
  ·have hn:=nm0 h3 (by simp) (by rfl);subst hn;have hv:¬ (v<0\/2147483647<v):=by
    unfold A2a at h4
    grind
   have hb:I2 1 v [] []=[⟨3,[],v,0⟩]:=by unfold I2;dsimp only;rw[if_pos rfl];unfold Q2;grind
   rw[hb]at h viaUn ⊢;exact viaUn (.mk 1 v [] [] 0) rfl (C0h hok h ho1)
  ·have hv:=vl0 h4 (by simp);subst hv;have hn:D0 n=true:=h3;have hb:I2 2 0 n []=[⟨1,n,0,0⟩]:=by unfold I2;dsimp only;rw[if_neg (by decide),if_pos rfl];unfold C4;grind
   rw[hb]at h viaUn ⊢;exact viaUn (.mk 2 0 n [] 0) rfl (C0g hok h ho1)
  ·have hv:=vl0 h4 (by simp);have hn:=nm0 h3 (by simp) (by rfl);subst hv hn;have hb:I2 3 0 [] []=[A2 [116,114,117,101]]:=rfl;rw[hb]at h viaUn ⊢;exact viaUn (.mk 3 0 [] [] 0) rfl (A0k (j:=0) hok h ho1 (by simp) (by rfl) (by trivial))
  ·have hv:=vl0 h4 (by simp);have hn:=nm0 h3 (by simp) (by rfl);subst hv hn;have hb:I2 4 0 [] []=[A2 [102,97,108,115,101]]:=rfl;rw[hb]at h viaUn ⊢;exact viaUn (.mk 4 0 [] [] 0) rfl (A0k (j:=1) hok h ho1 (by simp) (by rfl) (by trivial))
  ·have hv:=vl0 h4 (by simp);subst hv;have hn:D0 n=true:=h3;have hb:I2 5 0 n []=[A2 [99,108,111,115,101,100],⟨1,n,0,0⟩]:=by
    show [A2 [99,108,111,115,101,100]]++C4 n=_;unfold C4;grind
   rw[hb]at h viaUn ⊢;exact viaUn (.mk 5 0 n [] 0) rfl (A3p (j:=4) hok h ho1 (by simp) (by simp) (by rfl) (by trivial))
  ·have hv:=vl0 h4 (by simp);subst hv;have hn:D0 n=true:=h3;have hb:I2 6 0 n []=[A2 [97,99,116,105,118,101],⟨1,n,0,0⟩]:=by
    show [A2 [97,99,116,105,118,101]]++C4 n=_;unfold C4;grind
   rw[hb]at h viaUn ⊢;exact viaUn (.mk 6 0 n [] 0) rfl (A3p (j:=5) hok h ho1 (by simp) (by simp) (by rfl) (by trivial))
  ·have hv:=vl0 h4 (by simp);subst hv;have hn:D0 n=true:=h3;have hb:I2 7 0 n []=[A2 [108,101,102,116],⟨1,n,0,0⟩]:=by
    show [A2 [108,101,102,116]]++C4 n=_;unfold C4;grind
   rw[hb]at h viaUn ⊢;exact viaUn (.mk 7 0 n [] 0) rfl (A3p (j:=6) hok h ho1 (by simp) (by simp) (by rfl) (by trivial))
  ·have hv:=vl0 h4 (by simp);have hn:=nm0 h3 (by simp) (by rfl);subst hv hn;have hb:I2 8 0 [] []=[A2 [112,108,97,121,101,114]]:=rfl;rw[hb]at h viaUn ⊢;exact viaUn (.mk 8 0 [] [] 0) rfl (A0k (j:=2) hok h ho1 (by simp) (by rfl) (by trivial))
  ·have hv:=vl0 h4 (by simp);have hn:=nm0 h3 (by simp) (by rfl);subst hv hn;have hb:I2 9 0 [] []=[A2 [98,97,108,108]]:=rfl;rw[hb]at h viaUn ⊢;exact viaUn (.mk 9 0 [] [] 0) rfl (A0k (j:=3) hok h ho1 (by simp) (by rfl) (by trivial))
 obtain⟨d',hl,hd'⟩:=h6 hc0;clear h5 h6;have hv:=vl0 h4 (by rintro rfl;trivial);have hn:=nm0 h3 (by rintro rfl;trivial) (by
  cases hz:B1z k with
  |false=>rfl
  |true =>
   unfold B1z at hz;simp only[A0Z,A1F]at hz;rcases hz with rfl|rfl|rfl<;>exact absurd rfl hc0)
 subst hv hn;by_cases hl6:B0 k=6
 ·
  have hk:k=10\/k=11:=by
   unfold B0 at hl6;omega
  have hc1:H8 k=1:=by unfold H8;grind
  rw[hc1]at h2 hd';rw[if_pos rfl]at hd';obtain⟨x,rfl⟩:∃ x,a=[x]:=List.length_eq_one_iff.1 h2;have hxc:=ih x (by rw[Ex.sz,Ex.szs,Ex.szs]at hm;omega);unfold msL at hl;cases hx:msM x with
  |none=>grind
  |some q =>
   obtain⟨o1,d1⟩:=q;rw[hx]at hl;dsimp only at hl;unfold msL at hl;dsimp only at hl;simp only[Option.some.injEq,Prod.mk.injEq,A2P,Nat.max_zero]at hl;obtain⟨rfl,hd1⟩:=hl;have hwr:V5 k x.kind 0=decide (B0 x.kind<6):=by
    unfold V5;rw[hl6];simp
   rw[hwr]at hd1;have hT:exT (.mk k 0 [] [x] p)=[A2 (if k=10 then [45] else [33])]++D9 (x.kind,exT x) 6:=by
    rw[exT,A7b,A7b];rcases hk with rfl|rfl<;>rfl
   rw[hT]at h viaUn ⊢;have h0:L.drop s.i=A2 (if k=10 then [45] else [33]) :: (D9 (x.kind,exT x) 6++post):=by rw[h];simp
   have hdn:=E5 h0;have hpk:=B9 (E:=E) h0;have ham:B5 L E s M5=k-10:=by
    rw[R0 hok,hpk];rcases hk with rfl|rfl
    ·exact C2w
    ·exact C6d
   have hlt6:lvo E post<6:=by
    unfold lvo Y9;split
    ·decide
    ·rename_i hz;have:=S6 (12+amT (hd0 E post) C9);have h13:amT (hd0 E post) C9<13:=by
      have gen:∀ (l:List (List UInt8)) (j:Nat) (w:List UInt8),ixA j l w<((j+l.length:Nat):Int):=by
       intro l
       induction l with
       |nil=>intro j w;simp[ixA];omega
       |cons a l ih =>
        intro j w;have:=ih (j+1) w;simp only[ixA,A0D];split<;>omega
      unfold amT;split
      ·exact gen C9 0 _
      ·decide
     exact C4x (by omega) h13
   obtain⟨x',e1, -,e3⟩:=A9n (least:=6) hxc hx (s:={ s with i:=s.i+1,par:=s.par+1 }) hdn hok ho (by
    show s.par+1+_<=16;have:((if B0 x.kind<6 then d1+1 else d1:Nat):Int)=(d':Int):=by
     rw[<- hd1];by_cases hz:B0 x.kind<6
     ·rw[if_pos hz,if_pos (by simpa using hz)]
     ·rw[if_neg hz,if_neg (by simpa using hz)]
    rw[this];omega) (by decide) (by decide) hlt6
   have hu:=Un.pre (L:=L) (E:=E) (s:=s) (by rw[ham];omega) (by rw[ham];omega) (by rw[A1q (by omega)];exact hok) (e3 rfl);rw[ham,hpk]at hu;have e4:({ adv { s with i:=s.i+1,par:=s.par+1 } (D9 (x.kind,exT x) 6).length o1 with par:=(adv { s with i:=s.i+1,par:=s.par+1 } (D9 (x.kind,exT x) 6).length o1).par-1 }:Rd)=adv s ([A2 (if k=10 then [45] else [33])]++D9 (x.kind,exT x) 6).length o1:=by
    have a1:s.i+1+(D9 (x.kind,exT x) 6).length=s.i+([A2 (if k=10 then [45] else [33])]++D9 (x.kind,exT x) 6).length:=by simp;omega
    have a2:s.par+1-1=s.par:=by omega
    show Rd.mk (s.i+1+(D9 (x.kind,exT x) 6).length) s.e s.pos (s.ops+(o1:Int)) (s.par+1-1)=Rd.mk (s.i+_) s.e s.pos (s.ops+(o1:Int)) s.par;rw[a1,a2]
   rw[e4]at hu;refine viaUn _ ?_ hu;rw[Ex.plain,Ex.plain,Ex.plains,Ex.plains,Ex.plains,Ex.plains,e1]
   grind
 ·
  have hl5:B0 k<=5:=by
   unfold H8 at hc0
   grind
  have hc2:H8 k=2:=by unfold H8;grind
  rw[hc2]at h2 hd';rw[if_neg (by simp)]at hd';subst hd';obtain⟨x,y,rfl⟩:∃ x y,a=[x,y]:=B6g h2;have hxc:=ih x (by rw[Ex.sz,Ex.szs,Ex.szs]at hm;omega);have hyc:=ih y (by rw[Ex.sz,Ex.szs,Ex.szs,Ex.szs]at hm;omega);unfold msL at hl;cases hx:msM x with
  |none=>grind
  |some q =>
   obtain⟨o1,d1⟩:=q;rw[hx]at hl;dsimp only at hl;unfold msL at hl;cases hy:msM y with
   |none=>grind
   |some q2 =>
    obtain⟨o2,d2⟩:=q2;rw[hy]at hl;dsimp only at hl;unfold msL at hl;dsimp only at hl;simp only[Option.some.injEq,Prod.mk.injEq,A2P,Nat.max_zero]at hl;obtain⟨rfl,hdd⟩:=hl;have hlk:=A9x (k:=k) (by omega);have hk12:12<=k:=by
     apply Classical.byContradiction;intro hc;have:k=10\/k=11:=by omega
     exact hl6 (A2q this)
    obtain⟨j,hj⟩:∃ j:Nat,k=12+(j:Int):=⟨(k-12).toNat,by omega⟩;have hj13:j<13:=by omega
    have hjn:(k-12).toNat=j:=by omega
    obtain⟨hs1,hs2⟩:=B9k j hj13;have hT:exT (.mk k 0 [] [x,y] p)=D9 (x.kind,exT x) (if B0 k=3 then 4 else B0 k)++[A2 (C9.getD j [])]++D9 (y.kind,exT y) (B0 k+1):=by
     rw[exT,A7b,A7b,A7b];unfold I2
     grind
    rw[hT]at h ⊢;generalize A2 (C9.getD j [])=sg at hs1 hs2 hT h ⊢;have hsl:Y9 sg=B0 k:=by unfold Y9;grind
    have hdx:((if B0 x.kind<(if B0 k=3 then 4 else B0 k) then d1+1 else d1:Nat):Int)<=(d:Int):=by
     have hwr:(V5 k x.kind 0=true)↔B0 x.kind<(if B0 k=3 then 4 else B0 k):=by
      unfold V5;simp only[A0Z,A0E,A0J,A1F];by_cases h3:B0 k=3
      ·rw[if_pos h3];omega
      ·rw[if_neg h3];omega
     grind
    have hdy:((if B0 y.kind<B0 k+1 then d2+1 else d2:Nat):Int)<=(d:Int):=by
     have hwr:(V5 k y.kind (0+1)=true)↔B0 y.kind<B0 k+1:=by
      unfold V5;rw[show ((0+1:Nat) == 1)=true from rfl,Bool.true_or,A1T];simp only[A0Z,A0J,A1F];omega
     grind
    have h0:L.drop s.i=D9 (x.kind,exT x) (if B0 k=3 then 4 else B0 k)++(sg :: (D9 (y.kind,exT y) (B0 k+1)++post)):=by grind
    obtain⟨x',e1,e2⟩:=C4y hxc hx h0 hok (by omega) (by omega) hlr.1 hl5 (by assumption);have hd1:=F5 h0;have hpk:B1 L E (adv s (D9 (x.kind,exT x) (if B0 k=3 then 4 else B0 k)).length o1)=sg:=B9 hd1;have hd2:=E5 (s:=adv s (D9 (x.kind,exT x) (if B0 k=3 then 4 else B0 k)).length o1) hd1;have ham:B5 L E (adv s (D9 (x.kind,exT x) (if B0 k=3 then 4 else B0 k)).length o1) C9=(j:Int):=by rw[R0 (A0g hok),hpk];omega
    have hfin:s.i+(D9 (x.kind,exT x) (if B0 k=3 then 4 else B0 k)).length+1+(D9 (y.kind,exT y) (B0 k+1)).length=s.i+(D9 (x.kind,exT x) (if B0 k=3 then 4 else B0 k)++[sg]++D9 (y.kind,exT y) (B0 k+1)).length:=by grind
    have hadv:adv (A7 (adv s (D9 (x.kind,exT x) (if B0 k=3 then 4 else B0 k)).length o1)) (D9 (y.kind,exT y) (B0 k+1)).length o2=adv s (D9 (x.kind,exT x) (if B0 k=3 then 4 else B0 k)++[sg]++D9 (y.kind,exT y) (B0 k+1)).length (o1+o2):=by
     have a2:s.ops+(o1:Int)+(o2:Int)=s.ops+((o1+o2:Nat):Int):=by omega
     show Rd.mk (s.i+_+1+_) s.e s.pos (s.ops+(o1:Int)+(o2:Int)) s.par=Rd.mk (s.i+_) s.e s.pos (s.ops+((o1+o2:Nat):Int)) s.par
     grind
    have hdr:=F5 h;have main:lvo E post<=B0 k->∃ y',y'.plain=y.plain/\Bin L E (B0 k+1) (A7 (adv s (D9 (x.kind,exT x) (if B0 k=3 then 4 else B0 k)).length o1)) (y',adv s (D9 (x.kind,exT x) (if B0 k=3 then 4 else B0 k)++[sg]++D9 (y.kind,exT y) (B0 k+1)).length (o1+o2)):=by
     intro hlv;obtain⟨y',f1,f2,f3⟩:=A9n (least:=B0 k+1) hyc hy (s:=A7 (adv s (D9 (x.kind,exT x) (if B0 k=3 then 4 else B0 k)).length o1)) hd2 hok (by show s.ops+(o1:Int)+(o2:Int)<=32;omega) (by show s.par+_<=16;omega) (by omega) (by omega) (by omega);rw[hadv]at f2 f3;refine⟨y',f1,?_⟩;by_cases h5':B0 k+1<=5
     ·grind
     ·exact Bin.un (by omega) (f3 (by omega))
    by_cases hlv:lvo E post<=B0 k
    ·obtain⟨y',f1,f2⟩:=main hlv;refine⟨.mk k 0 [] [x',y'] sg.pos,?_,fun h=>absurd h (by show ¬ 6<=B0 k;omega),?_⟩
     ·rw[Ex.plain,Ex.plain,Ex.plains,Ex.plains,Ex.plains,Ex.plains,Ex.plains,Ex.plains,e1,f1]
     ·intro n' q1 q2 q3 q4 q5 r hr;have q3:n'<=B0 k:=q3;have key:∀ r',Lop L E (B0 k) (.mk k 0 [] [x',y'] sg.pos) (adv s (D9 (x.kind,exT x) (if B0 k=3 then 4 else B0 k)++[sg]++D9 (y.kind,exT y) (B0 k+1)).length (o1+o2)) r'->(B0 k=3->lvo E post≠3)->Bin L E (B0 k) s r':=by
       intro r' hr' h33;refine e2 r' ?_;by_cases h3:B0 k=3
       ·have hst:=T6 (L:=L) (E:=E) (n:=B0 k) (e:=.mk k 0 [] [x',y'] sg.pos) (s:=adv s (D9 (x.kind,exT x) (if B0 k=3 then 4 else B0 k)++[sg]++D9 (y.kind,exT y) (B0 k+1)).length (o1+o2)) (A0g hok) hlr.1 (by show lvo E (L.drop (s.i+_))≠B0 k;rw[hdr,h3];exact h33 h3);have:=Evt.uniq hr' hst;rw[this];have ht:=Lop.three (L:=L) (E:=E) (n:=B0 k) (e:=x') (x:=y') (s:=adv s (D9 (x.kind,exT x) (if B0 k=3 then 4 else B0 k)).length o1) (by rw[ham];omega) (by rw[ham, <- hj]) h3 f2
        grind
       ·refine Lop.more (by rw[ham];omega) (by rw[ham, <- hj]) h3 f2 ?_
        grind
      by_cases hnq:n'=B0 k
      ·simp_all
      ·refine A7h (A0g hok) 6 (m:=B0 k) (by omega) (key _ (T6 (A0g hok) hlr.1 ?_) (by omega)) q1 (by omega) (by omega) ?_ hr
       ·show lvo E (L.drop (s.i+_))≠B0 k
        grind
       ·show lvo E (L.drop (s.i+_))<=n'
        grind
    ·refine⟨.mk k 0 [] [x,y] p,rfl,fun h=>absurd h (by show ¬ 6<=B0 k;omega),?_⟩;intro n' q1 q2 q3 q4 q5 r hr;have q3:n'<=B0 k:=q3;omega
theorem G9{e:Ex}(hv:L0 e=true){s:Rd}{post:List Tok}(h:L.drop s.i=exT e++post)(hok:okR s=true)(hl:lvo E post=0):
  ∃ e' s',e'.plain=e.plain/\Xpn L E s (e',s')/\s'.i=s.i+(exT e).length/\okR s'=true:=by
 unfold L0 at hv;cases hms:msM e with
 |none=>grind
 |some q =>
  obtain⟨o,d⟩:=q;rw[hms]at hv;simp only[A0E,A0J]at hv;obtain⟨e',e1, -,e3⟩:=B2j (L:=L) (E:=E) (e.sz+1) e (by omega) o d hms { s with ops:=0,par:=0 } post h hok (by grind) (by grind);refine⟨e',adv { s with ops:=0,par:=0 } (exT e).length o,e1,?_,rfl,hok⟩;refine e3 1 (by simp) (by simp) (S6 _).1 (by omega) (fun h=>absurd h (by simp)) _ (T6 (show okR s=true from hok) (by simp) ?_);show lvo E (L.drop (s.i+_))≠1;rw[F5 h];omega
end
end Go.Pb
end
