/-
  HELPERS of the claim: part 4 of its texts.
-/
import Derived.Test.YtenmhfknbopmeaaGreatDoorCmjc
import Derived.ReadAgain
import Derived.ChangeBears
import Derived.Deep.Slices
import Derived.Below
import Derived.OpenShut
import Derived.Lib.LaidTab
import Derived.Lib.ParseIntB
import Derived.Lib.Bytealg
import Derived.KernelRfl
import Derived.Lib.Join
noncomputable section
set_option linter.unusedVariables false
set_option linter.unusedSectionVars false
set_option linter.unusedSimpArgs false
namespace Go.Sym
variable [Go.Sym.Tab]
open Go.RowKit Go.Pb Go.Deep
section
variable {H:Type} {enc:TypeId × Value->H} {P:Program} {T:TypeId->Prop} {W W':World} {hT:TabOk W}
theorem arg_kept(K:Kids P T)(hz:∀ t e,T t->P.underlying t=some (.slice e)->0<P.cellsOf e)(hb:Below W.heap.size W W'){sp:Nat->Bool}:
  ∀ {ts:List TypeId} {vs:List Value} {ds:List (DataW H)} {ps:List MemPlace},(∀ t∈ts,T t)->DataW.TrodAll enc P W 0 (fun _=>true) true ts vs ds ps->(∀ p∈ps,sp p.block=true)->DataW.TrodAll enc P W' 0 sp true ts vs ds ps
 |[],[],[],_,_,h,_=>h
 |t :: ts,v :: vs,d :: ds,ps,hT,⟨p,q,h1,h2,e⟩,hs=>by
  have hlt:=h1;refine⟨p,q,?_,arg_kept K hz hb (fun t ht=>hT t (A1A.2 (Or.inr ht))) h2 (fun x hx=>hs x (by rw[e];exact List.mem_append_right _ hx)),e⟩;have h3:=h1.respare K hz (hT _ (A1A.2 (Or.inl rfl))) (spare':=sp) (fun x hx=>hs x (by rw[e];exact A2U _ hx));obtain⟨n,hn⟩:=h3;obtain⟨m,hm⟩:=h1;exact⟨n,DataW.trod_carry n _ _ _ hn fun x hx=>hb.same (DataW.trod_lt m _ _ _ hm x hx)⟩
theorem u8_of{n:Int}(h:(Lit.int .u8 n).wf=true):n=((UInt8.ofNat n.toNat).toNat:Int):=by
 have:=bounds_u8 h;simp;omega
theorem open_bytes{t e:TypeId}{v:Value}{d:DataW H}{ps:List MemPlace}(ht:P.underlying t=some (.slice e))(he:P.underlying e=some (.int .u8))(hc:P.cellsOf e=1)
  (h:DataW.Trod enc P W 0 (fun _=>true) true t v d ps) (hv:v.cells = #[v]):∃ l:List UInt8,l.length<=9223372036854775807/\VRel (topR W hT) (.lst (bytesC l)) v:=by
 obtain⟨n,hn⟩:=h;rcases open_slice1 ht hc hn with ⟨h1, -⟩|⟨a,len,cap,m,n',V,D,Pl,h1,h2,h3,h4,h5,h6,h7⟩
 ·rw[hv]at h1;have:v=.slice none 0 0:=by simpa using h1
  subst this;exact⟨[],by simp,.lnil0⟩
 ·rw[hv]at h1;have hva:v=.slice (some a) len cap:=by simpa using h1
  subst hva;simp only[if_true]at h5;have hk:∀ i,i<len->∃ k:Int,V i=.int .u8 k/\(Lit.int .u8 k).wf=true:=by
   intro i hi;obtain⟨k,q1,q2,q3⟩:=DataW.trod_int he (h7 i (by omega)).2;exact⟨k,by simpa using q1,q3⟩
  by_cases hl0:len=0
  ·subst hl0;exact⟨[],by simp,.lnil a cap⟩
  have hcell:=(h7 0 (by omega)).1;have hadd0:a.add 0=a:=by simp[Addr.add]
  rw[hadd0]at hcell;obtain⟨b,off,spot⟩:=a;have hspot:spot=none:=by
   simp only[World.cell?]at hcell;split at hcell
   ·split at hcell
    ·cases hcell
    ·rename_i h;cases spot with
     |none=>rfl
     |some s=>simp at h
   ·cases hcell
  subst hspot;have hrow:∃ row ty fr,W.heap[b]? = some (.cells row ty fr):=by
   simp only[World.cell?]at hcell;split at hcell
   ·rename_i row ty fr h;exact⟨row,ty,fr,h⟩
   ·cases hcell
  obtain⟨row,ty,fr,hb⟩:=hrow;have hget:∀ i,i<len->row[off+i]? = some (V i):=by
   intro i hi;have h8:=(h7 i (by omega)).1;have e1:(⟨b,off,none⟩:Addr).add i=⟨b,off+i,none⟩:=by
    unfold Addr.add;split
    ·rename_i h0;subst h0;rfl
    ·rfl
   rw[e1]at h8;simp only[World.cell?,hb]at h8;exact h8
  obtain⟨F,hF⟩:∃ F:Nat->UInt8, ∀ i,i<len->V i=.int .u8 ((F i).toNat:Int):=by
   have:∀ i, ∃ f:UInt8,i<len->V i=.int .u8 (f.toNat:Int):=fun i=>by
    by_cases hi:i<len
    ·obtain⟨k,q1,q2⟩:=hk i hi;exact⟨UInt8.ofNat k.toNat,fun _=>by rw[q1, <- u8_of q2]⟩
    ·exact⟨0,fun h=>absurd h hi⟩
   exact⟨fun i=>Classical.choose (this i),fun i hi=>Classical.choose_spec (this i) hi⟩
  refine⟨(List.range len).map F,by simp only[A0J,List.length_range];simp only[maxLen]at h4;omega,?_⟩;have hcl:cellsL (bytesC ((List.range len).map F))=bytesC ((List.range len).map F):=T2 (fun _=>rfl) _;have hlen:(bytesC ((List.range len).map F)).length=len:=by rw[A1g];simp
  refine .lst _ _ 1 b off cap row (B3d hb) hlen.symm h3 h4 (fun x hx=>by obtain⟨y, -,rfl⟩:=A1C.1 hx;rfl) ?_ ?_ ?_
  ·rw[hcl,hlen];have:=(A0M.1 (hget (len-1) (by omega))).1;omega
  ·rw[hcl];intro x hx;obtain⟨y, -,rfl⟩:=A1C.1 hx;rfl
  ·rw[hcl];intro k x y hx hy;have hkl:k<len:=by have:=(A0P.1 hx).1;omega
   rw[hget k hkl,hF k hkl]at hy;cases hy;have hx2:(bytesC ((List.range len).map F))[k]? = some (DV.int .u8 ((F k).toNat:Int)):=by simp[bytesC,hkl]
   rw[hx2]at hx;cases hx;exact .int _ _
end
end Go.Sym
namespace Go.Pb
variable [Go.Sym.Tab]
open Go.Sym
theorem L5{s t:List UInt8}(h:s.length+t.length<=9223372036854775807):binR .add (.str s) (.str t)=some (.str (s++t)):=C1q (by assumption)
def X6(d:Nat):UInt8:=UInt8.ofNat (48+d)
def A9j(n:Nat):List UInt8:=if n<10 then [X6 n] else A9j (n / 10)++[X6 (n % 10)]
termination_by n
decreasing_by omega
theorem A4l{n:Nat}(h:n<10):A9j n=[X6 n]:=by rw[A9j,if_pos h]
theorem A9i{n:Nat}(h:¬n<10):A9j n=A9j (n / 10)++[X6 (n % 10)]:=by rw[A9j,if_neg h]
theorem B2i:∀ (k n:Nat),n<10 ^ (k+1)->(A9j n).length<=k+1
 |0,n,h=>by rw[A4l (by omega)];simp
 |k+1,n,h=>by
  by_cases h0:n<10
  ·rw[A4l h0];simp
  ·rw[A9i h0,A0D];have:=B2i k (n / 10) (by rw[Nat.pow_succ]at h;omega)
   grind
def O9(n:Int):List UInt8:=if n<0 then 45 :: A9j n.natAbs else A9j n.natAbs
theorem O1{n:Int}(h1 : -9223372036854775808<=n)(h2:n<=9223372036854775807):(O9 n).length<=21:=by
 have:=B2i 19 n.natAbs (by omega);unfold O9;grind
theorem D4m{d:Nat}(h:d<10):IntKind.u8.wrap (IntKind.i64.wrap (48+(d:Int)))=((X6 d).toNat:Int):=by
 rw[w6z (by omega),wu8 (by omega) (by omega),X6];simp;omega
def M5(n:Int):Nat:=n.natAbs % 10
def Q3(n:Int):Nat:=n.natAbs / 10
theorem B6z(n:Int):M5 n<10:=by unfold M5;omega
theorem B7h{n:Int}(h:n≠0):Q3 n<n.natAbs:=by unfold Q3;omega
theorem C6x{n:Int}(h:n<0):n.tdiv 10 = -((Q3 n:Nat):Int):=by
 unfold Q3
 grind
theorem C6w{n:Int}(h:n<0):n.tmod 10 = -((M5 n:Nat):Int):=by
 unfold M5
 grind
theorem C6q{n:Int}(h:0<=n):n.tdiv 10=((Q3 n:Nat):Int):=by
 unfold Q3
 grind
theorem C6p{n:Int}(h:0<=n):n.tmod 10=((M5 n:Nat):Int):=by
 unfold M5
 grind
theorem B9o{n:Int}(h:n<0)(h1:Q3 n=0):O9 n=[45]++[X6 (M5 n)]:=by
 unfold Q3 at h1;have h2:n.natAbs<10:=by omega
 have h3:M5 n=n.natAbs:=by unfold M5;omega
 rw[O9,if_pos h,A4l h2,h3];rfl
theorem C4j{n:Int}(h:n<0)(h1:Q3 n≠0):O9 n=O9 (-(Q3 n:Int))++[X6 (M5 n)]:=by
 have h2:¬n.natAbs<10:=by unfold Q3 at h1;omega
 rw[O9,if_pos h,A9i h2,O9,if_pos (by omega),Int.natAbs_neg,Int.natAbs_natCast];rfl
theorem A4k{n:Int}(h:0<=n)(h1:n<10):O9 n=[X6 (M5 n)]:=by
 have h3:M5 n=n.natAbs:=by unfold M5;omega
 rw[O9,if_neg (by omega),A4l (by omega),h3]
theorem B7p{n:Int}(h:¬n<10):O9 n=O9 (Q3 n:Int)++[X6 (M5 n)]:=by
 rw[O9,if_neg (by omega),A9i (by omega),O9,if_neg (by omega),Int.natAbs_natCast];rfl
structure Tok where
 kind:Int
 text:List UInt8
 value:Int
 pos:Int
deriving DecidableEq
abbrev Tok.v(t:Tok):DV:=.agg [I64 t.kind,.str t.text,I64 t.value,I64 t.pos]
abbrev C8z(l:List Tok):DV:=.lst (l.map Tok.v)
theorem B0c(l:List Tok):∀ x∈l.map Tok.v,x.cells.length=4:=by
 intro x hx;obtain⟨y, -,rfl⟩:=A1C.1 hx;rfl
@[simp]theorem C2o(l:List Tok):DV.nlL (l.map Tok.v)=true:=I2 (fun _=>rfl) l
def ltB(c:UInt8):Bool:=(decide (97<=c.toNat) && decide (c.toNat<=122)) || (decide (65<=c.toNat) && decide (c.toNat<=90))
def dgB(c:UInt8):Bool:=decide (48<=c.toNat) && decide (c.toNat<=57)
def ptB(c:UInt8):Bool:=ltB c || dgB c || decide (c.toNat=95)
def B0(p:UInt8->Bool):List UInt8->Nat
 |[]=>0
 |c :: r=>if p c=true then B0 p r+1 else 0
theorem W5(p:UInt8->Bool):∀ s:List UInt8,B0 p s<=s.length
 |[]=>A0C _
 |c :: r=>by
  have:=W5 p r;simp only[B0,A0N];grind
theorem A8g{p:UInt8->Bool}:∀ {s:List UInt8} {k:Nat} {c:UInt8},s[k]? = some c->k<=B0 p s->(p c=true->k+1<=B0 p s)/\(p c=false->B0 p s=k)
 |[],k,c,h,_=>by grind
 |x :: r,0,c,h,_=>by
  cases h;simp only[B0]
  grind
 |x :: r,k+1,c,h,hk=>by
  simp only[B0]at hk ⊢;split at hk
  ·rename_i hx;rw[if_pos hx];have:=A8g (p:=p) (s:=r) (k:=k) (c:=c) (by simpa using h) (by omega);exact⟨fun h=>by have:=this.1 h;omega,fun h=>by have:=this.2 h;omega⟩
  omega
theorem B0h{p:UInt8->Bool}{s:List UInt8}{k:Nat}(h:s.length<=k)(hk:k<=B0 p s):B0 p s=k:=by
 have:=W5 p s;omega
def W7(c:UInt8):Bool:=decide (c.toNat=9) || decide (c.toNat=10) || decide (c.toNat=13) || decide (c.toNat=32)
def skM:Bool->List UInt8->Nat
 |_,[]=>0
 |true,c :: r=>if c.toNat=10 then skM false r+1 else skM true r+1
 |false,c :: r=>if W7 c=true then skM false r+1 else if c.toNat=35 then skM true r+1 else 0
theorem W6:∀ (b:Bool) (s:List UInt8),skM b s<=s.length
 |_,[]=>by simp[skM]
 |true,c :: r=>by
  have h1:=W6 true r;have h2:=W6 false r;simp only[skM,A0N];grind
 |false,c :: r=>by
  have h1:=W6 true r;have h2:=W6 false r;simp only[skM,A0N];grind
theorem B0j:∀ (s:List UInt8),skM true s=B0 (fun c=>decide (c.toNat≠10)) s+skM false (s.drop (B0 (fun c=>decide (c.toNat≠10)) s))
 |[]=>by rfl
 |c :: r=>by
  by_cases h:c.toNat=10
  ·simp[skM,B0,h,W7]
  ·have ih:=B0j r;simp only[skM,B0,h,if_false,ne_eq,not_false_eq_true,decide_true,if_true,A3U]at ih ⊢;omega
def w8(l:List Nat):List UInt8:=l.map UInt8.ofNat
def C9:List (List UInt8):=[w8 [115,119,105,116,99,104],w8 [99,111,105,108],w8 [108,97,109,112],w8 [115,111,117,110,100],w8 [115,104,111,119],w8 [118,97,114],w8 [116,105,109,101,114],w8 [101,118,101,110,116],w8 [109,111,100,101],w8 [111,110],w8 [115,116,97,114,116],w8 [115,116,111,112],w8 [99,108,111,115,101],w8 [111,112,101,110],w8 [105,102],w8 [101,108,115,101],w8 [114,101,112,101,97,116],w8 [115,99,111,114,101],w8 [102,105,114,101],w8 [104,111,108,100],w8 [114,101,108,101,97,115,101],w8 [108,105,103,104,116],w8 [98,108,105,110,107],w8 [98,101,103,105,110],w8 [101,110,100],w8 [112,111,115,116],w8 [112,108,97,121],w8 [114,117,110],w8 [104,97,108,116],w8 [116,101,120,116],w8 [99,111,110,115,117,109,101],w8 [99,108,111,115,101,100],w8 [97,99,116,105,118,101],w8 [108,101,102,116],w8 [112,108,97,121,101,114],w8 [98,97,108,108],w8 [116,114,117,101],w8 [102,97,108,115,101]]
def G9(s:List UInt8):Bool:=C9.contains s
def F1(s:List UInt8):Bool:=decide (1<=s.length) && decide (s.length<=12) && (match s with|c :: _=>ltB c |[]=>false) && decide (B0 ptB s=s.length) && !G9 s
def quM:List UInt8->Option (List UInt8 × Nat)
 |[]=>none
 |c :: r =>
  if c.toNat=34 then some ([],1)
  else if c.toNat<32\/126<c.toNat then none
  else if c.toNat=92 then match r with
   |[]=>none
   |d :: q=>if d.toNat=34\/d.toNat=92 then (quM q).map fun x=>(d :: x.1,x.2+2) else none
  else (quM r).map fun x=>(c :: x.1,x.2+1)
def L7(s:List UInt8):Nat:=s.foldl (fun n c=>10 * n+(c.toNat-48)) 0
theorem B8p{s:List UInt8}{k:Nat}{c:UInt8}(h:s[k]? = some c):L7 (s.take (k+1))=10 * L7 (s.take k)+(c.toNat-48):=by
 unfold L7;rw[A1F,h,List.foldl_append];rfl
def Y5(c d:UInt8):Bool:=[(60,61),(62,61),(61,61),(33,61),(38,38),(124,124)].contains (c.toNat,d.toNat)
def A1b(c:UInt8):Bool:=[123,125,40,41,59,44,61,43,45,42,47,37,33,60,62].contains c.toNat
def D0:List UInt8->Nat
 |c :: d :: _=>if Y5 c d=true then 2 else if A1b c=true then 1 else 0
 |[c]=>if A1b c=true then 1 else 0
 |[]=>0
structure Nx where
 kind:Int
 text:List UInt8
 value:Int
 n:Nat
 err:Int
def nxE(e:Int):Nx:=⟨0,[],0,0,e⟩
def A3:List UInt8->Nx
 |[]=>nxE 47
 |c :: r =>
  if ltB c=true then
   if 12<B0 ptB (c :: r) then nxE 9 else ⟨if G9 ((c :: r).take (B0 ptB (c :: r)))=true then 2 else 1,(c :: r).take (B0 ptB (c :: r)),0,B0 ptB (c :: r),0⟩
  else if dgB c=true then
   if 1<B0 dgB (c :: r)/\c.toNat=48 then nxE 47
   else if 2147483647<L7 ((c :: r).take (B0 dgB (c :: r))) then nxE 5
   else ⟨3,[],(L7 ((c :: r).take (B0 dgB (c :: r))):Int),B0 dgB (c :: r),0⟩
  else if c.toNat=34 then match quM r with
   |none=>nxE 48
   |some x=>if 32<x.1.length then nxE 9 else ⟨4,x.1,0,x.2+1,0⟩
  else if D0 (c :: r)=0 then nxE 47 else ⟨5,(c :: r).take (D0 (c :: r)),0,D0 (c :: r),0⟩
def J4:Nat->List UInt8->Nat->List Tok->List Tok × Int × Int
 |0,_,_,acc=>(acc,0,0)
 |f+1,src,at_,acc =>
  if src.length<=at_ then (acc,0,0)
  else if (A3 (src.drop at_)).err≠0 then ([],(at_:Int),(A3 (src.drop at_)).err)
  else J4 f src (at_+(A3 (src.drop at_)).n+skM false (src.drop (at_+(A3 (src.drop at_)).n)))
   (acc++[⟨(A3 (src.drop at_)).kind,(A3 (src.drop at_)).text,(A3 (src.drop at_)).value,(at_:Int)⟩])
def E7(s:List UInt8):List Tok × Int × Int:=if 20000<s.length then ([],0,9) else J4 (s.length+1) s (skM false s) []
abbrev C1k(q:List Tok × Int × Int):DV:=.tup [C8z q.1,I64 q.2.1,I64 q.2.2]
theorem C1y:∀ {s t:List UInt8} {n:Nat},quM s=some (t,n)->1<=n/\n<=s.length/\t.length<=n
 |[],t,n,h=>by trivial
 |c :: r,t,n,h=>by
  unfold quM at h;split at h
  ·grind
  ·split at h
   ·grind
   ·split at h
    ·cases r with
     |nil=>grind
     |cons d q =>
      simp only at h;split at h
      ·obtain⟨⟨t',n'⟩,h1,h2⟩:=A0H.1 h;have:=C1y h1;cases h2;simp only[A0N];omega
      grind
    ·obtain⟨⟨t',n'⟩,h1,h2⟩:=A0H.1 h;have:=C1y h1
     grind
theorem C1e:∀ s:List UInt8,D0 s<=s.length
 |[]=>by trivial
 |[c]=>by simp only[D0];grind
 |c :: d :: r=>by simp only[D0,A0N];grind
theorem A1o{s:List UInt8}(h:(A3 s).err=0):1<=(A3 s).n/\(A3 s).n<=s.length:=by
 cases s with
 |nil=>trivial
 |cons c r =>
  have hp:=W5 ptB (c :: r);have hd:=W5 dgB (c :: r);have hs:=C1e (c :: r);simp only[A3]at h ⊢;split
  ·rename_i hc;rw[if_pos hc]at h;split
   ·rename_i h1;rw[if_pos h1]at h;trivial
   ·have:1<=B0 ptB (c :: r):=by simp[B0,ptB,hc]
    grind
  ·rename_i hc;rw[if_neg hc]at h;split
   ·rename_i hc2;rw[if_pos hc2]at h;split
    ·rename_i h1;rw[if_pos h1]at h;trivial
    ·rename_i h1;rw[if_neg h1]at h;split
     ·rename_i h2;rw[if_pos h2]at h;trivial
     ·have:1<=B0 dgB (c :: r):=by simp[B0,hc2]
      grind
   ·rename_i hc2;rw[if_neg hc2]at h;split
    ·rename_i hc3;rw[if_pos hc3]at h;cases hq:quM r with
     |none=>rw[hq]at h;trivial
     |some x =>
      obtain⟨t,n⟩:=x;rw[hq]at h;simp only at h ⊢;have:=C1y hq;split
      ·rename_i h1;rw[if_pos h1]at h;simp[nxE]at h
      grind
    ·rename_i hc3;rw[if_neg hc3]at h;split
     ·rename_i h1;rw[if_pos h1]at h;simp[nxE]at h
     grind
end Go.Pb
namespace Go.Sym
variable [Go.Sym.Tab]
open Go.RowKit Go.Pb Go.Deep Go.ChangeShapes
theorem B0a{P:Program}{w:World}{n:String}{g:Nat}{cs:Array Value}(e1:P.globalNamed n=some g)(e3:w.var? P n=some cs):B0b w g=some cs:=by
 unfold World.var? at e3;rw[e1,Option.bind_some]at e3;unfold B0b;split at e3
 ·rename_i r ty fr hh;cases e3;rw[hh]
 ·cases e3
theorem A5m{P:Program}{w:World}{n:String}{d:DataW Unit}:∀ {l:List (String × DataW Unit)} {ps:List MemPlace},DataW.LaidVars P w l ps->(n,d)∈l ->
  ∃ g t cs fuel p,P.globalNamed n=some g/\(P.globals[g]?).map (·.type)=some t/\w.var? P n=some cs/\DataW.trod (fun _=>()) P w 0 (fun _=>true) false fuel t cs.toList=some (d,p)
 |[],ps,_,hm=>by cases hm
 |(n',d') :: l,ps,h,hm=>by
  obtain⟨g,t,cs,fuel,p,q,h1,h2,h3,h4,h5, -⟩:=h;rcases A1A.1 hm with e|hm
  ·cases e;exact⟨g,t,cs,fuel,p,h1,h2,h3,h4⟩
  ·exact A5m h5 hm
theorem laid_tab{P:Program}{w:World}{n:String}{d:DataW Unit}{l:List (String × DataW Unit)}{g t e m:Nat}{k:IntKind}{zs:List Int}(h:laidMet P l w)(hm:(n,d)∈l)(hg:P.globalNamed n=some g)
  (ht:(P.globals[g]?).map (·.type)=some t) (hu:P.underlying t=some (.array m e)) (he:P.underlying e=some (.int k)) (hce:P.cellsOf e=1) (hct:P.cellsOf t=m) (hd:d=Lib.tabData k zs) :
  ∃ r,B0b w g=some r/\r=(zs.map fun z=>Value.int k z).toArray:=by
 obtain⟨ps,h1, -⟩:=h;obtain⟨g',t',cs,fuel,p,e1,e2,e3,e4⟩:=A5m h1 hm;rw[hg]at e1;cases e1;rw[ht]at e2;cases e2;rw[hd]at e4;have hc:=Lib.cells_of_tab hu he hce hct e4;exact⟨cs,B0a hg e3,Array.toList_inj.1 (hc.trans (by simp))⟩
theorem A9y{P:Program}{w:World}{fuel:Nat}{t:TypeId}{ms}{cs:List Value}{nm:String}{d:DataW Unit}{p:List MemPlace}(hu:P.underlying t=some (.interface ms))
  (h:DataW.trod (fun _=>()) P w 0 (fun _=>true) false fuel t cs=some (.iface nm d,p)):∃ te pe,cs=[.iface te pe]:=by
 cases fuel with
 |zero=>simp[DataW.trod]at h
 |succ fuel =>
  simp only[DataW.trod,hu]at h;split at h<;>first|exact⟨_,_,rfl⟩|(simp_all;done)
theorem laid_err{P:Program}{w:World}{n:String}{nm:String}{d:DataW Unit}{l:List (String × DataW Unit)}{g t:Nat}{ms}(h:laidMet P l w)(hm:(n,DataW.iface nm d)∈l)(hg:P.globalNamed n=some g)
  (ht:(P.globals[g]?).map (·.type)=some t) (hu:P.underlying t=some (.interface ms)):∃ r,B0b w g=some r/\∃ te pe,r = #[.iface te pe]:=by
 obtain⟨ps,h1, -⟩:=h;obtain⟨g',t',cs,fuel,p,e1,e2,e3,e4⟩:=A5m h1 hm;rw[hg]at e1;cases e1;rw[ht]at e2;cases e2;obtain⟨te,pe,e5⟩:=A9y hu e4;exact⟨cs,B0a hg e3,te,pe,Array.toList_inj.1 e5⟩
section
variable {H:Type} {enc:TypeId × Value->H} {P:Program} {W W':World} {hT:TabOk W}
theorem open_u8{r:Reach}{b0:Nat}{t:TypeId}{v:Value}{d:DataW H}{ps:List MemPlace}(ht:P.underlying t=some (.int .u8))(hval:Value.okWide P W r b0 t v)(hd:DataW.Trod enc P W 0 (fun _=>true) true t v d ps):
  ∃ u:UInt8,VRel (topR W hT) (.int .u8 (u.toNat:Int)) v:=by
 obtain⟨n,rfl, -, -,hw⟩:=open_int ht hval hd;have:=u8_of hw;rw[this];exact⟨_,.int _ _⟩
end
open Go.Eng (IC)
def C5o(p:Prop):Prop:=p
theorem F6{p:Prop}(h:C5o p):p:=h
theorem IW.stage{P:Program}{N:Nat}{x:IC}{T:Tm}{H:Hp}{c:Nat}{Q:Exit->St->Prop}{L:List (Nat × DV)}(hT:B9 L T)(h:IW P N x ⟨tm L,H,c⟩ Q):C5o (IW P N x ⟨T,H,c⟩ Q):=IW.weaken (C9a hT) (Sub.refl _) h
open Go.Eng (Opd FOp AOp EOp IOp IOper DReg IC RV IFn trC A3k I5 E6)
def pre:IC->List IC
 |.seq x y=>.seq x y :: (pre x++pre y)
 |.cond o x y=>.cond o x y :: (pre x++pre y)
 |.blk i x=>.blk i x :: pre x
 |.loop x=>.loop x :: pre x
 |x=>[x]
def szC:IC->Nat
 |.seq x y=>szC x+szC y+1
 |.cond o x y=>szC x+szC y+1
 |.blk i x=>szC x+1
 |.loop x=>szC x+1
 |x=>1
theorem C2d(t:IC):(pre t).length=szC t:=by
 induction t<;>simp_all[pre,szC]
def B4h(k:Nat):List Nat->List Nat
 |[]=>[k]
 |a :: l=>match Nat.blt k a with
  |true=>k :: a :: l
  |false=>match Nat.beq k a with
   |true=>a :: l
   |false=>a :: B4h k l
def B8d:List Nat->List Nat->List Nat
 |[],m=>m
 |a :: l,m=>B4h a (B8d l m)
def rmS(k:Nat):List Nat->List Nat
 |[]=>[]
 |a :: l=>match Nat.beq k a with
  |true=>l
  |false=>a :: rmS k l
def opS:Opd->List Nat
 |.t n=>[n]
 |_=>[]
def A8n:List IOper->List Nat->List Nat
 |[],out=>out
 |o :: r,out=>B8d o.sees (match o.dst with
  |some d=>rmS d (A8n r out)
  |none=>A8n r out)
def slR:List RV->List Nat
 |[]=>[]
 |.tmp t :: r=>B4h t (slR r)
 |.cell a _ _ :: r=>B4h a (slR r)
def upE(ex:Nat->List Nat)(i:Nat)(L:List Nat)(j:Nat):List Nat:=match Nat.beq i j with
 |true=>L
 |false=>ex j
def rgS:Eng.Rg->List Nat->List Nat
 |.bad,_=>[]
 |.r1 io m it,out=>A8n io (B4h m (rmS it out))
 |.r2 it n io,out=>B4h it (rmS n (A8n io out))
 |.r3 it e io,out=>B4h it (rmS e (A8n io out))
def lvC(rl:List Nat):IC->List Nat->(Nat->List Nat)->List Nat
 |.skip,out,_=>out
 |.exit i,_,ex=>ex i
 |.ret,_,_=>rl
 |.bad,_,_=>[]
 |.rg r,out,_=>rgS r out
 |.reg r,out,_=>A8n r out
 |.drw _ d,out,_=>A8n d.ops out
 |.seq x y,out,ex=>lvC rl x (lvC rl y out ex) ex
 |.cond o x y,out,ex=>B8d (opS o) (B8d (lvC rl x out ex) (lvC rl y out ex))
 |.blk i x,out,ex=>lvC rl x out (upE ex i out)
 |.loop x,_,ex=>lvC rl x [] ex
def chC(h:Nat->IC)(k:Nat):IC->IC
 |.skip=>.skip
 |.exit i=>.exit i
 |.ret=>.ret
 |.bad=>.bad
 |.rg r=>.rg r
 |.loop _=>.loop (h (k+1))
 |_=>h k
def C7a:Nat->List (Nat × Option (List Nat))->List IOper->Nat
 |k,(_,some []) :: p,⟨_,.pur _,_⟩ :: r=>2 ^ k+C7a (k+1) p r
 |k,_ :: p,_ :: r=>C7a (k+1) p r
 |_,_,_=>0
def eqO:Option (List Nat)->Option (List Nat)->Bool
 |none,none=>true
 |some [],some []=>true
 |_,_=>false
def eqP:List (Nat × Option (List Nat))->List (Nat × Option (List Nat))->Bool
 |[],[]=>true
 |(a,x) :: p,(b,y) :: q=>Nat.beq a b && eqO x y && eqP p q
 |_,_=>false
theorem D4d{x y:Option (List Nat)}(h:eqO x y=true):x=y:=by
 unfold eqO at h;grind
theorem C4f:∀ {p q:List (Nat × Option (List Nat))},eqP p q=true->p=q
 |[],[],_=>rfl
 |(a,x) :: p,(b,y) :: q,h=>by
  simp only[eqP,A0E]at h;rw[A2Z h.1.1,D4d h.1.2,C4f h.2]
 |[],_ :: _,h=>by trivial
 |_ :: _,[],h=>by trivial
def asM(r:List IOper)(p:List (Nat × Option (List Nat)))(m:Nat):Option Nat:=match eqP (A6g m 0 r) p with
 |true=>some m
 |false=>none
inductive PD where
 |S (r:List IOper) (y:IC) (L:List Nat)
 |E (r:List IOper) (L:List Nat)
 |P (r:List IOper) (y:IC) (e n:Nat) (L:List Nat)
 |F (r:List IOper) (e n:Nat) (L:List Nat)
 |D (r:List IOper) (y:IC) (p:List (Nat × Option (List Nat))) (n:Nat) (L:List Nat)
 |G (r:List IOper) (p:List (Nat × Option (List Nat))) (n:Nat) (L:List Nat)
 |C (x y z:IC) (o:Opd) (L:List Nat)
 |K (x z:IC) (o:Opd) (L:List Nat)
 |B (x y:IC) (i:Nat) (L:List Nat)
 |J (x:IC) (i:Nat) (L:List Nat)
 |Q (x y:IC) (L:List Nat)
 |X (x:IC)
def PD.ic:PD->IC
 |.S r y _=>.seq (.reg r) y
 |.E r _=>.reg r
 |.P r y e n _=>.seq (.drw n (dQ r e)) y
 |.F r e n _=>.drw n (dQ r e)
 |.D r y p n _=>.seq (.drw n ⟨r,[],p⟩) y
 |.G r p n _=>.drw n ⟨r,[],p⟩
 |.C x y z o _=>.seq (.cond o x z) y
 |.K x z o _=>.cond o x z
 |.B x y i _=>.seq (.blk i x) y
 |.J x i _=>.blk i x
 |.Q x y _=>.seq x y
 |.X x=>x
def fuC(h:Nat->IC)(k:Nat)(x y:IC)(L:List Nat):PD:=match x with
 |.reg r=>.S r y L
 |.drw n ⟨r,[],p⟩=>match asM r p (C7a 0 p r) with
  |some m=>.P r y m n L
  |none=>.D r y p n L
 |.cond o a b=>.C (chC h (k+1) a) y (chC h (k+1+szC a) b) o L
 |.blk i a=>.B (chC h (k+1) a) y i L
 |x=>.Q (chC h k x) y L
def B8m(h:Nat->IC)(k:Nat)(x:IC)(L:List Nat):PD:=match x with
 |.reg r=>.E r L
 |.drw n ⟨r,[],p⟩=>match asM r p (C7a 0 p r) with
  |some m=>.F r m n L
  |none=>.G r p n L
 |.cond o a b=>.K (chC h (k+1) a) (chC h (k+1+szC a) b) o L
 |.blk i a=>.J (chC h (k+1) a) i L
 |x=>.X x
def E1t:IC->Bool
 |.reg _=>true
 |.drw _ _=>true
 |.cond _ _ _=>true
 |.blk _ _=>true
 |_=>false
def tlC(b:Bool)(l:List (Nat × PD)):List (Nat × PD):=match b with
 |true=>l.tail
 |false=>l
def flC(h:Nat->IC)(rl:List Nat):IC->Nat->List Nat->(Nat->List Nat)->List Nat × List (Nat × PD)
 |.skip,_,out,_=>(out,[])
 |.exit i,_,_,ex=>(ex i,[])
 |.ret,_,_,_=>(rl,[])
 |.bad,_,_,_=>([],[])
 |.rg r,_,out,_=>(rgS r out,[])
 |.reg r,k,out,_=>match A8n r out with
  |L=>(L,[(k,B8m h k (.reg r) L)])
 |.drw n d,k,out,_=>match A8n d.ops out with
  |L=>(L,[(k,B8m h k (.drw n d) L)])
 |.seq x y,k,out,ex=>match flC h rl y (k+1+szC x) out ex with
  |(Ly,ly)=>match flC h rl x (k+1) Ly ex with
   |(Lx,lx)=>(Lx,(k,fuC h (k+1) x (chC h (k+1+szC x) y) Lx) :: (tlC (E1t x) lx++ly))
 |.cond o x y,k,out,ex=>match flC h rl x (k+1) out ex with
  |(Lx,lx)=>match flC h rl y (k+1+szC x) out ex with
   |(Ly,ly)=>match B8d (opS o) (B8d Lx Ly) with
    |L=>(L,(k,B8m h k (.cond o x y) L) :: (lx++ly))
 |.blk i x,k,out,ex=>match flC h rl x (k+1) out (upE ex i out) with
  |(L,l)=>(L,(k,B8m h k (.blk i x) L) :: l)
 |.loop x,k,_,ex=>match lvC rl x [] ex with
  |L=>(L,(flC h rl x (k+1) L ex).2)
def Num(h:Nat->IC)(k:Nat)(t:IC):Prop:=∀ j x,(pre t)[j]? = some x->h (k+j)=x
section
variable {h:Nat->IC} {k:Nat} {x y t:IC}
theorem Num.self(n:Num h k t):h k=t:=by
 have:=n 0 t (by cases t<;>simp[pre]);omega
theorem Num.sub{l:List IC}{i:Nat}(n:Num h k t)(e:∀ j x,(pre y)[j]? = some x->(pre t)[i+j]? = some x):Num h (k+i) y:=fun j x hx=>by
 rw[A3Q];exact n (i+j) x (e j x hx)
theorem E3f{a:IC}{l r:List IC}(j:Nat)(z:IC)(hz:l[j]? = some z):(a :: (l++r))[1+j]? = some z:=by
 grind
theorem C9d{a:IC}{l r:List IC}{n:Nat}(hn:l.length=n)(j:Nat)(z:IC)(hz:r[j]? = some z):(a :: (l++r))[1+n+j]? = some z:=by
 grind
theorem Num.s1(n:Num h k (.seq x y)):Num h (k+1) x:=n.sub (l:=[]) fun j z hz=>by rw[pre];grind
theorem Num.s2(n:Num h k (.seq x y)):Num h (k+1+szC x) y:=by
 rw[A3Q];exact n.sub (l:=[]) fun j z hz=>by rw[pre];exact C9d (C2d x) j z hz
theorem Num.c1{o:Opd}(n:Num h k (.cond o x y)):Num h (k+1) x:=n.sub (l:=[]) fun j z hz=>by rw[pre];grind
theorem Num.c2{o:Opd}(n:Num h k (.cond o x y)):Num h (k+1+szC x) y:=by
 rw[A3Q];exact n.sub (l:=[]) fun j z hz=>by rw[pre];exact C9d (C2d x) j z hz
theorem Num.b1{i:Nat}(n:Num h k (.blk i x)):Num h (k+1) x:=n.sub (l:=[]) fun j z hz=>by rw[pre,Nat.add_comm,List.getElem?_cons_succ,hz]
theorem Num.l1(n:Num h k (.loop x)):Num h (k+1) x:=n.sub (l:=[]) fun j z hz=>by rw[pre,Nat.add_comm,List.getElem?_cons_succ,hz]
theorem A1v(n:Num h k t):chC h k t=t:=by
 cases t<;>simp only[chC]<;>first|rfl|exact n.self|rw[n.l1.self]
theorem C5i{r:List IOper}{p:List (Nat × Option (List Nat))}{m m':Nat}(e:asM r p m=some m'):A6g m' 0 r=p:=by
 unfold asM at e;split at e<;>cases e;rename_i q;exact C4f q
theorem A8o{L:List Nat}(n:Num h k x):(B8m h k x L).ic=x:=by
 unfold B8m;split
 ·rfl
 ·split
  ·rename_i m e;simp only[PD.ic,dQ,C5i e]
  ·rfl
 ·simp only[PD.ic,A1v n.c1,A1v n.c2]
 ·simp only[PD.ic,A1v n.b1]
 rfl
theorem D7x{L:List Nat}(n:Num h k x):(fuC h k x y L).ic=.seq x y:=by
 unfold fuC;split
 ·rfl
 ·split
  ·rename_i m e;simp only[PD.ic,dQ,C5i e]
  rfl
 ·simp only[PD.ic,A1v n.c1,A1v n.c2]
 ·simp only[PD.ic,A1v n.b1]
 ·simp only[PD.ic,A1v n]
theorem D0w{b:Bool}{l:List (Nat × PD)}{e:Nat × PD}(hm:e∈tlC b l):e∈l:=by
 unfold tlC at hm;split at hm
 ·exact List.mem_of_mem_tail hm
 omega
theorem D8a(rl:List Nat):∀ (t:IC) (k:Nat) (out:List Nat) (ex:Nat->List Nat),Num h k t->∀ e∈(flC h rl t k out ex).2,h e.1=e.2.ic:=by
 intro t
 induction t with
 |skip=>intro k out ex n e he;trivial
 |exit i=>intro k out ex n e he;trivial
 |ret=>intro k out ex n e he;trivial
 |bad=>intro k out ex n e he;trivial
 |rg r=>intro k out ex n e he;trivial
 |reg r=>intro k out ex n e he;simp only[flC,A2K]at he;subst he;simp only[A8o n];exact n.self
 |drw m d=>intro k out ex n e he;simp only[flC,A2K]at he;subst he;simp only[A8o n];exact n.self
 |seq x y ihx ihy =>
  intro k out ex n e he;simp only[flC,A1A,A1G]at he;rcases he with rfl|he|he
  ·simp only[D7x n.s1,A1v n.s2];exact n.self
  ·exact ihx _ _ _ n.s1 e (D0w he)
  ·exact ihy _ _ _ n.s2 e he
 |cond o x y ihx ihy =>
  intro k out ex n e he;simp only[flC,A1A,A1G]at he;rcases he with rfl|he|he
  ·simp only[A8o n];exact n.self
  ·exact ihx _ _ _ n.c1 e he
  ·exact ihy _ _ _ n.c2 e he
 |blk i x ih =>
  intro k out ex n e he;simp only[flC,A1A]at he;rcases he with rfl|he
  ·simp only[A8o n];exact n.self
  ·exact ih _ _ _ n.b1 e he
 |loop x ih =>
  intro k out ex n e he;simp only[flC]at he;exact ih _ _ _ n.l1 e he
end
inductive Ps where
 |h
 |o (p:Ps)
 |i (p:Ps)
def Ps.n:Ps->Nat
 |.h=>1
 |.o p=>2 * p.n
 |.i p=>2 * p.n+1
def Ps.s:Ps->Ps
 |.h=>.o .h
 |.o p=>.i p
 |.i p=>.o p.s
theorem Ps.s_n:∀ p:Ps,p.s.n=p.n+1
 |.h=>rfl
 |.o p=>rfl
 |.i p=>by simp only[Ps.s,Ps.n,Ps.s_n p];rfl
def Ps.of:Nat->Ps
 |0=>.h
 |k+1=>(Ps.of k).s
theorem Ps.of_n:∀ k:Nat,(Ps.of k).n=k+1
 |0=>rfl
 |k+1=>by rw[Ps.of,Ps.s_n,Ps.of_n k]
def Ps.frc:Ps->(Ps->IC)->IC
 |.h,K=>K .h
 |.o p,K=>Ps.frc p fun q=>K (.o q)
 |.i p,K=>Ps.frc p fun q=>K (.i q)
theorem Ps.frc_eq:∀ (p:Ps) (K:Ps->IC),p.frc K=K p
 |.h,K=>rfl
 |.o p,K=>by rw[Ps.frc,Ps.frc_eq p]
 |.i p,K=>by rw[Ps.frc,Ps.frc_eq p]
def hk(h:Ps->IC)(k:Nat):IC:=(Ps.of k).frc h
inductive Tr where
 |e
 |d (x:Option PD) (l r:Tr)
def Tr.get:Tr->Ps->Option PD
 |.e,_=>none
 |.d x _ _,.h=>x
 |.d _ l _,.o p=>l.get p
 |.d _ _ r,.i p=>r.get p
def Tr.put(y:PD):Ps->Tr->Tr
 |.h,.e=>.d (some y) .e .e
 |.o p,.e=>.d none (Tr.put y p .e) .e
 |.i p,.e=>.d none .e (Tr.put y p .e)
 |.h,.d _ l r=>.d (some y) l r
 |.o p,.d x l r=>.d x (Tr.put y p l) r
 |.i p,.d x l r=>.d x l (Tr.put y p r)
theorem Tr.get_put(y:PD):∀ (p:Ps) (t:Tr) (q:Ps) (z:PD),(Tr.put y p t).get q=some z->(q=p/\z=y)\/t.get q=some z:=by
 intro p
 induction p with
 |h=>intro t q z h;cases t<;>cases q<;>simp_all[Tr.put,Tr.get]
 |o p ih =>
  intro t q z h;cases t<;>cases q<;>simp only[Tr.put,Tr.get]at h ⊢ <;> first|exact .inr h|(cases h;done)|skip
  ·rcases ih _ _ _ h with ⟨rfl,rfl⟩|h
   ·exact .inl ⟨rfl,rfl⟩
   ·cases h
  grind
 |i p ih =>
  intro t q z h;cases t<;>cases q<;>simp only[Tr.put,Tr.get]at h ⊢ <;> first|exact .inr h|(cases h;done)|skip
  ·rcases ih _ _ _ h with ⟨rfl,rfl⟩|h
   ·exact .inl ⟨rfl,rfl⟩
   ·cases h
  grind
def D2x:List (Nat × PD)->Tr->Tr
 |[],t=>t
 |e :: l,t=>D2x l (Tr.put e.2 (Ps.of e.1) t)
theorem B1j:∀ (l:List (Nat × PD)) (t:Tr) (q:Ps) (z:PD),(D2x l t).get q=some z->(∃ k,q=Ps.of k/\(k,z)∈l)\/t.get q=some z
 |[],t,q,z,h=>.inr h
 |e :: l,t,q,z,h=>by
  rcases B1j l _ q z h with ⟨k,h1,h2⟩|h
  ·grind
  ·rcases Tr.get_put _ _ _ _ _ h with ⟨rfl,rfl⟩|h
   ·exact .inl ⟨e.1,rfl,A0I⟩
   grind
def pz(P:Program)(f:Nat)(p:Ps):IC:=match (P.funcs[f]?).bind (A3k P) with
 |some i=>(pre i.body).getD (p.n-1) .bad
 |none=>.bad
theorem C1z{P:Program}{f:Nat}{i:IFn}(h:I5 P f i):Num (hk (pz P f)) 0 i.body:=fun j x hx=>by
 rw[hk,Ps.frc_eq];unfold pz;unfold I5 at h;rw[h];simp only[A0Z,A1E,Ps.of_n,Nat.add_sub_cancel,hx,A3N]
inductive TD where
 |mk (n:Nat) (rs:List RV) (top:IC) (l:Tr)
 |no
def TD.l:TD->Tr
 |.mk _ _ _ l=>l
 |.no=>.e
def mkT(h:Ps->IC)(i:IFn):TD:=.mk i.n i.res (chC (hk h) 0 i.body) (D2x (flC (hk h) (slR i.res) i.body 0 (slR i.res) (fun _=>[])).2 .e)
structure XT (P:Program) (f:Nat) where
 d:(Ps->IC)->TD
 i:IFn
 hi:I5 P f i
 hd:∀ h,mkT h i=d h
class FT (P:Program) (f:Nat) (D:outParam ((Ps->IC)->TD)):Prop where
 of:∃ i,I5 P f i/\∀ h,mkT h i=D h
theorem XT.ft{P:Program}{f:Nat}(x:XT P f):FT P f x.d:=⟨⟨x.i,x.hi,x.hd⟩⟩
theorem u8n(n:Nat):UInt8.ofBitVec (BitVec.ofNat 8 n)=UInt8.ofNat n:=rfl
abbrev mkF{P:Program}{f:Nat}{i:IFn}{d:(Ps->IC)->TD}(hi:I5 P f i:=by unfold I5;conv=>lhs;reduce;simp only[seval,u8n])(hd:∀ h,mkT h i=d h:=by intro h;conv=>lhs;cbv):XT P f:=⟨d,i,hi,hd⟩
class LkI (t:Tr) (p:Ps) (x:outParam PD):Prop where
 get:t.get p=some x
instance lkTh {x:PD} {l r:Tr}:LkI (.d (some x) l r) .h x:=⟨rfl⟩
instance lkTo {x:PD} {y:Option PD} {l r:Tr} {p:Ps} [k:LkI l p x]:LkI (.d y l r) (.o p) x:=⟨k.get⟩
instance lkTi {x:PD} {y:Option PD} {l r:Tr} {p:Ps} [k:LkI r p x]:LkI (.d y l r) (.i p) x:=⟨k.get⟩
class WDp (P:Program) (N:Nat) (u:PD) (r:outParam Rl):Prop where
 out:∀ {Q:Exit->St->Prop} {T:Tm} {H:Hp} {c:Nat},r P N Q T H c->IW P N u.ic ⟨T,H,c⟩ Q
section
variable {P:Program} {N n i e:Nat} {x y z:IC} {r:List IOper} {p:List (Nat × Option (List Nat))} {L:List Nat} {o:Opd}
instance dS:WDp P N (.S r y L) (rS r y L):=⟨mkS⟩
instance dE:WDp P N (.E r L) (rE r L):=⟨mkE⟩
instance dP:WDp P N (.P r y e n L) (rP r y n L):=⟨mkP (d:=dQ r e) (R7 e r 0)⟩
instance dF:WDp P N (.F r e n L) (rPE r n L):=⟨E0m (d:=dQ r e) (R7 e r 0)⟩
instance dD:WDp P N (.D r y p n L) (rD r p y n L):=⟨mkD (d:=⟨r,[],p⟩)⟩
instance dG:WDp P N (.G r p n L) (rDE r p n L):=⟨E0n (d:=⟨r,[],p⟩)⟩
instance dC:WDp P N (.C x y z o L) (rC o x z y L):=⟨mkC⟩
instance dK:WDp P N (.K x z o L) (rCE o x z L):=⟨E0o⟩
instance dB:WDp P N (.B x y i L) (rB i x y L):=⟨mkB⟩
instance dJ:WDp P N (.J x i L) (rBE i x L):=⟨E0p⟩
instance dQQ:WDp P N (.Q x y L) (rQ x y L):=⟨mkQ⟩
end
class LkD (t:TD) (p:Ps) (x:outParam PD):Prop where
 get:t.l.get p=some x
instance lkTd {n:Nat} {rs:List RV} {top:IC} {x:PD} {l:Tr} {p:Ps} [k:LkI l p x]:LkD (.mk n rs top l) p x:=⟨k.get⟩
section
variable {P:Program} {f:Nat} {D:(Ps->IC)->TD} [F:FT P f D]
theorem wz{p:Ps}{x:PD}(e:(D (pz P f)).l.get p=some x):pz P f p=x.ic:=by
 obtain⟨i,hi,hd⟩:=F.of;rw[<- hd]at e;simp only[mkT,TD.l]at e;rcases B1j _ _ _ _ e with ⟨k,rfl,h⟩|h
 ·have:=D8a (slR i.res) i.body 0 (slR i.res) (fun _=>[]) (C1z hi) _ h;rw[hk,Ps.frc_eq]at this;exact this
 trivial
instance wZ {N:Nat} {p:Ps} {x:PD} {w:Rl} [g:LkD (D (pz P f)) p x] [k:WDp P N x w]:WR P N (pz P f p) w:=⟨fun h=>by rw[wz g.get];exact k.out h⟩
theorem FT.eqs{n:Nat}{rs:List RV}{top:IC}{l:Tr}(e:D (pz P f)=.mk n rs top l):I5 P f ⟨n,top,rs⟩:=by
 obtain⟨i,hi,hd⟩:=F.of;rw[<- hd]at e;simp only[mkT,A1v (C1z hi),TD.mk.injEq]at e;rw[<- e.1, <- e.2.1, <- e.2.2.1];omega
theorem PC.ofT(hm:P.follows .mixedOrders=true){n:Nat}{rs:List RV}{top:IC}{l:Tr}(e:D (pz P f)=.mk n rs top l){args:List DV}(hn:args.length<=n){r:DV}(na:DV.nlL args=true)(nr:r.nl=true)
  (h:IW P n top ⟨A0b args,nil,0⟩ (rt rs fun v H' _ => ∃ H2,GL H' [v] H2 [r])):PC P f args r :=
 PC.of hm (i:=⟨n,top,rs⟩) (FT.eqs e) hn na nr h
theorem PC.go(hm:P.follows .mixedOrders=true){n:Nat}{rs:List RV}{top:IC}{l:Tr}{args:List DV}{r:DV}(h:IW P n top ⟨A0b args,nil,0⟩ (rt rs fun v H' _ => ∃ H2,GL H' [v] H2 [r]))(e:D (pz P f)=.mk n rs top l:=by rfl)(hn:args.length<=n:=by exact A0A rfl)(na:DV.nlL args=true:=by first|(simp[DV.nlL,DV.nl];done)|rfl)(nr:r.nl=true:=by first|rfl|simp[DV.nlL,DV.nl]):PC P f args r:=PC.ofT hm e hn na nr h
theorem AC.bodyT(hm:P.follows .mixedOrders=true){n:Nat}{rs:List RV}{top:IC}{l:Tr}(e:D (pz P f)=.mk n rs top l){args:List DV}(hn:args.length<=n){H:Hp}{c:Nat}{Q:DV->Hp->Nat->Prop}
  (h:(∀ id,c<=id->H id=none)->IW P n top ⟨A0b args,H,c⟩ (rt rs fun v H' c' => ∃ v2 H2,GL H' [v] H2 [v2]/\Q v2 H2 c')):AC P f args H c Q :=
 AC.body hm (i:=⟨n,top,rs⟩) (FT.eqs e) hn h
end
end Go.Sym
namespace Go.Pb
variable [Go.Sym.Tab]
open Go.Sym
def B1e(n:Nat)(s:List UInt8):Nat:=s.foldl (fun n c=>10 * n+(c.toNat-48)) n
theorem B6n:∀ (s:List UInt8) (n:Nat),n<=B1e n s
 |[],n=>A0C _
 |c :: r,n=>by
  have:=B6n r (10 * n+(c.toNat-48));simp only[B1e,List.foldl_cons]at this ⊢;omega
theorem B8q(c:UInt8)(r:List UInt8)(n:Nat):B1e n (c :: r)=B1e (10 * n+(c.toNat-48)) r:=by rfl
theorem D6n{M acc d v w:Nat}(hM:M=18446744073709551615)(hd:d<=9)(hv:10 * acc+d<=v)(hw:w=1844674407370955162):
  (w<=acc->M<v)/\(M<acc * 10+d->M<v):=by
 omega
theorem C2b(M acc:Nat)(c:UInt8)(r:List UInt8):Lib.parseUintM M acc (c :: r) =
  if 48<=c.toNat/\c.toNat<=57 then
   if 1844674407370955162<=acc then .range
   else if M<acc * 10+(c.toNat-48) then .range
   else Lib.parseUintM M (acc * 10+(c.toNat-48)) r
  else .syntax:=by rfl
theorem pum{M:Nat}(hM:M=18446744073709551615):∀ (l:List UInt8) (acc:Nat),(∀ c∈l,dgB c=true)->acc<=M ->
  Lib.parseUintM M acc l=if B1e acc l<=M then .ok (B1e acc l) else .range:=by
 intro l
 induction l with
 |nil =>
  intro acc h ha;rw[if_pos (show B1e acc []<=M from ha),Lib.parseUintM];rfl
 |cons c r ih =>
  intro acc h ha;have hc:=h c A0I;simp only[dgB,A0E,A0G]at hc;have hg:=B6n r (10 * acc+(c.toNat-48));rw[C2b,if_pos hc,B8q]
  grind
theorem pib{l:List UInt8}(h:∀ c∈l,dgB c=true)(h0:l≠[]):
  Lib.parseIntB 64 l=if L7 l<=9223372036854775807 then .ok (L7 l:Int) else .range:=by
 cases l with
 |nil=>grind
 |cons c r =>
  have hc:=h c A0I;simp only[dgB,A0E,A0G]at hc;have e1:¬ c.toNat=43:=by omega
  have e2:¬ c.toNat=45:=by omega
  have hp:=pum (M:=2 ^ 64-1) (by decide) (c :: r) 0 h (A0V _);have hv:B1e 0 (c :: r)=L7 (c :: r):=rfl;rw[hv]at hp;unfold Lib.parseIntB;simp only[e1,e2,or_self,if_false,not_false_eq_true,true_and,false_and];unfold Lib.parseUintB
  grind
def K9(l:List Ins):List DV:=cellsL (l.map Ins.v)
theorem N7(a b:List Ins):K9 (a++b)=K9 a++K9 b:=by simp[K9,F3]
theorem A5p(i:Ins):K9 [i]=[I64 i.op,I64 i.A]:=by rfl
theorem A5q(l:List Ins):(K9 l).length=l.length * 2:=by
 unfold K9;rw[C4 (u:=2)]
 ·simp
 ·intro x hx;obtain⟨y, -,rfl⟩:=A1C.1 hx;rfl
theorem B9l(l:List Ent):(cellsL (l.map Ent.v)).length=l.length * 4:=by
 rw[C4 (u:=4)]
 ·simp
 ·intro x hx;obtain⟨y, -,rfl⟩:=A1C.1 hx;rfl
theorem B1p(l:List Ins):∀ x∈l.map Ins.v,x.cells.length=2:=by
 intro x hx;obtain⟨y, -,rfl⟩:=A1C.1 hx;rfl
theorem Q8(l:List (List UInt8)):∀ x∈l.map DV.str,x.cells.length=1:=by
 intro x hx;obtain⟨y, -,rfl⟩:=A1C.1 hx;rfl
theorem S9{α : Type}{l:List α}(h:l=[]):l.length=0:=by grind
def delO(H:Hp):Option Nat->Hp
 |none=>H
 |some i=>H.del i
theorem Q7{o:Option Nat}{n:Nat}(h:o=none->n=0):A5l (todoV o n)=some (I64 (n:Int)):=by
 cases o with
 |none=>rw[h rfl];rfl
 |some i=>rfl
theorem E8{H:Hp}{c sz bytes n m:Nat}{o:Option Nat}{cs src:List DV}(hn:o=none->n=0/\cs=[])(hb:∀ i,o=some i->H i=some ⟨sz,true,cs⟩)(hl:cs.length=n * sz)(hm:1<=m)(h2:(n+m) * bytes<=140737488355328)(h3:n+m<=9223372036854775807):
  A2v H c sz bytes (todoV o n) m src=some (.slc c 0 (n+m),(delO H o).upd c ⟨sz,true,cs++src⟩,c+1):=by
 cases o with
 |none =>
  obtain⟨rfl,rfl⟩:=hn rfl;rw[A4p,B5z (by omega) (by grind) (by omega)];simp[delO]
 |some i=>rw[A0x,B3l,hb i rfl,C5h hl h2 h3];rfl
theorem B4{H:Hp}{o:Option Nat}{j:Nat}(h:∀ i,o=some i->¬ j=i):delO H o j=H j:=by
 cases o with
 |none=>rfl
 |some i=>exact D5 (h i rfl)
theorem B1{H:Hp}{o:Option Nat}{b:Blk}{j:Nat}(h:∀ i,o=some i->¬ j=i):optH H o b j=H j:=by
 cases o with
 |none=>rfl
 |some i=>exact h_ne (h i rfl)
section
variable {l:List UInt8} {k p:Nat} {S P V:DV} {I:List Ins} {E:List Ent} {o1 o2:Option Nat} {cc:Nat}
end
theorem B2s{a b:Nat}(h:((a:Int) == (b:Int))=true):a=b:=by grind
theorem A3r{a b:Nat}(h:((a:Int) == (b:Int))=false):a≠b:=fun e=>by grind
theorem D4v{a b:Nat}(h:((a:Int) != (b:Int))=true):a≠b:=fun e=>by grind
theorem D4w{a b:Nat}(h:((a:Int) != (b:Int))=false):a=b:=by
 grind
theorem B9d{a b:Nat}(h:decide ((a:Int)>(b:Int))=true):b<a:=by grind
theorem A6r{a b:Nat}(h:decide ((a:Int)>(b:Int))=false):¬ b<a:=by grind
theorem J3{α : Type}{s:List α}{i:Nat}{c : α}(h:s[i]? = some c):s.drop i=c :: s.drop (i+1):=by
 obtain⟨hi,rfl⟩:=A0P.1 h;simp
theorem D1c{s:List UInt8}{i:Nat}{c:UInt8}(h:s[i]? = some c)(hc:W7 c=true):skM false (s.drop i)=skM false (s.drop (i+1))+1:=by
 rw[J3 h];simp only[skM];grind
theorem D1e{s:List UInt8}{i:Nat}{c:UInt8}(h:s[i]? = some c)(hc:c.toNat=35):
  skM false (s.drop i)=B0 (fun c=>decide (c.toNat≠10)) (s.drop i)+skM false (s.drop (i+B0 (fun c=>decide (c.toNat≠10)) (s.drop i))):=by
 have hs:¬ W7 c=true:=by simp[W7,hc]
 have e1:skM false (s.drop i)=skM true (s.drop i):=by
  rw[J3 h];simp only[skM]
  grind
 rw[e1,B0j,A3F]
theorem C6d{s:List UInt8}{i:Nat}{c:UInt8}(h:s[i]? = some c)(h1:¬ W7 c=true)(h2:¬ c.toNat=35):skM false (s.drop i)=0:=by
 rw[J3 h];simp only[skM];grind
theorem D1d{s:List UInt8}{i:Nat}(h:s.length<=i):skM false (s.drop i)=0:=by
 rw[A3M h];rfl
theorem C6e{s:List UInt8}{i:Nat}{c:UInt8}(h:s[i]? = some c)(hc:c.toNat=35):1<=B0 (fun c=>decide (c.toNat≠10)) (s.drop i):=by
 rw[J3 h];simp only[B0];grind
def quA(acc:List UInt8)(k:Nat)(q:Option (List UInt8 × Nat)):Option (List UInt8 × Nat):=q.map fun x=>(acc++x.1,x.2+k)
theorem J5(c:UInt8)(r:List UInt8):quM (c :: r)=if c.toNat=34 then some ([],1)
  else if c.toNat<32\/126<c.toNat then none
  else if c.toNat=92 then match r with
   |[]=>none
   |d :: q=>if d.toNat=34\/d.toNat=92 then (quM q).map fun x=>(d :: x.1,x.2+2) else none
  else (quM r).map fun x=>(c :: x.1,x.2+1):=by rw[quM.eq_def];try rfl
theorem A1k{s acc:List UInt8}{k:Nat}{c:UInt8}(h:s[k]? = some c)(hc:c.toNat=34):quA acc k (quM (s.drop k))=some (acc,k+1):=by
 rw[J3 h,J5,if_pos hc];simp[quA];omega
theorem A8j{s acc:List UInt8}{k:Nat}{c:UInt8}(h:s[k]? = some c)(h0:c.toNat≠34)(hc:c.toNat<32\/126<c.toNat):quA acc k (quM (s.drop k))=none:=by
 rw[J3 h,J5,if_neg h0,if_pos hc];rfl
theorem D2a{s acc:List UInt8}{k:Nat}(h:s.length<=k):quA acc k (quM (s.drop k))=none:=by
 rw[A3M h,quM];rfl
theorem B6b{s acc:List UInt8}{k:Nat}{c:UInt8}(h:s[k]? = some c)(h0:c.toNat≠34)(h1:32<=c.toNat)(h2:c.toNat<=126)(h3:c.toNat≠92):
  quA acc k (quM (s.drop k))=quA (acc++[c]) (k+1) (quM (s.drop (k+1))):=by
 rw[J3 h,J5,if_neg h0,if_neg (by omega),if_neg h3];cases quM (s.drop (k+1)) with
 |none=>rfl
 |some x=>simp[quA];omega
theorem C1w{s acc:List UInt8}{k:Nat}{c d:UInt8}(h:s[k]? = some c)(h3:c.toNat=92)(hd:s[k+1]? = some d)(h4:d.toNat=34\/d.toNat=92):
  quA acc k (quM (s.drop k))=quA (acc++[d]) (k+2) (quM (s.drop (k+2))):=by
 rw[J3 h,J3 hd,J5,if_neg (by omega),if_neg (by omega),if_pos h3];simp only;rw[if_pos h4];cases quM (s.drop (k+1+1)) with
 |none=>rfl
 |some x=>simp[quA];omega
theorem B6a{s acc:List UInt8}{k:Nat}{c:UInt8}(h:s[k]? = some c)(h3:c.toNat=92)(hd:∀ d,s[k+1]? = some d->d.toNat≠34/\d.toNat≠92):
  quA acc k (quM (s.drop k))=none:=by
 rw[J3 h];cases hq:s.drop (k+1) with
 |nil=>rw[J5,if_neg (by omega),if_neg (by omega),if_pos h3];rfl
 |cons d q =>
  have h5:s[k+1]? = some d:=by
   have:=congrArg List.head? hq
   rwa [List.head?_drop]at this
  have h6:=hd d h5;rw[J5,if_neg (by omega),if_neg (by omega),if_pos h3];simp only;rw[if_neg (by omega)];rfl
theorem C1t{H:Hp}{o:Option Nat}{u:Nat}{acc:List UInt8}(hn:o=none->acc=[])(hb:∀ i,o=some i->H i=some ⟨u,true,bytesC acc⟩):Y3 H (todoV o acc.length)=some (.str acc):=by
 cases o with
 |none=>rw[hn rfl];rfl
 |some i=>exact A5y (hb i rfl) rfl rfl
theorem C6a{X:Hp}{id:Nat}{b b':Blk}(h:b=b'):Sub (optH Sym.nil (some id) b) (X.upd id b'):=by
 intro j q hj;simp only[optH]at hj;by_cases e:j=id
 ·subst e;rw[h_same]at hj ⊢;grind
 ·rw[h_ne e]at hj;cases hj
theorem B8j{X:Hp}{o:Option Nat}{c sz bytes n m:Nat}{cs src:List DV}{b2:Blk}(hn:o=none->n=0/\cs=[])(ho:∀ i,o=some i->i<c)(hl:cs.length=n * sz)(hm:1<=m)
  (h2:(n+m) * bytes<=140737488355328) (h3:n+m<=9223372036854775807) :
  A2v ((optH X o ⟨sz,true,cs⟩).upd c b2) (c+1) sz bytes (todoV o n) m src=some (.slc (c+1) 0 (n+m),(delO ((optH X o ⟨sz,true,cs⟩).upd c b2) o).upd (c+1) ⟨sz,true,cs++src⟩,c+1+1) :=
 E8 hn (fun i hi=>by have:=ho i hi;rw[hnO];subst hi;exact h_same) hl hm h2 h3
theorem B0u{X:Hp}{o:Option Nat}{c:Nat}{acc:List UInt8}(hn:o=none->acc=[])(ho:∀ i,o=some i->i<c)(hl:acc.length<=10000000)(b2:Blk)(x:UInt8):
  A2v ((optH X o ⟨1,true,bytesC acc⟩).upd c b2) (c+1) 1 1 (todoV o acc.length) 1 [.int .u8 (x.toNat:Int)]=some (.slc (c+1) 0 (acc.length+1),(delO ((optH X o ⟨1,true,bytesC acc⟩).upd c b2) o).upd (c+1) ⟨1,true,bytesC (acc++[x])⟩,c+1+1):=by
 rw[B4x];exact B8j (fun e=>by rw[hn e];trivial) ho (B2r acc) (by omega) (by omega) (by omega)
theorem C1j(q:List Tok × Int × Int):(C1k q).nl=true:=by
 simp only[DV.nl,DV.nlL,C2o,A2P]
theorem B0x{H:Hp}{a b:DV}:∃ H2,GL H [.tup [.snil,a,b]] H2 [.tup [.lst [],a,b]] :=
 ⟨H,GL.view fun ρ vs hA=>⟨hA.1,fun i x y hx hy=>by
  match i with
  |0 =>
   cases hx;have:=hA.2 0 _ y rfl hy;obtain⟨b',rfl,k1,k2⟩:=this.tup_inv;refine .tup _ _ k1 fun j x' y' hx' hy'=>?_
   match j with
   |0=>cases hx';exact (k2 0 _ y' rfl hy').snil_lst
   |1=>grind
   |2=>grind
   |_+3=>grind
  |_+1=>grind⟩⟩
theorem B0l{H:Hp}{a b:Int}:∃ H2,GL H [.tup [.snil,I64 a,I64 b]] H2 [C1k ([],a,b)]:=B0x
theorem C2e{o:Option Nat}{xs:List DV}{u n:Nat}{a b:DV}(hno:o=none->xs=[])(hl:xs.length=n)(hu:∀ x∈xs,x.cells.length=u):
  ∃ H2,GL (optH Sym.nil o ⟨u,true,cellsL xs⟩) [.tup [todoV o n,a,b]] H2 [.tup [.lst xs,a,b]]:=by
 cases o with
 |none=>rw[hno rfl];exact B0x
 |some i=>exact⟨nil,GL.one (id:=i) h_same rfl (.cons _ _ _ _ (.tup _ _ (.cons _ _ _ _ (M2 hl hu ⟨[],by simp⟩) (.cons _ _ _ _ (.same _) (.cons _ _ _ _ (.same _) .nil)))) .nil)⟩
theorem D2f{X:Hp}{o:Option Nat}{b:Blk}{i:Nat}(hi:o=some i):optH X o b i=some b:=by subst hi;exact h_same
theorem u8_eq(c:UInt8)(n:Nat)(h:n<256):(c == UInt8.ofNat n)=decide (c.toNat=n):=by
 rw[A2C,A1R,decide_eq_true_iff, <- UInt8.toNat_inj];simp;omega
theorem C5v(c d:UInt8):Y5 c d=([c,d] == [60,61] || [c,d] == [62,61] || [c,d] == [61,61] || [c,d] == [33,61] || [c,d] == [38,38] || [c,d] == [124,124]):=by
 have hk:∀ a b:UInt8,([c,d] == [a,b])=(c == a && d == b):=fun a b=>by simp[List.cons_beq_cons]
 rw[hk,hk,hk,hk,hk,hk];have hu:∀ (x:UInt8) (n:Nat),n<256->(x == UInt8.ofNat n)=(x.toNat == n):=fun x n h=>by rw[u8_eq x n h];rfl
 have e:∀ n:Nat,(OfNat.ofNat n:UInt8)=UInt8.ofNat n:=fun _=>rfl;show ([(60,61),(62,61),(61,61),(33,61),(38,38),(124,124)]:List (Nat × Nat)).contains (c.toNat,d.toNat)=(c == UInt8.ofNat 60 && d == UInt8.ofNat 61 || c == UInt8.ofNat 62 && d == UInt8.ofNat 61 || c == UInt8.ofNat 61 && d == UInt8.ofNat 61 || c == UInt8.ofNat 33 && d == UInt8.ofNat 61 || c == UInt8.ofNat 38 && d == UInt8.ofNat 38 || c == UInt8.ofNat 124 && d == UInt8.ofNat 124);rw[hu c 60 (by omega),hu c 61 (by omega),hu c 62 (by omega),hu c 33 (by omega),hu c 38 (by omega),hu c 124 (by omega),hu d 61 (by omega),hu d 38 (by omega),hu d 124 (by omega)]
 grind
inductive Ex where
 |mk (kind value:Int) (name:List UInt8) (args:List Ex) (pos:Int)
def Ex.kind:Ex->Int |.mk k _ _ _ _=>k
def Ex.value:Ex->Int |.mk _ v _ _ _=>v
def Ex.name:Ex->List UInt8 |.mk _ _ n _ _=>n
def Ex.args:Ex->List Ex |.mk _ _ _ a _=>a
def Ex.pos:Ex->Int |.mk _ _ _ _ p=>p
mutual
def Ex.v:Ex->DV
 |.mk k v n a p=>.agg [I64 k,I64 v,.str n,.lst (Ex.vs a),I64 p]
def Ex.vs:List Ex->List DV
 |[]=>[]
 |e :: l=>Ex.v e :: Ex.vs l
end
theorem Ex.vs_map:∀ l:List Ex,Ex.vs l=l.map Ex.v
 |[]=>rfl
 |e :: l=>by rw[Ex.vs,Ex.vs_map l];rfl
abbrev G7(l:List Ex):DV:=.lst (l.map Ex.v)
abbrev Ex.w(e:Ex):DV:=.agg [I64 e.kind,I64 e.value,.str e.name,G7 e.args,I64 e.pos]
theorem Ex.v_w(e:Ex):e.v=e.w:=by
 cases e with|mk k v n a p=>rw[Ex.v,Ex.vs_map];rfl
theorem A9f(l:List Ex):∀ x∈l.map Ex.v,x.cells.length=5:=fun x hx=>by
 obtain⟨y, -,rfl⟩:=A1C.1 hx;rw[Ex.v_w];rfl
mutual
@[simp]theorem Ex.nl:∀ e:Ex,e.v.nl=true
 |.mk k v n a p=>by
  have:=Ex.nls a;rw[Ex.v];simp only[DV.nl,DV.nlL,this,A2P]
theorem Ex.nls:∀ l:List Ex,DV.nlL (Ex.vs l)=true
 |[]=>rfl
 |e :: l=>by rw[Ex.vs,DV.nlL,Ex.nl e,Ex.nls l];rfl
end
@[simp]theorem A4f(l:List Ex):DV.nlL (l.map Ex.v)=true:=by rw[<- Ex.vs_map];exact Ex.nls l
def Ex0:Ex:=.mk 0 0 [] [] 0
inductive St where
 |mk (kind:Int) (name text:List UInt8) (args:List Ex) (thn els:List St) (pos:Int)
def St.kind:St->Int |.mk k _ _ _ _ _ _=>k
def St.name:St->List UInt8 |.mk _ n _ _ _ _ _=>n
def St.text:St->List UInt8 |.mk _ _ t _ _ _ _=>t
def St.args:St->List Ex |.mk _ _ _ a _ _ _=>a
def St.thn:St->List St |.mk _ _ _ _ t _ _=>t
def St.els:St->List St |.mk _ _ _ _ _ e _=>e
def St.pos:St->Int |.mk _ _ _ _ _ _ p=>p
mutual
def St.v:St->DV
 |.mk k n t a x y p=>.agg [I64 k,.str n,.str t,G7 a,.lst (St.vs x),.lst (St.vs y),I64 p]
def St.vs:List St->List DV
 |[]=>[]
 |e :: l=>St.v e :: St.vs l
end
theorem St.vs_map:∀ l:List St,St.vs l=l.map St.v
 |[]=>rfl
 |e :: l=>by rw[St.vs,St.vs_map l];rfl
abbrev D2(l:List St):DV:=.lst (l.map St.v)
abbrev St.w(s:St):DV:=.agg [I64 s.kind,.str s.name,.str s.text,G7 s.args,D2 s.thn,D2 s.els,I64 s.pos]
theorem St.v_w(s:St):s.v=s.w:=by
 cases s with|mk k n t a x y p=>rw[St.v,St.vs_map,St.vs_map];rfl
theorem B5s(l:List St):∀ x∈l.map St.v,x.cells.length=7:=fun x hx=>by
 obtain⟨y, -,rfl⟩:=A1C.1 hx;rw[St.v_w];rfl
mutual
@[simp]theorem St.nl:∀ e:St,e.v.nl=true
 |.mk k n t a x y p=>by
  have h1:=A4f a;have h2:=St.nls x;have h3:=St.nls y;rw[St.v];simp only[DV.nl,DV.nlL,h1,h2,h3,A2P]
theorem St.nls:∀ l:List St,DV.nlL (St.vs l)=true
 |[]=>rfl
 |e :: l=>by rw[St.vs,DV.nlL,St.nl e,St.nls l];rfl
end
@[simp]theorem A1n(l:List St):DV.nlL (l.map St.v)=true:=by rw[<- St.vs_map];exact St.nls l
def St0:St:=.mk 0 [] [] [] [] [] 0
structure Dc where
 kind:Int
 name:List UInt8
 value:Int
 pos:Int
deriving DecidableEq
abbrev Dc.v(d:Dc):DV:=.agg [I64 d.kind,.str d.name,I64 d.value,I64 d.pos]
abbrev F7(l:List Dc):DV:=.lst (l.map Dc.v)
structure Hd where
 trig:Int
 name:List UInt8
 body:List St
 pos:Int
abbrev Hd.v(h:Hd):DV:=.agg [I64 h.trig,.str h.name,D2 h.body,I64 h.pos]
abbrev N8(l:List Hd):DV:=.lst (l.map Hd.v)
structure Md where
 name:List UInt8
 prio:Int
 hds:List Hd
 pos:Int
abbrev Md.v(m:Md):DV:=.agg [.str m.name,I64 m.prio,N8 m.hds,I64 m.pos]
abbrev E4(l:List Md):DV:=.lst (l.map Md.v)
structure Ru where
 decls:List Dc
 modes:List Md
abbrev Ru.v(r:Ru):DV:=.agg [F7 r.decls,E4 r.modes]
theorem B7q(l:List Dc):∀ x∈l.map Dc.v,x.cells.length=4:=fun x hx=>by obtain⟨y, -,rfl⟩:=A1C.1 hx;rfl
theorem A4h(l:List Hd):∀ x∈l.map Hd.v,x.cells.length=4:=fun x hx=>by obtain⟨y, -,rfl⟩:=A1C.1 hx;rfl
theorem B6w(l:List Md):∀ x∈l.map Md.v,x.cells.length=4:=fun x hx=>by obtain⟨y, -,rfl⟩:=A1C.1 hx;rfl
@[simp]theorem S7(l:List Dc):DV.nlL (l.map Dc.v)=true:=I2 (fun _=>rfl) l
@[simp]theorem A8t(l:List Hd):DV.nlL (l.map Hd.v)=true:=I2 (fun h=>by simp[DV.nl,DV.nlL,A1n]) l
@[simp]theorem S6(l:List Md):DV.nlL (l.map Md.v)=true:=I2 (fun h=>by simp[DV.nl,DV.nlL,A8t]) l
structure Rd where
 i:Nat
 e:Int
 pos:Int
 ops:Int
 par:Int
section
variable (L:List Tok) (E:Int)
abbrev csR(s:Rd):List DV:=[C8z L,I64 E,I64 s.i,I64 s.e,I64 s.pos,I64 s.ops,I64 s.par]
abbrev rdR(s:Rd):Blk:=⟨0,true,csR L E s⟩
def okR(s:Rd):Bool:=s.e == 0
def J2(s:Rd)(p e:Int):Rd:=if okR s=true then { s with e:=e,pos:=p } else s
def A7(s:Rd):Tok:=L.getD s.i ⟨0,[],0,E⟩
def isR(s:Rd)(t:List UInt8):Bool:=okR s && ((A7 L E s).kind == 5 || (A7 L E s).kind == 2) && (A7 L E s).text == t
def F9(s:Rd)(k:Int):Bool:=okR s && (A7 L E s).kind == k
def K8(s:Rd):Rd:=J2 s (A7 L E s).pos 4
def A9(s:Rd)(n most e:Int):Rd:=if most<n then J2 s (A7 L E s).pos e else s
def A6(s:Rd):Rd:={ s with i:=s.i+1 }
def B5(s:Rd)(t:List UInt8):Rd:=if isR L E s t=false then K8 L E s else A6 s
def D0v:Tok:=⟨0,[],0,0⟩
def A4(s:Rd)(k:Int):Tok × Rd:=if F9 L E s k=false then (D0v,K8 L E s) else (A7 L E s,A6 s)
def V5(s:Rd):Nat->List (List UInt8)->Int
 |_,[] => -1
 |k,t :: l=>if isR L E s t=true then (k:Int) else V5 s (k+1) l
def A8(s:Rd)(l:List (List UInt8)):Int:=V5 L E s 0 l
end
def C2:List (List UInt8):=[[115,119,105,116,99,104],[99,111,105,108],[108,97,109,112],[115,111,117,110,100],[115,104,111,119],[118,97,114],[116,105,109,101,114],[101,118,101,110,116]]
def C6:List (List UInt8):=[[115,116,97,114,116],[115,116,111,112],[99,108,111,115,101],[111,112,101,110],[116,105,109,101,114],[101,118,101,110,116]]
def C0:List (List UInt8):=[[105,102],[114,101,112,101,97,116],[115,99,111,114,101],[102,105,114,101],[104,111,108,100],[114,101,108,101,97,115,101],[108,105,103,104,116],[98,108,105,110,107],[115,116,97,114,116],[115,116,111,112],[98,101,103,105,110],[101,110,100],[112,111,115,116],[112,108,97,121],[114,117,110],[104,97,108,116],[116,101,120,116],[99,111,110,115,117,109,101]]
def C1:List (List UInt8):=[[42],[47],[37],[43],[45],[60],[60,61],[62],[62,61],[61,61],[33,61],[38,38],[124,124]]
def E5(k:Int):Int:=if k=24 then 1 else if k=23 then 2 else if 17<=k/\k<=22 then 3 else if k=15\/k=16 then 4 else if 12<=k/\k<=14 then 5 else if k=10\/k=11 then 6 else 7
section
variable (L:List Tok) (E:Int)
def A2g:List Int:=[3,4,8,9,5,6,7]
def D7:List (List UInt8):=[[116,114,117,101],[102,97,108,115,101],[112,108,97,121,101,114],[98,97,108,108],[99,108,111,115,101,100],[97,99,116,105,118,101],[108,101,102,116]]
def K3:List (List UInt8):=[[45],[33],[40]]
def J6(s:Rd):Ex × Rd :=
 let t:=A7 L E s
 let k:=A8 L E s D7
 if k<0/\F9 L E s 3=false/\F9 L E s 1=false then (Ex0,K8 L E s)
 else
  let s1:Rd:={ s with ops:=s.ops+1 }
  let s2:=A9 L E s1 s1.ops 32 9
  if okR s2=false then (Ex0,s2)
  else
   let s3:=A6 s2
   if 0<=k then
    if 4<=k then (.mk (A2g.getD k.toNat 0) 0 (A4 L E s3 1).1.text [] t.pos,(A4 L E s3 1).2)
    else (.mk (A2g.getD k.toNat 0) 0 [] [] t.pos,s3)
   else if t.kind=3 then (.mk 1 t.value [] [] t.pos,s3)
   else (.mk 2 0 t.text [] t.pos,s3)
mutual
def I1:Nat->Int->Rd->Option (Ex × Rd)
 |0,_,_=>none
 |f+1,n,s=>if 5<n then S0 f s else
  match I1 f (n+1) s with
  |none=>none
  |some (e,s)=>N6 f n e s
def N6:Nat->Int->Ex->Rd->Option (Ex × Rd)
 |0,_,_,_=>none
 |f+1,n,e,s =>
  let k:=A8 L E s C1
  if k<0\/E5 (12+k)≠n then some (e,s) else
  match I1 f (n+1) (A6 s) with
  |none=>none
  |some (x,s1) =>
   let y:=Ex.mk (12+k) 0 [] [e,x] (A7 L E s).pos
   if n=3 then some (y,s1) else N6 f n y s1
def S0:Nat->Rd->Option (Ex × Rd)
 |0,_=>none
 |f+1,s =>
  let t:=A7 L E s
  let k:=A8 L E s K3
  if k<0 then some (J6 L E s) else
  let s1:=A9 L E s (s.par+1) 16 50
  if okR s1=false then some (Ex0,s1) else
  let s2:Rd:={ s1 with i:=s1.i+1,par:=s1.par+1 }
  if k=2 then
   match I1 f 1 s2 with
   |none=>none
   |some (e,s3)=>let s4:=B5 L E s3 [41];some (e, { s4 with par:=s4.par-1 })
  else
   match S0 f s2 with
   |none=>none
   |some (e,s3)=>some (.mk (10+k) 0 [] [e] t.pos, { s3 with par:=s3.par-1 })
end
def M4(f:Nat)(s:Rd):Option (Ex × Rd):=I1 L E f 1 { s with ops:=0,par:=0 }
def L3(f:Nat)(k p:Int)(s:Rd):Option (St × Rd) :=
 if k=4 then
  match M4 L E f s with
  |none=>none
  |some (e,s1)=>some (.mk k [] [] [e] [] [] p,B5 L E s1 [59])
 else if k=18 then
  match M4 L E f (B5 L E (A4 L E s 4).2 [44]) with
  |none=>none
  |some (e,s1)=>some (.mk k [] (A4 L E s 4).1.text [e] [] [] p,B5 L E s1 [59])
 else if k=19 then some (.mk k [] [] [] [] [] p,B5 L E s [59])
 else
  let n:=(A4 L E s 1).1.text
  let s0:=(A4 L E s 1).2
  if k=8\/k=9\/k=10 then
   match M4 L E f s0 with
   |none=>none
   |some (e,s1) =>
    if k=9 then
     match M4 L E f (B5 L E s1 [44]) with
     |none=>none
     |some (e2,s2)=>some (.mk k n [] [e,e2] [] [] p,B5 L E s2 [59])
    else some (.mk k n [] [e] [] [] p,B5 L E s1 [59])
  else some (.mk k n [] [] [] [] p,B5 L E s0 [59])
mutual
def K7:Nat->Int->Rd->Option (List St × Rd)
 |0,_,_=>none
 |f+1,d,s=>P5 f d [] (B5 L E s [123])
def P5:Nat->Int->List St->Rd->Option (List St × Rd)
 |0,_,_,_=>none
 |f+1,d,l,s =>
  if okR s=true/\isR L E s [125]=false then
   if A8 L E s C0<0/\F9 L E s 1=false then some ([],K8 L E s) else
   match P9 f d (A9 L E s ((l.length:Int)+1) 64 9) with
   |none=>none
   |some (x,s1)=>P5 f d (l++[x]) s1
  else some (l,B5 L E s [125])
def P9:Nat->Int->Rd->Option (St × Rd)
 |0,_,_=>none
 |f+1,d,s0 =>
  let s:=A9 L E s0 d 8 50
  if okR s=false then some (St0,s) else
  let p:=(A7 L E s).pos
  let k:=A8 L E s C0
  if k<0 then
   match M4 L E f (B5 L E (A4 L E s 1).2 [61]) with
   |none=>none
   |some (e,s1)=>some (.mk 1 (A4 L E s 1).1.text [] [e] [] [] p,B5 L E s1 [59])
  else
   let s1:=A6 s
   if k=0\/k=1 then
    match M4 L E f s1 with
    |none=>none
    |some (e,s2) =>
     match K7 f (d+1) s2 with
     |none=>none
     |some (t,s3) =>
      if k=0/\isR L E s3 [101,108,115,101]=true then
       match P2 f d (A6 s3) with
       |none=>none
       |some (o,s4)=>some (.mk 2 [] [] [e] t o p,s4)
      else some (.mk (2+k) [] [] [e] t [] p,s3)
   else L3 L E f (2+k) p s1
def P2:Nat->Int->Rd->Option (List St × Rd)
 |0,_,_=>none
 |f+1,d,s =>
  if isR L E s [105,102]=true then
   match P9 f (d+1) s with
   |none=>none
   |some (x,s1)=>some ([x],s1)
  else K7 f (d+1) s
end
def S4(k:Int)(s:Rd):Dc × Rd :=
 let p:=(A7 L E s).pos
 let s1:=A6 s
 let n:=(A4 L E s1 1).1.text
 let s2:=(A4 L E s1 1).2
 if k+1<=6 then
  let m:=k+1 == 6 && isR L E s2 [45]
  let s3:=if m=true then A6 s2 else s2
  let v:=(A4 L E s3 3).1.value
  (⟨1+k,n,if m=true then -v else v,p⟩,B5 L E (A4 L E s3 3).2 [59])
 else (⟨1+k,n,0,p⟩,B5 L E s2 [59])
def S2:Nat->List Hd->Rd->Option (List Hd × Rd)
 |0,_,_=>none
 |f+1,l,s =>
  if okR s=true/\isR L E s [125]=false then
   if isR L E s [111,110]=false then some (l,K8 L E s) else
   let s1:=A9 L E s ((l.length:Int)+1) 32 9
   let p:=(A7 L E s1).pos
   let s2:=B5 L E s1 [111,110]
   let k:=A8 L E s2 C6
   if k<0 then some (l,K8 L E s2) else
   let s3:=A6 s2
   let n:=if 2<=k then (A4 L E s3 1).1.text else []
   let s4:=if 2<=k then (A4 L E s3 1).2 else s3
   match K7 L E f 1 s4 with
   |none=>none
   |some (b,s5)=>S2 f (l++[⟨1+k,n,b,p⟩]) s5
  else some (l,B5 L E s [125])
def A1p(f:Nat)(s:Rd):Option (Md × Rd) :=
 let p:=(A7 L E s).pos
 let s1:=B5 L E s [109,111,100,101]
 let n:=(A4 L E s1 1).1.text
 let s2:=(A4 L E s1 1).2
 let v:=(A4 L E s2 3).1.value
 match S2 L E f [] (B5 L E (A4 L E s2 3).2 [123]) with
 |none=>none
 |some (l,s3)=>some (⟨n,v,l,p⟩,s3)
def S1:Nat->List Dc->Rd->Option (List Dc × Rd)
 |0,_,_=>none
 |f+1,l,s =>
  let k:=A8 L E s C2
  if k<0 then some (l,s) else
  let s1:=A9 L E s ((l.length:Int)+1) 128 9
  if okR s1=true then S1 f (l++[(S4 L E k s1).1]) (S4 L E k s1).2 else S1 f l s1
def Q1:Nat->List Md->Rd->Option (List Md × Rd)
 |0,_,_=>none
 |f+1,l,s =>
  if okR s=true/\s.i<L.length then
   if isR L E s [109,111,100,101]=false then some (l,K8 L E s) else
   let s1:=A9 L E s ((l.length:Int)+1) 16 9
   if okR s1=true then
    match A1p L E f s1 with
    |none=>none
    |some (m,s2)=>Q1 f (l++[m]) s2
   else Q1 f l s1
  else some (l,s)
def A6o(f:Nat)(s:Rd):Option (Ru × Rd) :=
 match S1 L E f [] s with
 |none=>none
 |some (d,s1) =>
  match Q1 L E f [] s1 with
  |none=>none
  |some (m,s2)=>some (⟨d,m⟩,s2)
end
def txB(c:UInt8):Bool:=decide (32<=c.toNat) && decide (c.toNat<=126)
mutual
def Ex.sz:Ex->Nat
 |.mk k v n a p=>1+n.length+Ex.szs a
def Ex.szs:List Ex->Nat
 |[]=>0
 |e :: l=>e.sz+Ex.szs l
end
mutual
def St.sz:St->Nat
 |.mk k n t a x y p=>1+n.length+t.length+Ex.szs a+St.szs x+St.szs y
def St.szs:List St->Nat
 |[]=>0
 |e :: l=>e.sz+St.szs l
end
def Dc.sz(d:Dc):Nat:=1+d.name.length
def Hd.sz(h:Hd):Nat:=1+h.name.length+St.szs h.body
def Md.sz(m:Md):Nat:=1+m.name.length+(m.hds.map Hd.sz).sum
def Ru.sz(r:Ru):Nat:=(r.decls.map Dc.sz).sum+(r.modes.map Md.sz).sum
theorem Ex.szs_map:∀ l:List Ex,Ex.szs l=(l.map Ex.sz).sum
 |[]=>rfl
 |e :: l=>by rw[Ex.szs,Ex.szs_map l];rfl
theorem St.szs_map:∀ l:List St,St.szs l=(l.map St.sz).sum
 |[]=>rfl
 |e :: l=>by rw[St.szs,St.szs_map l];rfl
theorem P7{α : Type}{f : α -> Nat}{x : α}:∀ {l:List α},x∈l->f x<=(l.map f).sum
 |a :: l,h=>by
  rw[A0R,List.sum_cons];rcases A1A.1 h with rfl|h
  ·omega
  ·have:=P7 (f:=f) h;omega
theorem P8{α : Type}{f : α -> Nat}:∀ {l:List α},(∀ x∈l,1<=f x)->l.length<=(l.map f).sum
 |[],h=>A0V _
 |a :: l,h=>by
  have:=P8 (f:=f) (l:=l) fun x hx=>h x (A0F _ hx)
  grind
theorem Ex.sz_pos(e:Ex):1<=e.sz:=by cases e with|mk k v n a p=>rw[Ex.sz];omega
theorem St.sz_pos(e:St):1<=e.sz:=by cases e with|mk k n t a x y p=>rw[St.sz];omega
theorem Ex.sz_arg{e x:Ex}(h:x∈e.args):x.sz<e.sz:=by
 cases e with|mk k v n a p =>
 have:=P7 (f:=Ex.sz) h;rw[Ex.sz,Ex.szs_map];have h':(Ex.mk k v n a p).args=a:=rfl
 grind
theorem Ex.sz_name(e:Ex):e.name.length<e.sz:=by
 cases e with|mk k v n a p=>rw[Ex.sz];show n.length<_;omega
theorem St.sz_name(e:St):e.name.length<e.sz:=by
 cases e with|mk k n t a x y p=>rw[St.sz];show n.length<_;omega
theorem St.sz_text(e:St):e.text.length<e.sz:=by
 cases e with|mk k n t a x y p=>rw[St.sz];show t.length<_;omega
theorem St.sz_thn(e:St):St.szs e.thn<e.sz:=by
 cases e with|mk k n t a u w p=>rw[St.sz];show St.szs u<_;omega
theorem St.sz_els(e:St):St.szs e.els<e.sz:=by
 cases e with|mk k n t a u w p=>rw[St.sz];show St.szs w<_;omega
theorem St.szs_len(l:List St):l.length<=St.szs l:=by rw[St.szs_map];exact P8 fun x _=>x.sz_pos
theorem St.szs_mem{l:List St}{x:St}(h:x∈l):x.sz<=St.szs l:=by rw[St.szs_map];exact P7 h
theorem Ex.szs_mem{l:List Ex}{x:Ex}(h:x∈l):x.sz<=Ex.szs l:=by rw[Ex.szs_map];exact P7 h
theorem Ex.szs_len(l:List Ex):l.length<=Ex.szs l:=by rw[Ex.szs_map];exact P8 fun x _=>x.sz_pos
section
variable {L:List Tok} {E:Int}
theorem A4j{s:Rd}{p e:Int}(he:e≠0):okR (J2 s p e)=false:=by
 unfold J2;split
 ·simp[okR,he]
 grind
theorem A0y{s:Rd}:okR (K8 L E s)=false:=A4j (by simp)
theorem E1{s:Rd}{n m e:Int}(he:e≠0)(h:okR (A9 L E s n m e)=true):okR s=true/\n<=m/\A9 L E s n m e=s:=by
 unfold A9 at h ⊢;split at h
 ·rw[A4j he]at h;cases h
 grind
theorem Z0{s:Rd}{t:List UInt8}(h:isR L E s t=true):okR s=true/\s.i<L.length:=by
 unfold isR at h;simp only[A0E,A1H,A1R]at h;refine⟨h.1.1,?_⟩;by_cases hi:s.i<L.length
 ·omega
 ·have e:A7 L E s=⟨0,[],0,E⟩:=by unfold A7;rw[A1E,A2J (by omega)];rfl
  grind
theorem E9{s:Rd}{k:Int}(h:F9 L E s k=true):okR s=true/\(A7 L E s).kind=k:=by
 unfold F9 at h
 grind
theorem G5{s:Rd}{k:Int}(hk:k≠0)(h:(A7 L E s).kind=k):A7 L E s∈L/\s.i<L.length:=by
 by_cases hi:s.i<L.length
 ·refine⟨?_,hi⟩;unfold A7
  grind
 ·exfalso;have e:A7 L E s=⟨0,[],0,E⟩:=by unfold A7;rw[A1E,A2J (by omega)];rfl
  grind
theorem A5u{s:Rd}{t:List UInt8}(h:okR (B5 L E s t)=true):isR L E s t=true/\B5 L E s t=A6 s:=by
 unfold B5 at h ⊢;cases hi:isR L E s t with
 |false=>rw[hi]at h;simp only[if_true]at h;rw[A0y]at h;grind
 |true=>simp
theorem W4{s:Rd}{k:Int}(h:okR (A4 L E s k).2=true):F9 L E s k=true/\A4 L E s k=(A7 L E s,A6 s):=by
 unfold A4 at h ⊢;cases hi:F9 L E s k with
 |false=>rw[hi]at h;simp only[if_true]at h;rw[A0y]at h;grind
 |true=>simp
theorem E2{s:Rd}:∀ {l:List (List UInt8)} {k:Nat},0<=V5 L E s k l->okR s=true/\s.i<L.length/\(k:Int)<=V5 L E s k l/\V5 L E s k l<(k+l.length:Nat)
 |[],k,h=>by trivial
 |t :: l,k,h=>by
  unfold V5 at h ⊢;cases hi:isR L E s t with
  |true =>
   rw[if_pos rfl];obtain⟨h1,h2⟩:=Z0 hi
   grind
  |false =>
   rw[hi]at h;simp only[A2D,if_false]at h ⊢;obtain⟨h1,h2,h3,h4⟩:=E2 h
   grind
end
structure RI (L:List Tok) (s:Rd):Prop where
 i:s.i<=L.length
 o0:0<=s.ops
 o1:s.ops<=33
 o2:okR s=true->s.ops<=32
 p0:0<=s.par
 p1:s.par<=16
section
variable {L:List Tok} {E:Int}
theorem RI.fail{s:Rd}{p e:Int}(he:e≠0)(h:RI L s):RI L (J2 s p e)/\(J2 s p e).par=s.par:=by
 have hk:=A4j (s:=s) (p:=p) he;have e1:(J2 s p e).i=s.i:=by unfold J2;grind
 have e2:(J2 s p e).ops=s.ops:=by unfold J2;grind
 have e3:(J2 s p e).par=s.par:=by unfold J2;grind
 exact⟨⟨by rw[e1];exact h.i,by rw[e2];exact h.o0,by rw[e2];exact h.o1,(fun k=>by grind),by rw[e3];exact h.p0,by rw[e3];exact h.p1⟩,e3⟩
theorem RI.syn{s:Rd}(h:RI L s):RI L (K8 L E s)/\(K8 L E s).par=s.par:=h.fail (by simp)
theorem RI.lim{s:Rd}{n m e:Int}(he:e≠0)(h:RI L s):RI L (A9 L E s n m e)/\(A9 L E s n m e).par=s.par:=by
 unfold A9;split
 ·exact h.fail he
 grind
theorem RI.nxt{s:Rd}(h:RI L s)(hi:s.i<L.length):RI L (A6 s):=⟨hi,h.o0,h.o1,h.o2,h.p0,h.p1⟩
theorem RI.exp{s:Rd}{x:List UInt8}(h:RI L s):RI L (B5 L E s x)/\(B5 L E s x).par=s.par:=by
 unfold B5;cases k:isR L E s x with
 |false=>rw[if_pos rfl];exact h.syn
 |true=>rw[if_neg (by simp)];exact⟨h.nxt (Z0 k).2,rfl⟩
theorem RI.take{s:Rd}{x:Int}(hx:x≠0)(h:RI L s):RI L (A4 L E s x).2/\(A4 L E s x).2.par=s.par:=by
 unfold A4;cases k:F9 L E s x with
 |false=>rw[if_pos rfl];exact h.syn
 |true=>rw[if_neg (by simp)];exact⟨h.nxt (G5 hx (E9 k).2).2,rfl⟩
theorem RI.prim{s:Rd}(h:RI L s):RI L (J6 L E s).2/\(J6 L E s).2.par=s.par:=by
 unfold J6;dsimp only;split
 ·exact h.syn
 ·rename_i hc;have hok:okR s=true/\s.i<L.length:=by
   by_cases hk:0<=A8 L E s D7
   ·obtain⟨h1,h2, -⟩:=E2 hk;grind
   ·cases h3:F9 L E s 3 with
    |true=>exact⟨(E9 h3).1,(G5 (by simp) (E9 h3).2).2⟩
    |false =>
     cases h1:F9 L E s 1 with
     |true=>exact⟨(E9 h1).1,(G5 (by simp) (E9 h1).2).2⟩
     |false=>grind
  have h32:=h.o2 hok.1;have ho:=h.o0;obtain⟨s2,hs2⟩:∃ s2,s2=A9 L E { s with ops:=s.ops+1 } (s.ops+1) 32 9:=⟨_,rfl⟩;rw[<- hs2];cases h2:okR s2 with
  |false =>
   rw[if_pos rfl];have e1:s2.i=s.i:=by rw[hs2];unfold A9 J2;grind
   have e2:s2.ops=s.ops+1:=by rw[hs2];unfold A9 J2;grind
   have e3:s2.par=s.par:=by rw[hs2];unfold A9 J2;grind
   refine⟨⟨?_,?_,?_,(fun k=>by rw[h2]at k;cases k),?_,?_⟩,e3⟩<;>dsimp only
   ·omega
   ·omega
   ·omega
   ·rw[e3];exact h.p0
   ·rw[e3];exact h.p1
  |true =>
   rw[if_neg (by simp)];rw[hs2]at h2;obtain⟨-,h4,h5⟩:=E1 (by simp) h2;rw[h5]at hs2;have h3:RI L (A6 s2):=by
    rw[hs2];exact⟨hok.2,by show 0<=s.ops+1;omega,by show s.ops+1<=33;omega,fun _=>h4,h.p0,h.p1⟩
   have hp:(A6 s2).par=s.par:=by rw[hs2];rfl
   repeat' split
   ·exact⟨(h3.take (by simp)).1,(h3.take (by simp)).2.trans hp⟩
   all_goals exact⟨h3,hp⟩
theorem RI.all:∀ f:Nat,(∀ n s r,I1 L E f n s=some r->RI L s->RI L r.2/\r.2.par=s.par)/\(∀ n e s r,N6 L E f n e s=some r->RI L s->RI L r.2/\r.2.par=s.par)/\(∀ s r,S0 L E f s=some r->RI L s->RI L r.2/\r.2.par=s.par)
 |0=>⟨fun n s r h=>by trivial,fun n e s r h=>by trivial,fun s r h=>by trivial⟩
 |f+1=>by
  obtain⟨i1,i2,i3⟩:=RI.all f;refine⟨fun n s r h k=>?_,fun n e s r h k=>?_,fun s r h k=>?_⟩
  ·unfold I1 at h
   grind
  ·unfold N6 at h;dsimp only at h;split at h
   ·grind
   ·rename_i hk;have hk0:0<=A8 L E s C1:=Classical.byContradiction fun g=>hk (.inl (by omega));obtain⟨-,hi, -⟩:=E2 hk0;cases hb:I1 L E f (n+1) (A6 s) with
    |none=>grind
    |some q =>
     obtain⟨x,s1⟩:=q;rw[hb]at h;obtain⟨a1,a2⟩:=i1 _ _ _ hb (k.nxt hi);dsimp only at h;split at h
     ·cases h;trivial
     ·obtain⟨b1,b2⟩:=i2 _ _ _ _ h a1;exact⟨b1,b2.trans a2⟩
  ·unfold S0 at h;dsimp only at h;split at h
   ·cases h;exact k.prim
   ·rename_i hk;have hk0:0<=A8 L E s K3:=by omega
    obtain⟨-,hi, -⟩:=E2 hk0;split at h
    ·cases h;exact k.lim (by simp)
    ·rename_i hl;have hl:okR (A9 L E s (s.par+1) 16 50)=true:=by simpa using hl
     obtain⟨h1,h2,h3⟩:=E1 (by decide) hl;rw[h3]at h;have k2:RI L { s with i:=s.i+1,par:=s.par+1 }:=⟨hi,k.o0,k.o1,k.o2,by have:=k.p0;show 0<=s.par+1;omega,h2⟩;have fin:∀ z:Rd,RI L z->z.par=s.par+1->RI L { z with par:=z.par-1 }/\z.par-1=s.par:=fun z hz hp =>
      ⟨⟨hz.i,hz.o0,hz.o1,hz.o2,by have:=k.p0;show 0<=z.par-1;omega,by have:=k.p1;show z.par-1<=16;omega⟩,by omega⟩
     split at h
     ·cases hb:I1 L E f 1 { s with i:=s.i+1,par:=s.par+1 } with
      |none=>rw[hb]at h;cases h
      |some q =>
       obtain⟨e,s3⟩:=q;rw[hb]at h;cases h;obtain⟨a1,a2⟩:=i1 _ _ _ hb k2;obtain⟨b1,b2⟩:=a1.exp (E:=E) (x:=[41]);exact fin _ b1 (b2.trans a2)
     grind
theorem C3x{s:Rd}{p e:Int}:(J2 s p e).i=s.i:=by unfold J2;grind
theorem N4{s:Rd}:(K8 L E s).i=s.i:=C3x
theorem D8{s:Rd}{n m e:Int}:(A9 L E s n m e).i=s.i:=by unfold A9;split;exact C3x;rfl
theorem G6{s:Rd}{x:List UInt8}(h:s.i<=L.length):(B5 L E s x).i<=L.length:=by
 unfold B5;cases k:isR L E s x with
 |false=>rw[if_pos rfl,N4];omega
 |true=>rw[if_neg (by simp)];exact (Z0 k).2
theorem I6{s:Rd}{x:Int}(hx:x≠0)(h:s.i<=L.length):(A4 L E s x).2.i<=L.length:=by
 unfold A4;cases k:F9 L E s x with
 |false=>rw[if_pos rfl,N4];omega
 |true=>rw[if_neg (by simp)];exact (G5 hx (E9 k).2).2
theorem M3{f:Nat}{s:Rd}{r:Ex × Rd}(h:M4 L E f s=some r)(hi:s.i<=L.length):r.2.i<=L.length :=
 ((RI.all f).1 1 { s with ops:=0,par:=0 } r h ⟨hi,A3G 0,(by simp:(0:Int)<=33),fun _=>(by simp:(0:Int)<=32),A3G 0,(by simp:(0:Int)<=16)⟩).1.i
theorem D0y{f:Nat}{k p:Int}{s:Rd}{r:St × Rd}(h:L3 L E f k p s=some r)(hi:s.i<=L.length):r.2.i<=L.length:=by
 unfold L3 at h;dsimp only at h;split at h
 ·split at h
  ·grind
  ·rename_i he;cases h;exact G6 (M3 he hi)
 split at h
 ·split at h
  ·grind
  ·rename_i he;cases h;exact G6 (M3 he (G6 (I6 (by simp) hi)))
 split at h
 ·cases h;exact G6 hi
 have h0:=I6 (E:=E) (x:=1) (by simp) hi;split at h
 ·split at h
  ·grind
  ·rename_i he;split at h
   ·split at h
    ·grind
    ·rename_i he2;cases h;exact G6 (M3 he2 (G6 (M3 he h0)))
   ·cases h;exact G6 (M3 he h0)
 ·cases h;exact G6 h0
theorem D1a{f:Nat}{d:Int}{s:Rd}{r:St × Rd}(h:P9 L E f d s=some r)(ho:okR s=false):okR r.2=false:=by
 cases f with
 |zero=>trivial
 |succ f =>
  have hl:okR (A9 L E s d 8 50)=false:=by
   cases k:okR (A9 L E s d 8 50) with
   |false=>rfl
   |true=>rw[(E1 (by decide) k).1]at ho;cases ho
  unfold P9 at h
  grind
theorem II.all:∀ f:Nat,(∀ d s r,K7 L E f d s=some r->s.i<=L.length->r.2.i<=L.length)/\(∀ d l s r,P5 L E f d l s=some r->s.i<=L.length->r.2.i<=L.length)/\(∀ d s r,P9 L E f d s=some r->s.i<=L.length->r.2.i<=L.length)/\(∀ d s r,P2 L E f d s=some r->s.i<=L.length->r.2.i<=L.length)
 |0=>⟨fun d s r h=>by trivial,fun d l s r h=>by trivial,fun d s r h=>by trivial,fun d s r h=>by trivial⟩
 |f+1=>by
  obtain⟨i1,i2,i3,i4⟩:=II.all f;refine⟨fun d s r h k=>?_,fun d l s r h k=>?_,fun d s r h k=>?_,fun d s r h k=>?_⟩
  ·unfold K7 at h;exact i2 _ _ _ _ h (G6 k)
  ·unfold P5 at h;split at h
   ·split at h
    ·cases h;rw[N4];omega
    ·split at h
     ·grind
     ·rename_i he;exact i2 _ _ _ _ h (i3 _ _ _ he (by rw[D8];omega))
   ·cases h;exact G6 k
  ·unfold P9 at h;dsimp only at h;split at h
   ·cases h;rw[D8];omega
   ·split at h
    ·split at h
     ·grind
     ·rename_i he;cases h;exact G6 (M3 he (G6 (I6 (by simp) (by rw[D8];omega))))
    ·rename_i hk;have hn:(A6 (A9 L E s d 8 50)).i<=L.length:=(E2 (show 0<=A8 L E (A9 L E s d 8 50) C0 by omega)).2.1;split at h
     ·split at h
      ·grind
      ·rename_i he;split at h
       ·grind
       ·rename_i hb;have h3:=i1 _ _ _ hb (M3 he hn);split at h
        ·rename_i hc;split at h
         ·cases h
         ·rename_i ho;cases h;exact i4 _ _ _ ho (Z0 hc.2).2
        grind
     ·exact D0y h hn
  ·unfold P2 at h
   grind
end
def I3(k:Int):Nat:=if E5 k=6 then 1 else if E5 k<6 then 2 else 0
def C2s(k:Int):Bool:=k == 5 || (k == 6 || k == 7)
def kOk(k:Int):Bool:=decide (E5 k<7) || (decide (1<=k) && decide (k<=24))
def A2l(k:Int)(n:List UInt8):Bool:=if k=2\/C2s k=true then F1 n else n == []
def A4o(k v:Int):Bool:=v == 0 || (k == 1 && (decide (0<v) && decide (v<=2147483647)))
def A0o(k q:Int)(i:Nat):Bool:=decide (E5 q<E5 k) || (E5 q == E5 k && (i == 1 || E5 k == 3))
mutual
def msM:Ex->Option (Nat × Nat)
 |.mk k v n a p =>
  if kOk k=false\/a.length≠I3 k\/A2l k n=false\/A4o k v=false then none
  else if I3 k=0 then some (1,0)
  else match msL k 0 a with
   |none=>none
   |some (o,d)=>some (o,if I3 k=1 then d+1 else d)
def msL(k:Int):Nat->List Ex->Option (Nat × Nat)
 |_,[]=>some (0,0)
 |i,e :: l=>match msM e with
  |none=>none
  |some (o,d)=>match msL k (i+1) l with
   |none=>none
   |some (o2,d2)=>some (o+o2,max (if A0o k e.kind i=true then d+1 else d) d2)
end
def R8(e:Ex):Bool:=match msM e with
 |some (o,d)=>decide (o<=32) && decide (d<=16)
 |none=>false
structure Shp where
 name:Bool
 text:Bool
 args:Nat
 thn:Bool
 els:Bool
def U5(k:Int):Shp :=
 if k=1\/k=8\/k=10 then ⟨true,false,1,false,false⟩
 else if k=9 then ⟨true,false,2,false,false⟩
 else if k=2 then ⟨false,false,1,true,true⟩
 else if k=3 then ⟨false,false,1,true,false⟩
 else if k=4 then ⟨false,false,1,false,false⟩
 else if k=18 then ⟨false,true,1,false,false⟩
 else if k=19 then ⟨false,false,0,false,false⟩
 else ⟨true,false,0,false,false⟩
def X8(s:List UInt8):Bool:=s.all txB && decide (s.length<=32)
mutual
def V9:Nat->St->Bool
 |d,.mk k n t a x y p =>
  (decide (1<=k) && decide (k<=19)) && (a.length == (U5 k).args && a.all R8) &&
   ((if (U5 k).name=true then F1 n else n == []) && (if (U5 k).text=true then X8 t else t == [])) &&
   (((U5 k).thn || x.isEmpty) && ((U5 k).els || y.isEmpty)) &&
   ((decide (x.length<=64) && (x.isEmpty || decide (d+1<=8)) && K2 (d+1) x) && (decide (y.length<=64) && (y.isEmpty || decide (d+1<=8)) && K2 (d+1) y))
def K2:Nat->List St->Bool
 |_,[]=>true
 |d,s :: l=>V9 d s && K2 d l
end
def P6(l:List St)(d:Nat):Bool:=decide (l.length<=64) && (l.isEmpty || decide (d<=8)) && K2 d l
def R9(d:Dc):Bool:=decide (1<=d.kind) && decide (d.kind<=8) && F1 d.name && decide ((if d.kind=6 then -2147483647 else 0)<=d.value) && decide (d.value<=(if d.kind=7\/d.kind=8 then 0 else 2147483647))
def A2a(h:Hd):Bool:=decide (1<=h.trig) && decide (h.trig<=6) && (if 3<=h.trig then F1 h.name else h.name == []) && P6 h.body 1
def T6(m:Md):Bool:=F1 m.name && decide (0<=m.prio) && decide (m.prio<=2147483647) && decide (m.hds.length<=32) && m.hds.all A2a
def L1(r:Ru):Bool:=decide (r.decls.length<=128) && decide (r.modes.length<=16) && r.decls.all R9 && r.modes.all T6
def F4(t:Tok):Prop:=(t.kind=1->F1 t.text=true)/\(t.kind=3->0<=t.value/\t.value<=2147483647)/\(t.kind=4->X8 t.text=true)
def SE(n:Int)(s:Rd)(e:Ex)(s':Rd):Prop :=
 okR s=true/\s'.par=s.par/\∃ o d,msM e=some (o,d)/\s'.ops=s.ops+(o:Int)/\s'.ops<=32/\((n<=E5 e.kind/\s.par+(d:Int)<=16)\/s.par+(d:Int)+1<=16)
theorem C2y{k:Int}(h:E5 k<7):10<=k/\k<=24:=by
 unfold E5 at h;omega
theorem A8w{k:Int}(h:k=10\/k=11):E5 k=6:=by
 rcases h with rfl|rfl<;>rfl
theorem D2u{k:Int}{a b:Ex}{o1 d1 o2 d2:Nat}{p:Int}(hk:E5 k<6)(ha:msM a=some (o1,d1))(hb:msM b=some (o2,d2)):
  msM (.mk k 0 [] [a,b] p)=some (o1+o2,max (if A0o k a.kind 0=true then d1+1 else d1) (if A0o k b.kind 1=true then d2+1 else d2)):=by
 have hl:=C2y (k:=k) (by omega);have h1:kOk k=true:=by simp[kOk];omega
 have h2:I3 k=2:=by unfold I3;grind
 have h3:A2l k []=true:=by
  unfold A2l;rw[if_neg]
  ·rfl
  ·simp only[C2s,A1H,A1R];omega
 have h4:A4o k 0=true:=by rfl
 unfold msM;rw[if_neg (by grind),h2,if_neg (by omega)];simp only[msL,ha,hb,A2O,A0Z,Nat.max_zero,if_neg (show ¬ 2=1 by omega)]
theorem D6u{k:Int}{a:Ex}{o d:Nat}{p:Int}(hk:k=10\/k=11)(ha:msM a=some (o,d)):
  msM (.mk k 0 [] [a] p)=some (o,(if A0o k a.kind 0=true then d+1 else d)+1):=by
 have hl:=A8w hk;have h1:kOk k=true:=by simp[kOk];omega
 have h2:I3 k=1:=by unfold I3;grind
 have h3:A2l k []=true:=by
  unfold A2l;rw[if_neg]
  ·rfl
  ·simp only[C2s,A1H,A1R];omega
 have h4:A4o k 0=true:=by rfl
 unfold msM;rw[if_neg (by grind),h2,if_neg (by omega)];simp only[msL,ha,A2O,Nat.max_zero,if_true]
theorem C7b{k v:Int}{n:List UInt8}{p:Int}(hk:E5 k=7)(h1:kOk k=true)(h3:A2l k n=true)(h4:A4o k v=true):msM (.mk k v n [] p)=some (1,0):=by
 have h2:I3 k=0:=by unfold I3;rw[if_neg (by omega),if_neg (by omega)]
 unfold msM
 grind
section
variable {L:List Tok} {E:Int}
theorem F0{s:Rd}{t:List UInt8}(h:okR (B5 L E s t)=true):okR s=true:=(Z0 (A5u h).1).1
theorem R1{s:Rd}{k:Int}(h:okR (A4 L E s k).2=true):okR s=true:=(E9 (W4 h).1).1
theorem B6i{s:Rd}(h:okR (J6 L E s).2=true):okR s=true:=by
 unfold J6 at h;dsimp only at h;split at h
 ·rw[A0y]at h;grind
 ·split at h
  ·grind
  ·rename_i h1;have h2:okR (A9 L E { s with ops:=s.ops+1 } (s.ops+1) 32 9)=true:=by grind
   exact (E1 (by simp) h2).1
theorem B3p(hG:∀ t∈L,F4 t){s s':Rd}{e:Ex}(h:J6 L E s=(e,s'))(hok:okR s'=true)(hp:s.par<=16):SE 7 s e s':=by
 have hs:okR s=true:=B6i (L:=L) (E:=E) (by grind);have leaf:∀ (k v:Int) (n:List UInt8) (p:Int),E5 k=7->kOk k=true->A2l k n=true->A4o k v=true->s.ops+1<=32->∀ s2:Rd,s2.par=s.par->s2.ops=s.ops+1->SE 7 s (.mk k v n [] p) s2:=by
  intro k v n p q1 q2 q3 q4 q6 s2 q7 q8;refine⟨hs,q7,1,0,C7b q1 q2 q3 q4,by omega,by omega,.inl ⟨?_,by omega⟩⟩;show 7<=E5 k;omega
 unfold J6 at h;dsimp only at h;split at h
 ·cases h;rw[A0y]at hok;grind
 rename_i hc;split at h
 ·grind
 rename_i h1;have h2:okR (A9 L E { s with ops:=s.ops+1 } (s.ops+1) 32 9)=true:=by grind
 obtain⟨-,h3,h4⟩:=E1 (by simp) h2;rw[h4]at h;split at h
 ·rename_i hk;obtain⟨-, -, -,hk7⟩:=E2 hk;have hk7:A8 L E s D7<7:=hk7;generalize A8 L E s D7=k at h hk hk7;split at h
  ·rename_i hk4;cases h;obtain⟨t1,t2⟩:=W4 hok;obtain⟨t3,t4⟩:=E9 t1;have hn:=(hG _ (G5 (by simp) t4).1).1 t4;rw[t2];have:k=4\/k=5\/k=6:=by omega
   rcases this with rfl|rfl|rfl
   ·exact leaf 5 _ _ _ (by rfl) (by rfl) hn (by rfl) h3 _ rfl rfl
   ·exact leaf 6 _ _ _ (by rfl) (by rfl) hn (by rfl) h3 _ rfl rfl
   ·exact leaf 7 _ _ _ (by rfl) (by rfl) hn (by rfl) h3 _ rfl rfl
  ·rename_i hk4;cases h;have:k=0\/k=1\/k=2\/k=3:=by omega
   rcases this with rfl|rfl|rfl|rfl
   all_goals exact leaf _ _ _ _ (by decide) (by decide) (by decide) (by decide) h3 _ rfl rfl
 ·rename_i hk;split at h
  ·rename_i hk3;cases h;have hn:=(hG _ (G5 (by decide) hk3).1).2.1 hk3;refine leaf 1 _ _ _ (by decide) (by decide) (by decide) ?_ h3 _ rfl rfl;simp only[A4o,A1H,A0E,A1R,A0G]
   grind
  ·rename_i hk3;cases h;have h1k:F9 L E s 1=true:=by
    cases hz:F9 L E s 1 with
    |true=>rfl
    |false =>
     refine absurd ⟨by omega,?_,hz⟩ hc;cases hy:F9 L E s 3 with
     |false=>rfl
     |true=>exact absurd (E9 hy).2 hk3
   have hn:=(hG _ (G5 (by simp) (E9 h1k).2).1).1 (E9 h1k).2;exact leaf 2 _ _ _ (by rfl) (by rfl) hn (by rfl) h3 _ rfl rfl
theorem OB.all:∀ f:Nat,(∀ n s r,I1 L E f n s=some r->okR r.2=true->okR s=true)/\(∀ n e s r,N6 L E f n e s=some r->okR r.2=true->okR s=true)/\(∀ s r,S0 L E f s=some r->okR r.2=true->okR s=true)
 |0=>⟨fun n s r h=>by trivial,fun n e s r h=>by trivial,fun s r h=>by trivial⟩
 |f+1=>by
  obtain⟨i1,i2,i3⟩:=OB.all f;refine⟨fun n s r h k=>?_,fun n e s r h k=>?_,fun s r h k=>?_⟩
  ·unfold I1 at h
   grind
  ·unfold N6 at h;dsimp only at h;split at h
   ·grind
   ·rename_i hk;exact (E2 (show 0<=A8 L E s C1 from Classical.byContradiction fun g=>hk (.inl (by omega)))).1
  ·unfold S0 at h;dsimp only at h;split at h
   ·cases h;exact B6i k
   ·rename_i hk;exact (E2 (show 0<=A8 L E s K3 by omega)).1
theorem SE.weak{m n:Int}{s s':Rd}{e:Ex}(hmn:n<=m)(h:SE m s e s'):SE n s e s':=by
 obtain⟨h1,h2,o,d,h3,h4,h5,h6⟩:=h;exact⟨h1,h2,o,d,h3,h4,h5,h6.imp (fun h=>⟨by omega,h.2⟩) id⟩
theorem SE.all(hG:∀ t∈L,F4 t):∀ f:Nat,(∀ n s r,1<=n->n<=6->I1 L E f n s=some r->okR r.2=true->s.par<=16->SE n s r.1 r.2) /\
  (∀ n m e s s0 r,1<=n->n<=5->(m=n+1\/m=n/\n≠3)->N6 L E f n e s=some r->okR r.2=true->SE m s0 e s->s0.par<=16->SE n s0 r.1 r.2) /\
  (∀ s r,S0 L E f s=some r->okR r.2=true->s.par<=16->SE 6 s r.1 r.2)
 |0=>⟨fun n s r _ _ h=>by trivial,fun n m e s s0 r _ _ _ h=>by trivial,fun s r h=>by trivial⟩
 |f+1=>by
  obtain⟨i1,i2,i3⟩:=SE.all hG f;refine⟨fun n s r n1 n6 h k hp=>?_,fun n m e s s0 r n1 n5 hm h k he hp=>?_,fun s r h k hp=>?_⟩
  ·unfold I1 at h;split at h
   ·grind
   ·rename_i hn;split at h
    ·grind
    ·rename_i e s1 hb;have k1:=(OB.all f).2.1 _ _ _ _ h k;have h1:=i1 _ _ _ (by omega) (by omega) hb k1 hp
     grind
  ·unfold N6 at h;dsimp only at h;split at h
   ·cases h;exact he.weak (by omega)
   ·rename_i hk;have hk0:0<=A8 L E s C1:=Classical.byContradiction fun g=>hk (.inl (by omega));have hlv:E5 (12+A8 L E s C1)=n:=Classical.byContradiction fun g=>hk (.inr g);split at h
    ·grind
    ·rename_i x s1 hb;obtain⟨e1,e2,o1,d1,e3,e4,e5,e6⟩:=he;have step:okR s1=true->SE n s0 (.mk (12+A8 L E s C1) 0 [] [e,x] (A7 L E s).pos) s1:=by
      intro k1;obtain⟨x1,x2,o2,d2,x3,x4,x5,x6⟩:=i1 _ _ _ (by omega) (by omega) hb k1 (by show s.par<=16;omega);have x2':s1.par=s.par:=x2;have x4':s1.ops=s.ops+(o2:Int):=x4;have x6':((n+1<=E5 x.kind/\s.par+(d2:Int)<=16)\/s.par+(d2:Int)+1<=16):=x6;refine⟨e1,by omega,_,_,D2u (by omega) e3 x3,by omega,x5,.inl ⟨?_,?_⟩⟩
      ·show n<=E5 (12+A8 L E s C1);omega
      ·have w1:s0.par+((if A0o (12+A8 L E s C1) e.kind 0=true then d1+1 else d1:Nat):Int)<=16:=by
        split
        ·rename_i hw;simp only[A0o,A1H,A0E,A0G,A1R,hlv]at hw;omega
        omega
       have w2:s0.par+((if A0o (12+A8 L E s C1) x.kind 1=true then d2+1 else d2:Nat):Int)<=16:=by
        split
        ·rename_i hw;simp only[A0o,A1H,A0E,A0G,A1R,hlv]at hw;omega
        omega
       omega
     split at h
     ·grind
     ·rename_i hn3;have k1:=(OB.all f).2.1 _ _ _ _ h k
      grind
  ·unfold S0 at h;dsimp only at h;split at h
   ·cases h;exact (B3p hG rfl k hp).weak (by simp)
   ·rename_i hk;obtain⟨hs,hi, -,hk3⟩:=E2 (show 0<=A8 L E s K3 by omega);have hk3:A8 L E s K3<3:=hk3;split at h
    ·grind
    rename_i hl;have hl:okR (A9 L E s (s.par+1) 16 50)=true:=by grind
    obtain⟨-,h2,h3⟩:=E1 (by simp) hl;rw[h3]at h;split at h
    ·split at h
     ·grind
     ·rename_i e s3 hb;cases h;have k3:okR (B5 L E s3 [41])=true:=k;obtain⟨-,x2⟩:=A5u k3;obtain⟨e1,e2,o,d,e3,e4,e5,e6⟩:=i1 1 _ _ (by simp) (by simp) hb (F0 k3) (show s.par+1<=16 from h2);have e2':s3.par=s.par+1:=e2;have e4':s3.ops=s.ops+(o:Int):=e4;have e6':((1<=E5 e.kind/\s.par+1+(d:Int)<=16)\/s.par+1+(d:Int)+1<=16):=e6;rw[x2];refine⟨hs,by show s3.par-1=s.par;omega,o,d,e3,e4',e5,.inr (by omega)⟩
    ·rename_i hk2;split at h
     ·grind
     ·rename_i e s3 hb;cases h;have k3:okR s3=true:=k;obtain⟨e1,e2,o,d,e3,e4,e5,e6⟩:=i3 _ _ hb k3 (show s.par+1<=16 from h2);have e2':s3.par=s.par+1:=e2;have e4':s3.ops=s.ops+(o:Int):=e4;have e6':((6<=E5 e.kind/\s.par+1+(d:Int)<=16)\/s.par+1+(d:Int)+1<=16):=e6;have hk10:10+A8 L E s K3=10\/10+A8 L E s K3=11:=by omega
      refine⟨hs,by grind,o,_,D6u hk10 e3,e4',e5,.inl ⟨?_,?_⟩⟩
      ·show 6<=E5 (10+A8 L E s K3);rw[A8w hk10];simp
      ·split
       ·rename_i hw;simp only[A0o,A1H,A0E,A0G,A1R,A8w hk10]at hw;omega
       omega
theorem J8(hG:∀ t∈L,F4 t){f:Nat}{s:Rd}{r:Ex × Rd}(h:M4 L E f s=some r)(hok:okR r.2=true):okR s=true/\R8 r.1=true:=by
 obtain⟨h1,h2,o,d,h3,h4,h5,h6⟩:=(SE.all hG f).1 1 _ _ (by decide) (by decide) h hok (by decide:(0:Int)<=16);refine⟨h1,?_⟩;have h4':r.2.ops=0+(o:Int):=h4;have h6':((1<=E5 r.1.kind/\0+(d:Int)<=16)\/0+(d:Int)+1<=16):=h6;unfold R8
 grind
end
section
variable {L:List Tok} {E:Int}
theorem K6(hG:∀ t∈L,F4 t){s:Rd}(h:okR (A4 L E s 1).2=true):F1 (A4 L E s 1).1.text=true:=by
 obtain⟨h1,h2⟩:=W4 h;rw[h2];exact (hG _ (G5 (by simp) (E9 h1).2).1).1 (E9 h1).2
theorem B0e(hG:∀ t∈L,F4 t){s:Rd}(h:okR (A4 L E s 3).2=true):0<=(A4 L E s 3).1.value/\(A4 L E s 3).1.value<=2147483647:=by
 obtain⟨h1,h2⟩:=W4 h;rw[h2];exact (hG _ (G5 (by simp) (E9 h1).2).1).2.1 (E9 h1).2
theorem C0v(hG:∀ t∈L,F4 t){s:Rd}(h:okR (A4 L E s 4).2=true):X8 (A4 L E s 4).1.text=true:=by
 obtain⟨h1,h2⟩:=W4 h;rw[h2];exact (hG _ (G5 (by simp) (E9 h1).2).1).2.2 (E9 h1).2
theorem V8{d:Nat}{k p:Int}{n t:List UInt8}{a:List Ex}(h1:1<=k)(h2:k<=19)(h3:a.length=(U5 k).args)(h4:a.all R8=true)
  (h5:(if (U5 k).name=true then F1 n else n == [])=true) (h6:(if (U5 k).text=true then X8 t else t == [])=true):V9 d (.mk k n t a [] [] p)=true:=by
 unfold V9;simp only[A0E,A0G,A1R];exact⟨⟨⟨⟨⟨h1,h2⟩,h3,h4⟩,h5,h6⟩,by simp⟩,by trivial⟩
theorem B3e(hG:∀ t∈L,F4 t){f:Nat}{k p:Int}{s:Rd}{r:St × Rd}(d:Nat)(hk4:4<=k)(hk:k<=19)(h:L3 L E f k p s=some r)(hok:okR r.2=true):okR s=true/\V9 d r.1=true:=by
 unfold L3 at h;dsimp only at h;split at h
 ·rename_i hk;subst hk;split at h
  ·grind
  ·rename_i e s1 he;cases h;obtain⟨h1,h2⟩:=J8 hG he (F0 hok);exact⟨h1,V8 (by simp) (by simp) rfl (by grind) rfl rfl⟩
 split at h
 ·rename_i hk;subst hk;split at h
  ·grind
  ·rename_i e s1 he;cases h;obtain⟨h1,h2⟩:=J8 hG he (F0 hok);have h3:=F0 h1;exact⟨R1 h3,V8 (by simp) (by simp) rfl (by grind) rfl (C0v hG h3)⟩
 split at h
 ·rename_i hk;subst hk;cases h;exact⟨F0 hok,V8 (by simp) (by simp) rfl rfl rfl rfl⟩
 rename_i n4 n18 n19;split at h
 ·rename_i hk;split at h
  ·grind
  ·rename_i e s1 he;split at h
   ·rename_i hk9;subst hk9;split at h
    ·grind
    ·rename_i e2 s2 he2;cases h;obtain⟨h1,h2⟩:=J8 hG he2 (F0 hok);obtain⟨h3,h4⟩:=J8 hG he (F0 h1);exact⟨R1 h3,V8 (by simp) (by simp) rfl (by grind) (K6 hG h3) rfl⟩
   ·rename_i hk9;cases h;obtain⟨h1,h2⟩:=J8 hG he (F0 hok);have:k=8\/k=10:=by omega
    rcases this with rfl|rfl
    all_goals exact⟨R1 h1,V8 (by decide) (by decide) rfl (by simp[h2]) (K6 hG h1) rfl⟩
 ·rename_i hk8;cases h;have h1:=F0 hok;have hs:U5 k=⟨true,false,0,false,false⟩:=by
   unfold U5
   grind
  exact⟨R1 h1,V8 (by omega) hk (by grind) rfl (by rw[hs];exact K6 hG h1) (by grind)⟩
theorem A4n{d:Nat}:∀ {l:List St} {x:St},K2 d (l++[x])=(K2 d l && V9 d x)
 |[],x=>by simp[K2]
 |a :: l,x=>by rw[A0W,K2,K2,A4n,Bool.and_assoc]
theorem A9w{d:Nat}{k p:Int}{e:Ex}{t o:List St}(hk:k=2\/k=3)(he:R8 e=true)(ht:P6 t (d+1)=true)(ho:P6 o (d+1)=true)(h3:k=3->o=[]):V9 d (.mk k [] [] [e] t o p)=true:=by
 unfold P6 at ht ho;unfold V9;rcases hk with rfl|rfl
 ·simp only[U5]
  grind
 ·obtain rfl:=h3 rfl;simp only[U5]
  grind
theorem SS.all(hG:∀ t∈L,F4 t):∀ f:Nat,(∀ (d:Nat) s r,K7 L E f d s=some r->okR r.2=true->okR s=true/\P6 r.1 d=true) /\
  (∀ (d:Nat) l s r,P5 L E f d l s=some r->okR r.2=true->okR s=true/\(K2 d l=true->l.length<=64->(l=[]\/d<=8)->P6 r.1 d=true)) /\
  (∀ (d:Nat) s r,P9 L E f d s=some r->okR r.2=true->okR s=true/\d<=8/\V9 d r.1=true) /\
  (∀ (d:Nat) s r,P2 L E f d s=some r->okR r.2=true->okR s=true/\P6 r.1 (d+1)=true)
 |0=>⟨fun d s r h=>by trivial,fun d l s r h=>by trivial,fun d s r h=>by trivial,fun d s r h=>by trivial⟩
 |f+1=>by
  obtain⟨i1,i2,i3,i4⟩:=SS.all hG f;have hd1:∀ d:Nat,(d:Int)+1=((d+1:Nat):Int):=fun d=>by rfl
  refine⟨fun d s r h k=>?_,fun d l s r h k=>?_,fun d s r h k=>?_,fun d s r h k=>?_⟩
  ·unfold K7 at h;obtain⟨h1,h2⟩:=i2 _ _ _ _ h k;exact⟨F0 h1,h2 rfl (by simp) (.inl rfl)⟩
  ·unfold P5 at h;split at h
   ·rename_i hc;refine⟨hc.1,fun h1 h2 h3=>?_⟩;split at h
    ·cases h;rfl
    ·split at h
     ·grind
     ·rename_i x s1 he;obtain⟨h4,h5⟩:=i2 _ _ _ _ h k;obtain⟨h6,h7,h8⟩:=i3 _ _ _ he h4;obtain⟨-,h9, -⟩:=E1 (by simp) h6;exact h5 (by rw[A4n,h1,h8];rfl) (by grind) (.inr h7)
   ·cases h;refine⟨F0 k,fun h1 h2 h3=>?_⟩;unfold P6
    grind
  ·unfold P9 at h;dsimp only at h;split at h
   ·grind
   rename_i hl;have hl:okR (A9 L E s d 8 50)=true:=by grind
   obtain⟨hs,hd,hle⟩:=E1 (by simp) hl;rw[hle]at h;refine⟨hs,by omega,?_⟩;split at h
   ·split at h
    ·grind
    ·rename_i e s1 he;cases h;obtain⟨h1,h2⟩:=J8 hG he (F0 k);exact V8 (by simp) (by simp) rfl (by grind) (K6 hG (F0 h1)) rfl
   ·rename_i hk;obtain⟨-,hi, -,hk18⟩:=E2 (show 0<=A8 L E s C0 by omega);have hk18:A8 L E s C0<18:=hk18;generalize A8 L E s C0=q at h hk hk18;split at h
    ·rename_i hq;split at h
     ·grind
     ·rename_i e s2 he;split at h
      ·grind
      ·rename_i t s3 ht;rw[hd1]at ht;split at h
       ·rename_i hc;split at h
        ·grind
        ·rename_i o s4 ho;cases h;obtain⟨o1,o2⟩:=i4 _ _ _ ho k;obtain⟨t1,t2⟩:=i1 _ _ _ ht (show okR s3=true from o1);obtain⟨e1,e2⟩:=J8 hG he t1;exact A9w (.inl rfl) e2 t2 o2 (fun h=>absurd h (by simp))
       ·cases h;obtain⟨t1,t2⟩:=i1 _ _ _ ht k;obtain⟨e1,e2⟩:=J8 hG he t1;exact A9w (by omega) e2 t2 (by rfl) (fun _=>rfl)
    ·rename_i hq;exact (B3e hG d (by omega) (by omega) h k).2
  ·unfold P2 at h;rw[hd1]at h;split at h
   ·split at h
    ·grind
    ·rename_i x s1 he;cases h;obtain⟨h1,h2,h3⟩:=i3 _ _ _ he k;refine⟨h1,?_⟩;unfold P6;simp only[A0E,A1H,A0G];exact⟨⟨by simp,.inr h2⟩,by rw[K2,K2,h3];rfl⟩
   ·exact i1 _ _ _ h k
theorem B9p(hG:∀ t∈L,F4 t){k:Int}{s:Rd}(h0:0<=k)(h8:k<8)(h:okR (S4 L E k s).2=true):R9 (S4 L E k s).1=true:=by
 have key:∀ d:Dc,1<=d.kind->d.kind<=8->F1 d.name=true->(if d.kind=6 then -2147483647 else 0)<=d.value->d.value<=(if d.kind=7\/d.kind=8 then 0 else 2147483647)->R9 d=true:=by
  intro d a1 a2 a3 a4 a5;simp only[R9,A0E,A0G]
  grind
 unfold S4 at h ⊢;dsimp only at h ⊢;split at h
 ·rename_i hk;rw[if_pos hk];have h1:=F0 h;obtain⟨n0,n1⟩:=B0e hG h1;have h2:=R1 h1;have h3:okR (A4 L E (A6 s) 1).2=true:=by
   split at h2
   ·exact h2
   ·exact h2
  refine key _ (by dsimp only;omega) (by dsimp only;omega) (K6 hG h3) ?_ ?_
  ·dsimp only;generalize (A4 L E (if (k+1 == 6 && isR L E (A4 L E (A6 s) 1).2 [45])=true then A6 (A4 L E (A6 s) 1).2 else (A4 L E (A6 s) 1).2) 3).1.value=w at n0 n1 ⊢;by_cases h6:k+1=6
   ·rw[if_pos (by omega)];split<;>omega
   ·rw[if_neg (by omega),if_neg (by simp[h6])];exact n0
  grind
 ·rename_i hk;rw[if_neg hk];have h3:=F0 h;refine key _ (by dsimp only;omega) (by dsimp only;omega) (K6 hG h3) ?_ ?_
  ·dsimp only;rw[if_neg (by omega)];decide
  grind
theorem A7h(hG:∀ t∈L,F4 t):∀ (f:Nat) (l:List Hd) (s:Rd) (r:List Hd × Rd),S2 L E f l s=some r->okR r.2=true->okR s=true/\(l.length<=32->l.all A2a=true->r.1.length<=32/\r.1.all A2a=true)
 |0,l,s,r,h,_=>by trivial
 |f+1,l,s,r,h,k=>by
  unfold S2 at h;dsimp only at h;split at h
  ·rename_i hc;refine⟨hc.1,fun h1 h2=>?_⟩;split at h
   ·grind
   split at h
   ·grind
   rename_i hk;obtain⟨hok2,hi2, -,hk6⟩:=E2 (show 0<=A8 L E (B5 L E (A9 L E s ((l.length:Int)+1) 32 9) [111,110]) C6 by omega);have hk6:A8 L E (B5 L E (A9 L E s ((l.length:Int)+1) 32 9) [111,110]) C6<6:=hk6;obtain⟨-,hll, -⟩:=E1 (by simp) (F0 hok2);generalize A8 L E (B5 L E (A9 L E s ((l.length:Int)+1) 32 9) [111,110]) C6=q at h hk hk6;split at h
   ·grind
   ·rename_i b s5 hb;obtain⟨m1,m2⟩:=A7h hG f _ _ _ h k;obtain⟨b1,b2⟩:=(SS.all hG f).1 1 _ _ hb m1;refine m2 (by simp only[A0D,A0K];omega) ?_;rw[A3S,h2,A2W];simp only[A2F,List.all_nil,A2P,A2a,A0E,A0G];refine⟨⟨⟨by omega,by omega⟩,?_⟩,b2⟩;by_cases hq:2<=q
    ·rw[if_pos (by omega),if_pos hq];rw[if_pos hq]at b1;exact K6 hG b1
    grind
  ·cases h;exact⟨F0 k,fun h1 h2=>⟨h1,h2⟩⟩
theorem B8u(hG:∀ t∈L,F4 t){f:Nat}{s:Rd}{r:Md × Rd}(h:A1p L E f s=some r)(k:okR r.2=true):okR s=true/\T6 r.1=true:=by
 unfold A1p at h;dsimp only at h;split at h
 ·grind
 ·rename_i l s3 hm;cases h;obtain⟨m1,m2⟩:=A7h hG _ _ _ _ hm k;obtain⟨m3,m4⟩:=m2 (by simp) rfl;have h1:=F0 m1;have h2:=R1 h1;obtain⟨n0,n1⟩:=B0e hG h1;refine⟨F0 (R1 h2),?_⟩;simp only[T6,A0E,A0G];exact⟨⟨⟨⟨K6 hG h2,n0⟩,n1⟩,m3⟩,m4⟩
theorem A2f(hG:∀ t∈L,F4 t):∀ (f:Nat) (l:List Dc) (s:Rd) (r:List Dc × Rd),S1 L E f l s=some r->okR r.2=true->okR s=true/\(l.length<=128->l.all R9=true->r.1.length<=128/\r.1.all R9=true)
 |0,l,s,r,h,_=>by trivial
 |f+1,l,s,r,h,k=>by
  unfold S1 at h;dsimp only at h;split at h
  ·grind
  ·rename_i hk;obtain⟨hs,hi, -,hk8⟩:=E2 (show 0<=A8 L E s C2 by omega);have hk8:A8 L E s C2<8:=hk8;refine⟨hs,fun h1 h2=>?_⟩;split at h
   ·rename_i hl;obtain⟨-,hll,hle⟩:=E1 (by simp) hl;obtain⟨m1,m2⟩:=A2f hG f _ _ _ h k;exact m2 (by grind) (by rw[A3S,h2,A2W,A2F,B9p hG (by omega) hk8 m1];rfl)
   ·rename_i hl;obtain⟨m1,m2⟩:=A2f hG f _ _ _ h k
    grind
theorem A2e(hG:∀ t∈L,F4 t):∀ (f:Nat) (l:List Md) (s:Rd) (r:List Md × Rd),Q1 L E f l s=some r->okR r.2=true->okR s=true/\(l.length<=16->l.all T6=true->r.1.length<=16/\r.1.all T6=true)
 |0,l,s,r,h,_=>by trivial
 |f+1,l,s,r,h,k=>by
  unfold Q1 at h;dsimp only at h;split at h
  ·rename_i hc;refine⟨hc.1,fun h1 h2=>?_⟩;split at h
   ·cases h;rw[A0y]at k;cases k
   split at h
   ·rename_i hl;split at h
    ·cases h
    ·rename_i m s2 hm;obtain⟨m1,m2⟩:=A2e hG f _ _ _ h k;obtain⟨q1,q2⟩:=B8u hG hm m1;obtain⟨-,hll,hle⟩:=E1 (by decide) hl;exact m2 (by simp only[A0D,A0K];omega) (by rw[A3S,h2,A2W,A2F,q2];rfl)
   ·rename_i hl;obtain⟨m1,m2⟩:=A2e hG f _ _ _ h k;exact absurd m1 hl
  grind
theorem B8i(hG:∀ t∈L,F4 t){f:Nat}{s:Rd}{r:Ru × Rd}(h:A6o L E f s=some r)(k:okR r.2=true):L1 r.1=true:=by
 unfold A6o at h;split at h
 ·grind
 ·rename_i d s1 hd;split at h
  ·grind
  ·rename_i m s2 hm;cases h;obtain⟨m1,m2⟩:=A2e hG _ _ _ _ hm k;obtain⟨m3,m4⟩:=m2 (by simp) rfl;obtain⟨d1,d2⟩:=A2f hG _ _ _ _ hd m1;obtain⟨d3,d4⟩:=d2 (by simp) rfl;simp only[L1,A0E,A0G]
   grind
end
section
variable {L:List Tok} {E:Int}
theorem C9v{k:Int}{s:Rd}(hi:s.i<L.length):(S4 L E k s).2.i<=L.length:=by
 have hn:(A6 s).i<=L.length:=hi;have h2:=I6 (E:=E) (x:=1) (by simp) hn;unfold S4;dsimp only;split
 ·refine G6 (I6 (by decide) ?_);split
  ·rename_i hm;rw[A0E]at hm;exact (Z0 hm.2).2
  omega
 ·exact G6 h2
theorem C9m:∀ (f:Nat) (l:List Hd) (s:Rd) (r:List Hd × Rd),S2 L E f l s=some r->s.i<=L.length->r.2.i<=L.length
 |0,l,s,r,h,hi=>by trivial
 |f+1,l,s,r,h,hi=>by
  unfold S2 at h;dsimp only at h;split at h
  ·split at h
   ·cases h;rw[N4];omega
   ·have h1:(A9 L E s ((l.length:Int)+1) 32 9).i<=L.length:=by rw[D8];omega
    have h2:=G6 (E:=E) (x:=[111,110]) h1;split at h
    ·cases h;rw[N4];omega
    ·rename_i hk;have h3:(A6 (B5 L E (A9 L E s ((l.length:Int)+1) 32 9) [111,110])).i<=L.length:=(E2 (show 0<=A8 L E (B5 L E (A9 L E s ((l.length:Int)+1) 32 9) [111,110]) C6 by omega)).2.1;split at h
     ·grind
     ·rename_i hb;refine C9m f _ _ _ h ((II.all f).1 _ _ _ hb ?_);split
      ·exact I6 (by decide) h3
      omega
  ·cases h;exact G6 hi
theorem C9l{f:Nat}{s:Rd}{r:Md × Rd}(h:A1p L E f s=some r)(hi:s.i<=L.length):r.2.i<=L.length:=by
 unfold A1p at h;dsimp only at h;split at h
 ·grind
 ·rename_i hm;cases h;exact C9m f _ _ _ hm (G6 (I6 (by simp) (I6 (by simp) (G6 hi))))
theorem C1n:∀ (f:Nat) (l:List Dc) (s:Rd) (r:List Dc × Rd),S1 L E f l s=some r->s.i<=L.length->r.2.i<=L.length
 |0,l,s,r,h,hi=>by trivial
 |f+1,l,s,r,h,hi=>by
  unfold S1 at h;dsimp only at h;split at h
  ·grind
  ·rename_i hk;have hlt:=(E2 (show 0<=A8 L E s C2 by omega)).2.1;split at h
   ·exact C1n f _ _ _ h (C9v (by rw[D8];omega))
   ·exact C1n f _ _ _ h (by rw[D8];omega)
theorem C1m:∀ (f:Nat) (l:List Md) (s:Rd) (r:List Md × Rd),Q1 L E f l s=some r->s.i<=L.length->r.2.i<=L.length
 |0,l,s,r,h,hi=>by trivial
 |f+1,l,s,r,h,hi=>by
  unfold Q1 at h;dsimp only at h;split at h
  ·split at h
   ·cases h;rw[N4];exact hi
   ·split at h
    ·split at h
     ·cases h
     ·rename_i hm;exact C1m f _ _ _ h (C9l hm (by rw[D8];exact hi))
    ·exact C1m f _ _ _ h (by rw[D8];exact hi)
  grind
end
def Evt{α : Type}(g:Nat->Option α)(r : α):Prop:=∃ N, ∀ f,N<=f->g f=some r
theorem Evt.one{α : Type}{g:Nat->Option α}{r : α}(h:∀ f,g (f+1)=some r):Evt g r :=
 ⟨1,fun f hf=>by obtain⟨k,rfl⟩:∃ k,f=k+1:=⟨f-1,by omega⟩;grind⟩
theorem Evt.ext{α β : Type}{g:Nat->Option α}{h:Nat->Option β}{r : α}{q : β}(hg:Evt g r)(e:∀ f,g f=some r->h (f+1)=some q):Evt h q:=by
 obtain⟨N,hg⟩:=hg;exact⟨N+1,fun f hf=>by obtain⟨k,rfl⟩:∃ k,f=k+1:=⟨f-1,by omega⟩;grind⟩
theorem Evt.map{α β : Type}{g:Nat->Option α}{h:Nat->Option β}{r : α}{q : β}(hg:Evt g r)(e:∀ f,g f=some r->h f=some q):Evt h q:=by
 obtain⟨N,hg⟩:=hg;exact⟨N,fun f hf=>e f (hg f hf)⟩
theorem Evt.and{α β : Type}{g:Nat->Option α}{h:Nat->Option β}{r : α}{q : β}(hg:Evt g r)(hh:Evt h q):Evt (fun f=>match g f,h f with|some a,some b=>some (a,b)|_,_=>none) (r,q):=by
 obtain⟨N,hg⟩:=hg;obtain⟨M,hh⟩:=hh;exact⟨max N M,fun f hf=>by grind⟩
theorem Evt.ext2{α β γ : Type}{g:Nat->Option α}{h:Nat->Option β}{k:Nat->Option γ}{r : α}{q : β}{w : γ}(hg:Evt g r)(hh:Evt h q)(e:∀ f,g f=some r->h f=some q->k (f+1)=some w):Evt k w:=by
 obtain⟨N,hg⟩:=hg;obtain⟨M,hh⟩:=hh;exact⟨max N M+1,fun f hf=>by obtain⟨j,rfl⟩:∃ j,f=j+1:=⟨f-1,by omega⟩;grind⟩
theorem Evt.map2{α β γ : Type}{g:Nat->Option α}{h:Nat->Option β}{k:Nat->Option γ}{r : α}{q : β}{w : γ}(hg:Evt g r)(hh:Evt h q)(e:∀ f,g f=some r->h f=some q->k f=some w):Evt k w:=by
 obtain⟨N,hg⟩:=hg;obtain⟨M,hh⟩:=hh;exact⟨max N M,fun f hf=>e f (hg f (by omega)) (hh f (by omega))⟩
theorem Evt.uniq{α : Type}{g:Nat->Option α}{r q : α}(h1:Evt g r)(h2:Evt g q):r=q:=by
 obtain⟨N,h1⟩:=h1;obtain⟨M,h2⟩:=h2;exact Option.some.inj ((h1 (max N M) (by omega)).symm.trans (h2 (max N M) (by omega)))
theorem Evt.get{α : Type}{g:Nat->Option α}{r : α}(h:Evt g r):∃ f,g f=some r:=by
 obtain⟨N,h⟩:=h;exact⟨N,h N (A0C _)⟩
section
variable {L:List Tok} {E:Int}
abbrev Bin(L:List Tok)(E n:Int)(s:Rd)(r:Ex × Rd):Prop:=Evt (fun f=>I1 L E f n s) r
abbrev Lop(L:List Tok)(E n:Int)(e:Ex)(s:Rd)(r:Ex × Rd):Prop:=Evt (fun f=>N6 L E f n e s) r
abbrev Un(L:List Tok)(E:Int)(s:Rd)(r:Ex × Rd):Prop:=Evt (fun f=>S0 L E f s) r
theorem Bin.un{n:Int}{s:Rd}{r:Ex × Rd}(hn:5<n)(h:Un L E s r):Bin L E n s r :=
 h.ext fun f h=>by rw[I1,if_pos hn];omega
theorem Bin.go{n:Int}{s s1:Rd}{e:Ex}{r:Ex × Rd}(hn:n<=5)(h:Bin L E (n+1) s (e,s1))(h2:Lop L E n e s1 r):Bin L E n s r :=
 h.ext2 h2 fun f h h2=>by rw[I1,if_neg (by omega),h];omega
theorem Lop.stop{n:Int}{e:Ex}{s:Rd}(h:A8 L E s C1<0\/E5 (12+A8 L E s C1)≠n):Lop L E n e s (e,s) :=
 Evt.one fun f=>by rw[N6];grind
theorem Lop.three{n:Int}{e x:Ex}{s s1:Rd}(h0:0<=A8 L E s C1)(h1:E5 (12+A8 L E s C1)=n)(hn:n=3)(hb:Bin L E (n+1) (A6 s) (x,s1)):Lop L E n e s (.mk (12+A8 L E s C1) 0 [] [e,x] (A7 L E s).pos,s1) :=
 hb.ext fun f h=>by rw[N6];grind
theorem Lop.more{n:Int}{e x:Ex}{s s1:Rd}{r:Ex × Rd}(h0:0<=A8 L E s C1)(h1:E5 (12+A8 L E s C1)=n)(hn:n≠3)(hb:Bin L E (n+1) (A6 s) (x,s1))(hl:Lop L E n (.mk (12+A8 L E s C1) 0 [] [e,x] (A7 L E s).pos) s1 r):Lop L E n e s r :=
 hb.ext2 hl fun f h h2=>by rw[N6];grind
theorem Un.prim{s:Rd}(h:A8 L E s K3<0):Un L E s (J6 L E s) :=
 Evt.one fun f=>by rw[S0];grind
theorem Un.bad{s:Rd}(h:0<=A8 L E s K3)(hl:okR (A9 L E s (s.par+1) 16 50)=false):Un L E s (Ex0,A9 L E s (s.par+1) 16 50) :=
 Evt.one fun f=>by rw[S0];grind
theorem Un.par{s s3:Rd}{e:Ex}(h:A8 L E s K3=2)(hl:okR (A9 L E s (s.par+1) 16 50)=true)(hb:Bin L E 1 { s with i:=s.i+1,par:=s.par+1 } (e,s3)):Un L E s (e, { B5 L E s3 [41] with par:=(B5 L E s3 [41]).par-1 }) :=
 hb.ext fun f hf=>by
  have e0:=(E1 (by decide) hl).2.2;rw[S0];grind
theorem Un.pre{s s3:Rd}{e:Ex}(h0:0<=A8 L E s K3)(h:A8 L E s K3≠2)(hl:okR (A9 L E s (s.par+1) 16 50)=true)(hb:Un L E { s with i:=s.i+1,par:=s.par+1 } (e,s3)):Un L E s (.mk (10+A8 L E s K3) 0 [] [e] (A7 L E s).pos, { s3 with par:=s3.par-1 }) :=
 hb.ext fun f hf=>by
  have e0:=(E1 (by decide) hl).2.2;rw[S0];grind
theorem C5{s:Rd}{x:List UInt8}:s.i<=(B5 L E s x).i:=by
 unfold B5;cases k:isR L E s x with
 |false=>rw[if_pos rfl,N4];omega
 |true=>rw[if_neg (by simp)];exact A3D _
theorem F8{s:Rd}{x:Int}:s.i<=(A4 L E s x).2.i:=by
 unfold A4;cases k:F9 L E s x with
 |false=>rw[if_pos rfl];show s.i<=(K8 L E s).i;rw[N4];omega
 |true=>rw[if_neg (by simp)];exact A3D _
theorem B6j{s:Rd}:s.i<=(J6 L E s).2.i:=by
 unfold J6;dsimp only;have h2:(A9 L E { s with ops:=s.ops+1 } (s.ops+1) 32 9).i=s.i:=D8;have h3:(A6 (A9 L E { s with ops:=s.ops+1 } (s.ops+1) 32 9)).i=s.i+1:=by show (A9 L E { s with ops:=s.ops+1 } (s.ops+1) 32 9).i+1=_;omega
 split
 ·show s.i<=(K8 L E s).i;rw[N4];omega
 ·split
  ·grind
  ·have:=F8 (L:=L) (E:=E) (s:=A6 (A9 L E { s with ops:=s.ops+1 } (s.ops+1) 32 9)) (x:=1)
   grind
theorem ET.all:∀ (m:Nat),(∀ s:Rd,L.length-s.i<=m->∃ r,Un L E s r/\s.i<=r.2.i)/\(∀ (n:Int) e (s:Rd),n<=5->1<=n->L.length-s.i<=m->∃ r,Lop L E n e s r/\s.i<=r.2.i)/\(∀ (n:Int) (s:Rd),1<=n->L.length-s.i<=m->∃ r,Bin L E n s r/\s.i<=r.2.i):=by
 intro m
 induction m using Nat.strongRecOn with
 |_ m ih =>
  have A:∀ s:Rd,L.length-s.i<=m->∃ r,Un L E s r/\s.i<=r.2.i:=by
   intro s hs;by_cases hk:A8 L E s K3<0
   ·exact⟨_,Un.prim hk,B6j⟩
   ·obtain⟨-,hi, -⟩:=E2 (show 0<=A8 L E s K3 by omega);cases hl:okR (A9 L E s (s.par+1) 16 50) with
    |false=>exact⟨_,Un.bad (by omega) hl,by show s.i<=(A9 L E s (s.par+1) 16 50).i;rw[D8];omega⟩
    |true =>
     by_cases h2:A8 L E s K3=2
     ·obtain⟨⟨e,s3⟩,hb,hge⟩:=(ih (m-1) (by omega)).2.2 1 { s with i:=s.i+1,par:=s.par+1 } (by decide) (by show L.length-(s.i+1)<=m-1;omega);refine⟨_,Un.par h2 hl hb,?_⟩;have h4:=C5 (L:=L) (E:=E) (s:=s3) (x:=[41])
      grind
     ·obtain⟨⟨e,s3⟩,hb,hge⟩:=(ih (m-1) (by omega)).1 { s with i:=s.i+1,par:=s.par+1 } (by show L.length-(s.i+1)<=m-1;omega);refine⟨_,Un.pre (by omega) h2 hl hb,?_⟩
      grind
  have B:∀ (n:Int) e (s:Rd),n<=5->1<=n->L.length-s.i<=m->∃ r,Lop L E n e s r/\s.i<=r.2.i:=by
   intro n e s h5 h1 hs;by_cases hk:A8 L E s C1<0\/E5 (12+A8 L E s C1)≠n
   ·exact⟨_,Lop.stop hk,A0C _⟩
   ·have h0:0<=A8 L E s C1:=by omega
    obtain⟨-,hi, -⟩:=E2 h0;obtain⟨⟨x,s1⟩,hb,hge⟩:=(ih (m-1) (by omega)).2.2 (n+1) (A6 s) (by omega) (by show L.length-(s.i+1)<=m-1;omega);have hge:s.i+1<=s1.i:=hge;by_cases h3:n=3
    ·exact⟨_,Lop.three h0 (by omega) h3 hb,by grind⟩
    ·obtain⟨r,hl,hg2⟩:=(ih (m-1) (by omega)).2.1 n (.mk (12+A8 L E s C1) 0 [] [e,x] (A7 L E s).pos) s1 h5 h1 (by omega);exact⟨_,Lop.more h0 (by omega) h3 hb hl,by omega⟩
  refine⟨A,B,?_⟩;have C:∀ (j:Nat) (n:Int) (s:Rd),6-n<=j->1<=n->L.length-s.i<=m->∃ r,Bin L E n s r/\s.i<=r.2.i:=by
   intro j
   induction j with
   |zero =>
    intro n s hj h1 hs;obtain⟨r,h,hg⟩:=A s hs;exact⟨r,Bin.un (by omega) h,hg⟩
   |succ j ihj =>
    intro n s hj h1 hs;by_cases h5:5<n
    ·grind
    ·obtain⟨⟨e,s1⟩,h,hg⟩:=ihj (n+1) s (by omega) (by omega) hs;have hg:s.i<=s1.i:=hg;obtain⟨r,h2,hg2⟩:=B n e s1 (by omega) h1 (by omega);exact⟨r,Bin.go (by omega) h h2,by omega⟩
  exact fun n s h1 hs=>C (6-n).toNat n s (by omega) h1 hs
abbrev Xpn(L:List Tok)(E:Int)(s:Rd)(r:Ex × Rd):Prop:=Evt (fun f=>M4 L E f s) r
theorem A0d(s:Rd):∃ r,Xpn L E s r/\s.i<=r.2.i:=by
 obtain⟨r,h,hg⟩:=(ET.all (L:=L) (E:=E) (L.length-s.i)).2.2 1 { s with ops:=0,par:=0 } (by simp) (A0C _);exact⟨r,h,hg⟩
theorem C0x(k p:Int)(s:Rd):∃ r,Evt (fun f=>L3 L E f k p s) r/\s.i<=r.2.i:=by
 by_cases h4:k=4
 ·obtain⟨⟨e,s1⟩,h,hg⟩:=A0d (L:=L) (E:=E) s;exact⟨_,h.map fun f h=>by unfold L3;rw[if_pos h4,h],A0X hg C5⟩
 by_cases h18:k=18
 ·obtain⟨⟨e,s1⟩,h,hg⟩:=A0d (L:=L) (E:=E) (B5 L E (A4 L E s 4).2 [44]);exact⟨_,h.map fun f h=>by unfold L3;rw[if_neg h4,if_pos h18,h],A0X (A0X F8 (A0X C5 hg)) C5⟩
 by_cases h19:k=19
 ·exact⟨_,Evt.one fun f=>by unfold L3;rw[if_neg h4,if_neg h18,if_pos h19],C5⟩
 by_cases h8:k=8\/k=9\/k=10
 ·obtain⟨⟨e,s1⟩,h,hg⟩:=A0d (L:=L) (E:=E) (A4 L E s 1).2;by_cases h9:k=9
  ·obtain⟨⟨e2,s2⟩,h2,hg2⟩:=A0d (L:=L) (E:=E) (B5 L E s1 [44]);exact⟨_,h.map2 h2 fun f h h2=>by unfold L3;rw[if_neg h4,if_neg h18,if_neg h19];dsimp only;rw[if_pos h8,h];dsimp only;rw[if_pos h9,h2],A0X (A0X F8 (A0X hg (A0X C5 hg2))) C5⟩
  ·exact⟨_,h.map fun f h=>by unfold L3;rw[if_neg h4,if_neg h18,if_neg h19];dsimp only;rw[if_pos h8,h];dsimp only;rw[if_neg h9],A0X (A0X F8 hg) C5⟩
 ·exact⟨_,Evt.one fun f=>by unfold L3;rw[if_neg h4,if_neg h18,if_neg h19];dsimp only;rw[if_neg h8],A0X F8 C5⟩
abbrev A3t(L:List Tok)(E d:Int)(s:Rd)(r:List St × Rd):Prop:=Evt (fun f=>K7 L E f d s) r
abbrev V7(L:List Tok)(E d:Int)(l:List St)(s:Rd)(r:List St × Rd):Prop:=Evt (fun f=>P5 L E f d l s) r
abbrev O4(L:List Tok)(E d:Int)(s:Rd)(r:St × Rd):Prop:=Evt (fun f=>P9 L E f d s) r
abbrev B2z(L:List Tok)(E d:Int)(s:Rd)(r:List St × Rd):Prop:=Evt (fun f=>P2 L E f d s) r
theorem A3t.mk{d:Int}{s:Rd}{r:List St × Rd}(h:V7 L E d [] (B5 L E s [123]) r):A3t L E d s r :=
 h.ext fun f h=>by assumption
theorem V7.stop{d:Int}{l:List St}{s:Rd}(h:¬ (okR s=true/\isR L E s [125]=false)):V7 L E d l s (l,B5 L E s [125]) :=
 Evt.one fun f=>by rw[P5,if_neg h]
theorem V7.bad{d:Int}{l:List St}{s:Rd}(h:okR s=true/\isR L E s [125]=false)(h2:A8 L E s C0<0/\F9 L E s 1=false):V7 L E d l s ([],K8 L E s) :=
 Evt.one fun f=>by rw[P5,if_pos h,if_pos h2]
theorem V7.more{d:Int}{l:List St}{s s1:Rd}{x:St}{r:List St × Rd}(h:okR s=true/\isR L E s [125]=false)(h2:¬ (A8 L E s C0<0/\F9 L E s 1=false))(hx:O4 L E d (A9 L E s ((l.length:Int)+1) 64 9) (x,s1))(hl:V7 L E d (l++[x]) s1 r):V7 L E d l s r :=
 hx.ext2 hl fun f hx hl=>by rw[P5,if_pos h,if_neg h2,hx];omega
theorem O4.bad{d:Int}{s:Rd}(h:okR (A9 L E s d 8 50)=false):O4 L E d s (St0,A9 L E s d 8 50) :=
 Evt.one fun f=>by rw[P9];grind
theorem O4.set{d:Int}{s s1:Rd}{e:Ex}(h:okR (A9 L E s d 8 50)=true)(hk:A8 L E s C0<0)(he:Xpn L E (B5 L E (A4 L E s 1).2 [61]) (e,s1)):O4 L E d s (.mk 1 (A4 L E s 1).1.text [] [e] [] [] (A7 L E s).pos,B5 L E s1 [59]) :=
 he.ext fun f hf=>by
  have e0:=(E1 (by decide) h).2.2;rw[P9];grind
theorem O4.els{d:Int}{s s2 s3 s4:Rd}{e:Ex}{t o:List St}(h:okR (A9 L E s d 8 50)=true)(hk:A8 L E s C0=0)(he:Xpn L E (A6 s) (e,s2))(ht:A3t L E (d+1) s2 (t,s3))(hi:isR L E s3 [101,108,115,101]=true)(ho:B2z L E d (A6 s3) (o,s4)):O4 L E d s (.mk 2 [] [] [e] t o (A7 L E s).pos,s4) :=
 (he.and ht).ext2 ho fun f hf h2=>by
  have e0:=(E1 (by simp) h).2.2;cases h3:M4 L E f (A6 s) with
  |none=>grind
  |some q =>
   cases h4:K7 L E f (d+1) s2 with
   |none=>grind
   |some w =>
    rw[h3,h4]at hf;obtain⟨rfl,rfl⟩:=Prod.mk.inj (Option.some.inj hf);rw[P9];grind
theorem O4.blk{d:Int}{s s2 s3:Rd}{e:Ex}{t:List St}(h:okR (A9 L E s d 8 50)=true)(hk:A8 L E s C0=0\/A8 L E s C0=1)(he:Xpn L E (A6 s) (e,s2))(ht:A3t L E (d+1) s2 (t,s3))(hi:¬ (A8 L E s C0=0/\isR L E s3 [101,108,115,101]=true)):O4 L E d s (.mk (2+A8 L E s C0) [] [] [e] t [] (A7 L E s).pos,s3) :=
 he.ext2 ht fun f h3 h4=>by
  have e0:=(E1 (by decide) h).2.2;rw[P9];grind
theorem O4.tail{d:Int}{s:Rd}{r:St × Rd}(h:okR (A9 L E s d 8 50)=true)(hk:2<=A8 L E s C0)(he:Evt (fun f=>L3 L E f (2+A8 L E s C0) (A7 L E s).pos (A6 s)) r):O4 L E d s r :=
 he.ext fun f h3=>by
  have e0:=(E1 (by decide) h).2.2;rw[P9];grind
theorem B2z.iff{d:Int}{s s1:Rd}{x:St}(h:isR L E s [105,102]=true)(hs:O4 L E (d+1) s (x,s1)):B2z L E d s ([x],s1) :=
 hs.ext fun f hf=>by rw[P2,if_pos h,hf]
theorem B2z.blk{d:Int}{s:Rd}{r:List St × Rd}(h:isR L E s [105,102]=false)(hs:A3t L E (d+1) s r):B2z L E d s r :=
 hs.ext fun f hf=>by rw[P2,if_neg (by rw[h];decide)];omega
theorem ST.all:∀ (m:Nat),(∀ d (s:Rd),L.length-s.i<=m->∃ r,O4 L E d s r/\s.i<=r.2.i/\(okR (A9 L E s d 8 50)=true->(0<=A8 L E s C0\/F9 L E s 1=true)->s.i<r.2.i)) /\
  (∀ d l (s:Rd),L.length-s.i<=m->∃ r,V7 L E d l s r/\s.i<=r.2.i):=by
 intro m
 induction m using Nat.strongRecOn with
 |_ m ih =>
  have blk:∀ d (s:Rd),L.length-s.i<m->∃ r,A3t L E d s r/\s.i<=r.2.i:=by
   intro d s hs;have h0:=C5 (L:=L) (E:=E) (s:=s) (x:=[123]);obtain⟨r,h,hg⟩:=(ih _ hs).2 d [] (B5 L E s [123]) (by omega);exact⟨r,A3t.mk h,by omega⟩
  have oth:∀ d (s:Rd),L.length-s.i<m->∃ r,B2z L E d s r/\s.i<=r.2.i:=by
   intro d s hs;cases hi:isR L E s [105,102] with
   |true =>
    obtain⟨⟨x,s1⟩,h,hg, -⟩:=(ih _ hs).1 (d+1) s (A0C _);exact⟨_,B2z.iff hi h,hg⟩
   |false =>
    obtain⟨r,h,hg⟩:=blk (d+1) s hs;exact⟨r,B2z.blk hi h,hg⟩
  have A:∀ d (s:Rd),L.length-s.i<=m->∃ r,O4 L E d s r/\s.i<=r.2.i/\(okR (A9 L E s d 8 50)=true->(0<=A8 L E s C0\/F9 L E s 1=true)->s.i<r.2.i):=by
   intro d s hs;cases hl:okR (A9 L E s d 8 50) with
   |false=>exact⟨_,O4.bad hl,by show s.i<=(A9 L E s d 8 50).i;rw[D8];omega,fun h=>by grind⟩
   |true =>
    by_cases hk:A8 L E s C0<0
    ·obtain⟨⟨e,s1⟩,he,hg⟩:=A0d (L:=L) (E:=E) (B5 L E (A4 L E s 1).2 [61]);have hg:(B5 L E (A4 L E s 1).2 [61]).i<=s1.i:=hg;have h1:=C5 (L:=L) (E:=E) (s:=s1) (x:=[59]);have h2:=C5 (L:=L) (E:=E) (s:=(A4 L E s 1).2) (x:=[61]);have h3:=F8 (L:=L) (E:=E) (s:=s) (x:=1);refine⟨_,O4.set hl hk he,by show s.i<=(B5 L E s1 [59]).i;omega,fun _ hc=>?_⟩;have h4:F9 L E s 1=true:=hc.resolve_left (by omega);have h5:(A4 L E s 1).2.i=s.i+1:=by unfold A4;rw[if_neg (by rw[h4];decide)];rfl
     grind
    ·obtain⟨-,hi, -,hk18⟩:=E2 (show 0<=A8 L E s C0 by omega);by_cases h01:A8 L E s C0=0\/A8 L E s C0=1
     ·obtain⟨⟨e,s2⟩,he,hg⟩:=A0d (L:=L) (E:=E) (A6 s);have hg:s.i+1<=s2.i:=hg;obtain⟨⟨t,s3⟩,ht,hg3⟩:=blk (d+1) s2 (by omega);have hg3:s2.i<=s3.i:=hg3;by_cases hc:A8 L E s C0=0/\isR L E s3 [101,108,115,101]=true
      ·have hi3:=(Z0 hc.2).2;obtain⟨⟨o,s4⟩,ho,hg4⟩:=oth d (A6 s3) (by show L.length-(s3.i+1)<m;omega);have hg4:s3.i+1<=s4.i:=hg4;exact⟨_,O4.els hl hc.1 he ht hc.2 ho,by grind,fun _ _=>by grind⟩
      ·exact⟨_,O4.blk hl h01 he ht hc,by grind,fun _ _=>by grind⟩
     ·obtain⟨r,hr,hg⟩:=C0x (L:=L) (E:=E) (2+A8 L E s C0) (A7 L E s).pos (A6 s);have hg:s.i+1<=r.2.i:=hg;exact⟨_,O4.tail hl (by omega) hr,by omega,fun _ _=>by omega⟩
  refine⟨A,fun d l s hs=>?_⟩;by_cases hc:okR s=true/\isR L E s [125]=false
  ·by_cases h2:A8 L E s C0<0/\F9 L E s 1=false
   ·exact⟨_,V7.bad hc h2,by show s.i<=(K8 L E s).i;rw[N4];omega⟩
   ·have hlt:s.i<L.length:=by
     by_cases hk:0<=A8 L E s C0
     ·exact (E2 hk).2.1
     ·cases h1:F9 L E s 1 with
      |false=>grind
      |true=>exact (G5 (by simp) (E9 h1).2).2
    cases hl:okR (A9 L E s ((l.length:Int)+1) 64 9) with
    |false =>
     have hb:okR (A9 L E (A9 L E s ((l.length:Int)+1) 64 9) d 8 50)=false:=by
      cases hz:okR (A9 L E (A9 L E s ((l.length:Int)+1) 64 9) d 8 50) with
      |false=>rfl
      |true=>rw[(E1 (by decide) hz).1]at hl;cases hl
     have hx:=O4.bad hb;refine⟨_,V7.more hc h2 hx (V7.stop (by rw[hb];simp)),?_⟩;have h1:=C5 (L:=L) (E:=E) (s:=A9 L E (A9 L E s ((l.length:Int)+1) 64 9) d 8 50) (x:=[125]);rw[D8,D8]at h1;omega
    |true =>
     have e0:=(E1 (by simp) hl).2.2;obtain⟨⟨x,s1⟩,hx,hg,hprog⟩:=A d s hs;have hg:s.i<=s1.i:=hg;cases hd:okR (A9 L E s d 8 50) with
     |false =>
      have hx:=O4.bad hd;refine⟨_,V7.more hc h2 (by rw[e0];exact hx) (V7.stop (by rw[hd];simp)),?_⟩;have h1:=C5 (L:=L) (E:=E) (s:=A9 L E s d 8 50) (x:=[125]);rw[D8]at h1;omega
     |true =>
      have hlt2:s.i<s1.i:=hprog hd (by
       grind)
      obtain⟨r,hr,hg2⟩:=(ih (L.length-s1.i) (by omega)).2 d (l++[x]) s1 (A0C _);exact⟨r,V7.more hc h2 (by grind) hr,by omega⟩
  ·exact⟨_,V7.stop hc,C5⟩
theorem C8q(d:Int)(s:Rd):∃ r,A3t L E d s r/\s.i<=r.2.i:=by
 obtain⟨r,h,hg⟩:=(ST.all (L:=L) (E:=E) _).2 d [] (B5 L E s [123]) (A0C _);exact⟨r,A3t.mk h,A0X C5 hg⟩
theorem C7e:∀ (m:Nat) (l:List Hd) (s:Rd),L.length-s.i<=m->∃ r,Evt (fun f=>S2 L E f l s) r/\s.i<=r.2.i:=by
 intro m
 induction m using Nat.strongRecOn with
 |_ m ih =>
  intro l s hs;by_cases hc:okR s=true/\isR L E s [125]=false
  ·cases hon:isR L E s [111,110] with
   |false=>exact⟨_,Evt.one fun f=>by rw[S2,if_pos hc,if_pos hon],by show s.i<=(K8 L E s).i;rw[N4];omega⟩
   |true =>
    have hi:=(Z0 hon).2;have h1:(A9 L E s ((l.length:Int)+1) 32 9).i=s.i:=D8;generalize hl:A9 L E s ((l.length:Int)+1) 32 9=s1 at h1;have h2:=C5 (L:=L) (E:=E) (s:=s1) (x:=[111,110]);generalize he:B5 L E s1 [111,110]=s2 at h2;by_cases hk:A8 L E s2 C6<0
    ·exact⟨_,Evt.one fun f=>by rw[S2,if_pos hc,if_neg (by grind),hl];dsimp only;rw[he,if_pos hk],by show s.i<=(K8 L E s2).i;rw[N4];omega⟩
    ·have hi2:=(E2 (show 0<=A8 L E s2 C6 by omega)).2.1;have h4:s2.i+1<=(if 2<=A8 L E s2 C6 then (A4 L E (A6 s2) 1).2 else A6 s2).i:=by
      split
      ·exact F8 (L:=L) (E:=E) (s:=A6 s2) (x:=1)
      ·exact A0C _
     obtain⟨⟨b,s5⟩,hb,hg⟩:=C8q (L:=L) (E:=E) 1 (if 2<=A8 L E s2 C6 then (A4 L E (A6 s2) 1).2 else A6 s2);have hg:(if 2<=A8 L E s2 C6 then (A4 L E (A6 s2) 1).2 else A6 s2).i<=s5.i:=hg;obtain⟨r,hr,hg2⟩:=ih (L.length-s5.i) (by omega) (l++[⟨1+A8 L E s2 C6,if 2<=A8 L E s2 C6 then (A4 L E (A6 s2) 1).1.text else [],b,(A7 L E s1).pos⟩]) s5 (A0C _);exact⟨r,hb.ext2 hr fun f hb hr=>by rw[S2,if_pos hc,if_neg (by rw[hon];decide),hl];grind,by omega⟩
  ·exact⟨_,Evt.one fun f=>by rw[S2,if_neg hc],C5⟩
theorem C7d(s:Rd):∃ r,Evt (fun f=>A1p L E f s) r/\s.i<=r.2.i/\(isR L E s [109,111,100,101]=true->s.i<r.2.i):=by
 obtain⟨⟨l,s3⟩,h,hg⟩:=C7e (L:=L) (E:=E) _ [] (B5 L E (A4 L E (A4 L E (B5 L E s [109,111,100,101]) 1).2 3).2 [123]) (A0C _);have hg:(B5 L E (A4 L E (A4 L E (B5 L E s [109,111,100,101]) 1).2 3).2 [123]).i<=s3.i:=hg;have h1:=C5 (L:=L) (E:=E) (s:=(A4 L E (A4 L E (B5 L E s [109,111,100,101]) 1).2 3).2) (x:=[123]);have h2:=F8 (L:=L) (E:=E) (s:=(A4 L E (B5 L E s [109,111,100,101]) 1).2) (x:=3);have h3:=F8 (L:=L) (E:=E) (s:=B5 L E s [109,111,100,101]) (x:=1);have h4:=C5 (L:=L) (E:=E) (s:=s) (x:=[109,111,100,101]);refine⟨_,h.map fun f h=>by unfold A1p;dsimp only;rw[h],by show s.i<=s3.i;omega,fun hi=>?_⟩;have h5:(B5 L E s [109,111,100,101]).i=s.i+1:=by unfold B5;rw[if_neg (by rw[hi];decide)];rfl
 grind
theorem C4k{k:Int}{s:Rd}:s.i+1<=(S4 L E k s).2.i:=by
 unfold S4;dsimp only;have h1:=F8 (L:=L) (E:=E) (s:=A6 s) (x:=1);have h0:(A6 s).i=s.i+1:=rfl;split
 ·generalize (A4 L E (A6 s) 1).2=s2 at h1 ⊢;have h3:s2.i<=(if (k+1 == 6 && isR L E s2 [45])=true then A6 s2 else s2).i:=by
   split
   ·exact A3D _
   ·exact A0C _
  generalize (if (k+1 == 6 && isR L E s2 [45])=true then A6 s2 else s2)=s3 at h3 ⊢;have h4:=F8 (L:=L) (E:=E) (s:=s3) (x:=3);have h5:=C5 (L:=L) (E:=E) (s:=(A4 L E s3 3).2) (x:=[59])
  grind
 ·have h5:=C5 (L:=L) (E:=E) (s:=(A4 L E (A6 s) 1).2) (x:=[59])
  grind
theorem B7w{s:Rd}(h:okR s=false):∀ (l:List (List UInt8)) (k:Nat),V5 L E s k l = -1
 |[],k=>rfl
 |t :: l,k=>by rw[V5,show isR L E s t=false by unfold isR;grind,if_neg (by simp),B7w h l]
theorem C6i:∀ (m:Nat) (l:List Dc) (s:Rd),L.length-s.i<=m->∃ r,Evt (fun f=>S1 L E f l s) r/\s.i<=r.2.i:=by
 intro m
 induction m using Nat.strongRecOn with
 |_ m ih =>
  intro l s hs;by_cases hk:A8 L E s C2<0
  ·exact⟨_,Evt.one fun f=>by rw[S1];dsimp only;rw[if_pos hk],A0C _⟩
  ·have hi:=(E2 (show 0<=A8 L E s C2 by omega)).2.1;have h1:(A9 L E s ((l.length:Int)+1) 128 9).i=s.i:=D8;cases hl:okR (A9 L E s ((l.length:Int)+1) 128 9) with
   |false =>
    have hz:A8 L E (A9 L E s ((l.length:Int)+1) 128 9) C2<0:=by
     show V5 L E _ 0 C2<0;rw[B7w hl];simp
    have h2:Evt (fun f=>S1 L E f l (A9 L E s ((l.length:Int)+1) 128 9)) (l,A9 L E s ((l.length:Int)+1) 128 9):=Evt.one fun f=>by rw[S1];grind
    exact⟨_,h2.ext fun f h=>by rw[S1];dsimp only;rw[if_neg hk,if_neg (by grind)];exact h,by grind⟩
   |true =>
    have h3:=C4k (L:=L) (E:=E) (k:=A8 L E s C2) (s:=A9 L E s ((l.length:Int)+1) 128 9);obtain⟨r,hr,hg⟩:=ih (L.length-(S4 L E (A8 L E s C2) (A9 L E s ((l.length:Int)+1) 128 9)).2.i) (by omega) (l++[(S4 L E (A8 L E s C2) (A9 L E s ((l.length:Int)+1) 128 9)).1]) _ (A0C _);exact⟨r,hr.ext fun f h=>by rw[S1];grind,by omega⟩
theorem C6h:∀ (m:Nat) (l:List Md) (s:Rd),L.length-s.i<=m->∃ r,Evt (fun f=>Q1 L E f l s) r/\s.i<=r.2.i:=by
 intro m
 induction m using Nat.strongRecOn with
 |_ m ih =>
  intro l s hs;by_cases hc:okR s=true/\s.i<L.length
  ·cases hm:isR L E s [109,111,100,101] with
   |false=>exact⟨_,Evt.one fun f=>by rw[Q1,if_pos hc,if_pos hm],by show s.i<=(K8 L E s).i;rw[N4];omega⟩
   |true =>
    have h1:(A9 L E s ((l.length:Int)+1) 16 9).i=s.i:=D8;cases hl:okR (A9 L E s ((l.length:Int)+1) 16 9) with
    |false =>
     have h2:Evt (fun f=>Q1 L E f l (A9 L E s ((l.length:Int)+1) 16 9)) (l,A9 L E s ((l.length:Int)+1) 16 9):=Evt.one fun f=>by rw[Q1,if_neg (by grind)]
     exact⟨_,h2.ext fun f h=>by rw[Q1,if_pos hc,if_neg (by grind)];dsimp only;rw[if_neg (by grind)];exact h,by grind⟩
    |true =>
     have e0:=(E1 (by simp) hl).2.2;obtain⟨⟨md,s2⟩,h2,hg,hlt⟩:=C7d (L:=L) (E:=E) s;have hlt:s.i<s2.i:=hlt hm;obtain⟨r,hr,hg2⟩:=ih (L.length-s2.i) (by omega) (l++[md]) s2 (A0C _);exact⟨r,h2.ext2 hr fun f h2 hr=>by rw[Q1,if_pos hc,if_neg (by rw[hm];decide)];grind,by omega⟩
  ·exact⟨_,Evt.one fun f=>by rw[Q1,if_neg hc],A0C _⟩
theorem B5x(s:Rd):∃ r,Evt (fun f=>A6o L E f s) r:=by
 obtain⟨⟨d,s1⟩,h1, -⟩:=C6i (L:=L) (E:=E) _ [] s (A0C _);obtain⟨⟨m,s2⟩,h2, -⟩:=C6h (L:=L) (E:=E) _ [] s1 (A0C _);exact⟨_,h1.map2 h2 fun f h1 h2=>by unfold A6o;rw[h1];dsimp only;rw[h2]⟩
end
section
variable {L:List Tok} {E:Int}
theorem B6t{s:List UInt8}(h:F1 s=true):s.length<=12:=by
 unfold F1 at h
 grind
theorem A0g(hG:∀ t∈L,F4 t){s:Rd}:(A4 L E s 1).1.text.length<=12:=by
 cases h:F9 L E s 1 with
 |false=>unfold A4;rw[if_pos h];exact A0V _
 |true =>
  unfold A4;rw[if_neg (by grind)];exact B6t ((hG _ (G5 (by simp) (E9 h).2).1).1 (E9 h).2)
theorem C5y(hG:∀ t∈L,F4 t){s:Rd}:(A4 L E s 4).1.text.length<=32:=by
 cases h:F9 L E s 4 with
 |false=>unfold A4;rw[if_pos h];exact A0V _
 |true =>
  unfold A4;rw[if_neg (by rw[h];decide)];have:=(hG _ (G5 (by decide) (E9 h).2).1).2.2 (E9 h).2;unfold X8 at this
  grind
theorem C6o(hG:∀ t∈L,F4 t){s:Rd}:(J6 L E s).1.sz+13 * s.i<=13 * (J6 L E s).2.i+1:=by
 have hge:=B6j (L:=L) (E:=E) (s:=s);have h2:(A9 L E { s with ops:=s.ops+1 } (s.ops+1) 32 9).i=s.i:=D8;unfold J6 at hge ⊢;dsimp only at hge ⊢;split
 ·rename_i hc;rw[if_pos hc]at hge;show 1+0+0+_<=_;omega
 ·rename_i hc;rw[if_neg hc]at hge;split
  ·show 1+0+0+13 * s.i<=13 * (A9 L E { s with ops:=s.ops+1 } (s.ops+1) 32 9).i+1;omega
  ·have h3:(A6 (A9 L E { s with ops:=s.ops+1 } (s.ops+1) 32 9)).i=s.i+1:=by show (A9 L E { s with ops:=s.ops+1 } (s.ops+1) 32 9).i+1=_;omega
   generalize A6 (A9 L E { s with ops:=s.ops+1 } (s.ops+1) 32 9)=s3 at h3;have h4:=F8 (L:=L) (E:=E) (s:=s3) (x:=1);have h5:=A0g (L:=L) (E:=E) hG (s:=s3);split
   ·split
    ·show 1+(A4 L E s3 1).1.text.length+0+13 * s.i<=13 * (A4 L E s3 1).2.i+1;omega
    ·show 1+0+0+13 * s.i<=13 * s3.i+1;omega
   ·rename_i hk;split
    ·show 1+0+0+13 * s.i<=13 * s3.i+1;omega
    ·rename_i hk3;have h1k:F9 L E s 1=true:=by
      cases hz:F9 L E s 1 with
      |true=>rfl
      |false =>
       refine absurd ⟨by omega,?_,hz⟩ hc;cases hy:F9 L E s 3 with
       |false=>rfl
       |true=>exact absurd (E9 hy).2 hk3
     have:=B6t ((hG _ (G5 (by simp) (E9 h1k).2).1).1 (E9 h1k).2);show 1+(A7 L E s).text.length+0+13 * s.i<=13 * s3.i+1;omega
theorem EZ.all(hG:∀ t∈L,F4 t):∀ f:Nat,(∀ n s r,I1 L E f n s=some r->r.1.sz+13 * s.i<=13 * r.2.i+1)/\(∀ n e s r,N6 L E f n e s=some r->r.1.sz+13 * s.i<=13 * r.2.i+e.sz)/\(∀ s r,S0 L E f s=some r->r.1.sz+13 * s.i<=13 * r.2.i+1)
 |0=>⟨fun n s r h=>by trivial,fun n e s r h=>by trivial,fun s r h=>by trivial⟩
 |f+1=>by
  obtain⟨i1,i2,i3⟩:=EZ.all hG f;refine⟨fun n s r h=>?_,fun n e s r h=>?_,fun s r h=>?_⟩
  ·unfold I1 at h
   grind
  ·unfold N6 at h;dsimp only at h;split at h
   ·grind
   ·split at h
    ·grind
    ·rename_i x s1 hb;have h1:=i1 _ _ _ hb;have h1:x.sz+13 * (s.i+1)<=13 * s1.i+1:=h1;have h3:(Ex.mk (12+A8 L E s C1) 0 [] [e,x] (A7 L E s).pos).sz=1+e.sz+x.sz:=by rw[Ex.sz,Ex.szs,Ex.szs,Ex.szs];simp;omega
     grind
  ·unfold S0 at h;dsimp only at h;split at h
   ·cases h;exact C6o hG
   ·split at h
    ·cases h;show 1+0+0+13 * s.i<=13 * (A9 L E s (s.par+1) 16 50).i+1;rw[D8];omega
    ·rename_i hl;have hl:okR (A9 L E s (s.par+1) 16 50)=true:=by grind
     obtain⟨-, -,h3⟩:=E1 (by simp) hl;rw[h3]at h;split at h
     ·split at h
      ·grind
      ·rename_i e s3 hb;cases h;have h1:=i1 _ _ _ hb;have h1:e.sz+13 * (s.i+1)<=13 * s3.i+1:=h1;have h2:=C5 (L:=L) (E:=E) (s:=s3) (x:=[41])
       grind
     ·split at h
      ·grind
      ·rename_i e s3 hb;cases h;have h1:=i3 _ _ hb;have h1:e.sz+13 * (s.i+1)<=13 * s3.i+1:=h1;have h4:(Ex.mk (10+A8 L E s K3) 0 [] [e] (A7 L E s).pos).sz=1+e.sz:=by rw[Ex.sz,Ex.szs,Ex.szs];simp
       grind
theorem A0k(hG:∀ t∈L,F4 t){f:Nat}{s:Rd}{r:Ex × Rd}(h:M4 L E f s=some r):r.1.sz+13 * s.i<=13 * r.2.i+1:=(EZ.all hG f).1 1 { s with ops:=0,par:=0 } r h
theorem A3b(k p:Int)(n t:List UInt8)(a:List Ex)(x y:List St):(St.mk k n t a x y p).sz=1+n.length+t.length+Ex.szs a+St.szs x+St.szs y:=by rfl
theorem C5z(hG:∀ t∈L,F4 t){f:Nat}{k p:Int}{s:Rd}{r:St × Rd}(h:L3 L E f k p s=some r):r.1.sz+100 * s.i<=100 * r.2.i+40:=by
 have t1:=A0g (L:=L) (E:=E) hG (s:=s);have t4:=C5y (L:=L) (E:=E) hG (s:=s);have g1:=F8 (L:=L) (E:=E) (s:=s) (x:=1);have g4:=F8 (L:=L) (E:=E) (s:=s) (x:=4);unfold L3 at h;dsimp only at h;split at h
 ·split at h
  ·grind
  ·rename_i e s1 he;cases h;have h1:=A0k hG he;have h2:=C5 (L:=L) (E:=E) (s:=s1) (x:=[59]);rw[A3b,Ex.szs,Ex.szs,St.szs]
   grind
 split at h
 ·split at h
  ·grind
  ·rename_i e s1 he;cases h;have h1:=A0k hG he;have h2:=C5 (L:=L) (E:=E) (s:=s1) (x:=[59]);have h3:=C5 (L:=L) (E:=E) (s:=(A4 L E s 4).2) (x:=[44]);rw[A3b,Ex.szs,Ex.szs,St.szs]
   grind
 split at h
 ·cases h;have h2:=C5 (L:=L) (E:=E) (s:=s) (x:=[59]);rw[A3b,Ex.szs,St.szs]
  grind
 split at h
 ·split at h
  ·grind
  ·rename_i e s1 he;have h1:=A0k hG he;split at h
   ·split at h
    ·grind
    ·rename_i e2 s2 he2;cases h;have h4:=A0k hG he2;have h2:=C5 (L:=L) (E:=E) (s:=s2) (x:=[59]);have h3:=C5 (L:=L) (E:=E) (s:=s1) (x:=[44]);rw[A3b,Ex.szs,Ex.szs,Ex.szs,St.szs]
     grind
   ·cases h;have h2:=C5 (L:=L) (E:=E) (s:=s1) (x:=[59]);rw[A3b,Ex.szs,Ex.szs,St.szs]
    grind
 ·cases h;have h2:=C5 (L:=L) (E:=E) (s:=(A4 L E s 1).2) (x:=[59]);rw[A3b,Ex.szs,St.szs]
  grind
theorem B5p:∀ (l:List St) (x:St),St.szs (l++[x])=St.szs l+x.sz
 |[],x=>by simp[St.szs]
 |a :: l,x=>by rw[A0W,St.szs,St.szs,B5p l x];omega
theorem SZ.all(hG:∀ t∈L,F4 t):∀ f:Nat,(∀ d s r,K7 L E f d s=some r->St.szs r.1+100 * s.i<=100 * r.2.i+40) /\
  (∀ d l s r,P5 L E f d l s=some r->St.szs r.1+100 * s.i<=100 * r.2.i+St.szs l+40/\(okR s=false->St.szs r.1<=St.szs l)) /\
  (∀ d s r,P9 L E f d s=some r->r.1.sz+100 * s.i<=100 * r.2.i+40/\(r.1.sz+100 * s.i<=100 * r.2.i\/okR r.2=false/\r.1.sz<=40)/\s.i<=r.2.i) /\
  (∀ d s r,P2 L E f d s=some r->St.szs r.1+100 * s.i<=100 * r.2.i+40)
 |0=>⟨fun d s r h=>by trivial,fun d l s r h=>by trivial,fun d s r h=>by trivial,fun d s r h=>by trivial⟩
 |f+1=>by
  obtain⟨i1,i2,i3,i4⟩:=SZ.all hG f;refine⟨fun d s r h=>?_,fun d l s r h=>?_,fun d s r h=>?_,fun d s r h=>?_⟩
  ·unfold K7 at h;have h1:=(i2 _ _ _ _ h).1;have h2:=C5 (L:=L) (E:=E) (s:=s) (x:=[123]);rw[St.szs]at h1;omega
  ·unfold P5 at h;split at h
   ·rename_i hc;refine⟨?_,fun h0=>by grind⟩;split at h
    ·cases h;show St.szs []+100 * s.i<=100 * (K8 L E s).i+St.szs l+40;rw[N4,St.szs];omega
    ·split at h
     ·grind
     ·rename_i x s1 he;obtain⟨h1,h2⟩:=i2 _ _ _ _ h;obtain⟨h3,h4,h5⟩:=i3 _ _ _ he;rw[D8]at h3 h4 h5;rw[B5p]at h1 h2;dsimp only at h3 h4 h5;rcases h4 with h4|⟨h4,h6⟩
      ·omega
      ·have h7:=h2 h4;have h8:s1.i<=r.2.i:=by
        obtain⟨N,hN⟩:=(ST.all (L:=L) (E:=E) _).2 d (l++[x]) s1 (A0C _);obtain⟨⟨M,hM⟩,hg⟩:=hN;have h9:okR s1=false:=h4;have hfr:V7 L E d (l++[x]) s1 (l++[x],B5 L E s1 [125]):=V7.stop (by grind);cases f with
        |zero=>trivial
        |succ f =>
         rw[P5,if_neg (by grind)]at h;cases h;exact C5
       omega
   ·rename_i hc;cases h;have h2:=C5 (L:=L) (E:=E) (s:=s) (x:=[125])
    grind
  ·have hst:=(ST.all (L:=L) (E:=E) (L.length-s.i)).1 d s (A0C _);unfold P9 at h;dsimp only at h;split at h
   ·rename_i hl;cases h;have e1:St0.sz=1:=by rfl
    refine⟨?_,.inr ⟨hl,by grind⟩,?_⟩
    ·show St0.sz+100 * s.i<=100 * (A9 L E s d 8 50).i+40;rw[D8];omega
    ·show s.i<=(A9 L E s d 8 50).i;rw[D8];omega
   rename_i hl;have hl:okR (A9 L E s d 8 50)=true:=by grind
   obtain⟨hs,hd,hle⟩:=E1 (by simp) hl;rw[hle]at h;split at h
   ·split at h
    ·grind
    ·rename_i e s1 he;cases h;have h1:=A0k hG he;have h2:=C5 (L:=L) (E:=E) (s:=s1) (x:=[59]);have h3:=C5 (L:=L) (E:=E) (s:=(A4 L E s 1).2) (x:=[61]);have h4:=F8 (L:=L) (E:=E) (s:=s) (x:=1);have h5:=A0g (L:=L) (E:=E) hG (s:=s);have hsz:(St.mk 1 (A4 L E s 1).1.text [] [e] [] [] (A7 L E s).pos).sz=1+(A4 L E s 1).1.text.length+e.sz:=by
      rfl
     rw[hsz];dsimp only at h1 ⊢;refine⟨by omega,?_,by omega⟩;by_cases ht:F9 L E s 1=true
     ·have h6:(A4 L E s 1).2.i=s.i+1:=by unfold A4;rw[if_neg (by rw[ht];decide)];rfl
      omega
     ·have ht:F9 L E s 1=false:=by grind
      have h6:(A4 L E s 1).2=K8 L E s:=by unfold A4;grind
      by_cases hp:1<=(B5 L E s1 [59]).i-s.i
      ·omega
      ·refine .inr ⟨?_,by omega⟩;cases hz:okR (B5 L E s1 [59]) with
       |false=>rfl
       |true =>
        have h7:=(A5u hz).2;have h8:(B5 L E s1 [59]).i=s1.i+1:=by rw[h7];rfl
        omega
   ·rename_i hk;obtain⟨-,hi, -,hk18⟩:=E2 (show 0<=A8 L E s C0 by omega);have hn:(A6 s).i=s.i+1:=rfl;split at h
    ·split at h
     ·grind
     ·rename_i e s2 he;split at h
      ·grind
      ·rename_i t s3 ht;have h1:=A0k hG he;have h2:=i1 _ _ _ ht;rw[hn]at h1;dsimp only at h1 h2;split at h
       ·split at h
        ·grind
        ·rename_i o s4 ho;cases h;have h3:=i4 _ _ _ ho;have h3:St.szs o+100 * (s3.i+1)<=100 * s4.i+40:=h3;have hsz:(St.mk 2 [] [] [e] t o (A7 L E s).pos).sz=1+e.sz+St.szs t+St.szs o:=by
          rw[A3b,Ex.szs,Ex.szs];simp
         grind
       ·cases h;have hsz:(St.mk (2+A8 L E s C0) [] [] [e] t [] (A7 L E s).pos).sz=1+e.sz+St.szs t:=by
         rw[A3b,Ex.szs,Ex.szs,St.szs];simp
        grind
    ·have h1:=C5z hG h;omega
  ·unfold P2 at h;split at h
   ·split at h
    ·cases h
    ·rename_i x s1 he;cases h;have h1:=(i3 _ _ _ he).1;rw[St.szs,St.szs];dsimp only at h1 ⊢;omega
   grind
end
def okN(kind:Int)(text:List UInt8)(value:Int)(i n:Nat):DV:=.tup [.agg [I64 kind,.str text,I64 value,I64 i],I64 ((i+n:Nat):Int),I64 0]
def O2(e:Int)(i:Nat):DV:=.tup [.agg [I64 0,.str [],I64 0,I64 0],I64 i,I64 e]
def nxR(x:Nx)(i:Nat):DV:=if x.err=0 then okN x.kind x.text x.value i x.n else O2 x.err i
theorem B3v(x:Nx)(i:Nat):(nxR x i).nl=true:=by unfold nxR;split<;>rfl
theorem A4z{k:Int}{t:List UInt8}{v:Int}{n i:Nat}:nxR ⟨k,t,v,n,0⟩ i=okN k t v i n:=if_pos rfl
theorem A4d{e:Int}{i:Nat}(h:e≠0):nxR (nxE e) i=O2 e i:=if_neg h
def A9p(s:List UInt8):Bool:=decide (2147483647<L7 s)
def smV(s:List UInt8):Nat:=if 2147483647<L7 s then 0 else L7 s
theorem C1c(s:List UInt8):smV s<=2147483647:=by unfold smV;grind
theorem C1d{s:List UInt8}(h:¬ 2147483647<L7 s):smV s=L7 s:=if_neg h
theorem C9f{s:List UInt8}(h:2147483647<L7 s):smV s=0:=if_pos h
theorem A4t{p:UInt8->Bool}{s:List UInt8}{i j:Nat}{c:UInt8}(h:s[i+j]? = some c)(hj:j<=B0 p (s.drop i)):(p c=true->j+1<=B0 p (s.drop i))/\(p c=false->B0 p (s.drop i)=j) :=
 A8g (by grind) hj
theorem A2b{p:UInt8->Bool}{s:List UInt8}{i j:Nat}(h:s.length<=i+j)(hj:j<=B0 p (s.drop i)):B0 p (s.drop i)=j :=
 B0h (by grind) hj
theorem B0i{s:List UInt8}{i n:Nat}(h:i+n<=s.length):slsR s (some (.int .i64 (i:Int))) (some (.int .i64 ((i+n:Nat):Int)))=some (.str ((s.drop i).take n)):=by
 have b1:∀ k:Nat,boundOf s.length (some (.int .i64 (k:Int)))=some k:=fun k=>by simp[boundOf]
 have b2:∀ k:Nat,boundOf 0 (some (.int .i64 (k:Int)))=some k:=fun k=>by simp[boundOf]
 simp only[slsR,b1,b2]
 grind
theorem B8o(x:Nx)(i:Nat):∃ (k:Int) (t:List UInt8) (v p n e:Int),nxR x i=.tup [.agg [I64 k,.str t,I64 v,I64 p],I64 n,I64 e]:=by
 unfold nxR;split
 ·exact⟨_,_,_,_,_,_,rfl⟩
 ·exact⟨_,_,_,_,_,_,rfl⟩
def C5a:Blk:=⟨0,true,[I64 0,.str [],I64 0,I64 0]⟩
def quR(i:Nat):Option (List UInt8 × Nat)->DV
 |none=>O2 48 i
 |some x=>if 32<x.1.length then O2 9 i else .tup [.agg [I64 4,.str x.1,I64 0,I64 i],I64 (x.2:Int),I64 0]
theorem D2b(i:Nat)(q:Option (List UInt8 × Nat)):(quR i q).nl=true:=by
 cases q with
 |none=>rfl
 |some x=>simp only[quR];split<;>rfl
theorem C1x{s:List UInt8}{i:Nat}{c:UInt8}(h:s[i]? = some c)(h1:ltB c=false)(h2:dgB c=false)(h3:c.toNat=34):quR i (quA [] (i+1) (quM (s.drop (i+1))))=nxR (A3 (s.drop i)) i:=by
 rw[J3 h,A3,if_neg (by grind),if_neg (by grind),if_pos h3];cases hq:quM (s.drop (i+1)) with
 |none=>rfl
 |some x =>
  simp only[quA,A2R,A1J,quR];split
  ·rfl
  ·rw[A4z,okN]
   grind
theorem A3z{X:Hp}{o:Option Nat}{c:Nat}{b b2 b3 b3':Blk}(hX:∀ j q,X j=some q->j<c)(ho:∀ i,o=some i->X i=none)(h:b3=b3'):
  Sub (optH X (some (c+1)) b3) ((delO ((optH X o b).upd c b2) o).upd (c+1) b3'):=by
 subst h;intro j q hj;simp only[optH]at hj;by_cases e:j=c+1
 ·subst e;rw[h_same]at hj ⊢;omega
 ·rw[h_ne e]at hj ⊢;have h1:=hX j q hj;have h2:∀ i,o=some i->¬ j=i:=fun i hi e2=>by rw[e2,ho i hi]at hj;cases hj
  rw[B4 h2,hnO,B1 h2];omega
theorem A3x{b:Blk}{c j:Nat}{q:Blk}(hc:1<=c)(h:(Sym.nil.upd 0 b) j=some q):j<c:=by
 by_cases e:j=0
 ·omega
 ·rw[h_ne e]at h;cases h
theorem A3w{b:Blk}{i:Nat}(h:¬ i=0):(Sym.nil.upd 0 b) i=none:=by rw[h_ne h];rfl
def L4:List (List UInt8):=[[60,61],[62,61],[61,61],[33,61],[38,38],[124,124],[123],[125],[40],[41],[59],[44],[61],[43],[45],[42],[47],[37],[33],[60],[62]]
theorem C1g:∀ k:Nat,k<6->∃ a b,L4.getD k []=[a,b]/\Y5 a b=true:=by
 intro k hk;have:∀ k:Nat,k<6->(match L4.getD k [] with |[a,b]=>Y5 a b|_=>false)=true:=by decide
 grind
theorem C1h:∀ k:Nat,6<=k->k<21->∃ a,L4.getD k []=[a]/\A1b a=true:=by
 intro k h6 hk;have:∀ k:Nat,k<21->6<=k->(match L4.getD k [] with |[a]=>A1b a|_=>false)=true:=by decide
 grind
theorem C0q{c d:UInt8}(h:Y5 c d=true):∃ k,k<6/\L4.getD k []=[c,d]:=by
 rw[C5v]at h;simp only[A1H,A1R]at h;rcases h with ((((h|h)|h)|h)|h)|h
 ·exact⟨0,by omega,h.symm⟩
 ·exact⟨1,by omega,h.symm⟩
 ·exact⟨2,by omega,h.symm⟩
 ·exact⟨3,by omega,h.symm⟩
 ·exact⟨4,by omega,h.symm⟩
 ·exact⟨5,by omega,h.symm⟩
theorem D2h{c:UInt8}(h:A1b c=true):∃ k,6<=k/\k<21/\L4.getD k []=[c]:=by
 have key:∀ n:Nat,n<256->A1b (UInt8.ofNat n)=true->∃ k,k<21/\6<=k/\L4.getD k []=[UInt8.ofNat n]:=by decide +kernel
 obtain⟨k,h1,h2,h3⟩:=key c.toNat c.toNat_lt (by rw[UInt8.ofNat_toNat];exact h);rw[UInt8.ofNat_toNat]at h3
 grind
def A2h(l s:List UInt8):Bool:=decide (l.length<=s.length) && (s.take l.length == l)
theorem B8f{s:List UInt8}{k:Nat}(hk:k<21)(hno:∀ j,j<k->A2h (L4.getD j []) s=false)(h:A2h (L4.getD k []) s=true):D0 s=(L4.getD k []).length/\(L4.getD k [])=s.take (L4.getD k []).length:=by
 simp only[A2h,A0E,A0G,A1R]at h;refine⟨?_,h.2.symm⟩;by_cases h6:k<6
 ·obtain⟨a,b,e,ht⟩:=C1g k h6;rw[e]at h ⊢
  match s,h with
  |[],h=>grind
  |[x],h=>grind
  |x :: y :: r,h =>
   simp at h;obtain⟨rfl,rfl⟩:=h;simp[D0,ht]
 ·obtain⟨a,e,ho⟩:=C1h k (by omega) hk;rw[e]at h ⊢
  match s,h with
  |[],h=>grind
  |[x],h =>
   simp at h;subst h;simp[D0,ho]
  |x :: y :: r,h =>
   simp at h;subst h;have h2:Y5 x y=false:=by
    cases ht:Y5 x y with
    |false=>rfl
    |true =>
     obtain⟨j,hj,e2⟩:=C0q ht;have:=hno j (by omega);rw[e2]at this;simp[A2h]at this
   simp[D0,h2,ho]
theorem C1f{s:List UInt8}(hno:∀ j,j<21->A2h (L4.getD j []) s=false):D0 s=0:=by
 have h1:∀ x r,s=x :: r->A1b x=false:=by
  intro x r e;cases ho:A1b x with
  |false=>rfl
  |true =>
   obtain⟨j, -,hj,e2⟩:=D2h ho;have:=hno j hj;rw[e2,e]at this;simp[A2h]at this
 match s,hno,h1 with
 |[],_,_=>rfl
 |[x],_,h1=>simp[D0,h1 x [] rfl]
 |x :: y :: r,hno,h1 =>
  have h2:Y5 x y=false:=by
   cases ht:Y5 x y with
   |false=>rfl
   |true =>
    obtain⟨j,hj,e2⟩:=C0q ht;have:=hno j (by omega);rw[e2]at this;simp[A2h]at this
  simp[D0,h2,h1 x _ rfl]
def T0:Tok:=⟨0,[],0,0⟩
theorem A7b:∀ (f:Nat) (s:List UInt8) (k:Nat) (acc:List Tok),acc.length<=k->k<=s.length->(J4 f s k acc).1.length<=s.length
 |0,s,k,acc,h1,h2=>by simp only[J4];omega
 |f+1,s,k,acc,h1,h2=>by
  rw[J4];split
  ·grind
  ·split
   ·simp
   ·rename_i h3 h4;have h4:(A3 (s.drop k)).err=0:=by omega
    have hn:=A1o h4;rw[A2A]at hn;have hk:=W6 false (s.drop (k+(A3 (s.drop k)).n));rw[A2A]at hk;exact A7b f s _ _ (by grind) (by omega)
theorem B8h(s:List UInt8):(E7 s).1.length<=s.length:=by
 unfold E7;split
 ·simp
 ·have:=W6 false s;exact A7b _ _ _ _ (by simp) this
def A9g(c:UInt8):Bool:=W7 c || decide (c.toNat=35)
theorem R5{c:UInt8}(h:A9g c=true):c.toNat=9\/c.toNat=10\/c.toNat=13\/c.toNat=32\/c.toNat=35:=by
 simp only[A9g,W7,A1H,A0G]at h;omega
theorem D4e{c:UInt8}(h:A9g c=true):ltB c=false:=by
 have:=R5 h;simp only[ltB];grind
theorem D4f{c:UInt8}(h:A9g c=true):dgB c=false:=by
 have:=R5 h;simp only[dgB];grind
theorem C4h{c d:UInt8}(h:A9g c=true):Y5 c d=false:=by
 have:=R5 h;unfold Y5
 grind
theorem B7o{c:UInt8}(h:A9g c=true):A1b c=false:=by
 have:=R5 h;unfold A1b;simp;omega
theorem D4g{c:UInt8}(h:A9g c=true):¬ c.toNat=34:=by
 have:=R5 h;omega
theorem B3m(r:List UInt8):∀ {s t:List UInt8} {n:Nat},quM s=some (t,n)->quM (s.take n++r)=some (t,n)
 |[],t,n,h=>by trivial
 |c :: q,t,n,h=>by
  rw[J5]at h;by_cases h1:c.toNat=34
  ·rw[if_pos h1]at h;cases h;rw[A0T,A0W,J5,if_pos h1]
  ·rw[if_neg h1]at h;by_cases h2:c.toNat<32\/126<c.toNat
   ·grind
   ·rw[if_neg h2]at h;by_cases h3:c.toNat=92
    ·rw[if_pos h3]at h;cases q with
     |nil=>grind
     |cons d q =>
      simp only at h;by_cases h4:d.toNat=34\/d.toNat=92
      ·rw[if_pos h4]at h;obtain⟨⟨t',n'⟩,g1,g2⟩:=A0H.1 h;have ih:=B3m r g1;cases g2;rw[A0T,A0T,A0W,A0W,J5,if_neg h1,if_neg h2,if_pos h3];simp only;rw[if_pos h4,ih];rfl
      grind
    ·rw[if_neg h3]at h;obtain⟨⟨t',n'⟩,g1,g2⟩:=A0H.1 h;have ih:=B3m r g1;cases g2;rw[A0T,A0W,J5,if_neg h1,if_neg h2,if_neg h3,ih];rfl
theorem C0w{α : Type}{s r:List α}{n:Nat}(h:n<=s.length):(s.take n++r).take n=s.take n:=by
 grind
theorem C6v{s:List UInt8}(h:(A3 s).err=0):skM false s=0:=by
 cases s with
 |nil=>rfl
 |cons c q =>
  by_cases he:A9g c=true
  ·have hs:D0 (c :: q)=0:=by
    cases q with
    |nil=>simp only[D0];rw[if_neg (by rw[B7o he];simp)]
    |cons d q=>simp only[D0];rw[if_neg (by rw[C4h he];simp),if_neg (by rw[B7o he];simp)]
   rw[A3,if_neg (by rw[D4e he];simp),if_neg (by rw[D4f he];simp),if_neg (D4g he),if_pos hs]at h
   trivial
  ·have he:W7 c=false/\¬ c.toNat=35:=by simpa[A9g] using he
   simp only[skM];grind
def nxT(x:Nx)(p:Int):Tok:=⟨x.kind,x.text,x.value,p⟩
def V6(s:List UInt8):Nat->List Tok->Prop
 |k,[]=>s.length<=k
 |k,t :: l=>k<s.length/\(A3 (s.drop k)).err=0/\t=nxT (A3 (s.drop k)) (k:Int)/\V6 s (k+(A3 (s.drop k)).n+skM false (s.drop (k+(A3 (s.drop k)).n))) l
theorem A3d:∀ (f:Nat) (s:List UInt8) (k:Nat) (acc:List Tok),s.length+1<=k+f->(J4 f s k acc).2.2=0->∃ l,(J4 f s k acc).1=acc++l/\V6 s k l
 |0,s,k,acc,hf,h=>⟨[],by simp[J4],by show s.length<=k;omega⟩
 |f+1,s,k,acc,hf,h=>by
  rw[J4]at h ⊢;by_cases h1:s.length<=k
  ·rw[if_pos h1];exact⟨[],by simp,h1⟩
  ·rw[if_neg h1]at h ⊢;by_cases h2:(A3 (s.drop k)).err=0
   ·rw[if_neg (by simpa using h2)]at h ⊢;have hn:=A1o h2;obtain⟨l,e,hr⟩:=A3d f s _ _ (by omega) h;exact⟨_ :: l,by rw[e,A0L];rfl,by omega,h2,rfl,hr⟩
   grind
theorem A3e:∀ (f:Nat) (s:List UInt8) (k:Nat) (acc l:List Tok),s.length+1<=k+f->V6 s k l->J4 f s k acc=(acc++l,0,0)
 |0,s,k,acc,l,hf,h=>by
  cases l with
  |nil=>simp[J4]
  |cons t l=>have:=h.1;omega
 |f+1,s,k,acc,[],hf,h=>by
  rw[J4,if_pos (show s.length<=k from h)];simp
 |f+1,s,k,acc,t :: l,hf,h=>by
  obtain⟨h1,h2,h3,h4⟩:=h;have hn:=A1o h2;rw[J4,if_neg (by omega),if_neg (by omega),A3e f s _ _ l (by omega) h4,h3,A0L];rfl
theorem Y7{s:List UInt8}(h:(E7 s).2.2=0):s.length<=20000/\V6 s (skM false s) (E7 s).1:=by
 unfold E7 at h ⊢;by_cases h1:20000<s.length
 ·grind
 ·rw[if_neg h1]at h ⊢;have:=W6 false s;obtain⟨l,e,hr⟩:=A3d _ s _ [] (by omega) h
  grind
theorem B0s{s:List UInt8}{l:List Tok}(h1:s.length<=20000)(h:V6 s (skM false s) l):E7 s=(l,0,0):=by
 unfold E7;rw[if_neg (by omega),A3e _ s _ [] l (by omega) h];rfl
def TOk(t:Tok):Prop:=∃ s p,(A3 s).err=0/\t=nxT (A3 s) p
theorem V6.ok{s:List UInt8}:∀ {k:Nat} {l:List Tok},V6 s k l->∀ t∈l,TOk t
 |k,[],_,t,h=>by grind
 |k,x :: l,h,t,ht=>by
  rcases A1A.1 ht with rfl|ht
  ·exact⟨_,_,h.2.1,h.2.2.1⟩
  ·exact V6.ok h.2.2.2 t ht
theorem B5v{s:List UInt8}(h:(E7 s).2.2=0):∀ t∈(E7 s).1,TOk t:=(Y7 h).2.ok
theorem A7a{p:UInt8->Bool}:∀ (s:List UInt8),B0 p (s.take (B0 p s))=B0 p s
 |[]=>rfl
 |c :: r=>by
  have ih:=A7a (p:=p) r;by_cases h:p c=true
  ·simp only[B0,h,if_true,A0T];omega
  ·simp only[B0,h,if_false,A0Y,A2D]
theorem A8k:∀ {s t:List UInt8} {n:Nat},quM s=some (t,n)->t.all txB=true
 |[],t,n,h=>by trivial
 |c :: r,t,n,h=>by
  rw[J5]at h;split at h
  ·grind
  ·split at h
   ·grind
   ·rename_i h34 hr;split at h
    ·cases r with
     |nil=>grind
     |cons d q =>
      simp only at h;split at h
      ·rename_i hd;obtain⟨⟨t',n'⟩,h1,h2⟩:=A0H.1 h;have:=A8k h1;cases h2;simp only[A2F,this,A2P,txB,A0E,A0G];omega
      grind
    ·obtain⟨⟨t',n'⟩,h1,h2⟩:=A0H.1 h;have:=A8k h1;cases h2;simp only[A2F,this,A2P,txB,A0E,A0G];omega
theorem B3w{s:List UInt8}{p:Int}(h:(A3 s).err=0):F4 (nxT (A3 s) p)/\0<=(A3 s).value/\(A3 s).value<=2147483647:=by
 unfold F4;cases s with
 |nil=>trivial
 |cons c q =>
  by_cases hl:ltB c=true
  ·by_cases h12:12<B0 ptB (c :: q)
   ·rw[A3,if_pos hl,if_pos h12]at h;trivial
   ·rw[A3,if_pos hl,if_neg h12,nxT];refine⟨⟨fun hk=>?_,fun hk=>?_,fun hk=>?_⟩,by simp,by simp⟩
    ·simp only at hk ⊢;have hw:G9 ((c :: q).take (B0 ptB (c :: q)))=false:=by
      cases hz:G9 ((c :: q).take (B0 ptB (c :: q))) with
      |false=>rfl
      |true=>rw[hz]at hk;simp at hk
     have hp:ptB c=true:=by unfold ptB;rw[hl];rfl
     have h1:1<=B0 ptB (c :: q):=by simp only[B0,hp,if_true];omega
     have hle:=W5 ptB (c :: q);have hlen:((c :: q).take (B0 ptB (c :: q))).length=B0 ptB (c :: q):=by rw[A1D];omega
     have hhd:∃ r,(c :: q).take (B0 ptB (c :: q))=c :: r:=by
      obtain⟨k,hk⟩:∃ k,B0 ptB (c :: q)=k+1:=⟨B0 ptB (c :: q)-1,by omega⟩;rw[hk];exact⟨_,rfl⟩
     unfold F1;rw[hlen,hw,A7a];obtain⟨r,hr⟩:=hhd;rw[hr];simp only[hl,A2P,Bool.not_false,A0E,A0G];exact⟨⟨h1,by omega⟩,trivial⟩
    ·simp only at hk;split at hk<;>simp at hk
    grind
  ·by_cases hd:dgB c=true
   ·by_cases h3:1<B0 dgB (c :: q)/\c.toNat=48
    ·rw[A3,if_neg hl,if_pos hd,if_pos h3]at h;trivial
    ·by_cases h2:2147483647<L7 ((c :: q).take (B0 dgB (c :: q)))
     ·rw[A3,if_neg hl,if_pos hd,if_neg h3,if_pos h2]at h;trivial
     ·rw[A3,if_neg hl,if_pos hd,if_neg h3,if_neg h2,nxT]
      grind
   ·by_cases h34:c.toNat=34
    ·cases hq:quM q with
     |none=>rw[A3,if_neg hl,if_neg hd,if_pos h34,hq]at h;trivial
     |some x =>
      obtain⟨t,m⟩:=x;by_cases h32:32<t.length
      ·rw[A3,if_neg hl,if_neg hd,if_pos h34,hq]at h;simp only at h;rw[if_pos h32]at h;trivial
      ·rw[A3,if_neg hl,if_neg hd,if_pos h34,hq];simp only;rw[if_neg h32,nxT];refine⟨⟨fun hk=>by grind,fun hk=>by simp,fun hk=>?_⟩,by simp,by simp⟩;simp only[X8,A8k hq,A2W,A0G];omega
    ·by_cases hs:D0 (c :: q)=0
     ·rw[A3,if_neg hl,if_neg hd,if_neg h34,if_pos hs]at h;trivial
     ·rw[A3,if_neg hl,if_neg hd,if_neg h34,if_neg hs,nxT];simp
theorem TOk.good{t:Tok}(h:TOk t):F4 t/\0<=t.value/\t.value<=2147483647:=by
 obtain⟨s,p,h1,rfl⟩:=h;obtain⟨h2,h3⟩:=B3w (p:=p) h1
 trivial
theorem A4v{s:List UInt8}(h:(E7 s).2.2=0):∀ t∈(E7 s).1,F4 t:=fun t ht=>(B5v h t ht).good.1
theorem C1i{s:List UInt8}(h:(E7 s).2.2=0):∀ t∈(E7 s).1,0<=t.value/\t.value<=9223372036854775807:=fun t ht=>by
 have:=(B5v h t ht).good.2;omega
theorem B5w{s:List UInt8}(h:(E7 s).2.2=0):(E7 s).1.length<=20000:=A0X (B8h s) (Y7 h).1
def rd0:Rd:=⟨0,0,0,0,0⟩
def A4x(L:List Tok)(E:Int):Ru × Rd:=Classical.choose (B5x (L:=L) (E:=E) rd0)
theorem A8h(L:List Tok)(E:Int):Evt (fun f=>A6o L E f rd0) (A4x L E):=Classical.choose_spec (B5x (L:=L) (E:=E) rd0)
def Ru0:Ru:=⟨[],[]⟩
def B1a(s:List UInt8):Ru × Int × Int :=
 let q:=E7 s
 if q.2.2≠0 then (Ru0,q.2.1,q.2.2)
 else if okR (A4x q.1 s.length).2=false then (Ru0,(A4x q.1 s.length).2.pos,(A4x q.1 s.length).2.e)
 else ((A4x q.1 s.length).1,0,0)
theorem B3r(s:List UInt8):L1 (B1a s).1=true:=by
 unfold B1a;dsimp only;split
 ·rfl
 ·rename_i h;split
  ·rfl
  ·rename_i h2;obtain⟨f,hf⟩:=(A8h (E7 s).1 s.length).get;exact B8i (A4v (by omega)) hf (by grind)
section
variable {L:List Tok} {E:Int}
theorem D4n(hG:∀ t∈L,F4 t){k:Int}{s:Rd}:(S4 L E k s).1.sz<=13:=by
 have h:=A0g (L:=L) (E:=E) hG (s:=A6 s);unfold S4 Dc.sz
 grind
theorem A8e{α : Type}(f : α -> Nat)(l:List α)(x : α):((l++[x]).map f).sum=(l.map f).sum+f x:=by simp
theorem C2u(hG:∀ t∈L,F4 t):∀ (f:Nat) (l:List Hd) (s:Rd) (r:List Hd × Rd),S2 L E f l s=some r->(r.1.map Hd.sz).sum+100 * s.i<=100 * r.2.i+(l.map Hd.sz).sum
 |0,l,s,r,h=>by trivial
 |f+1,l,s,r,h=>by
  unfold S2 at h;dsimp only at h;split at h
  ·split at h
   ·cases h;show (l.map Hd.sz).sum+100 * s.i<=100 * (K8 L E s).i+_;rw[N4];omega
   ·have h1:(A9 L E s ((l.length:Int)+1) 32 9).i=s.i:=D8;generalize A9 L E s ((l.length:Int)+1) 32 9=s1 at h h1;split at h
    ·cases h;have h2:=C5 (L:=L) (E:=E) (s:=s1) (x:=[111,110]);show (l.map Hd.sz).sum+100 * s.i<=100 * (K8 L E (B5 L E s1 [111,110])).i+_;rw[N4];omega
    ·rename_i hk;obtain⟨hok,hi, -⟩:=E2 (show 0<=A8 L E (B5 L E s1 [111,110]) C6 by omega);have h3:(B5 L E s1 [111,110]).i=s1.i+1:=by rw[(A5u hok).2];rfl
     generalize B5 L E s1 [111,110]=s2 at h hk h3;have h4:=F8 (L:=L) (E:=E) (s:=A6 s2) (x:=1);have h5:=A0g (L:=L) (E:=E) hG (s:=A6 s2);have h6:(A6 s2).i=s2.i+1:=rfl;split at h
     ·grind
     ·rename_i b s5 hb;have h7:=(SZ.all hG f).1 _ _ _ hb;have h8:=C2u hG f _ _ _ h;rw[A8e]at h8;have h9:s2.i+1<=(if 2<=A8 L E s2 C6 then (A4 L E (A6 s2) 1).2 else A6 s2).i:=by
       split
       ·omega
       ·omega
      have h10:(if 2<=A8 L E s2 C6 then (A4 L E (A6 s2) 1).1.text else []).length<=12:=by
       split
       ·exact h5
       ·exact A0V _
      have h11:Hd.sz ⟨1+A8 L E s2 C6,if 2<=A8 L E s2 C6 then (A4 L E (A6 s2) 1).1.text else [],b,(A7 L E s1).pos⟩<=13+St.szs b:=by
       unfold Hd.sz;dsimp only;omega
      grind
  ·cases h;have h2:=C5 (L:=L) (E:=E) (s:=s) (x:=[125])
   grind
theorem D2w(hG:∀ t∈L,F4 t){f:Nat}{s:Rd}{r:Md × Rd}(h:A1p L E f s=some r)(hm:isR L E s [109,111,100,101]=true):r.1.sz+100 * s.i<=100 * r.2.i:=by
 unfold A1p at h;dsimp only at h;split at h
 ·grind
 ·rename_i l s3 hml;cases h;have h1:=C2u hG _ _ _ _ hml;have h2:(B5 L E s [109,111,100,101]).i=s.i+1:=by unfold B5;rw[if_neg (by rw[hm];decide)];rfl
  generalize B5 L E s [109,111,100,101]=s1 at h1 h2 ⊢;have h3:=A0g (L:=L) (E:=E) hG (s:=s1);have h4:=F8 (L:=L) (E:=E) (s:=s1) (x:=1);have h5:=F8 (L:=L) (E:=E) (s:=(A4 L E s1 1).2) (x:=3);have h6:=C5 (L:=L) (E:=E) (s:=(A4 L E (A4 L E s1 1).2 3).2) (x:=[123]);unfold Md.sz
  grind
theorem B3i(hG:∀ t∈L,F4 t):∀ (f:Nat) (l:List Dc) (s:Rd) (r:List Dc × Rd),S1 L E f l s=some r->(r.1.map Dc.sz).sum+100 * s.i<=100 * r.2.i+(l.map Dc.sz).sum
 |0,l,s,r,h=>by trivial
 |f+1,l,s,r,h=>by
  unfold S1 at h;dsimp only at h;split at h
  ·grind
  ·have h1:(A9 L E s ((l.length:Int)+1) 128 9).i=s.i:=D8;split at h
   ·have h2:=B3i hG f _ _ _ h;rw[A8e]at h2;have h3:=D4n (L:=L) (E:=E) hG (k:=A8 L E s C2) (s:=A9 L E s ((l.length:Int)+1) 128 9);have h4:=C4k (L:=L) (E:=E) (k:=A8 L E s C2) (s:=A9 L E s ((l.length:Int)+1) 128 9);omega
   ·have h2:=B3i hG f _ _ _ h;omega
theorem B3h(hG:∀ t∈L,F4 t):∀ (f:Nat) (l:List Md) (s:Rd) (r:List Md × Rd),Q1 L E f l s=some r->(r.1.map Md.sz).sum+100 * s.i<=100 * r.2.i+(l.map Md.sz).sum
 |0,l,s,r,h=>by trivial
 |f+1,l,s,r,h=>by
  unfold Q1 at h;dsimp only at h;split at h
  ·split at h
   ·cases h;show (l.map Md.sz).sum+100 * s.i<=100 * (K8 L E s).i+_;rw[N4];omega
   ·rename_i hm;have hm:isR L E s [109,111,100,101]=true:=by simpa using hm
    split at h
    ·rename_i hl;have e0:=(E1 (by decide) hl).2.2;rw[e0]at h;split at h
     ·cases h
     ·rename_i m s2 hmd;have h1:=D2w hG hmd hm;have h2:=B3h hG f _ _ _ h;rw[A8e]at h2;dsimp only at h1;omega
    ·have h1:(A9 L E s ((l.length:Int)+1) 16 9).i=s.i:=D8;have h2:=B3h hG f _ _ _ h;omega
  grind
theorem D1h(hG:∀ t∈L,F4 t){f:Nat}{s:Rd}{r:Ru × Rd}(h:A6o L E f s=some r)(hi:s.i<=L.length):r.1.sz<=100 * L.length:=by
 unfold A6o at h;split at h
 ·grind
 ·rename_i d s1 hd;split at h
  ·grind
  ·rename_i m s2 hm;cases h;have h1:=B3i hG _ _ _ _ hd;have h2:=B3h hG _ _ _ _ hm;have h3:=C1m _ _ _ _ hm (C1n _ _ _ _ hd hi);unfold Ru.sz
   grind
end
theorem C6g{L:List Tok}{E:Int}(hG:∀ t∈L,F4 t):(A4x L E).1.sz<=100 * L.length:=by
 obtain⟨f,hf⟩:=(A8h L E).get;exact D1h hG hf (A0V _)
theorem C6s(s:List UInt8):(B1a s).1.sz<=2000000:=by
 unfold B1a;dsimp only;split
 ·show 0+0<=_;omega
 ·rename_i h;have h:(E7 s).2.2=0:=by omega
  have h1:=B5w h;split
  ·show 0+0<=_;omega
  ·have:=C6g (E:=s.length) (A4v h)
   grind
def hd0(E:Int)(ts:List Tok):Tok:=ts.headD ⟨0,[],0,E⟩
section
variable {L:List Tok} {E:Int}
theorem A5f{k v:Int}{n:List UInt8}{a:List Ex}{p:Int}{o d:Nat}(h:msM (.mk k v n a p)=some (o,d)):
  kOk k=true/\a.length=I3 k/\A2l k n=true/\A4o k v=true/\(I3 k=0->o=1/\d=0)/\(I3 k≠0->∃ d',msL k 0 a=some (o,d')/\d=if I3 k=1 then d'+1 else d'):=by
 unfold msM at h
 grind
end
mutual
theorem C9k:∀ (e:Ex) (o d:Nat),msM e=some (o,d)->o<=e.sz/\d+1<=2 * e.sz
 |.mk k v n a p,o,d,h=>by
  have hs:(Ex.mk k v n a p).sz=1+n.length+Ex.szs a:=by rfl
  obtain⟨h1,h2,h3,h4,h5,h6⟩:=A5f h;by_cases hc:I3 k=0
  ·grind
  ·obtain⟨d',hl,hd⟩:=h6 hc;have:=B3y k 0 a o d' hl
   grind
theorem B3y:∀ (k:Int) (i:Nat) (l:List Ex) (o d:Nat),msL k i l=some (o,d)->o<=Ex.szs l/\d<=2 * Ex.szs l
 |k,i,[],o,d,h=>by simp[msL]at h;omega
 |k,i,e :: l,o,d,h=>by
  rw[msL]at h;have hs:Ex.szs (e :: l)=e.sz+Ex.szs l:=by rfl
  have hp:=e.sz_pos;cases he:msM e with
  |none=>grind
  |some q =>
   obtain⟨o1,d1⟩:=q;have h1:=C9k e o1 d1 he;rw[he]at h;dsimp only at h;cases hl:msL k (i+1) l with
   |none=>grind
   |some q2 =>
    obtain⟨o2,d2⟩:=q2;have h2:=B3y k (i+1) l o2 d2 hl
    grind
end
def msV:Option (Nat × Nat)->DV
 |none=>.tup [I64 0,I64 0,.bool false]
 |some (o,d)=>.tup [I64 o,I64 d,.bool true]
theorem D2v(q:Option (Nat × Nat)):(msV q).nl=true:=by cases q<;>rfl
theorem C2t{k:Int}{a:List Ex}{i:Nat}{x:Ex}(h:a[i]? = some x):msL k i (a.drop i)=match msM x with
  |none=>none
  |some (o,d)=>match msL k (i+1) (a.drop (i+1)) with
   |none=>none
   |some (o2,d2)=>some (o+o2,max (if A0o k x.kind i=true then d+1 else d) d2):=by
 have hlt:=(A0P.1 h).1;rw[A1T hlt,(A0P.1 h).2,msL];try rfl
abbrev Er:=Option (Int × Int)
def cnD(l:List Dc)(k:Int):Nat:=l.countP (fun d=>d.kind == k)
def cnR(r:Ru)(k:Int):Nat:=if k=9 then r.modes.length else cnD r.decls k
def lkD(pre:List Dc):List Dc->List UInt8->Option (Int × Int)
 |[],_=>none
 |d :: l,n=>if d.name=n then some (d.kind,if d.kind<6 then d.value else (cnR ⟨pre,[]⟩ d.kind:Int)) else lkD (pre++[d]) l n
def lkM(i:Nat):List Md->List UInt8->Option (Int × Int)
 |[],_=>none
 |m :: l,n=>if m.name=n then some (9,(i:Int)) else lkM (i+1) l n
def H7(r:Ru)(n:List UInt8):Int × Int:=match lkD [] r.decls n with
 |some q=>q
 |none=>match lkM 0 r.modes n with
  |some q=>q
  |none=>(0,0)
def dnM(r:Ru)(n:List UInt8)(k:Int):Int:=if k=0\/(H7 r n).1=k then 0 else if (H7 r n).1=0 then 8 else 44
def dnE(r:Ru)(n:List UInt8)(k p:Int):Er:=if dnM r n k=0 then none else some (p,dnM r n k)
def kdE(k:Int):Int:=if k=2 then 6 else if k=5 then 1 else if k=6 then 9 else if k=7 then 7 else 0
def kdS(k:Int):Int:=if k=1 then 6 else if k=5\/k=6\/k=7 then 2 else if k=8\/k=9 then 3 else if k=10\/k=11 then 7 else if k=12\/k=13 then 9 else if k=14 then 8 else if k=15 then 4 else if k=16\/k=17 then 5 else 0
def kdH(k:Int):Int:=if k=3\/k=4 then 1 else if k=5 then 7 else if k=6 then 8 else 0
def A3m(k:Int):Int:=if k=1 then 63 else if k=2 then 31 else if k=3\/k=4\/k=5 then 63 else 2147483647
def C8n(k:Int):Bool:=k == 3 || k == 4 || k == 5 || k == 6 || k == 11 || decide (17<=k)
def L2(k:Int):Int:=if C8n k=true then 2 else 1
def U2(k:Int)(a:List Ex):Int:=if k=11\/k=23\/k=24 then 2 else if k=21\/k=22 then (match a with
 |[]=>1
 |x :: _=>L2 x.kind) else 1
mutual
def erE(r:Ru):Ex->Er
 |.mk k v n a p=>((M6 r a).or (dnE r n (kdE k) p)).or (if a.all (fun x=>L2 x.kind == U2 k a)=true then none else some (p,49))
def M6(r:Ru):List Ex->Er
 |[]=>none
 |x :: l=>(erE r x).or (M6 r l)
end
def tyV(r:Ru)(e:Ex):DV:=match erE r e with
 |some (p,c)=>.tup [I64 0,I64 p,I64 c]
 |none=>.tup [I64 (L2 e.kind),I64 0,I64 0]
def erA(r:Ru)(b:Bool):List Ex->Er
 |[]=>none
 |x :: l=>((erE r x).or (if (L2 x.kind == 2)=b then none else some (x.pos,49))).or (erA r b l)
mutual
def erS(r:Ru):St->Er
 |.mk k n t a x y p=>(((dnE r n (kdS k) p).or (erA r (k == 2) a)).or (erB r x)).or (erB r y)
def erB(r:Ru):List St->Er
 |[]=>none
 |s :: l=>(erS r s).or (erB r l)
end
def erD(pre:List Dc):List Dc->Er
 |[]=>none
 |d :: l=>((if d.value>A3m d.kind then some (d.pos,5) else none:Er).or (if (H7 ⟨pre,[]⟩ d.name).1=0 then none else some (d.pos,7))).or (erD (pre++[d]) l)
def erP(D:List Dc)(pre:List Md):List Md->Er
 |[]=>none
 |m :: l=>((if m.prio>99 then some (m.pos,5) else none:Er).or (if (H7 ⟨D,pre⟩ m.name).1=0 then none else some (m.pos,7))).or (erP D (pre++[m]) l)
def A8z(r:Ru):Er:=(erD [] r.decls).or (erP r.decls [] r.modes)
def erH(r:Ru)(pre:List Hd):List Hd->Er
 |[]=>none
 |h :: l=>(((dnE r h.name (kdH h.trig) h.pos).or (if pre.any (fun x=>x.trig == h.trig && x.name == h.name)=true then some (h.pos,7) else none)).or (erB r h.body)).or (erH r (pre++[h]) l)
def erM(r:Ru):List Md->Er
 |[]=>none
 |m :: l=>(erH r [] m.hds).or (erM r l)
def A3q(r:Ru):Er:=(A8z r).or (erM r r.modes)
def erV:Er->DV
 |some (p,c)=>.tup [I64 p,I64 c]
 |none=>.tup [I64 0,I64 0]
def C4q(r:Ru):DV:=if L1 r=true then erV (A3q r) else .tup [I64 0,I64 1]
def C0n(r:Ru)(e:Ex):DV:=if (L1 r && R8 e)=true then tyV r e else .tup [I64 0,I64 0,I64 1]
theorem D4b(e:Er):(erV e).nl=true:=by cases e<;>rfl
theorem D0n(r:Ru)(e:Ex):(tyV r e).nl=true:=by unfold tyV;split<;>rfl
theorem A0f{α : Type}{l:List α}{i:Nat}{x : α}(h:l[i]? = some x):l.take i++[x]=l.take (i+1):=by
 rw[A1F,h];rfl
def NzE(e:Er):Prop:=∀ p c,e=some (p,c)->c≠0
theorem NzE.or{a b:Er}(ha:NzE a)(hb:NzE b):NzE (a.or b):=by
 intro p c h;cases a with
 |none=>exact hb p c (by grind)
 |some q=>exact ha p c (by grind)
theorem X2:NzE none:=fun p c h=>by grind
theorem B6m{b:Prop}[Decidable b]{p c:Int}(h:c≠0):NzE (if b then none else some (p,c)):=by
 intro p' c' e;grind
theorem A8r{b:Prop}[Decidable b]{p c:Int}(h:c≠0):NzE (if b then some (p,c) else none):=by
 intro p' c' e;grind
theorem A7d(r:Ru)(n:List UInt8)(k p:Int):NzE (dnE r n k p):=by
 intro p' c h;unfold dnE at h;grind
mutual
theorem C2j(r:Ru):∀ e:Ex,NzE (erE r e)
 |.mk k v n a p=>by rw[erE];exact ((B1b r a).or (A7d _ _ _ _)).or (B6m (by simp))
theorem B1b(r:Ru):∀ l:List Ex,NzE (M6 r l)
 |[]=>by rw[M6];exact X2
 |x :: l=>by rw[M6];exact (C2j r x).or (B1b r l)
end
theorem C2l(r:Ru)(b:Bool):∀ l:List Ex,NzE (erA r b l)
 |[]=>by rw[erA];exact X2
 |x :: l=>by rw[erA];exact ((C2j r x).or (B6m (by simp))).or (C2l r b l)
mutual
theorem E0i(r:Ru):∀ e:St,NzE (erS r e)
 |.mk k n t a x y p=>by rw[erS];exact (((A7d _ _ _ _).or (C2l _ _ _)).or (B8n r x)).or (B8n r y)
theorem B8n(r:Ru):∀ l:List St,NzE (erB r l)
 |[]=>by rw[erB];exact X2
 |x :: l=>by rw[erB];exact (E0i r x).or (B8n r l)
end
theorem C2k:∀ (l pre:List Dc),NzE (erD pre l)
 |[],pre=>by rw[erD];exact X2
 |d :: l,pre=>by rw[erD];exact ((A8r (by simp)).or (B6m (by simp))).or (C2k l _)
theorem C6t(D:List Dc):∀ (l pre:List Md),NzE (erP D pre l)
 |[],pre=>by rw[erP];exact X2
 |d :: l,pre=>by rw[erP];exact ((A8r (by simp)).or (B6m (by simp))).or (C6t D l _)
theorem D2j(r:Ru):NzE (A8z r):=(C2k _ _).or (C6t _ _ _)
theorem D2l(r:Ru):∀ (l pre:List Hd),NzE (erH r pre l)
 |[],pre=>by rw[erH];exact X2
 |d :: l,pre=>by rw[erH];exact (((A7d _ _ _ _).or (A8r (by simp))).or (B8n r _)).or (D2l r l _)
theorem D2k(r:Ru):∀ (l:List Md),NzE (erM r l)
 |[]=>by rw[erM];exact X2
 |d :: l=>by rw[erM];exact (D2l r _ _).or (D2k r l)
theorem B6u{k:Int}:∀ {i:Nat} {l:List Ex} {q:Nat × Nat},msL k i l=some q->∀ x∈l, ∃ q,msM x=some q
 |i,[],q,h,x,hx=>by grind
 |i,e :: l,q,h,x,hx=>by
  rw[msL]at h;cases he:msM e with
  |none=>grind
  |some q1 =>
   rw[he]at h;dsimp only at h;cases hl:msL k (i+1) l with
   |none=>grind
   |some q2 =>
    rcases A1A.1 hx with rfl|hx
    ·grind
    ·exact B6u hl x hx
theorem C7c{e:Ex}{q:Nat × Nat}(h:msM e=some q):∀ x∈e.args, ∃ q,msM x=some q:=by
 cases e with|mk k v n a p =>
 obtain⟨o,d⟩:=q;obtain⟨m1,m2,m3,m4,m5,m6⟩:=A5f h;intro x hx;by_cases hc:I3 k=0
 ·have:a=[]:=A3R (by omega);subst this;cases hx
 ·obtain⟨d',h1, -⟩:=m6 hc;exact B6u h1 x hx
theorem D2t{e:Ex}{q:Nat × Nat}(h:msM e=some q)(hk:e.kind=21\/e.kind=22):e.args.length=2:=by
 cases e with|mk k v n a p =>
 obtain⟨o,d⟩:=q;obtain⟨m1,m2,m3,m4,m5,m6⟩:=A5f h;show a.length=2;rw[m2];rcases hk with hk|hk
 all_goals (have hk:k=_:=hk;subst hk;decide)
theorem D8q(r:Ru)(s:St):erS r s=(((dnE r s.name (kdS s.kind) s.pos).or (erA r (s.kind == 2) s.args)).or (erB r s.thn)).or (erB r s.els):=by
 cases s with|mk k n t a x y p=>rfl
theorem A6w{d:Nat}:∀ {l:List St},K2 d l=true->∀ s∈l,V9 d s=true
 |s0 :: l,h,s,hs=>by
  rw[K2,A0E]at h;rcases A1A.1 hs with rfl|hs
  ·grind
  ·exact A6w h.2 s hs
theorem B3c{d:Nat}{s:St}(h:V9 d s=true):(∀ x∈s.args, ∃ q,msM x=some q)/\K2 (d+1) s.thn=true/\K2 (d+1) s.els=true:=by
 cases s with|mk k n t a x y p =>
 rw[V9]at h;simp only[A0E]at h;refine⟨fun e he=>?_,h.2.1.2,h.2.2.2⟩;have h1:=A0Q.1 h.1.1.1.2.2 e he;unfold R8 at h1
 grind
theorem C0g{r:Ru}(h:L1 r=true):∀ m∈r.modes, ∀ x∈m.hds,K2 1 x.body=true:=by
 intro m hm x hx;unfold L1 at h;simp only[A0E]at h;have h1:=A0Q.1 h.2 m hm;unfold T6 at h1;simp only[A0E]at h1;have h2:=A0Q.1 h1.2 x hx;unfold A2a at h2;simp only[A0E]at h2;have h3:=h2.2;unfold P6 at h3
 grind
theorem D5t{r:Ru}{m:Md}(h:m∈r.modes):m.sz<=r.sz:=by
 have:m.sz<=(r.modes.map Md.sz).sum:=P7 h;show _<=(r.decls.map Dc.sz).sum+(r.modes.map Md.sz).sum;omega
theorem D5v{m:Md}{x:Hd}(h:x∈m.hds):x.sz<=m.sz:=by
 have:x.sz<=(m.hds.map Hd.sz).sum:=P7 h;show _<=1+m.name.length+(m.hds.map Hd.sz).sum;omega
theorem C9c(r:Ru):r.decls.length<=r.sz:=by
 have:r.decls.length<=(r.decls.map Dc.sz).sum:=P8 fun x _=>by show 1<=1+_;omega
 show _<=(r.decls.map Dc.sz).sum+(r.modes.map Md.sz).sum;omega
theorem C9b(r:Ru):r.modes.length<=r.sz:=by
 have:r.modes.length<=(r.modes.map Md.sz).sum:=P8 fun x _=>by show 1<=1+_+_;omega
 show _<=(r.decls.map Dc.sz).sum+(r.modes.map Md.sz).sum;omega
theorem D5u(m:Md):m.hds.length<=m.sz:=by
 have:m.hds.length<=(m.hds.map Hd.sz).sum:=P8 fun x _=>by show 1<=1+_+_;omega
 show _<=1+m.name.length+(m.hds.map Hd.sz).sum;omega
theorem A7u{α : Type}(p : α -> Bool)(l:List α)(k:Nat)(x : α)(hx:l[k]? = some x):(l.take (k+1)).any p=((l.take k).any p || p x):=by
 rw[A1F,hx,List.any_append];simp
def B9j(nm:List UInt8->Int)(k v:Int)(n:List UInt8):Ins :=
 if k=1 then ⟨1,v⟩ else if k=3 then ⟨1,1⟩ else if k=4 then ⟨1,0⟩ else if k=2 then ⟨2,nm n⟩ else if k=5 then ⟨4,nm n⟩ else if k=6 then ⟨5,nm n⟩ else if k=7 then ⟨6,nm n⟩
 else if k=8 then ⟨7,0⟩ else if k=9 then ⟨8,0⟩ else if k=10 then ⟨9,0⟩ else if k=11 then ⟨10,0⟩ else ⟨11,k⟩
mutual
def cgE(nm:List UInt8->Int):Ex->List Ins
 |.mk k v n a p=>C8 nm a++[B9j nm k v n]
def C8(nm:List UInt8->Int):List Ex->List Ins
 |[]=>[]
 |x :: l=>cgE nm x++C8 nm l
end
theorem C9x(nm:List UInt8->Int)(e:Ex):cgE nm e=C8 nm e.args++[B9j nm e.kind e.value e.name]:=by cases e;rfl
def stOp(k:Int):Int:=if k=1 then 3 else if k=4 then 15 else if 5<=k/\k<=18 then k+11 else 30
def txS(S:List (List UInt8))(t:List UInt8):Nat × List (List UInt8):=if t∈S then (S.idxOf t,S) else (S.length,S++[t])
abbrev Cg:=List Ins × List (List UInt8)
mutual
def cgS(nm:List UInt8->Int)(p:Nat)(S:List (List UInt8)):St->Cg
 |.mk k n t a x y _ =>
  if k=2 then
   (if y.length=0 then
    (C8 nm a++(⟨13,((p+(C8 nm a).length+1+(cgB nm (p+(C8 nm a).length+1) S x).1.length:Nat):Int)⟩ :: (cgB nm (p+(C8 nm a).length+1) S x).1),(cgB nm (p+(C8 nm a).length+1) S x).2)
   else
    (C8 nm a++(⟨13,((p+(C8 nm a).length+1+(cgB nm (p+(C8 nm a).length+1) S x).1.length+1:Nat):Int)⟩ :: ((cgB nm (p+(C8 nm a).length+1) S x).1 ++
      (⟨12,((p+(C8 nm a).length+1+(cgB nm (p+(C8 nm a).length+1) S x).1.length+1+(cgB nm (p+(C8 nm a).length+1+(cgB nm (p+(C8 nm a).length+1) S x).1.length+1) (cgB nm (p+(C8 nm a).length+1) S x).2 y).1.length:Nat):Int)⟩ ::
       (cgB nm (p+(C8 nm a).length+1+(cgB nm (p+(C8 nm a).length+1) S x).1.length+1) (cgB nm (p+(C8 nm a).length+1) S x).2 y).1))),
     (cgB nm (p+(C8 nm a).length+1+(cgB nm (p+(C8 nm a).length+1) S x).1.length+1) (cgB nm (p+(C8 nm a).length+1) S x).2 y).2))
  else if k=3 then
   (C8 nm a++(⟨14,((p+(C8 nm a).length+1+(cgB nm (p+(C8 nm a).length+1) S x).1.length+1:Nat):Int)⟩ :: ((cgB nm (p+(C8 nm a).length+1) S x).1++[⟨12,((p+(C8 nm a).length:Nat):Int)⟩])),(cgB nm (p+(C8 nm a).length+1) S x).2)
  else if k=18 then (C8 nm a++[⟨29,((txS S t).1:Int)⟩],(txS S t).2)
  else (C8 nm a++[⟨stOp k,nm n⟩],S)
def cgB(nm:List UInt8->Int)(p:Nat)(S:List (List UInt8)):List St->Cg
 |[]=>([],S)
 |s :: l=>((cgS nm p S s).1++(cgB nm (p+(cgS nm p S s).1.length) (cgS nm p S s).2 l).1,(cgB nm (p+(cgS nm p S s).1.length) (cgS nm p S s).2 l).2)
end
structure Ky where
 mode:Int
 trig:Int
 ix:Int
deriving DecidableEq
def Ky.lt(a b:Ky):Prop:=a.mode<b.mode\/(a.mode=b.mode/\(a.trig<b.trig\/(a.trig=b.trig/\a.ix<b.ix)))
theorem Ky.lt_trans{a b c:Ky}(h:a.lt b)(g:b.lt c):a.lt c:=by unfold Ky.lt at *;omega
theorem Ky.lt_irrefl(a:Ky):¬ a.lt a:=by unfold Ky.lt;omega
theorem Ky.tri(a b:Ky):a.lt b\/a=b\/b.lt a:=by
 obtain⟨a1,a2,a3⟩:=a;obtain⟨b1,b2,b3⟩:=b;unfold Ky.lt
 grind
abbrev B8:=Ky × List (List St)
def bod(l:List B8)(k:Ky):Option (List (List St)):=(l.find? fun p=>p.1=k).map (·.2)
theorem D6(p:B8)(l:List B8)(k:Ky):bod (p :: l) k=if p.1=k then some p.2 else bod l k:=by
 unfold bod
 grind
def Srt(l:List B8):Prop:=l.Pairwise fun a b=>a.1.lt b.1
theorem A1y{l:List B8}{k:Ky}(h:∀ p∈l,p.1≠k):bod l k=none:=by
 induction l with
 |nil=>rfl
 |cons p l ih =>
  rw[D6,if_neg (h p A0I)]
  grind
theorem C1a:∀ {l m:List B8},Srt l->Srt m->(∀ k,bod l k=bod m k)->l=m
 |[],[],_,_,_=>rfl
 |[],q :: m,_,_,h=>by have:=h q.1;rw[D6,if_pos rfl]at this;trivial
 |p :: l,[],_,_,h=>by have:=h p.1;rw[D6,if_pos rfl]at this;trivial
 |p :: l,q :: m,h1,h2,h=>by
  obtain⟨p1,l1⟩:=A3X.1 h1;obtain⟨q1,m1⟩:=A3X.1 h2;have hpq:p.1=q.1:=by
   rcases Ky.tri p.1 q.1 with g|g|g
   ·exfalso;have:=h p.1;rw[D6,if_pos rfl,A1y (l:=q :: m) (k:=p.1) (fun x hx e=>by
     rcases A1A.1 hx with rfl|hx
     ·rw[e]at g;exact Ky.lt_irrefl _ g
     ·have:=Ky.lt_trans g (q1 x hx);rw[e]at this;exact Ky.lt_irrefl _ this)]at this
    grind
   ·omega
   ·exfalso;have:=h q.1;rw[D6 (p:=q),if_pos rfl,A1y (l:=p :: l) (k:=q.1) (fun x hx e=>by
     rcases A1A.1 hx with rfl|hx
     ·rw[e]at g;exact Ky.lt_irrefl _ g
     ·have:=Ky.lt_trans g (p1 x hx);rw[e]at this;exact Ky.lt_irrefl _ this)]at this
    grind
  have hb:=h p.1;rw[D6,if_pos rfl,D6,if_pos hpq.symm]at hb;have e:p=q:=Prod.ext hpq (Option.some.inj hb);subst e
  congr 1
  refine C1a l1 m1 fun k=>?_;by_cases hk:p.1=k
  ·rw[A1y (fun x hx e=>by have:=p1 x hx;rw[e,hk]at this;exact Ky.lt_irrefl _ this),A1y (fun x hx e=>by have:=q1 x hx;rw[e,hk]at this;exact Ky.lt_irrefl _ this)]
  ·have:=h k
   rwa [D6,if_neg hk,D6,if_neg hk]at this
theorem C5b{l m:List B8}(hp:l.Perm m)(hn:(l.map (·.1)).Nodup)(k:Ky):bod l k=bod m k:=by
 induction hp with
 |nil=>rfl
 |cons x _ ih =>
  rw[D6,D6,ih (A2S.1 hn).2]
 |swap x y l =>
  rw[D6,D6,D6,D6]
  grind
 |trans h1 h2 ih1 ih2=>grind
def G8(k:Ky)(b:List St):List B8->List B8
 |[]=>[(k,[b])]
 |p :: l=>if p.1=k then (p.1,p.2++[b]) :: l else p :: G8 k b l
theorem C5m(k:Ky)(b:List St)(l:List B8)(q:Ky):bod (G8 k b l) q=if k=q then some ((bod l q).getD []++[b]) else bod l q:=by
 induction l with
 |nil =>
  rw[G8,D6];rfl
 |cons p l ih =>
  rw[G8];by_cases h:p.1=k
  ·rw[if_pos h,D6,D6]
   grind
  ·rw[if_neg h,D6,D6,ih]
   grind
theorem B9z(k:Ky)(b:List St)(l:List B8):∀ q,q∈(G8 k b l).map (·.1)↔q=k\/q∈l.map (·.1):=by
 intro q
 induction l with
 |nil=>simp[G8]
 |cons p l ih =>
  rw[G8]
  grind
theorem B5e(k:Ky)(b:List St):∀ {l:List B8},(l.map (·.1)).Nodup->((G8 k b l).map (·.1)).Nodup:=by
 intro l
 induction l with
 |nil=>intro _;simp[G8]
 |cons p l ih =>
  intro h;rw[G8];obtain⟨h1,h2⟩:=A2S.1 h;by_cases e:p.1=k
  ·grind
  ·rw[if_neg e,A0R,A2S];refine⟨fun hm=>?_,ih h2⟩;rcases (B9z k b l p.1).1 hm with g|g
   ·exact e g
   grind
abbrev KB:=Ky × List St
def hdK(nm:List UInt8->Int)(i:Nat)(h:Hd):KB:=(⟨i,h.trig,nm h.name⟩,h.body)
def hkM(nm:List UInt8->Int)(i:Nat):List Md->List KB
 |[]=>[]
 |m :: l=>m.hds.map (hdK nm i)++hkM nm (i+1) l
def D9(l:List B8)(q:List KB):List B8:=q.foldl (fun l x=>G8 x.1 x.2 l) l
def M9(q:List KB)(k:Ky):List (List St):=(q.filter fun x=>x.1=k).map (·.2)
theorem C5c(a b:List KB)(k:Ky):M9 (a++b) k=M9 a k++M9 b k:=by simp[M9]
theorem A7s(x:KB)(b:List KB)(k:Ky):M9 (x :: b) k=if x.1=k then x.2 :: M9 b k else M9 b k:=by
 unfold M9
 grind
theorem B2x:∀ (q:List KB) (l:List B8) (k:Ky),bod (D9 l q) k=if M9 q k=[] then bod l k else some ((bod l k).getD []++M9 q k)
 |[],l,k=>by rfl
 |x :: q,l,k=>by
  have h:=B2x q (G8 x.1 x.2 l) k;have e:D9 l (x :: q)=D9 (G8 x.1 x.2 l) q:=rfl;rw[e,h,C5m,A7s]
  grind
theorem A1j:∀ (q:List KB) {l:List B8},(l.map (·.1)).Nodup->((D9 l q).map (·.1)).Nodup
 |[],_,h=>h
 |x :: q,_,h=>A1j q (B5e x.1 x.2 h)
def ptK(q:List KB)(ks:List Ky):List B8:=ks.filterMap fun k=>if M9 q k=[] then none else some (k,M9 q k)
theorem B6f(q:List KB):∀ (ks:List Ky) (k:Ky),bod (ptK q ks) k=if k∈ks/\M9 q k≠[] then some (M9 q k) else none
 |[],k=>by rfl
 |a :: ks,k=>by
  have ih:=B6f q ks k;unfold ptK at ih ⊢;rw[List.filterMap_cons];by_cases h:M9 q a=[]
  ·grind
  ·simp only[h,if_false];rw[D6]
   grind
theorem C6m(q:List KB){ks:List Ky}(h:ks.Pairwise Ky.lt):Srt (ptK q ks):=by
 induction ks with
 |nil=>exact List.Pairwise.nil
 |cons a ks ih =>
  obtain⟨h1,h2⟩:=A3X.1 h;unfold ptK;rw[List.filterMap_cons];by_cases e:M9 q a=[]
  ·simp only[e,if_true];exact ih h2
  ·simp only[e,if_false];refine A3X.2 ⟨fun p hp=>?_,ih h2⟩
   grind
def B1u(i:Nat)(t:Nat):List Ky:=(List.range 128).map fun (n:Nat)=>(⟨i,(t:Int)+1,(n:Int)⟩:Ky)
def C7v(i:Nat):List Ky:=(List.range 6).flatMap (B1u i)
theorem A0i{i t:Nat}{k:Ky}:k∈B1u i t↔k.mode=i/\k.trig=(t:Int)+1/\0<=k.ix/\k.ix<128:=by
 unfold B1u;rw[A1C];constructor
 ·grind
 ·rintro⟨h1,h2,h3,h4⟩;refine⟨k.ix.toNat,A3E.2 (by omega),?_⟩;obtain⟨a,b,c⟩:=k
  grind
theorem A5i{i:Nat}{k:Ky}:k∈C7v i↔k.mode=i/\1<=k.trig/\k.trig<=6/\0<=k.ix/\k.ix<128:=by
 unfold C7v;rw[List.mem_flatMap];constructor
 ·rintro⟨t,ht,h⟩;have:=A3E.1 ht;obtain⟨h1,h2,h3,h4⟩:=A0i.1 h;omega
 ·rintro⟨h1,h2,h3,h4,h5⟩;exact⟨(k.trig-1).toNat,A3E.2 (by omega),A0i.2 ⟨h1,by omega,h4,h5⟩⟩
theorem B9f(i t:Nat):(B1u i t).Pairwise Ky.lt:=by
 unfold B1u;rw[List.pairwise_map];exact List.Pairwise.imp (fun h=>Or.inr ⟨rfl,Or.inr ⟨rfl,Int.ofNat_lt.2 h⟩⟩) List.pairwise_lt_range
theorem B1w{f:Nat->List Ky}(h1:∀ t,(f t).Pairwise Ky.lt)(h2:∀ t u,t<u->∀ a∈f t, ∀ b∈f u,a.lt b):∀ {l:List Nat},l.Pairwise (· < ·)->(l.flatMap f).Pairwise Ky.lt:=by
 grind
theorem C3s(i:Nat):(C7v i).Pairwise Ky.lt :=
 B1w (B9f i) (fun t u htu a ha b hb=>by
  obtain⟨a1,a2, -, -⟩:=A0i.1 ha;obtain⟨b1,b2, -, -⟩:=A0i.1 hb;unfold Ky.lt;omega) List.pairwise_lt_range
def rfP(nm:List UInt8->Int)(i:Nat)(l:List Hd):List B8:=ptK (l.map (hdK nm i)) (C7v i)
def A0p(nm:List UInt8->Int)(i:Nat):List Md->List B8
 |[]=>[]
 |m :: l=>rfP nm i m.hds++A0p nm (i+1) l
def HOk(nm:List UInt8->Int)(h:Hd):Prop:=1<=h.trig/\h.trig<=6/\0<=nm h.name/\nm h.name<128
theorem C8o(a b:List B8)(k:Ky):bod (a++b) k=(bod a k).or (bod b k):=by
 unfold bod
 grind
theorem B7f{nm:List UInt8->Int}:∀ {l:List Md} {i:Nat} {x:KB},x∈hkM nm i l->(i:Int)<=x.1.mode
 |[],_,_,h=>by cases h
 |m :: l,i,x,h=>by
  rw[hkM]at h;rcases A1G.1 h with h|h
  ·obtain⟨y, -,rfl⟩:=A1C.1 h;exact A3G _
  ·have:=B7f h;omega
theorem A6d{q:List KB}{k:Ky}(h:∀ x∈q,x.1≠k):M9 q k=[]:=by
 unfold M9
 simp_all;omega
theorem C6j{nm:List UInt8->Int}{i:Nat}{l:List Hd}(h:∀ x∈l,HOk nm x)(k:Ky):bod (rfP nm i l) k=if M9 (l.map (hdK nm i)) k=[] then none else some (M9 (l.map (hdK nm i)) k):=by
 unfold rfP;rw[B6f];by_cases e:M9 (l.map (hdK nm i)) k=[]
 ·grind
 ·rw[if_neg e,if_pos];refine⟨?_,e⟩;have:∃ x∈l.map (hdK nm i),x.1=k:=Classical.byContradiction fun hn=>e (A6d fun x hx he=>hn ⟨x,hx,he⟩);obtain⟨x,hx,rfl⟩:=this;obtain⟨y,hy,rfl⟩:=A1C.1 hx;obtain⟨h1,h2,h3,h4⟩:=h y hy;exact A5i.2 ⟨rfl,h1,h2,h3,h4⟩
theorem B0r{nm:List UInt8->Int}:∀ {l:List Md} {i:Nat},(∀ m∈l, ∀ x∈m.hds,HOk nm x)->∀ k:Ky,bod (A0p nm i l) k=if M9 (hkM nm i l) k=[] then none else some (M9 (hkM nm i l) k)
 |[],i,_,k=>by rfl
 |m :: l,i,h,k=>by
  rw[A0p,C8o,C6j (h m A0I),B0r (fun m hm=>h m (A0F _ hm)),hkM,C5c];by_cases e:M9 (m.hds.map (hdK nm i)) k=[]
  ·grind
  ·have hk:k.mode=i:=by
    have:∃ x∈m.hds.map (hdK nm i),x.1=k:=Classical.byContradiction fun hn=>e (A6d fun x hx he=>hn ⟨x,hx,he⟩);obtain⟨x,hx,rfl⟩:=this;obtain⟨y,hy,rfl⟩:=A1C.1 hx;rfl
   have e2:M9 (hkM nm (i+1) l) k=[]:=A6d fun x hx he=>by have:=B7f hx;rw[he,hk]at this;omega
   grind
theorem B6e{q:List KB}{ks:List Ky}{p:B8}(h:p∈ptK q ks):p.1∈ks:=by
 obtain⟨k,hk,e⟩:=List.mem_filterMap.1 h
 grind
theorem A7c{nm:List UInt8->Int}:∀ {l:List Md} {i:Nat} {p:B8},p∈A0p nm i l->(i:Int)<=p.1.mode
 |[],_,_,h=>by cases h
 |m :: l,i,p,h=>by
  rw[A0p]at h;rcases A1G.1 h with h|h
  ·have:=(A5i.1 (B6e h)).1;omega
  ·have:=A7c h;omega
theorem B0q{nm:List UInt8->Int}:∀ (l:List Md) (i:Nat),Srt (A0p nm i l)
 |[],_=>List.Pairwise.nil
 |m :: l,i=>by
  rw[A0p];refine List.pairwise_append.2 ⟨C6m _ (C3s i),B0q l (i+1),fun a ha b hb=>?_⟩;have h1:=(A5i.1 (B6e ha)).1;have h2:=A7c hb;unfold Ky.lt;omega
theorem B0y{nm:List UInt8->Int}{l:List Md}{s:List B8}(h:∀ m∈l, ∀ x∈m.hds,HOk nm x)(hp:s.Perm (D9 [] (hkM nm 0 l)))(hs:Srt s):s=A0p nm 0 l:=by
 refine C1a hs (B0q l 0) fun k=>?_;have hn:((D9 [] (hkM nm 0 l)).map (·.1)).Nodup:=A1j _ (by simp);rw[<- C5b hp.symm hn,B2x,B0r h];rfl
mutual
def hE(h:Int):Ex->List Int
 |.mk k v n a p=>hEs h a++[h+(a.length:Int)]
def hEs(h:Int):List Ex->List Int
 |[]=>[]
 |x :: l=>hE h x++hEs (h+1) l
end
section
variable (nm:List UInt8->Int)
end
section
variable {nm:List UInt8->Int} {I:List Ins} {Hs:List Int}
end
def cgL(nm:List UInt8->Int)(p:Nat)(S:List (List UInt8)):List B8->List Ins × List Ent × List (List UInt8)
 |[]=>([],[],S)
 |q :: l=>((cgB nm p S q.2.flatten).1++(⟨31,0⟩ :: (cgL nm (p+(cgB nm p S q.2.flatten).1.length+1) (cgB nm p S q.2.flatten).2 l).1),
   ⟨q.1.mode,q.1.trig,q.1.ix,(p:Int)⟩ :: (cgL nm (p+(cgB nm p S q.2.flatten).1.length+1) (cgB nm p S q.2.flatten).2 l).2.1,
   (cgL nm (p+(cgB nm p S q.2.flatten).1.length+1) (cgB nm p S q.2.flatten).2 l).2.2)
section
variable {nm:List UInt8->Int} {I:List Ins} {Hs:List Int}
end
end Go.Pb
namespace Go.Sym
variable [Go.Sym.Tab]
open Go.Eng (KKey)
inductive Mz (id:Nat) (r:DV):DV->DV->Prop where
 |same (d:DV):Mz id r d d
 |mid:Mz id r (.mid id) r
 |agg (a a':List DV) (hl:a.length=a'.length) (h:∀ (i:Nat) x y,a[i]? = some x->a'[i]? = some y->Mz id r x y):Mz id r (.agg a) (.agg a')
 |tup (a a':List DV) (hl:a.length=a'.length) (h:∀ (i:Nat) x y,a[i]? = some x->a'[i]? = some y->Mz id r x y):Mz id r (.tup a) (.tup a')
theorem Mz.rel{ρ ρ':Ren}{id:Nat}{r:DV}(hl : ρ.le ρ')(hr:∀ v,VRel ρ (.mid id) v->VRel ρ' r v){d d':DV}(h:Mz id r d d'):∀ v,VRel ρ d v->VRel ρ' d' v:=by
 induction h with
 |same d=>exact fun v hv=>hv.mono hl
 |mid=>omega
 |agg a a' hl' _ ih =>
  intro v hv;obtain⟨b,rfl,h1,h2⟩:=hv.agg_inv;refine .agg _ _ (hl'▸h1) fun i x y hx hy=>?_
  grind
 |tup a a' hl' _ ih =>
  intro v hv;obtain⟨b,rfl,h1,h2⟩:=hv.tup_inv;refine .tup _ _ (hl'▸h1) fun i x y hx hy=>?_
  grind
theorem GL.frzm{H H':Hp}{ds ds':List DV}{id u:Nat}{kd:KKey}{ks vs:List DV}(hb:H id=some ⟨u,true,[.mpc kd ks vs]⟩)(hH:∀ j,H' j=none\/(j≠id/\H' j=H j))
  (hl:ds.length=ds'.length) (hd:∀ (i:Nat) x y,ds[i]? = some x->ds'[i]? = some y->Mz id (.mp kd ks vs) x y):GL H ds H' ds':=by
 refine⟨fun j hj=>?_,fun ρ w a2 hR hA=>?_⟩
 ·grind
 have back:∀ j bj,H' j=some bj->j≠id/\H j=some bj:=by
  grind
 obtain⟨t,ht,hB⟩:=hR.blk id _ hb;rcases hB with ⟨hm,c,e,fr, -, -, -, -,g5, -⟩|⟨hm, -,hs,es,cl,kd',ks',vs',g1,g2,g3,g6⟩
 ·have:=(g5 0 _ rfl).1
  trivial
 cases g2;have hnone : ρ.fm t.block=none:=by
  cases hf : ρ.fm t.block with
  |none=>rfl
  |some es'=>exact absurd rfl ((hR.frm _ _ hf).2 id _ t hb rfl ht)
 obtain⟨ρ2,hρ⟩:∃ ρ2:Ren, ρ2=⟨ρ.nm, ρ.fz, ρ.tab,fun k=>if k=t.block then some es else ρ.fm k⟩:=⟨_,rfl⟩;have n1 : ρ2.nm = ρ.nm:=by grind
 have n2 : ρ2.fz = ρ.fz:=by grind
 have n3:∀ k r, ρ2.fm k=some r->(k=t.block/\r=es) \/ ρ.fm k=some r:=by
  intro k r hk;rw[hρ]at hk
  grind
 have n4 : ρ2.fm t.block=some es:=by simp_all
 have hle : ρ.le ρ2:=⟨fun i x h=>by grind,fun b r h=>by grind,fun b r h=>by
  rw[hρ]
  grind⟩
 have hval:∀ v,VRel ρ (.mid id) v->VRel ρ2 (.mp kd ks vs) v:=by
  intro v hv;obtain⟨t',ht', -,rfl⟩:=hv.mid_inv;rw[ht]at ht';cases ht';obtain⟨a1,a2,a3,a4,a5⟩:=g3;exact .mp kd ks vs t.block es n4 a1 a2 a3 (fun i x e hx he=>(a4 i x e hx he).mono hle) (fun i x e hx he=>(a5 i x e hx he).mono hle)
 refine⟨ρ2,n1,⟨fun j bj hj=>?_,fun i j bi bj ti tj hi hj hij h1 h2 ho=>?_,fun k r hk=>?_,fun j bj tj hj ho hjt=>?_,fun k r hk=>?_⟩,⟨hl▸hA.1,fun i x y hx hy=>?_⟩,?_⟩
 ·rw[n1];obtain⟨-,h1⟩:=back j bj hj;obtain⟨tj,q1,q2⟩:=hR.blk j bj h1;exact⟨tj,q1,q2.mono hle⟩
 ·rw[n1]at h1 h2;exact hR.sep i j bi bj ti tj (back i bi hi).2 (back j bj hj).2 hij h1 h2 ho
 ·rw[n2]at hk;exact hR.frz k r hk
 ·rw[n1]at hjt;rw[n2];exact hR.dis j bj tj (back j bj hj).2 ho hjt
 ·rcases n3 k r hk with ⟨rfl,rfl⟩|h1
  ·refine⟨⟨cl,g1,g6⟩,fun j bj tj hj ho hjt=>?_⟩;rw[n1]at hjt;obtain⟨hne,h2⟩:=back j bj hj;exact hR.sep j id bj _ tj t h2 hb hne hjt ht ho
  ·refine⟨(hR.frm k r h1).1,fun j bj tj hj ho hjt=>?_⟩;rw[n1]at hjt;exact (hR.frm k r h1).2 j bj tj (back j bj hj).2 ho hjt
 ·have hi:i<ds.length:=by grind
  exact (hd i ds[i] x (A0B hi) hx).rel hle hval y (hA.2 i _ y (A0B hi) hy)
 ·refine⟨hle,rfl,rfl,rfl,A0C _,fun _ _ _=>rfl,fun j bj tj hj hjt=>?_,fun k r hk=>.inl (by rw[<- n2];exact hk),fun k r hk=>?_⟩
  ·rw[n1]at hjt;exact .inr ⟨j,bj,tj,(back j bj hj).2,fun h=>h,hjt,rfl⟩
  grind
theorem C2f{H:Hp}{id u:Nat}{kd:KKey}{ks vs:List DV}(hb:H id=some ⟨u,true,[.mpc kd ks vs]⟩):∃ H2,GL H [.mid id] H2 [.mp kd ks vs] :=
 ⟨nil,GL.frzm hb (fun j=>.inl rfl) rfl (fun i x y hx hy=>by
  match i with
  |0=>cases hx;cases hy;exact .mid
  |_+1=>grind)⟩
theorem A2p{a b:List UInt8}:A5n (.str a) (.str b)=(a == b):=id rfl
theorem A2n{s:List UInt8}:∀ (l:List (List UInt8)) (i:Nat),(C3 (.str s) (l.map DV.str) i).isSome=l.contains s
 |[],i=>rfl
 |x :: r,i=>by
  simp only[A0R,C3,A2p,List.contains_cons];cases h:s == x with
  |true=>simp
  |false=>simp[A2n r (i+1)]
theorem A5g{s:List UInt8}{l:List (List UInt8)}(h:l.contains s=false)(i:Nat):C3 (.str s) (l.map DV.str) i=none:=by
 have:=A2n (s:=s) l i
 simp_all
theorem B4a{s:List UInt8}{l:List (List UInt8)}(h:l.contains s=true)(i:Nat):∃ j,C3 (.str s) (l.map DV.str) i=some j:=by
 have:=A2n (s:=s) l i;rw[h]at this;cases hm:C3 (.str s) (l.map DV.str) i with
 |none=>grind
 |some j=>simp
theorem A5h{k:DV}:∀ {ks:List DV} {i j:Nat},C3 k ks i=some j->i<=j/\j<i+ks.length
 |[],i,j,h=>by cases h
 |x :: r,i,j,h=>by
  simp only[C3]at h;split at h
  ·grind
  ·have:=A5h h
   grind
end Go.Sym
namespace Go.Pb
variable [Go.Sym.Tab]
open Go.Sym
open Go.Eng (KKey)
def mkK(l:List (List UInt8 × DV)):List DV:=l.map fun p=>.str p.1
def mvV(l:List (List UInt8 × DV)):List DV:=l.map fun p=>p.2
theorem U7{n:List UInt8}:∀ (l:List (List UInt8 × DV)) (i:Nat),match C3 (.str n) (mkK l) i with
  |some j=>i<=j/\∃ x,(mvV l)[j-i]? = some x/\l.lookup n=some x
  |none=>l.lookup n=none
 |[],i=>rfl
 |p :: l,i=>by
  obtain⟨a,x⟩:=p;show match C3 (.str n) (.str a :: mkK l) i with
   |some j=>_
   |none=>_
  rw[C3,A2p];cases h:n == a with
  |true =>
   refine⟨A0C _,x,by simp[mvV],?_⟩
   grind
  |false =>
   have ih:=U7 (n:=n) l (i+1);dsimp only;cases hf:C3 (.str n) (mkK l) (i+1) with
   |none=>grind
   |some j =>
    rw[hf]at ih;obtain⟨h1,y,h2,h3⟩:=ih;refine⟨by omega,y,?_,by grind⟩;have e:j-i=(j-(i+1))+1:=by omega
    rw[e];exact h2
theorem A1r{l:List (List UInt8 × DV)}{n:List UInt8}{x z:DV}{ok:Bool}(h:l.lookup n=some x):lkV z ok (mvV l) (C3 (.str n) (mkK l) 0)=some (match ok with
  |true=>.tup [x,.bool true]
  |false=>x):=by
 have:=U7 (n:=n) l 0;cases hf:C3 (.str n) (mkK l) 0 with
 |none=>grind
 |some j =>
  rw[hf]at this;obtain⟨-,y,h2,h3⟩:=this;rw[h3]at h;cases h;simp only[lkV]
  grind
theorem A1s{l:List (List UInt8 × DV)}{n:List UInt8}{z:DV}{ok:Bool}(h:l.lookup n=none):lkV z ok (mvV l) (C3 (.str n) (mkK l) 0)=some (match ok with
  |true=>.tup [z,.bool false]
  |false=>z):=by
 have:=U7 (n:=n) l 0;cases hf:C3 (.str n) (mkK l) 0 with
 |none=>simp only[lkV];grind
 |some j =>
  grind
theorem B6v{l:List (List UInt8 × DV)}{n:List UInt8}(h:l.lookup n=none):C3 (.str n) (mkK l) 0=none:=by
 have:=U7 (n:=n) l 0
 grind
theorem C9o{α : Type}(n:List UInt8)(a:List UInt8)(x : α):∀ l:List (List UInt8 × α),(l++[(a,x)]).lookup n=(l.lookup n).or (if n == a then some x else none)
 |[]=>by grind
 |(b,y) :: l=>by
  grind
def A2o(q:Int × Int):DV:=.agg [I64 q.1,I64 q.2]
def Q0(l:List (List UInt8 × (Int × Int)))(n:List UInt8)(q:Int × Int):List (List UInt8 × (Int × Int)):=if (l.lookup n).isSome=true then l else l++[(n,q)]
def S3(l:List (List UInt8 × (Int × Int))):List (List UInt8 × DV):=l.map fun p=>(p.1,A2o p.2)
theorem R2(n:List UInt8):∀ l:List (List UInt8 × (Int × Int)),(S3 l).lookup n=(l.lookup n).map A2o
 |[]=>rfl
 |(a,x) :: l=>by
  show ((a,A2o x) :: S3 l).lookup n=_;rw[List.lookup_cons,List.lookup_cons,R2 n l]
  grind
def M7(pre:List Dc)(d:Dc):Int:=if d.kind=6\/d.kind=7\/d.kind=8 then (cnD pre d.kind:Int) else d.value
def nmD(pre:List Dc)(l:List (List UInt8 × (Int × Int))):List Dc->List (List UInt8 × (Int × Int))
 |[]=>l
 |d :: r=>nmD (pre++[d]) (Q0 l d.name (d.kind,M7 pre d)) r
def nmX(i:Nat)(l:List (List UInt8 × (Int × Int))):List Md->List (List UInt8 × (Int × Int))
 |[]=>l
 |m :: r=>nmX (i+1) (Q0 l m.name (9,(i:Int))) r
def nmL(r:Ru):List (List UInt8 × (Int × Int)):=nmX 0 (nmD [] [] r.decls) r.modes
def nmV(r:Ru):DV:=.mp .s (mkK (S3 (nmL r))) (mvV (S3 (nmL r)))
def ahS:List (Int × Nat)->Int->List (Int × Nat)
 |[],k=>[(k,1)]
 |(a,n) :: l,k=>if a=k then (a,n+1) :: l else (a,n) :: ahS l k
def ahM(l:List Dc):List (Int × Nat):=l.foldl (fun a d=>ahS a d.kind) []
def ahK(l:List (Int × Nat)):List DV:=l.map fun p=>I64 p.1
def ahV(l:List (Int × Nat)):List DV:=l.map fun p=>I64 (p.2:Int)
def ahN(l:List (Int × Nat))(k:Int):Nat:=match l with
 |[]=>0
 |(a,n) :: r=>if a=k then n else ahN r k
theorem A9t(k:Int):∀ (l:List (Int × Nat)) (i:Nat),match C3 (I64 k) (ahK l) i with
  |some j=>i<=j/\∃ n:Nat,(ahV l)[j-i]? = some (I64 (n:Int))/\ahN l k=n/\(ahK l).set (j-i) (I64 k)=ahK (ahS l k)/\(ahV l).set (j-i) (I64 ((n:Int)+1))=ahV (ahS l k)
  |none=>ahN l k=0/\ahK l++[I64 k]=ahK (ahS l k)/\ahV l++[I64 1]=ahV (ahS l k)
 |[],i=>⟨rfl,rfl,rfl⟩
 |(a,n) :: l,i=>by
  have e:C3 (I64 k) (ahK ((a,n) :: l)) i=if k=a then some i else C3 (I64 k) (ahK l) (i+1):=by
   show C3 (I64 k) (I64 a :: ahK l) i=_;rw[C3];show (match k == a with
    |true=>some i
    |false=>C3 (I64 k) (ahK l) (i+1))=_
   grind
  rw[e];by_cases h:k=a
  ·rw[if_pos h];subst h;refine⟨A0C _,n,?_,?_,?_,?_⟩
   ·simp[ahV]
   ·simp[ahN]
   ·simp[ahK,ahS]
   ·simp[ahV,ahS]
  ·rw[if_neg h];have ih:=A9t k l (i+1);have h':¬ a=k:=fun e=>h e.symm;have es:ahS ((a,n) :: l) k=(a,n) :: ahS l k:=by rw[ahS,if_neg h']
   have en:ahN ((a,n) :: l) k=ahN l k:=by rw[ahN,if_neg h']
   rw[es,en];cases hf:C3 (I64 k) (ahK l) (i+1) with
   |none =>
    rw[hf]at ih;obtain⟨i1,i2,i3⟩:=ih;exact⟨i1,congrArg (I64 a :: ·) i2,congrArg (I64 (n:Int) :: ·) i3⟩
   |some j =>
    rw[hf]at ih;obtain⟨i0,m,i1,i2,i3,i4⟩:=ih;have ej:j-i=(j-(i+1))+1:=by omega
    dsimp only;rw[ej];exact⟨by omega,m,i1,i2,congrArg (I64 a :: ·) i3,congrArg (I64 (n:Int) :: ·) i4⟩
theorem D0a(k a:Int):∀ l:List (Int × Nat),ahN (ahS l a) k=ahN l k+(if a=k then 1 else 0)
 |[]=>by simp[ahS,ahN]
 |(b,n) :: l=>by
  rw[ahS];by_cases h:b=a
  ·subst h;rw[if_pos rfl,ahN,ahN]
   grind
  ·rw[if_neg h,ahN,ahN,D0a k a l]
   grind
theorem A6i(l:List Dc)(d:Dc):ahM (l++[d])=ahS (ahM l) d.kind:=by
 unfold ahM;simp
theorem C4n(l:List Dc)(d:Dc)(k:Int):cnD (l++[d]) k=cnD l k+(if d.kind=k then 1 else 0):=by
 unfold cnD;simp
theorem C5k:∀ (m:Nat) (l:List Dc),l.length<=m->∀ k,ahN (ahM l) k=cnD l k:=by
 intro m
 induction m with
 |zero =>
  intro l hl k;have:l=[]:=A3R (by omega);subst this;rfl
 |succ m ih =>
  intro l hl k;by_cases h:l=[]
  ·grind
  ·obtain⟨l',d,rfl⟩:∃ l' d,l=l'++[d]:=⟨l.dropLast,l.getLast h,(List.dropLast_concat_getLast h).symm⟩;rw[A6i,D0a,C4n,ih l' (by grind)]
theorem B5d(l:List Dc)(k:Int):ahN (ahM l) k=cnD l k:=C5k _ l (A0C _) k
theorem B1g{D:List Dc}{i:Nat}{d:Dc}{l:List (List UInt8 × (Int × Int))}(h:D[i]? = some d):nmD (D.take i) l (D.drop i)=nmD (D.take (i+1)) (Q0 l d.name (d.kind,M7 (D.take i) d)) (D.drop (i+1)):=by
 have hlt:=(A0P.1 h).1;rw[A1T hlt,(A0P.1 h).2,nmD,A0f h]
theorem B1f{M:List Md}{i:Nat}{m:Md}{l:List (List UInt8 × (Int × Int))}(h:M[i]? = some m):nmX i l (M.drop i)=nmX (i+1) (Q0 l m.name (9,(i:Int))) (M.drop (i+1)):=by
 have hlt:=(A0P.1 h).1;rw[A1T hlt,(A0P.1 h).2,nmX]
theorem B4t(l:List Dc)(k:Int):cnD l k<=l.length:=List.countP_le_length
theorem B7z(k:Int)(a:List (Int × Nat)):Sym.lkV (I64 0) false (ahV a) (C3 (I64 k) (ahK a) 0)=some (I64 (ahN a k:Int)):=by
 have:=A9t k a 0;cases hf:C3 (I64 k) (ahK a) 0 with
 |none =>
  rw[hf]at this;obtain⟨h, -, -⟩:=this;rw[h];rfl
 |some j =>
  rw[hf]at this;obtain⟨-,n,h1,h2, -, -⟩:=this;rw[h2];simp only[Sym.lkV]
  grind
theorem C9z(k:Int)(a:List (Int × Nat))(H:Hp)(c id u:Nat):muV H c id u (.i .i64) (ahK a) (ahV a) (I64 k) (I64 ((ahN a k:Int)+1)) (C3 (I64 k) (ahK a) 0)=some (.tup [],H.upd id ⟨u,true,[.mpc (.i .i64) (ahK (ahS a k)) (ahV (ahS a k))]⟩,c):=by
 have:=A9t k a 0;cases hf:C3 (I64 k) (ahK a) 0 with
 |none =>
  rw[hf]at this;obtain⟨h,h1,h2⟩:=this;rw[h];simp only[muV]
  grind
 |some j =>
  rw[hf]at this;obtain⟨-,n,h1,h2,h3,h4⟩:=this;rw[h2];simp only[muV]
  grind
def Q5(l:List Dc):Prop:=∀ d∈l,1<=d.kind/\d.kind<=8
theorem B3b{r:Ru}(h:L1 r=true):Q5 r.decls:=by
 intro d hd;unfold L1 at h;simp only[A0E]at h;have h1:=A0Q.1 h.1.2 d hd;unfold R9 at h1
 grind
theorem A4u(l:List (List UInt8 × (Int × Int)))(a n:List UInt8)(q:Int × Int):(Q0 l a q).lookup n=(l.lookup n).or (if n == a then some q else none):=by
 unfold Q0;split
 ·rename_i h;cases hn:n == a with
  |false=>simp
  |true =>
   have e:n=a:=by simpa using hn
   subst e;cases hl:l.lookup n with
   |none=>rw[hl]at h;cases h
   |some x=>rfl
 grind
theorem A5b(n:List UInt8):∀ (M:List Md) (i:Nat) (l:List (List UInt8 × (Int × Int))),(nmX i l M).lookup n=(l.lookup n).or (lkM i M n)
 |[],i,l=>by rw[nmX,lkM,A2Q]
 |m :: M,i,l=>by
  rw[nmX,A5b n M,A4u,lkM,A2G]
  grind
theorem A5c(n:List UInt8):∀ (D pre:List Dc) (l:List (List UInt8 × (Int × Int))),Q5 D->(nmD pre l D).lookup n=(l.lookup n).or (lkD pre D n)
 |[],pre,l,_=>by rw[nmD,lkD,A2Q]
 |d :: D,pre,l,hk=>by
  obtain⟨k1,k2⟩:=hk d A0I;rw[nmD,A5c n D _ _ (fun x hx=>hk x (A0F _ hx)),A4u,lkD,A2G];by_cases h:d.name=n
  ·rw[if_pos h,if_pos (by simp[h])];have e:M7 pre d=(if d.kind<6 then d.value else (cnR ⟨pre,[]⟩ d.kind:Int)):=by
    unfold M7 cnR;by_cases h6:d.kind<6
    ·rw[if_pos h6,if_neg (by omega)]
    ·rw[if_neg h6,if_pos (by omega),if_neg (by omega)]
   rw[e];rfl
  grind
theorem A7e{r:Ru}(hk:Q5 r.decls)(n:List UInt8):(nmL r).lookup n=(lkD [] r.decls n).or (lkM 0 r.modes n):=by
 unfold nmL;rw[A5b,A5c n _ _ _ hk];simp
theorem B4e(r:Ru)(n:List UInt8):H7 r n=((lkD [] r.decls n).or (lkM 0 r.modes n)).getD (0,0):=by
 unfold H7
 grind
theorem B4g{n:List UInt8}:∀ {D pre:List Dc} {q:Int × Int},Q5 D->lkD pre D n=some q->q.1≠0
 |d :: D,pre,q,hk,h=>by
  rw[lkD]at h;split at h
  ·cases h;have:=hk d A0I;omega
  ·exact B4g (fun x hx=>hk x (A0F _ hx)) h
theorem B4f{n:List UInt8}:∀ {M:List Md} {i:Nat} {q:Int × Int},lkM i M n=some q->q.1≠0
 |m :: M,i,q,h=>by
  rw[lkM]at h;split at h
  ·grind
  ·exact B4f h
theorem B6o{r:Ru}(hk:Q5 r.decls){n:List UInt8}{q:Int × Int}(h:(nmL r).lookup n=some q):H7 r n=q/\q.1≠0:=by
 rw[A7e hk]at h;rw[B4e,h];refine⟨rfl,?_⟩;cases hd:lkD [] r.decls n with
 |some p=>rw[hd]at h;cases h;exact B4g hk hd
 |none=>rw[hd]at h;exact B4f h
theorem B6q{r:Ru}(hk:Q5 r.decls){n:List UInt8}(h:(nmL r).lookup n=none):H7 r n=(0,0):=by
 rw[A7e hk]at h;rw[B4e,h];rfl
def upS(s:Int × Int)(o:Er):Int × Int:=if s.2=0 then o.getD s else s
theorem H4{s:Int × Int}{a b:Er}(ha:NzE a):upS (upS s a) b=upS s (a.or b):=by
 unfold upS;by_cases h:s.2=0
 ·cases a with
  |none=>simp[h]
  |some q =>
   have:=ha q.1 q.2 rfl;simp[h,this]
 grind
theorem H5(s:Int × Int):upS s none=s:=by unfold upS;simp
theorem C0i(s:Int × Int)(p e:Int)(h:e≠0):upS (upS s (some (p,e))) (some (p,e))=upS s (some (p,e)):=by
 rw[H4 (fun a b hq=>by grind)];rfl
def C5x(k:Int):Bool:=(k == 3 || k == 4 || k == 5 || k == 6 || k == 11 || k == 23 || k == 24) || (decide (17<=k) && decide (k<=22))
theorem C5w{k:Int}(h:k<=24):C5x k=C8n k:=by
 unfold C5x C8n
 grind
theorem A8v{e:Ex}{q:Nat × Nat}(h:msM e=some q):e.kind<=24:=by
 cases e with|mk k v n a p =>
 obtain⟨o,d⟩:=q;obtain⟨m1, -⟩:=A5f h;show k<=24;unfold kOk at m1;simp only[A1H,A0E,A0G]at m1;rcases m1 with m1|m1
 ·have:=C2y m1;omega
 omega
theorem A4g(D:List Dc)(M:List Md)(n:List UInt8)(hk:Q5 D):(H7 ⟨D,M⟩ n).1=0↔D.any (fun d=>d.name == n)=false/\M.any (fun d=>d.name == n)=false:=by
 have hD:∀ (D pre:List Dc),lkD pre D n=none↔D.any (fun d=>d.name == n)=false:=by
  intro D
  induction D with
  |nil=>intro pre;simp[lkD]
  |cons d D ih =>
   intro pre;rw[lkD]
   grind
 have hM:∀ (M:List Md) (i:Nat),lkM i M n=none↔M.any (fun d=>d.name == n)=false:=by
  intro M
  induction M with
  |nil=>intro pre;simp[lkM]
  |cons d D ih =>
   intro pre;rw[lkM]
   grind
 rw[B4e, <- hD D [], <- hM M 0];dsimp only;cases h1:lkD [] D n with
 |some q =>
  have:=B4g hk h1
  grind
 |none =>
  cases h2:lkM 0 M n with
  |some q =>
   have:=B4f h2
   grind
  |none=>simp
theorem A7m{r:Ru}{x:Ex}:∀ {l:List Ex} {i:Nat},l[i]? = some x->M6 r (l.take (i+1))=(M6 r (l.take i)).or (erE r x)
 |y :: l,0,h=>by cases h;simp[M6]
 |y :: l,i+1,h=>by
  rw[A0T,A0T,M6,M6,A7m (by simpa using h),A2G]
theorem B2e{r:Ru}{b:Bool}{x:Ex}:∀ {l:List Ex} {i:Nat},l[i]? = some x->erA r b (l.take (i+1))=(erA r b (l.take i)).or ((erE r x).or (if (L2 x.kind == 2)=b then none else some (x.pos,49)))
 |y :: l,0,h=>by cases h;simp[erA]
 |y :: l,i+1,h=>by
  rw[A0T,A0T,erA,erA,B2e (by simpa using h)];grind
theorem B2d{r:Ru}{x:St}:∀ {l:List St} {i:Nat},l[i]? = some x->erB r (l.take (i+1))=(erB r (l.take i)).or (erS r x)
 |y :: l,0,h=>by cases h;simp[erB]
 |y :: l,i+1,h=>by
  rw[A0T,A0T,erB,erB,B2d (by simpa using h),A2G]
theorem D8r(r:Ru)(e:Ex):erE r e=((M6 r e.args).or (dnE r e.name (kdE e.kind) e.pos)).or (if e.args.all (fun x=>L2 x.kind == U2 e.kind e.args)=true then none else some (e.pos,49)):=by
 cases e with|mk k v n a p=>rfl
def stD(pre:List Dc)(d:Dc):Er:=(if d.value>A3m d.kind then some (d.pos,5) else none:Er).or (if (H7 ⟨pre,[]⟩ d.name).1=0 then none else some (d.pos,7))
def stP(D:List Dc)(pre:List Md)(m:Md):Er:=(if m.prio>99 then some (m.pos,5) else none:Er).or (if (H7 ⟨D,pre⟩ m.name).1=0 then none else some (m.pos,7))
theorem B2b(d:Dc):∀ (l pre:List Dc),erD pre (l++[d])=(erD pre l).or (stD (pre++l) d)
 |[],pre=>by rw[A1J,erD,erD,erD,A1B,A2Q,A3V];rfl
 |x :: l,pre=>by rw[A0W,erD,erD,B2b d l,A0L];grind
theorem B1x(D:List Dc)(m:Md):∀ (l pre:List Md),erP D pre (l++[m])=(erP D pre l).or (stP D (pre++l) m)
 |[],pre=>by rw[A1J,erP,erP,erP,A1B,A2Q,A3V];rfl
 |x :: l,pre=>by rw[A0W,erP,erP,B1x D m l,A0L];grind
theorem C4c{D:List Dc}{i:Nat}{d:Dc}(h:D[i]? = some d):erD [] (D.take (i+1))=(erD [] (D.take i)).or (stD (D.take i) d):=by
 rw[<- A0f h,B2b];rfl
theorem C4a{D:List Dc}{M:List Md}{i:Nat}{m:Md}(h:M[i]? = some m):erP D [] (M.take (i+1))=(erP D [] (M.take i)).or (stP D (M.take i) m):=by
 rw[<- A0f h,B1x];rfl
def O5(l:List (List UInt8)):List (List UInt8 × DV):=l.map fun n=>(n,DV.bool true)
theorem W8(n:List UInt8):∀ l:List (List UInt8),(O5 l).lookup n=if l.contains n=true then some (DV.bool true) else none
 |[]=>rfl
 |a :: l=>by
  show ((a,DV.bool true) :: O5 l).lookup n=_;rw[List.lookup_cons,W8 n l,List.contains_cons]
  grind
def A3l(l:List (List UInt8))(n:List UInt8):List (List UInt8):=if l.contains n=true then l else l++[n]
theorem B0k(l:List (List UInt8))(n m:List UInt8):(A3l l n).contains m=(l.contains m || m == n):=by
 unfold A3l
 grind
theorem A7g{n:List UInt8}:∀ (l:List (List UInt8)) (i j:Nat),C3 (.str n) (mkK (O5 l)) i=some j->(mkK (O5 l)).set (j-i) (.str n)=mkK (O5 l)/\(mvV (O5 l)).set (j-i) (.bool true)=mvV (O5 l)
 |[],i,j,h=>by cases h
 |a :: l,i,j,h=>by
  have h:C3 (.str n) (.str a :: mkK (O5 l)) i=some j:=h;rw[C3,A2p]at h;cases ha:n == a with
  |true =>
   rw[ha]at h;cases h;have e:n=a:=by simpa using ha
   subst e;rw[Nat.sub_self]
   trivial
  |false =>
   rw[ha]at h;dsimp only at h;have hlt:=A5h h;obtain⟨h1,h2⟩:=A7g l (i+1) j h;have ej:j-i=(j-(i+1))+1:=by omega
   rw[ej];exact⟨congrArg (DV.str a :: ·) h1,congrArg (DV.bool true :: ·) h2⟩
theorem D1f(n:List UInt8)(l:List (List UInt8))(H:Hp)(c id u:Nat):muV H c id u .s (mkK (O5 l)) (mvV (O5 l)) (.str n) (.bool true) (C3 (.str n) (mkK (O5 l)) 0)=some (.tup [],H.upd id ⟨u,true,[.mpc .s (mkK (O5 (A3l l n))) (mvV (O5 (A3l l n)))]⟩,c):=by
 have hl:=W8 n l;have hf:=U7 (n:=n) (O5 l) 0;cases hm:C3 (.str n) (mkK (O5 l)) 0 with
 |none =>
  rw[hm]at hf;rw[hf]at hl;have hc:l.contains n=false:=by
   cases h:l.contains n with
   |false=>rfl
   |true=>rw[h]at hl;cases hl
  have e:A3l l n=l++[n]:=by unfold A3l;rw[if_neg (by rw[hc];decide)]
  rw[e];simp only[muV];have e1:mkK (O5 (l++[n]))=mkK (O5 l)++[.str n]:=by simp[mkK,O5]
  have e2:mvV (O5 (l++[n]))=mvV (O5 l)++[.bool true]:=by simp[mvV,O5]
  grind
 |some j =>
  rw[hm]at hf;obtain⟨-,x, -,h3⟩:=hf;rw[h3]at hl;have hc:l.contains n=true:=by
   cases h:l.contains n with
   |true=>rfl
   |false=>rw[h]at hl;simp at hl
  have e:A3l l n=l:=by unfold A3l;rw[if_pos hc]
  rw[e];simp only[muV];obtain⟨h1,h2⟩:=A7g l 0 j hm
  grind
theorem D1g(n:List UInt8)(l:List (List UInt8)):Sym.lkV (.bool false) false (mvV (O5 l)) (C3 (.str n) (mkK (O5 l)) 0)=some (.bool (l.contains n)):=by
 cases h:l.contains n with
 |true=>exact A1r (ok:=false) (by rw[W8,if_pos h])
 |false=>exact A1s (ok:=false) (by rw[W8,if_neg (by grind)])
def stH(r:Ru)(pre:List Hd)(h:Hd):Er:=((dnE r h.name (kdH h.trig) h.pos).or (if pre.any (fun x=>x.trig == h.trig && x.name == h.name)=true then some (h.pos,7) else none)).or (erB r h.body)
theorem B2a(r:Ru)(h:Hd):∀ (l pre:List Hd),erH r pre (l++[h])=(erH r pre l).or (stH r (pre++l) h)
 |[],pre=>by rw[A1J,erH,erH,erH,A1B,A2Q,A3V];rfl
 |x :: l,pre=>by rw[A0W,erH,erH,B2a r h l,A0L];grind
theorem C4b{r:Ru}{l:List Hd}{i:Nat}{h:Hd}(hg:l[i]? = some h):erH r [] (l.take (i+1))=(erH r [] (l.take i)).or (stH r (l.take i) h):=by
 rw[<- A0f hg,B2a];rfl
theorem B1y{r:Ru}{x:Md}:∀ {l:List Md} {i:Nat},l[i]? = some x->erM r (l.take (i+1))=(erM r (l.take i)).or (erH r [] x.hds)
 |y :: l,0,h=>by cases h;simp[erM]
 |y :: l,i+1,h=>by
  rw[A0T,A0T,erM,erM,B1y (by simpa using h),A2G]
theorem D4a(e:Er):erV e=.tup [I64 (upS (0,0) e).1,I64 (upS (0,0) e).2]:=by
 cases e<;>rfl
theorem B6s{α : Type}[DecidableEq α]{l:List α}{x : α}:(l++[x]).Nodup↔l.Nodup/\x ∉ l:=by
 grind
theorem B2u{D:List Dc}{n:List UInt8}:D.any (fun d=>d.name == n)=false↔n ∉ D.map Dc.name:=by
 simp
theorem B9x{D:List Md}{n:List UInt8}:D.any (fun d=>d.name == n)=false↔n ∉ D.map Md.name:=by
 simp
theorem Q5.app{a b:List Dc}:Q5 (a++b)↔Q5 a/\Q5 b :=
 ⟨fun h=>⟨fun d hd=>h d (A2U _ hd),fun d hd=>h d (List.mem_append_right _ hd)⟩,fun h d hd=>(A1G.1 hd).elim (h.1 d) (h.2 d)⟩
theorem B7e{b:Prop}[Decidable b]{q:Int × Int}:((if b then some q else none):Er)=none↔¬b:=by
 simp
theorem B1q{b:Prop}[Decidable b]{q:Int × Int}:((if b then none else some q):Er)=none↔b:=by
 simp
theorem B2c:∀ (D pre:List Dc),Q5 (pre++D)->(pre.map Dc.name).Nodup->(erD pre D=none↔(∀ d∈D,¬ d.value>A3m d.kind)/\((pre++D).map Dc.name).Nodup)
 |[],pre,hk,hn=>by rw[erD,A1B];grind
 |d :: l,pre,hk,hn=>by
  have hk':Q5 ((pre++[d])++l):=by grind
  have hkp:Q5 pre:=(Q5.app.1 hk).1;have hl:=A4g pre [] d.name hkp;rw[B2u]at hl;rw[erD,A1M,A1M,B7e,B1q,hl];have e:pre++d :: l=(pre++[d])++l:=by simp
  by_cases hm:d.name∈pre.map Dc.name
  ·grind
  ·have hn':((pre++[d]).map Dc.name).Nodup:=by rw[A1K];exact B6s.2 ⟨hn,hm⟩
   rw[B2c l (pre++[d]) hk' hn',e]
   grind
theorem A5v{D:List Dc}(hk:Q5 D):∀ (M pre:List Md),(D.map Dc.name++pre.map Md.name).Nodup->(erP D pre M=none↔(∀ m∈M,¬ m.prio>99)/\(D.map Dc.name++(pre++M).map Md.name).Nodup)
 |[],pre,hn=>by rw[erP,A1B];grind
 |m :: l,pre,hn=>by
  have hl:=A4g D pre m.name hk;rw[B2u,B9x]at hl;rw[erP,A1M,A1M,B7e,B1q,hl];have e:pre++m :: l=(pre++[m])++l:=by simp
  have e2:D.map Dc.name++(pre++[m]).map Md.name=(D.map Dc.name++pre.map Md.name)++[m.name]:=by simp
  by_cases hm:m.name∈D.map Dc.name++pre.map Md.name
  ·grind
  ·have hn':(D.map Dc.name++(pre++[m]).map Md.name).Nodup:=by rw[e2];exact B6s.2 ⟨hn,hm⟩
   rw[A5v hk l (pre++[m]) hn',e]
   grind
def D3t(D:List Dc)(M:List Md):Prop:=(∀ d∈D,¬ d.value>A3m d.kind)/\(∀ m∈M,¬ m.prio>99)/\(D.map Dc.name++M.map Md.name).Nodup
theorem C3k{D:List Dc}{M:List Md}(hk:Q5 D):A8z ⟨D,M⟩=none↔D3t D M:=by
 unfold A8z D3t;rw[A1M,B2c D [] hk List.nodup_nil];show (_/\(D.map Dc.name).Nodup)/\erP D [] M=none↔_;constructor
 ·rintro⟨⟨h1,h2⟩,h3⟩;obtain⟨h4,h5⟩:=(A5v hk M [] (by simpa using h2)).1 h3
  grind
 ·rintro⟨h1,h4,h5⟩;have h2:(D.map Dc.name).Nodup:=(List.nodup_append.1 h5).1;exact⟨⟨h1,h2⟩,(A5v hk M [] (by grind)).2 ⟨h4,h5⟩⟩
def SmK(r r':Ru):Prop:=∀ n,(H7 r n).1=(H7 r' n).1
section
variable {r r':Ru} (h:SmK r r')
include h
end
theorem B1z{r:Ru}:∀ {l:List Md},erM r l=none↔∀ m∈l,erH r [] m.hds=none
 |[]=>by rw[erM];simp
 |x :: l=>by
  rw[erM,A1M,B1z];simp
section
variable {r r':Ru} (h:SmK r' r)
include h
end
def NmR(r:Ru)(q:Int × Int):Prop:=0<=q.2/\(q.1<6->1<=q.1/\q.2<=A3m q.1)/\(6<=q.1->q.2<(cnR r q.1:Int)/\q.1<=9)
theorem C8f(a b:List Dc)(k:Int):cnD (a++b) k=cnD a k+cnD b k:=by simp[cnD,List.countP_append]
theorem D4r{r:Ru}{pre l:List Dc}{d:Dc}(h:r.decls=pre++d :: l)(hk:¬ d.kind=9):cnR ⟨pre,[]⟩ d.kind<cnR r d.kind:=by
 unfold cnR;rw[if_neg hk,if_neg hk,h,C8f];have:1<=cnD (d :: l) d.kind:=by
  unfold cnD;rw[List.countP_cons];simp
 grind
theorem B7b{r:Ru}{n:List UInt8}:∀ {l pre:List Dc} {q:Int × Int},r.decls=pre++l->(∀ d∈l,R9 d=true/\¬ d.value>A3m d.kind)->lkD pre l n=some q->NmR r q
 |[],_,_,_,_,h=>by cases h
 |d :: l,pre,q,e,hd,h=>by
  rw[lkD]at h;split at h
  ·cases h;obtain⟨h1,h2⟩:=hd d A0I;unfold R9 at h1;simp only[A0E,A0G]at h1;obtain⟨⟨⟨⟨k1,k2⟩, -⟩,k3⟩,k4⟩:=h1;by_cases h6:d.kind<6
   ·refine⟨?_,fun _=>⟨k1,?_⟩,fun h=>absurd h6 (by simp only at h;omega)⟩
    ·simp only[h6,if_true];rw[if_neg (by omega)]at k3;exact k3
    grind
   ·refine⟨?_,fun h=>absurd h h6,fun _=>⟨?_,by omega⟩⟩
    ·omega
    ·simp only[h6,if_false];have:=D4r (r:=r) e (by omega:¬ d.kind=9);omega
  ·exact B7b (pre:=pre++[d]) (by grind) (fun x hx=>hd x (A0F _ hx)) h
theorem B7a{r:Ru}{n:List UInt8}:∀ {l:List Md} {i:Nat} {q:Int × Int},i+l.length=r.modes.length->lkM i l n=some q->NmR r q
 |[],_,_,_,h=>by cases h
 |m :: l,i,q,e,h=>by
  rw[lkM]at h;split at h
  ·cases h;refine⟨A3Y _,fun h=>absurd h (by show ¬ (9:Int)<6;decide),fun _=>⟨?_,by show (9:Int)<=9;decide⟩⟩;show (i:Int)<(cnR r 9:Int);unfold cnR
   grind
  ·exact B7a (by grind) h
structure ChkR (r:Ru):Prop where
 vl:L1 r=true
 ck:A3q r=none
theorem ChkR.decl{r:Ru}(h:ChkR r):∀ d∈r.decls,R9 d=true:=by
 have:=h.vl;unfold L1 at this
 grind
theorem ChkR.mode{r:Ru}(h:ChkR r):∀ d∈r.modes,T6 d=true:=by
 have:=h.vl;unfold L1 at this
 grind
theorem ChkR.lens{r:Ru}(h:ChkR r):r.decls.length<=128/\r.modes.length<=16:=by
 have:=h.vl;unfold L1 at this
 grind
theorem ChkR.kd{r:Ru}(h:ChkR r):Q5 r.decls:=by
 intro d hd;have:=h.decl d hd;unfold R9 at this
 grind
theorem ChkR.hea{r:Ru}(h:ChkR r):D3t r.decls r.modes:=by
 have:=h.ck;unfold A3q at this;rw[A1M]at this;exact (C3k h.kd).1 this.1
theorem ChkR.erm{r:Ru}(h:ChkR r):∀ m∈r.modes,erH r [] m.hds=none:=by
 have:=h.ck;unfold A3q at this;rw[A1M]at this;exact B1z.1 this.2
theorem ChkR.num{r:Ru}(h:ChkR r){n:List UInt8}(hn:¬ (H7 r n).1=0):NmR r (H7 r n):=by
 unfold H7 at hn ⊢;cases h1:lkD [] r.decls n with
 |some q=>exact B7b (r:=r) (pre:=[]) rfl (fun d hd=>⟨h.decl d hd,h.hea.1 d hd⟩) h1
 |none =>
  rw[h1]at hn;cases h2:lkM 0 r.modes n with
  |some q=>exact B7a (r:=r) (by simp) h2
  |none=>grind
theorem ChkR.den{r:Ru}(h:ChkR r){n:List UInt8}{k:Int}(hk:¬ k=0)(hd:dnM r n k=0):(H7 r n).1=k:=by
 unfold dnM at hd;omega
theorem A5o{n:List UInt8}(h:F1 n=true):n≠[]:=by
 rintro rfl
 trivial
theorem B1l{n:List UInt8}:∀ {l pre:List Dc},(∀ d∈l,d.name≠n)->lkD pre l n=none
 |[],_,_=>rfl
 |d :: l,pre,h=>by rw[lkD,if_neg (h d A0I)];exact B1l fun x hx=>h x (A0F _ hx)
theorem B1k{n:List UInt8}:∀ {l:List Md} {i:Nat},(∀ d∈l,d.name≠n)->lkM i l n=none
 |[],_,_=>rfl
 |d :: l,i,h=>by rw[lkM,if_neg (h d A0I)];exact B1k fun x hx=>h x (A0F _ hx)
theorem ChkR.nil{r:Ru}(h:ChkR r):H7 r []=(0,0):=by
 unfold H7;rw[B1l (fun d hd=>by
  have:=h.decl d hd;unfold R9 at this;simp only[A0E,A0G]at this;exact A5o this.1.1.2),B1k (fun d hd=>by
  have:=h.mode d hd;unfold T6 at this;simp only[A0E,A0G]at this;exact A5o this.1.1.1.1)]
theorem D0q(S:List (List UInt8))(t:List UInt8):S.length<=(txS S t).2.length:=by
 unfold txS;grind
mutual
theorem C4s(nm:List UInt8->Int):∀ (s:St) (p:Nat) (S:List (List UInt8)),S.length<=(cgS nm p S s).2.length
 |.mk k n t a x y q,p,S=>by
  rw[cgS];split
  ·split
   ·exact Z6 nm x _ S
   ·exact A0X (Z6 nm x _ S) (Z6 nm y _ _)
  ·split
   ·exact Z6 nm x _ S
   ·split
    ·exact D0q S t
    simp
theorem Z6(nm:List UInt8->Int):∀ (l:List St) (p:Nat) (S:List (List UInt8)),S.length<=(cgB nm p S l).2.length
 |[],_,_=>A0C _
 |s :: l,p,S=>by
  rw[cgB];exact A0X (C4s nm s p S) (Z6 nm l _ _)
end
abbrev nmR(r:Ru):List UInt8->Int:=fun n=>(H7 r n).2
def cmC(r:Ru):Prg :=
 ⟨(cgL (nmR r) 0 [] (A0p (nmR r) 0 r.modes)).1,(cgL (nmR r) 0 [] (A0p (nmR r) 0 r.modes)).2.2,(cgL (nmR r) 0 [] (A0p (nmR r) 0 r.modes)).2.1,r.modes.map (·.prio),
  (r.decls.filter fun d=>d.kind == 6).map (·.value),(cnR r 7:Int),(cnR r 8:Int)⟩
theorem B7n{r:Ru}:∀ {l pre:List Hd},erH r pre l=none->∀ h∈l,dnM r h.name (kdH h.trig)=0/\erB r h.body=none
 |[],_,_,h,hh=>by grind
 |x :: l,pre,h,y,hy=>by
  rw[erH,A1M,A1M,A1M]at h;obtain⟨⟨⟨h1, -⟩,h2⟩,h3⟩:=h;rcases A1A.1 hy with rfl|hy
  ·refine⟨?_,h2⟩;unfold dnE at h1
   grind
  ·exact B7n h3 y hy
structure HdF (r:Ru) (h:Hd):Prop where
 tr:1<=h.trig/\h.trig<=6
 bl:P6 h.body 1=true
 er:erB r h.body=none
 nn:h.trig<3->(H7 r h.name).2=0
 nd:3<=h.trig->(H7 r h.name).1=kdH h.trig/\NmR r (H7 r h.name)
theorem ChkR.hd{r:Ru}(h:ChkR r):∀ m∈r.modes, ∀ x∈m.hds,HdF r x:=by
 intro m hm x hx;have hv:=h.mode m hm;unfold T6 at hv;simp only[A0E,A0G,A0Q]at hv;have hv:=hv.2 x hx;unfold A2a at hv;simp only[A0E,A0G]at hv;obtain⟨⟨⟨v1,v2⟩,v3⟩,v4⟩:=hv;obtain⟨d1,d2⟩:=B7n (h.erm m hm) x hx;refine⟨⟨v1,v2⟩,v4,d2,fun ht=>?_,fun ht=>?_⟩
 ·rw[if_neg (by omega)]at v3;have:x.name=[]:=by grind
  rw[this,h.nil]
 ·have hk:¬ kdH x.trig=0:=by
   have:x.trig=3\/x.trig=4\/x.trig=5\/x.trig=6:=by omega
   rcases this with e|e|e|e<;>rw[e]<;>decide
  have e1:=h.den hk d1;exact⟨e1,h.num (by omega)⟩
theorem C4m{r:Ru}(h:ChkR r)(k:Int)(hk:¬ k=9):cnR r k<=128:=by
 unfold cnR;rw[if_neg hk];exact A0X (B4t _ _) h.lens.1
theorem HdF.ok{r:Ru}(hr:ChkR r){h:Hd}(hf:HdF r h):HOk (nmR r) h:=by
 refine⟨hf.tr.1,hf.tr.2,?_⟩;show 0<=(H7 r h.name).2/\(H7 r h.name).2<128;by_cases ht:h.trig<3
 ·rw[hf.nn ht];simp
 ·obtain⟨e,n0,n1,n2⟩:=hf.nd (by omega);refine⟨n0,?_⟩;have:h.trig=3\/h.trig=4\/h.trig=5\/h.trig=6:=by have:=hf.tr;omega
  rcases this with g|g|g|g
  ·rw[g]at e;have e:(H7 r h.name).1=1:=e;have:=(n1 (by omega)).2;rw[e]at this;have:(H7 r h.name).2<=63:=this;omega
  ·rw[g]at e;have e:(H7 r h.name).1=1:=e;have:=(n1 (by omega)).2;rw[e]at this;have:(H7 r h.name).2<=63:=this;omega
  ·rw[g]at e;have e:(H7 r h.name).1=7:=e;have:=(n2 (by omega)).1;rw[e]at this;have:=C4m hr 7 (by simp);omega
  ·rw[g]at e;have e:(H7 r h.name).1=8:=e;have:=(n2 (by omega)).1;rw[e]at this;have:=C4m hr 8 (by simp);omega
theorem C4x(nm:List UInt8->Int):∀ (l:List B8) (p:Nat) (S:List (List UInt8)),S.length<=(cgL nm p S l).2.2.length
 |[],_,_=>A0C _
 |q :: l,p,S=>by rw[cgL];exact A0X (Z6 nm _ p S) (C4x nm l _ _)
theorem A3g(nm:List UInt8->Int):∀ (l:List B8) (p:Nat) (S:List (List UInt8)),(cgL nm p S l).2.1.length=l.length
 |[],_,_=>rfl
 |q :: l,p,S=>by rw[cgL];simp only[A0N,A3g nm l]
theorem A9m(nm:List UInt8->Int):∀ (a b:List B8) (p:Nat) (S:List (List UInt8)),
  cgL nm p S (a++b)=((cgL nm p S a).1++(cgL nm (p+(cgL nm p S a).1.length) (cgL nm p S a).2.2 b).1,(cgL nm p S a).2.1++(cgL nm (p+(cgL nm p S a).1.length) (cgL nm p S a).2.2 b).2.1,(cgL nm (p+(cgL nm p S a).1.length) (cgL nm p S a).2.2 b).2.2)
 |[],b,p,S=>by rfl
 |q :: a,b,p,S=>by
  rw[A0W,cgL,A9m nm a b,cgL]
  grind
theorem C4u{nm:List UInt8->Int}{l:List B8}{S:List (List UInt8)}(k:Nat):(cgL nm 0 S (l.take k)).1.length<=(cgL nm 0 S l).1.length/\(cgL nm 0 S (l.take k)).2.2.length<=(cgL nm 0 S l).2.2.length:=by
 have h:=A9m nm (l.take k) (l.drop k) 0 S;rw[A1V]at h;rw[h];constructor
 ·simp
 ·exact C4x nm _ _ _
theorem C4v(nm:List UInt8->Int)(l:List B8)(q:B8)(S:List (List UInt8)):cgL nm 0 S (l++[q]) =
  ((cgL nm 0 S l).1++((cgB nm (cgL nm 0 S l).1.length (cgL nm 0 S l).2.2 q.2.flatten).1++[⟨31,0⟩]),(cgL nm 0 S l).2.1++[⟨q.1.mode,q.1.trig,q.1.ix,((cgL nm 0 S l).1.length:Int)⟩],(cgB nm (cgL nm 0 S l).1.length (cgL nm 0 S l).2.2 q.2.flatten).2):=by
 rw[A9m,A0Z];rfl
def C0b:Prg:=⟨[],[],[],[],[],0,0⟩
def C4o(r:Ru):Prg × Int × Int :=
 if L1 r=true then
  match A3q r with
  |some (p,c)=>(C0b,p,c)
  |none=>if 4000<(cmC r).instrs.length\/200<(cmC r).strings.length then (C0b,0,9) else (cmC r,0,0)
 else (C0b,0,1)
def B4u(q:Prg × Int × Int):DV:=.tup [q.1.v,I64 q.2.1,I64 q.2.2]
abbrev txC(S:List (List UInt8)):List DV:=S.map DV.str
abbrev gmB(t:Nat)(a b:Option Nat)(mk:DV->DV->List DV)(x:Cg):Blk:=⟨0,true,mk (todoV a x.1.length) (todoV b x.2.length)⟩
def GM(H0:Hp)(t:Nat)(a b:Option Nat)(mk:DV->DV->List DV)(x:Cg):Hp :=
 optH (optH (H0.upd t (gmB t a b mk x)) a ⟨2,true,K9 x.1⟩) b ⟨1,true,txC x.2⟩
structure GN (H0:Hp) (t:Nat) (a b:Option Nat) (x:Cg) (c:Nat):Prop where
 tc:t<c
 ha:∀ i,a=some i->i≠t/\i<c/\H0 i=none
 hb:∀ i,b=some i->i≠t/\i<c/\H0 i=none
 ne:∀ i j,a=some i->b=some j->i≠j
 an:a=none->x.1=[]
 bn:b=none->x.2=[]
 fr:∀ j,c<=j->H0 j=none
section
variable {H0:Hp} {t c c' i:Nat} {a b:Option Nat} {mk:DV->DV->List DV} {x y:Cg}
theorem A6u(h:GN H0 t a b x c):GM H0 t a b mk x t=some (gmB t a b mk x):=by
 rw[GM,B1 (fun i hi=>Ne.symm (h.hb i hi).1),B1 (fun i hi=>Ne.symm (h.ha i hi).1),h_same]
theorem B5j(h:GN H0 t a b x c){i:Nat}(hi:a=some i):GM H0 t a b mk x i=some ⟨2,true,K9 x.1⟩:=by
 rw[GM,B1 (fun j hj=>h.ne i j hi hj)];subst hi;exact h_same
theorem B5i{i:Nat}(hi:b=some i):GM H0 t a b mk x i=some ⟨1,true,txC x.2⟩:=by
 rw[GM];subst hi;exact h_same
theorem D5k{j:Nat}(h1:j≠t)(h2:a≠some j)(h3:b≠some j):GM H0 t a b mk x j=H0 j:=by
 rw[GM,B1 (fun i hi e=>h3 (by grind)),B1 (fun i hi e=>h2 (by grind)),h_ne h1]
theorem A6m(h:GN H0 t a b x c){j:Nat}{B:Blk}(hj:H0 j=some B)(ht:j≠t):GM H0 t a b mk x j=some B:=by
 rw[D5k ht (fun e=>by have:=(h.ha j e).2.2;grind) (fun e=>by have:=(h.hb j e).2.2;grind),hj]
theorem C5p(h:GN H0 t a b x c){j:Nat}(hj:c<=j):GM H0 t a b mk x j=none:=by
 have:=h.tc;rw[D5k (by omega) (fun e=>by have:=(h.ha j e).2.1;omega) (fun e=>by have:=(h.hb j e).2.1;omega)];exact h.fr j hj
theorem A6l{X:Hp}(ht:X t=some (gmB t a b mk x))(ha:∀ i,a=some i->X i=some ⟨2,true,K9 x.1⟩)(hb:∀ i,b=some i->X i=some ⟨1,true,txC x.2⟩)(ho:∀ j B,j≠t->H0 j=some B->X j=some B):
  Sub (GM H0 t a b mk x) X:=by
 intro j B hj;rw[GM]at hj;by_cases h1:b=some j
 ·subst h1;simp only[optH]at hj;rw[h_same]at hj;rw[<- hj];exact hb j rfl
 rw[B1 (fun i hi e=>h1 (by rw[e];exact hi))]at hj;by_cases h2:a=some j
 ·subst h2;simp only[optH]at hj;rw[h_same]at hj;rw[<- hj];exact ha j rfl
 rw[B1 (fun i hi e=>h2 (by rw[e];exact hi))]at hj;by_cases h3:j=t
 ·subst h3;rw[h_same]at hj;rw[<- hj];exact ht
 rw[h_ne h3]at hj
 grind
theorem GN.le(h:GN H0 t a b x c)(hc:c<=c'):GN H0 t a b x c' :=
 ⟨by have:=h.tc;omega,fun i hi=>by have:=h.ha i hi;grind,fun i hi=>by have:=h.hb i hi;grind,h.ne,h.an,h.bn,fun j hj=>h.fr j (by omega)⟩
theorem GN.newA(h:GN H0 t a b x c)(h1:c<=i)(h2:i<c')(he:y.2=x.2):GN H0 t (some i) b y c':=by
 have:=h.tc;exact⟨by omega,fun j hj=>by cases hj;exact⟨by omega,h2,h.fr _ h1⟩,fun j hj=>by have:=h.hb j hj;grind,fun j k hj hk=>by cases hj;have:=h.hb k hk;omega,fun e=>(by grind),fun e=>(by rw[he];exact h.bn e),fun j hj=>h.fr j (by omega)⟩
theorem GN.newB(h:GN H0 t a b x c)(h1:c<=i)(h2:i<c')(he:y.1=x.1):GN H0 t a (some i) y c':=by
 have:=h.tc;exact⟨by omega,fun j hj=>by have:=h.ha j hj;grind,fun j hj=>by cases hj;exact⟨by omega,h2,h.fr _ h1⟩,fun j k hj hk=>by cases hk;have:=h.ha j hj;omega,fun e=>(by rw[he];exact h.an e),fun e=>(by grind),fun j hj=>h.fr j (by omega)⟩
theorem GN.keep(h:GN H0 t a b x c)(hc:c<=c')(h1:a=none->y.1=[])(h2:b=none->y.2=[]):GN H0 t a b y c' :=
 ⟨by have:=h.tc;omega,fun i hi=>by have:=h.ha i hi;grind,fun i hi=>by have:=h.hb i hi;grind,h.ne,h1,h2,fun j hj=>h.fr j (by omega)⟩
end
section
variable {H0:Hp} {t c c' j:Nat} {a b:Option Nat} {mk:DV->DV->List DV} {x y:Cg} {B:Blk}
theorem D5l(h1:j≠t)(h2:a≠some j)(h3:b≠some j):(GM H0 t a b mk x).upd j B=GM (H0.upd j B) t a b mk x:=by
 funext i
 by_cases e:i=j
 ·subst e;rw[h_same,D5k h1 h2 h3,h_same]
 ·rw[h_ne e];unfold GM;cases a with
  |none =>
   cases b with
   |none=>simp only[optH,Hp.upd,if_neg e]
   |some b=>simp only[optH,Hp.upd,if_neg e]
  |some a =>
   cases b with
   |none=>simp only[optH,Hp.upd,if_neg e]
   |some b=>simp only[optH,Hp.upd,if_neg e]
theorem GN.com(h:GN H0 t a b x c)(hj:c<=j):(GM H0 t a b mk x).upd j B=GM (H0.upd j B) t a b mk x :=
 D5l (by have:=h.tc;omega) (fun e=>by have:=(h.ha j e).2.1;omega) (fun e=>by have:=(h.hb j e).2.1;omega)
theorem GN.box(h:GN H0 t a b x c)(hj:c<=j)(hc:j<c'):GN (H0.upd j B) t a b x c':=by
 have:=h.tc;exact⟨by omega,fun i hi=>by have:=h.ha i hi;exact⟨this.1,by omega,by rw[hnO];grind⟩,fun i hi=>by have:=h.hb i hi;exact⟨this.1,by omega,by rw[hnO];grind⟩,h.ne,h.an,h.bn,fun i hi=>by rw[hnO];exact h.fr i (by omega)⟩
theorem Q6(hj:H0 j=none)(ht:j≠t)(h:GN (H0.upd j B) t a b x c'):Sub (GM H0 t a b mk x) (GM (H0.upd j B) t a b mk x) :=
 A6l (A6u h) (fun i hi=>B5j h hi) (fun i hi=>B5i hi) (fun i Q hi hQ=>A6m h (by
  rw[h_ne (by rintro rfl;rw[hj]at hQ;cases hQ)];omega) hi)
theorem GN.unbox(h:GN (H0.upd j B) t a b x c')(hj:H0 j=none)(hc:c<=c')(hf:∀ i,c<=i->H0 i=none):GN H0 t a b x c' :=
 ⟨h.tc,fun i hi=>by
  have:=h.ha i hi;exact⟨this.1,this.2.1,by by_cases e:i=j;(· grind);(· have h3:=this.2.2;rw[h_ne e]at h3;omega)⟩,fun i hi=>by
  have:=h.hb i hi;exact⟨this.1,this.2.1,by by_cases e:i=j;(· grind);(· have h3:=this.2.2;rw[h_ne e]at h3;omega)⟩,h.ne,h.an,h.bn,fun i hi=>hf i (by omega)⟩
end
theorem B9b(l:List Ins)(i:Ins):K9 (l++[i])=K9 l++[I64 i.op,I64 i.A]:=by rw[N7,A5p]
theorem C3e(l m:List Ins)(op a z:Int):(K9 (l++⟨op,a⟩ :: m)).take (l.length * 2+1)++(I64 z).cells++(K9 (l++⟨op,a⟩ :: m)).drop (l.length * 2+1+1)=K9 (l++⟨op,z⟩ :: m):=by
 have e:∀ y:Int,l++(⟨op,y⟩:Ins) :: m=l++([⟨op,y⟩]++m):=fun _=>rfl;rw[e,e,N7,N7,N7,N7,A5p,A5p];have h:=A5q l;rw[List.take_append,List.drop_append,A0U (by omega),A2Y (by omega),h,show l.length * 2+1-l.length * 2=1 by omega,show l.length * 2+1+1-l.length * 2=2 by omega,A0L,A0L];rfl
theorem D4h{H0:Hp}{t c i:Nat}{a b:Option Nat}{mk:DV->DV->List DV}{x y:Cg}{B B2 B3:Blk}(h:GN H0 t a b x c)(hi:c<i)(h2:y.2=x.2)(e2:B2=⟨2,true,K9 y.1⟩)(e3:B3=gmB t (some i) b mk y):
  Sub (GM H0 t (some i) b mk y) (((delO ((GM H0 t a b mk x).upd c B) a).upd i B2).upd t B3):=by
 have:=h.tc;refine A6l ?_ (fun j hj=>?_) (fun j hj=>?_) (fun j Q hj hQ=>?_)
 ·rw[h_same,e3]
 ·cases hj;rw[hnO,h_same,e2]
 ·have q:=h.hb j hj;rw[h_ne q.1,hnO,B4 (fun k hk e=>h.ne k j hk hj e.symm),hnO,B5i hj,h2]
 ·have q:j<c:=A1X fun hc=>by rw[h.fr j hc]at hQ;grind
  rw[h_ne hj,hnO,B4 (fun k hk e=>by have:=(h.ha k hk).2.2;grind),hnO,A6m h hQ hj]
theorem D0o{H0:Hp}{t c i:Nat}{a b:Option Nat}{mk:DV->DV->List DV}{x y:Cg}{B B2 B3:Blk}(h:GN H0 t a b x c)(hi:c<i)(h2:y.1=x.1)(e2:B2=⟨1,true,txC y.2⟩)(e3:B3=gmB t a (some i) mk y):
  Sub (GM H0 t a (some i) mk y) (((delO ((GM H0 t a b mk x).upd c B) b).upd i B2).upd t B3):=by
 have:=h.tc;refine A6l ?_ (fun j hj=>?_) (fun j hj=>?_) (fun j Q hj hQ=>?_)
 ·rw[h_same,e3]
 ·have q:=h.ha j hj;rw[h_ne q.1,hnO,B4 (fun k hk e=>h.ne j k hj hk e),hnO,B5j h hj,h2]
 ·cases hj;rw[hnO,h_same,e2]
 ·have q:j<c:=A1X fun hc=>by rw[h.fr j hc]at hQ;grind
  rw[h_ne hj,hnO,B4 (fun k hk e=>by have:=(h.hb k hk).2.2;grind),hnO,A6m h hQ hj]
abbrev pcC(k:Ky)(b:DV):List DV:=[I64 k.mode,I64 k.trig,I64 k.ix,I64 0,b]
def ptC:List Nat->List B8->List DV
 |i :: is,p :: l=>pcC p.1 (.slc i 0 p.2.length)++ptC is l
 |_,_=>[]
abbrev bdB(b:List (List St)):Blk:=⟨1,true,b.map D2⟩
def U0(H0:Hp):List Nat->List B8->Hp
 |i :: is,p :: l=>(U0 H0 is l).upd i (bdB p.2)
 |_,_=>H0
def PM(H0:Hp)(o:Option Nat)(is:List Nat)(l:List B8):Hp:=optH (U0 H0 is l) o ⟨5,true,ptC is l⟩
structure PN (H0:Hp) (o:Option Nat) (is:List Nat) (l:List B8) (c:Nat):Prop where
 len:is.length=l.length
 nd:is.Nodup
 fi:∀ i∈is,i<c/\H0 i=none/\o≠some i
 fo:∀ i,o=some i->i<c/\H0 i=none
 no:o=none->l=[]
 fr:∀ j,c<=j->H0 j=none
theorem A9e{H0:Hp}{j:Nat}:∀ {is:List Nat} {l:List B8},j ∉ is->U0 H0 is l j=H0 j
 |[],_,_=>rfl
 |_ :: _,[],_=>rfl
 |i :: is,p :: l,h=>by
  rw[U0,h_ne (fun e=>h (by grind))];exact A9e fun hm=>h (A0F _ hm)
theorem B7m{H0:Hp}:∀ {is:List Nat} {l:List B8} {n i:Nat} {p:B8},is.Nodup->is[n]? = some i->l[n]? = some p->U0 H0 is l i=some (bdB p.2)
 |i :: is,p :: l,0,_,_,_,h1,h2=>by cases h1;cases h2;rw[U0];exact h_same
 |i :: is,p :: l,n+1,j,q,hn,h1,h2=>by
  obtain⟨a,b⟩:=A2S.1 hn;have hm:j∈is:=A0O h1;rw[U0,h_ne (fun e=>a (by grind))];exact B7m b h1 h2
theorem A7l{H0:Hp}{j:Nat}{B:Blk}:∀ {is:List Nat} {l:List B8},U0 H0 is l j=some B->H0 j=some B\/∃ (n:Nat) (p:B8),is[n]? = some j/\l[n]? = some p/\B=bdB p.2
 |[],_,h=>.inl h
 |_ :: _,[],h=>.inl h
 |i :: is,p :: l,h=>by
  rw[U0]at h;by_cases e:j=i
  ·subst e;rw[h_same]at h;cases h;exact .inr ⟨0,p,rfl,rfl,rfl⟩
  ·rw[h_ne e]at h;rcases A7l h with h|⟨n,q,a,b,c⟩
   ·grind
   ·exact .inr ⟨n+1,q,a,b,c⟩
section
variable {H0 X:Hp} {o:Option Nat} {is:List Nat} {l:List B8} {c c':Nat}
theorem C8w(h:PN H0 o is l c){n i:Nat}{p:B8}(h1:is[n]? = some i)(h2:l[n]? = some p):PM H0 o is l i=some (bdB p.2):=by
 rw[PM,B1 (fun j hj e=>(h.fi i (A0O h1)).2.2 (by grind))];exact B7m h.nd h1 h2
theorem C8v{i:Nat}(hi:o=some i):PM H0 o is l i=some ⟨5,true,ptC is l⟩:=by subst hi;exact h_same
theorem D9m{j:Nat}(h1:o≠some j)(h2:j ∉ is):PM H0 o is l j=H0 j:=by
 rw[PM,B1 (fun i hi e=>h1 (by grind)),A9e h2]
theorem A9u(h:PN H0 o is l c){j:Nat}{B:Blk}(hj:H0 j=some B):PM H0 o is l j=some B:=by
 rw[D9m (fun e=>by have:=(h.fo j e).2;grind) (fun hm=>by have:=(h.fi j hm).2.1;grind),hj]
theorem D5g(h:PN H0 o is l c){j:Nat}(hj:c<=j):PM H0 o is l j=none:=by
 rw[D9m (fun e=>by have:=(h.fo j e).1;omega) (fun hm=>by have:=(h.fi j hm).1;omega)];exact h.fr j hj
theorem B5f(h1:∀ (n i:Nat) (p:B8),is[n]? = some i->l[n]? = some p->X i=some (bdB p.2))(h2:∀ i,o=some i->X i=some ⟨5,true,ptC is l⟩)(h3:∀ j B,H0 j=some B->X j=some B):Sub (PM H0 o is l) X:=by
 intro j B hj;rw[PM]at hj;by_cases e:o=some j
 ·subst e;simp only[optH]at hj;rw[h_same]at hj;rw[<- hj];exact h2 j rfl
 rw[B1 (fun i hi e'=>e (by rw[e'];exact hi))]at hj;rcases A7l hj with h|⟨n,p,a,b,rfl⟩
 ·exact h3 j B h
 grind
end
theorem S5:∀ {is:List Nat} {l:List B8},is.length=l.length->(ptC is l).length=l.length * 5
 |[],[],_=>rfl
 |i :: is,p :: l,h=>by
  rw[ptC,A0D,S5 (Nat.succ.inj h)]
  grind
theorem B6h:∀ {is:List Nat} {l:List B8} {is':List Nat} {l':List B8},is.length=l.length->ptC (is++is') (l++l')=ptC is l++ptC is' l'
 |[],[],_,_,_=>rfl
 |i :: is,p :: l,_,_,h=>by
  rw[A0W,A0W,ptC,ptC,B6h (Nat.succ.inj h),A0L]
theorem B3o:∀ {is:List Nat} {l:List B8} {k i:Nat} {p:B8},is.length=l.length->is[k]? = some i->l[k]? = some p->((ptC is l).drop (k * 5)).take 5=pcC p.1 (.slc i 0 p.2.length)
 |i :: is,p :: l,0,_,_,_,h1,h2=>by cases h1;cases h2;rfl
 |i :: is,p :: l,k+1,j,q,hl,h1,h2=>by
  have e:(k+1) * 5=5+k * 5:=by omega
  rw[ptC,e, <- A3F];exact B3o (Nat.succ.inj hl) h1 h2
theorem B6g:∀ {is:List Nat} {l:List B8} {k i:Nat} {p q:B8},is.length=l.length->is[k]? = some i->l[k]? = some p->q.1=p.1->∀ j,(ptC is l).take (k * 5+4)++[.slc j 0 q.2.length]++(ptC is l).drop (k * 5+4+1)=ptC (is.set k j) (l.set k q)
 |i :: is,p :: l,0,_,_,q,_,h1,h2,h3,j=>by cases h1;cases h2;rw[List.set_cons_zero,List.set_cons_zero,ptC,ptC,h3];rfl
 |i :: is,p :: l,k+1,i',p',q,hl,h1,h2,h3,j=>by
  have ih:=B6g (Nat.succ.inj hl) h1 h2 h3 j;rw[A3W,A3W,ptC,ptC, <- ih,show (k+1) * 5+4=5+(k * 5+4) by omega,show 5+(k * 5+4)+1=5+(k * 5+4+1) by omega]
  grind
theorem C6n{is:List Nat}{l:List B8}(h:is.length=l.length)(k:Ky)(b:List St)(j:Nat):
  (ptC is l++pcC k .snil).take (l.length * 5+4)++[.slc j 0 1]++(ptC is l++pcC k .snil).drop (l.length * 5+4+1)=ptC (is++[j]) (l++[(k,[b])]):=by
 have hl:=S5 h;rw[B6h h,List.take_append,List.drop_append,A0U (by omega),A2Y (by omega),hl,show l.length * 5+4-l.length * 5=4 by omega,show l.length * 5+4+1-l.length * 5=5 by omega,A0L,A0L];rfl
theorem C2q{D:Nat}:∀ {is:List Nat} {n:Nat},is.Nodup->D ∉ is->(is.set n D).Nodup
 |[],_,_,_=>by simp
 |i :: is,0,h,hd=>by
  grind
 |i :: is,n+1,h,hd=>by
  rw[A3W];obtain⟨h1,h2⟩:=A2S.1 h;refine A2S.2 ⟨fun hm=>?_,C2q h2 fun hm=>hd (A0F _ hm)⟩
  grind
theorem C2r:∀ {is:List Nat} {k n q:Nat},is.Nodup->is[k]? = some q->is[n]? = some q->k=n
 |i :: is,0,0,_,_,_,_=>rfl
 |i :: is,0,n+1,q,h,h1,h2=>by
  grind
 |i :: is,k+1,0,q,h,h1,h2=>by
  grind
 |i :: is,k+1,n+1,q,h,h1,h2=>by rw[C2r (A2S.1 h).2 h1 h2]
theorem C2c{is:List Nat}{l:List B8}{k i:Nat}{p:B8}(hl:is.length=l.length)(h1:is[k]? = some i)(h2:l[k]? = some p):(ptC is l)[k * 5+4]? = some (.slc i 0 p.2.length):=by
 have h:=congrArg (fun z:List DV=>z[4]?) (B3o hl h1 h2)
 grind
def ixP(k:Ky):List B8->Nat->Int
 |[],_ => -1
 |p :: l,n=>if p.1=k then (n:Int) else ixP k l (n+1)
theorem B1n{k:Ky}:∀ {l:List B8} {n:Nat} {x:Int},ixP k l n=x->¬ x = -1->∃ (m:Nat) (a b:List B8) (q:List (List St)),l=a++(k,q) :: b/\m=a.length/\x=((n+m:Nat):Int)/\∀ s,G8 k s l=a++(k,q++[s]) :: b
 |[],n,x,h,hn=>absurd h.symm hn
 |p :: l,n,x,h,hn=>by
  rw[ixP]at h;by_cases e:p.1=k
  ·rw[if_pos e]at h;refine⟨0,[],l,p.2,by grind,rfl,h.symm,fun s=>?_⟩;rw[G8,if_pos e,e];rfl
  ·rw[if_neg e]at h;obtain⟨m,a,b,q,h1,h2,h3,h4⟩:=B1n h hn;refine⟨m+1,p :: a,b,q,by grind,by grind,by omega,fun s=>?_⟩;rw[G8,if_neg e,h4];rfl
theorem B1o{k:Ky}:∀ {l:List B8} {n:Nat},ixP k l n = -1->∀ s,G8 k s l=l++[(k,[s])]
 |[],n,h,s=>rfl
 |p :: l,n,h,s=>by
  rw[ixP]at h;by_cases e:p.1=k
  ·grind
  ·rw[if_neg e]at h;rw[G8,if_neg e,B1o h s];rfl
theorem C3c{k:Ky}{l:List B8}{p:B8}{n:Nat}(h:l[n]? = some p):ixP k (l.drop n) n=if p.1=k then (n:Int) else ixP k (l.drop (n+1)) (n+1):=by
 rw[List.drop_eq_getElem?_toList_append,h];rfl
section
variable {H0:Hp} {o:Option Nat} {is:List Nat} {l:List B8} {c c' j:Nat} {B:Blk}
theorem D5h(h1:o≠some j)(h2:j ∉ is):(PM H0 o is l).upd j B=PM (H0.upd j B) o is l:=by
 have key:∀ (is:List Nat) (l:List B8),j ∉ is->(U0 H0 is l).upd j B=U0 (H0.upd j B) is l:=by
  intro is
  induction is with
  |nil=>intro l _;rfl
  |cons i is ih =>
   intro l h;cases l with
   |nil=>rfl
   |cons p l =>
    rw[U0,U0, <- ih l (fun hm=>h (A0F _ hm))];have hji:j≠i:=fun e=>h (by grind)
    funext k
    by_cases e:k=j
    ·subst e;rw[h_same,h_ne hji,h_same]
    ·rw[h_ne e];by_cases e2:k=i
     ·subst e2;rw[h_same,h_same]
     ·rw[h_ne e2,h_ne e2,h_ne e]
 unfold PM;rw[<- key is l h2];cases o with
 |none=>rfl
 |some i =>
  have hji:j≠i:=fun e=>h1 (by rw[e])
  funext k
  simp only[optH];by_cases e:k=j
  ·subst e;rw[h_same,h_ne hji,h_same]
  ·rw[h_ne e];by_cases e2:k=i
   ·subst e2;rw[h_same,h_same]
   ·rw[h_ne e2,h_ne e2,h_ne e]
theorem PN.com(h:PN H0 o is l c)(hj:c<=j):(PM H0 o is l).upd j B=PM (H0.upd j B) o is l :=
 D5h (fun e=>by have:=(h.fo j e).1;omega) (fun hm=>by have:=(h.fi j hm).1;omega)
theorem PN.box(h:PN H0 o is l c)(hj:c<=j)(hc:j<c'):PN (H0.upd j B) o is l c' :=
 ⟨h.len,h.nd,fun i hi=>by have:=h.fi i hi;exact⟨by omega,by rw[hnO];grind,this.2.2⟩,fun i hi=>by have:=h.fo i hi;exact⟨by omega,by rw[hnO];grind⟩,h.no,fun i hi=>by rw[hnO];exact h.fr i (by omega)⟩
theorem PN.le(h:PN H0 o is l c)(hc:c<=c'):PN H0 o is l c' :=
 ⟨h.len,h.nd,fun i hi=>by have:=h.fi i hi;grind,fun i hi=>by have:=h.fo i hi;grind,h.no,fun i hi=>h.fr i (by omega)⟩
theorem A9v(hj:H0 j=none)(h:PN (H0.upd j B) o is l c'):Sub (PM H0 o is l) (PM (H0.upd j B) o is l) :=
 B5f (fun n i p h1 h2=>C8w h h1 h2) (fun i hi=>C8v hi) (fun i Q hQ=>A9u h (by rw[h_ne (by rintro rfl;rw[hj]at hQ;cases hQ)];omega))
theorem PN.unbox(h:PN (H0.upd j B) o is l c')(hj:H0 j=none)(hc:c<=c')(hf:∀ i,c<=i->H0 i=none):PN H0 o is l c' :=
 ⟨h.len,h.nd,fun i hi=>by
  have:=h.fi i hi;exact⟨this.1,by by_cases e:i=j;(· grind);(· have h3:=this.2.1;rw[h_ne e]at h3;omega),this.2.2⟩,fun i hi=>by
  have:=h.fo i hi;exact⟨this.1,by by_cases e:i=j;(· grind);(· have h3:=this.2;rw[h_ne e]at h3;omega)⟩,h.no,fun i hi=>hf i (by omega)⟩
end
def PB(n:Nat)(l:List B8):Prop:=l.length<=n/\∀ p∈l,p.2.length<=n
theorem PB.add{n:Nat}{k:Ky}{b:List St}:∀ {l:List B8},PB n l->PB (n+1) (G8 k b l)
 |[],_=>⟨by simp[G8],fun p hp=>by simp[G8]at hp;grind⟩
 |p :: l,⟨h1,h2⟩=>by
  rw[G8];split
  ·refine⟨by simp only[A0N]at h1 ⊢;omega,fun q hq=>?_⟩
   grind
  ·have key:∀ (n:Nat) (l:List B8),(∀ p∈l,p.2.length<=n)->(G8 k b l).length<=l.length+1/\∀ p∈G8 k b l,p.2.length<=n+1:=by
    intro n l
    induction l with
    |nil=>intro _;exact⟨by simp[G8],fun p hp=>by simp[G8]at hp;subst hp;simp⟩
    |cons p l ih =>
     intro h;obtain⟨i1,i2⟩:=ih fun q hq=>h q (A0F _ hq);rw[G8];split
     ·refine⟨by simp only[A0N];omega,fun q hq=>?_⟩;rcases A1A.1 hq with rfl|hq
      ·have:=h p A0I;simp only[A0D,A0K];omega
      ·have:=h q (A0F _ hq);omega
     ·refine⟨by simp only[A0N];omega,fun q hq=>?_⟩;rcases A1A.1 hq with rfl|hq
      ·have:=h q A0I;omega
      ·exact i2 q hq
   obtain⟨k1,k2⟩:=key n l fun q hq=>h2 q (A0F _ hq);refine⟨by simp only[A0N]at h1 ⊢;omega,fun q hq=>?_⟩
   grind
theorem PB.le{n m:Nat}{l:List B8}(h:PB n l)(hm:n<=m):PB m l:=⟨by have:=h.1;omega,fun p hp=>by have:=h.2 p hp;omega⟩
theorem B1s(nm:List UInt8->Int):∀ {M:List Md} {i k:Nat} {m:Md},M[i]? = some m->hkM nm k (M.take (i+1))=hkM nm k (M.take i)++m.hds.map (hdK nm (k+i))
 |[],_,_,_,h=>by grind
 |x :: M,0,k,m,h=>by
  cases h;simp[hkM]
 |x :: M,i+1,k,m,h=>by
  rw[A0T,A0T,hkM,hkM,B1s nm (i:=i) (k:=k+1) h,A0L,show k+1+i=k+(i+1) by omega]
theorem C0a(l:List B8)(q:List KB)(x:KB):D9 l (q++[x])=G8 x.1 x.2 (D9 l q):=by
 unfold D9;simp
theorem B2y(l:List B8)(a b:List KB):D9 l (a++b)=D9 (D9 l a) b:=by unfold D9;simp
def A3o(x:List UInt8):Nat->List (List UInt8)->Int
 |_,[] => -1
 |k,w :: l=>if (x == w)=true then (k:Int) else A3o x (k+1) l
section
variable {L:List Tok} {E:Int}
end
end Go.Pb
end
