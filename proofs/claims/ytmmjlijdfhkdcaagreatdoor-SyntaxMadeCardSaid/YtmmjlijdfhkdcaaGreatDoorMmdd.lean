/-
  HELPERS of the claim: part 4 of its texts.
-/
import Derived.Test.YtmmjlijdfhkdcaaGreatDoorMmdc
import Derived.ReadAgain
import Derived.ChangeBears
import Derived.Deep.Slices
import Derived.Below
import Derived.OpenShut
import Derived.Lib.LaidTab
import Derived.Lib.ParseIntB
import Derived.Lib.Bytealg
import Derived.KernelRfl
import Derived.Lib.Join
import Derived.Maps.RangeRun
noncomputable section
set_option linter.unusedVariables false
set_option linter.unusedSectionVars false
set_option linter.unusedSimpArgs false
namespace Go.Sym
variable [Go.Sym.Tab]
open Go.RowKit Go.Pb Go.Deep
section
variable {H:Type} {enc:TypeId × Value->H} {P:Program} {T:TypeId->Prop} {W W':World} {hT:TabOk W}
theorem arg_kept(K:Kids P T)(hz:∀ t e,T t->P.underlying t=some (.slice e)->0<P.cellsOf e)(hb:Below W.heap.size W W'){sp:Nat->Bool}:
  ∀ {ts:List TypeId} {vs:List Value} {ds:List (DataW H)} {ps:List MemPlace},(∀ t∈ts,T t)->DataW.TrodAll enc P W 0 (fun _=>true) true ts vs ds ps->(∀ p∈ps,sp p.block=true)->DataW.TrodAll enc P W' 0 sp true ts vs ds ps
 |[],[],[],_,_,h,_=>h
 |t :: ts,v :: vs,d :: ds,ps,hT,⟨p,q,h1,h2,e⟩,hs=>by
  have hlt:=h1;refine⟨p,q,?_,arg_kept K hz hb (fun t ht=>hT t (A1E.2 (Or.inr ht))) h2 (fun x hx=>hs x (by rw[e];exact List.mem_append_right _ hx)),e⟩;have h3:=h1.respare K hz (hT _ (A1E.2 (Or.inl rfl))) (spare':=sp) (fun x hx=>hs x (by rw[e];exact A2R _ hx));obtain⟨n,hn⟩:=h3;obtain⟨m,hm⟩:=h1;exact⟨n,DataW.trod_carry n _ _ _ hn fun x hx=>hb.same (DataW.trod_lt m _ _ _ hm x hx)⟩
theorem u8_of{n:Int}(h:(Lit.int .u8 n).wf=true):n=((UInt8.ofNat n.toNat).toNat:Int):=by
 have:=bounds_u8 h;simp;omega
theorem open_bytes{t e:TypeId}{v:Value}{d:DataW H}{ps:List MemPlace}(ht:P.underlying t=some (.slice e))(he:P.underlying e=some (.int .u8))(hc:P.cellsOf e=1)
  (h:DataW.Trod enc P W 0 (fun _=>true) true t v d ps) (hv:v.cells = #[v]):∃ l:List UInt8,l.length<=9223372036854775807/\VRel (topR W hT) (.lst (bytesC l)) v:=by
 obtain⟨n,hn⟩:=h;rcases open_slice1 ht hc hn with ⟨h1, -⟩|⟨a,len,cap,m,n',V,D,Pl,h1,h2,h3,h4,h5,h6,h7⟩
 ·rw[hv]at h1;have:v=.slice none 0 0:=by simpa using h1
  subst this;exact⟨[],by simp,.lnil0⟩
 ·rw[hv]at h1;have hva:v=.slice (some a) len cap:=by simpa using h1
  subst hva;simp only[if_true]at h5;have hk:∀ i,i<len->∃ k:Int,V i=.int .u8 k/\(Lit.int .u8 k).wf=true:=by
   intro i hi;obtain⟨k,q1,q2,q3⟩:=DataW.trod_int he (h7 i (by omega)).2;exact⟨k,by simpa using q1,q3⟩
  by_cases hl0:len=0
  ·subst hl0;exact⟨[],by simp,.lnil a cap⟩
  have hcell:=(h7 0 (by omega)).1;have hadd0:a.add 0=a:=by simp[Addr.add]
  rw[hadd0]at hcell;obtain⟨b,off,spot⟩:=a;have hspot:spot=none:=by
   simp only[World.cell?]at hcell;split at hcell
   ·split at hcell
    ·cases hcell
    ·rename_i h;cases spot with
     |none=>rfl
     |some s=>simp at h
   ·cases hcell
  subst hspot;have hrow:∃ row ty fr,W.heap[b]? = some (.cells row ty fr):=by
   simp only[World.cell?]at hcell;split at hcell
   ·rename_i row ty fr h;exact⟨row,ty,fr,h⟩
   ·cases hcell
  obtain⟨row,ty,fr,hb⟩:=hrow;have hget:∀ i,i<len->row[off+i]? = some (V i):=by
   intro i hi;have h8:=(h7 i (by omega)).1;have e1:(⟨b,off,none⟩:Addr).add i=⟨b,off+i,none⟩:=by
    unfold Addr.add;split
    ·rename_i h0;subst h0;rfl
    ·rfl
   rw[e1]at h8;simp only[World.cell?,hb]at h8;exact h8
  obtain⟨F,hF⟩:∃ F:Nat->UInt8, ∀ i,i<len->V i=.int .u8 ((F i).toNat:Int):=by
   have:∀ i, ∃ f:UInt8,i<len->V i=.int .u8 (f.toNat:Int):=fun i=>by
    by_cases hi:i<len
    ·obtain⟨k,q1,q2⟩:=hk i hi;exact⟨UInt8.ofNat k.toNat,fun _=>by rw[q1, <- u8_of q2]⟩
    ·exact⟨0,fun h=>absurd h hi⟩
   exact⟨fun i=>Classical.choose (this i),fun i hi=>Classical.choose_spec (this i) hi⟩
  refine⟨(List.range len).map F,by simp only[A0E,List.length_range];simp only[maxLen]at h4;omega,?_⟩;have hcl:A3 (bytesC ((List.range len).map F))=bytesC ((List.range len).map F):=Z5 (fun _=>rfl) _;have hlen:(bytesC ((List.range len).map F)).length=len:=by rw[A1e];simp
  refine .lst _ _ 1 b off cap row (B4c hb) hlen.symm h3 h4 (fun x hx=>by obtain⟨y, -,rfl⟩:=A1L.1 hx;rfl) ?_ ?_ ?_
  ·rw[hcl,hlen];have:=(A0X.1 (hget (len-1) (by omega))).1;omega
  ·rw[hcl];intro x hx;obtain⟨y, -,rfl⟩:=A1L.1 hx;rfl
  ·rw[hcl];intro k x y hx hy;have hkl:k<len:=by have:=(A0P.1 hx).1;omega
   rw[hget k hkl,hF k hkl]at hy;cases hy;have hx2:(bytesC ((List.range len).map F))[k]? = some (DV.int .u8 ((F k).toNat:Int)):=by simp[bytesC,hkl]
   rw[hx2]at hx;cases hx;exact .int _ _
end
section
variable {H:Type} {enc:TypeId × Value->H} {P:Program} {W W':World} {hT:TabOk W}
theorem open_arr4{t e:TypeId}{v:Value}{d:DataW H}{ps:List MemPlace}(ht:P.underlying t=some (.array 4 e))(he:P.underlying e=some (.int .u8))(hc:P.cellsOf e=1)
  (h:DataW.Trod enc P W 0 (fun _=>true) true t v d ps) (hv:∃ cs:Array Value,v=.agg cs/\cs.size=4) :
  ∃ a0 a1 a2 a3:Nat,a0<256/\a1<256/\a2<256/\a3<256/\VRel (topR W hT) (.agg [.int .u8 (a0:Int),.int .u8 (a1:Int),.int .u8 (a2:Int),.int .u8 (a3:Int)]) v:=by
 obtain⟨cs,rfl,hs⟩:=hv;obtain⟨n,hn⟩:=h;obtain⟨xs,m, -, -, -,h3,h4⟩:=DataW.trod_array ht hn;obtain⟨x0,x1,x2,x3,hcs⟩:∃ x0 x1 x2 x3,cs.toList=[x0,x1,x2,x3]:=by
  have:cs.toList.length=4:=by simpa using hs
  match hl:cs.toList,this with
  |[x0,x1,x2,x3],_=>exact⟨x0,x1,x2,x3,rfl⟩
 have hcell:(Value.agg cs).cells.toList=[x0,x1,x2,x3]:=by simpa[Value.cells] using hcs
 have one:∀ i,i<4->∃ k:Int,[x0,x1,x2,x3][i]? = some (.int .u8 k)/\(Lit.int .u8 k).wf=true:=by
  intro i hi;have h5:=h4 i hi;rw[hc,hcell,Nat.mul_one,A0B (by omega)]at h5;obtain⟨k,q1,q2,q3⟩:=DataW.trod_int he h5;refine⟨k,?_,q3⟩
  match i,hi with
  |0,_=>simpa using q1
  |1,_=>simpa using q1
  |2,_=>simpa using q1
  |3,_=>simpa using q1
 obtain⟨k0,e0,f0⟩:=one 0 (by omega);obtain⟨k1,e1,f1⟩:=one 1 (by omega);obtain⟨k2,e2,f2⟩:=one 2 (by omega);obtain⟨k3,e3,f3⟩:=one 3 (by omega);have b0:=bounds_u8 f0;have b1:=bounds_u8 f1;have b2:=bounds_u8 f2;have b3:=bounds_u8 f3;simp at e0 e1 e2 e3;subst e0 e1 e2 e3;have ha:cs = #[.int .u8 k0,.int .u8 k1,.int .u8 k2,.int .u8 k3]:=by rw[<- Array.toList_inj];exact hcs
 subst ha;refine⟨k0.toNat,k1.toNat,k2.toNat,k3.toNat,by omega,by omega,by omega,by omega,?_⟩;have c0:((k0.toNat:Nat):Int)=k0:=by omega
 have c1:((k1.toNat:Nat):Int)=k1:=by omega
 have c2:((k2.toNat:Nat):Int)=k2:=by omega
 have c3:((k3.toNat:Nat):Int)=k3:=by omega
 rw[c0,c1,c2,c3];refine .agg _ _ rfl (fun i x y hx hy=>?_);rcases i with _|_|_|_|i
 ·cases hx;cases hy;exact .int _ _
 ·cases hx;cases hy;exact .int _ _
 ·cases hx;cases hy;exact .int _ _
 ·cases hx;cases hy;exact .int _ _
 grind
end
end Go.Sym
namespace Go.Pb
variable [Go.Sym.Tab]
open Go.Sym
theorem L7{s t:List UInt8}(h:s.length+t.length<=9223372036854775807):binR .add (.str s) (.str t)=some (.str (s++t)):=A3q (by assumption)
def W6(d:Nat):UInt8:=UInt8.ofNat (48+d)
def A6n(n:Nat):List UInt8:=if n<10 then [W6 n] else A6n (n / 10)++[W6 (n % 10)]
termination_by n
decreasing_by omega
theorem A2y{n:Nat}(h:n<10):A6n n=[W6 n]:=by rw[A6n,if_pos h]
theorem A4z{n:Nat}(h:¬n<10):A6n n=A6n (n / 10)++[W6 (n % 10)]:=by rw[A6n,if_neg h]
theorem B3m:∀ (k n:Nat),n<10 ^ (k+1)->(A6n n).length<=k+1
 |0,n,h=>by rw[A2y (by omega)];simp
 |k+1,n,h=>by
  by_cases h0:n<10
  ·rw[A2y h0];simp
  ·rw[A4z h0,A0A];have:=B3m k (n / 10) (by rw[Nat.pow_succ]at h;omega)
   grind
def J6(n:Int):List UInt8:=if n<0 then 45 :: A6n n.natAbs else A6n n.natAbs
theorem A1z{n:Int}(h1 : -9223372036854775808<=n)(h2:n<=9223372036854775807):(J6 n).length<=21:=by
 have:=B3m 19 n.natAbs (by omega);unfold J6;grind
theorem D1y{d:Nat}(h:d<10):IntKind.u8.wrap (IntKind.i64.wrap (48+(d:Int)))=((W6 d).toNat:Int):=by
 rw[w6z (by omega),wu8 (by omega) (by omega),W6];simp;omega
def U8(n:Int):Nat:=n.natAbs % 10
def Y4(n:Int):Nat:=n.natAbs / 10
theorem B7p(n:Int):U8 n<10:=by unfold U8;omega
theorem B7s{n:Int}(h:n≠0):Y4 n<n.natAbs:=by unfold Y4;omega
theorem C5h{n:Int}(h:n<0):n.tdiv 10 = -((Y4 n:Nat):Int):=by
 unfold Y4
 grind
theorem C5g{n:Int}(h:n<0):n.tmod 10 = -((U8 n:Nat):Int):=by
 unfold U8
 grind
theorem C4z{n:Int}(h:0<=n):n.tdiv 10=((Y4 n:Nat):Int):=by
 unfold Y4
 grind
theorem C4y{n:Int}(h:0<=n):n.tmod 10=((U8 n:Nat):Int):=by
 unfold U8
 grind
theorem B9j{n:Int}(h:n<0)(h1:Y4 n=0):J6 n=[45]++[W6 (U8 n)]:=by
 unfold Y4 at h1;have h2:n.natAbs<10:=by omega
 have h3:U8 n=n.natAbs:=by unfold U8;omega
 rw[J6,if_pos h,A2y h2,h3];rfl
theorem C3h{n:Int}(h:n<0)(h1:Y4 n≠0):J6 n=J6 (-(Y4 n:Int))++[W6 (U8 n)]:=by
 have h2:¬n.natAbs<10:=by unfold Y4 at h1;omega
 rw[J6,if_pos h,A4z h2,J6,if_pos (by omega),Int.natAbs_neg,Int.natAbs_natCast];rfl
theorem C6o{n:Int}(h:0<=n)(h1:n<10):J6 n=[W6 (U8 n)]:=by
 have h3:U8 n=n.natAbs:=by unfold U8;omega
 rw[J6,if_neg (by omega),A2y (by omega),h3]
theorem C6p{n:Int}(h:¬n<10):J6 n=J6 (Y4 n:Int)++[W6 (U8 n)]:=by
 rw[J6,if_neg (by omega),A4z (by omega),J6,if_neg (by omega),Int.natAbs_natCast];rfl
abbrev I6(n:Int):Prop := -9223372036854775808<=n/\n<=9223372036854775807
structure Tok where
 kind:Int
 text:List UInt8
 value:Int
 pos:Int
deriving DecidableEq
abbrev Tok.v(t:Tok):DV:=.agg [I64 t.kind,.str t.text,I64 t.value,I64 t.pos]
abbrev D9(l:List Tok):DV:=.lst (l.map Tok.v)
theorem E4(l:List Tok):∀ x∈l.map Tok.v,x.cells.length=4:=by
 intro x hx;obtain⟨y, -,rfl⟩:=A1L.1 hx;rfl
@[simp]theorem K1(l:List Tok):DV.nlL (l.map Tok.v)=true:=O3 (fun _=>rfl) l
def ltB(c:UInt8):Bool:=(decide (97<=c.toNat) && decide (c.toNat<=122)) || (decide (65<=c.toNat) && decide (c.toNat<=90))
def dgB(c:UInt8):Bool:=decide (48<=c.toNat) && decide (c.toNat<=57)
def ptB(c:UInt8):Bool:=ltB c || dgB c || decide (c.toNat=95)
def E2(p:UInt8->Bool):List UInt8->Nat
 |[]=>0
 |c :: r=>if p c=true then E2 p r+1 else 0
theorem Y7(p:UInt8->Bool):∀ s:List UInt8,E2 p s<=s.length
 |[]=>A0J _
 |c :: r=>by
  have:=Y7 p r;simp only[E2,A0I];grind
theorem A7c{p:UInt8->Bool}:∀ {s:List UInt8} {k:Nat} {c:UInt8},s[k]? = some c->k<=E2 p s->(p c=true->k+1<=E2 p s)/\(p c=false->E2 p s=k)
 |[],k,c,h,_=>by grind
 |x :: r,0,c,h,_=>by
  cases h;simp only[E2]
  grind
 |x :: r,k+1,c,h,hk=>by
  simp only[E2]at hk ⊢;split at hk
  ·rename_i hx;rw[if_pos hx];have:=A7c (p:=p) (s:=r) (k:=k) (c:=c) (by simpa using h) (by omega);exact⟨fun h=>by have:=this.1 h;omega,fun h=>by have:=this.2 h;omega⟩
  omega
theorem B2e{p:UInt8->Bool}{s:List UInt8}{k:Nat}(h:s.length<=k)(hk:k<=E2 p s):E2 p s=k:=by
 have:=Y7 p s;omega
def A6l(c:UInt8):Bool:=decide (c.toNat=9) || decide (c.toNat=10) || decide (c.toNat=13) || decide (c.toNat=32)
def skM:Bool->List UInt8->Nat
 |_,[]=>0
 |true,c :: r=>if c.toNat=10 then skM false r+1 else skM true r+1
 |false,c :: r=>if A6l c=true then skM false r+1 else if c.toNat=35 then skM true r+1 else 0
theorem A0w:∀ (b:Bool) (s:List UInt8),skM b s<=s.length
 |_,[]=>by simp[skM]
 |true,c :: r=>by
  have h1:=A0w true r;have h2:=A0w false r;simp only[skM,A0I];grind
 |false,c :: r=>by
  have h1:=A0w true r;have h2:=A0w false r;simp only[skM,A0I];grind
theorem B2g:∀ (s:List UInt8),skM true s=E2 (fun c=>decide (c.toNat≠10)) s+skM false (s.drop (E2 (fun c=>decide (c.toNat≠10)) s))
 |[]=>by rfl
 |c :: r=>by
  by_cases h:c.toNat=10
  ·simp[skM,E2,h,A6l]
  ·have ih:=B2g r;simp only[skM,E2,h,if_false,ne_eq,not_false_eq_true,decide_true,if_true,List.drop_succ_cons]at ih ⊢;omega
def w8(l:List Nat):List UInt8:=l.map UInt8.ofNat
def E9:List (List UInt8):=[w8 [115,119,105,116,99,104],w8 [99,111,105,108],w8 [108,97,109,112],w8 [115,111,117,110,100],w8 [115,104,111,119],w8 [118,97,114],w8 [116,105,109,101,114],w8 [101,118,101,110,116],w8 [109,111,100,101],w8 [111,110],w8 [115,116,97,114,116],w8 [115,116,111,112],w8 [99,108,111,115,101],w8 [111,112,101,110],w8 [105,102],w8 [101,108,115,101],w8 [114,101,112,101,97,116],w8 [115,99,111,114,101],w8 [102,105,114,101],w8 [104,111,108,100],w8 [114,101,108,101,97,115,101],w8 [108,105,103,104,116],w8 [98,108,105,110,107],w8 [98,101,103,105,110],w8 [101,110,100],w8 [112,111,115,116],w8 [112,108,97,121],w8 [114,117,110],w8 [104,97,108,116],w8 [116,101,120,116],w8 [99,111,110,115,117,109,101],w8 [99,108,111,115,101,100],w8 [97,99,116,105,118,101],w8 [108,101,102,116],w8 [112,108,97,121,101,114],w8 [98,97,108,108],w8 [116,114,117,101],w8 [102,97,108,115,101]]
def G3(s:List UInt8):Bool:=E9.contains s
def C4(s:List UInt8):Bool:=decide (1<=s.length) && decide (s.length<=12) && (match s with|c :: _=>ltB c |[]=>false) && decide (E2 ptB s=s.length) && !G3 s
def quM:List UInt8->Option (List UInt8 × Nat)
 |[]=>none
 |c :: r =>
  if c.toNat=34 then some ([],1)
  else if c.toNat<32\/126<c.toNat then none
  else if c.toNat=92 then match r with
   |[]=>none
   |d :: q=>if d.toNat=34\/d.toNat=92 then (quM q).map fun x=>(d :: x.1,x.2+2) else none
  else (quM r).map fun x=>(c :: x.1,x.2+1)
def S9(s:List UInt8):Nat:=s.foldl (fun n c=>10 * n+(c.toNat-48)) 0
theorem B8s{s:List UInt8}{k:Nat}{c:UInt8}(h:s[k]? = some c):S9 (s.take (k+1))=10 * S9 (s.take k)+(c.toNat-48):=by
 unfold S9;rw[A1D,h,List.foldl_append];rfl
def B0k(c d:UInt8):Bool:=[(60,61),(62,61),(61,61),(33,61),(38,38),(124,124)].contains (c.toNat,d.toNat)
def B2u(c:UInt8):Bool:=[123,125,40,41,59,44,61,43,45,42,47,37,33,60,62].contains c.toNat
def P8:List UInt8->Nat
 |c :: d :: _=>if B0k c d=true then 2 else if B2u c=true then 1 else 0
 |[c]=>if B2u c=true then 1 else 0
 |[]=>0
structure Nx where
 kind:Int
 text:List UInt8
 value:Int
 n:Nat
 err:Int
def nxE(e:Int):Nx:=⟨0,[],0,0,e⟩
def D2:List UInt8->Nx
 |[]=>nxE 47
 |c :: r =>
  if ltB c=true then
   if 12<E2 ptB (c :: r) then nxE 9 else ⟨if G3 ((c :: r).take (E2 ptB (c :: r)))=true then 2 else 1,(c :: r).take (E2 ptB (c :: r)),0,E2 ptB (c :: r),0⟩
  else if dgB c=true then
   if 1<E2 dgB (c :: r)/\c.toNat=48 then nxE 47
   else if 2147483647<S9 ((c :: r).take (E2 dgB (c :: r))) then nxE 5
   else ⟨3,[],(S9 ((c :: r).take (E2 dgB (c :: r))):Int),E2 dgB (c :: r),0⟩
  else if c.toNat=34 then match quM r with
   |none=>nxE 48
   |some x=>if 32<x.1.length then nxE 9 else ⟨4,x.1,0,x.2+1,0⟩
  else if P8 (c :: r)=0 then nxE 47 else ⟨5,(c :: r).take (P8 (c :: r)),0,P8 (c :: r),0⟩
def Q9:Nat->List UInt8->Nat->List Tok->List Tok × Int × Int
 |0,_,_,acc=>(acc,0,0)
 |f+1,src,at_,acc =>
  if src.length<=at_ then (acc,0,0)
  else if (D2 (src.drop at_)).err≠0 then ([],(at_:Int),(D2 (src.drop at_)).err)
  else Q9 f src (at_+(D2 (src.drop at_)).n+skM false (src.drop (at_+(D2 (src.drop at_)).n)))
   (acc++[⟨(D2 (src.drop at_)).kind,(D2 (src.drop at_)).text,(D2 (src.drop at_)).value,(at_:Int)⟩])
def G5(s:List UInt8):List Tok × Int × Int:=if 20000<s.length then ([],0,9) else Q9 (s.length+1) s (skM false s) []
abbrev C0w(q:List Tok × Int × Int):DV:=.tup [D9 q.1,I64 q.2.1,I64 q.2.2]
theorem C1k:∀ {s t:List UInt8} {n:Nat},quM s=some (t,n)->1<=n/\n<=s.length/\t.length<=n
 |[],t,n,h=>by trivial
 |c :: r,t,n,h=>by
  unfold quM at h;split at h
  ·grind
  ·split at h
   ·grind
   ·split at h
    ·cases r with
     |nil=>grind
     |cons d q =>
      simp only at h;split at h
      ·obtain⟨⟨t',n'⟩,h1,h2⟩:=A0R.1 h;have:=C1k h1;cases h2;simp only[A0I];omega
      grind
    ·obtain⟨⟨t',n'⟩,h1,h2⟩:=A0R.1 h;have:=C1k h1
     grind
theorem C0r:∀ s:List UInt8,P8 s<=s.length
 |[]=>by trivial
 |[c]=>by simp only[P8];grind
 |c :: d :: r=>by simp only[P8,A0I];grind
theorem B1c{s:List UInt8}(h:(D2 s).err=0):1<=(D2 s).n/\(D2 s).n<=s.length:=by
 cases s with
 |nil=>trivial
 |cons c r =>
  have hp:=Y7 ptB (c :: r);have hd:=Y7 dgB (c :: r);have hs:=C0r (c :: r);simp only[D2]at h ⊢;split
  ·rename_i hc;rw[if_pos hc]at h;split
   ·rename_i h1;rw[if_pos h1]at h;trivial
   ·have:1<=E2 ptB (c :: r):=by simp[E2,ptB,hc]
    grind
  ·rename_i hc;rw[if_neg hc]at h;split
   ·rename_i hc2;rw[if_pos hc2]at h;split
    ·rename_i h1;rw[if_pos h1]at h;trivial
    ·rename_i h1;rw[if_neg h1]at h;split
     ·rename_i h2;rw[if_pos h2]at h;trivial
     ·have:1<=E2 dgB (c :: r):=by simp[E2,hc2]
      grind
   ·rename_i hc2;rw[if_neg hc2]at h;split
    ·rename_i hc3;rw[if_pos hc3]at h;cases hq:quM r with
     |none=>rw[hq]at h;trivial
     |some x =>
      obtain⟨t,n⟩:=x;rw[hq]at h;simp only at h ⊢;have:=C1k hq;split
      ·rename_i h1;rw[if_pos h1]at h;simp[nxE]at h
      grind
    ·rename_i hc3;rw[if_neg hc3]at h;split
     ·rename_i h1;rw[if_pos h1]at h;simp[nxE]at h
     grind
end Go.Pb
namespace Go.Sym
variable [Go.Sym.Tab]
open Go.RowKit Go.Pb Go.Deep Go.ChangeShapes
theorem B1x{P:Program}{w:World}{n:String}{g:Nat}{cs:Array Value}(e1:P.globalNamed n=some g)(e3:w.var? P n=some cs):B1y w g=some cs:=by
 unfold World.var? at e3;rw[e1,Option.bind_some]at e3;unfold B1y;split at e3
 ·rename_i r ty fr hh;cases e3;rw[hh]
 ·cases e3
theorem A7z{P:Program}{w:World}{n:String}{d:DataW Unit}:∀ {l:List (String × DataW Unit)} {ps:List MemPlace},DataW.LaidVars P w l ps->(n,d)∈l ->
  ∃ g t cs fuel p,P.globalNamed n=some g/\(P.globals[g]?).map (·.type)=some t/\w.var? P n=some cs/\DataW.trod (fun _=>()) P w 0 (fun _=>true) false fuel t cs.toList=some (d,p)
 |[],ps,_,hm=>by cases hm
 |(n',d') :: l,ps,h,hm=>by
  obtain⟨g,t,cs,fuel,p,q,h1,h2,h3,h4,h5, -⟩:=h;rcases A1E.1 hm with e|hm
  ·cases e;exact⟨g,t,cs,fuel,p,h1,h2,h3,h4⟩
  ·exact A7z h5 hm
theorem laid_tab{P:Program}{w:World}{n:String}{d:DataW Unit}{l:List (String × DataW Unit)}{g t e m:Nat}{k:IntKind}{zs:List Int}(h:laidMet P l w)(hm:(n,d)∈l)(hg:P.globalNamed n=some g)
  (ht:(P.globals[g]?).map (·.type)=some t) (hu:P.underlying t=some (.array m e)) (he:P.underlying e=some (.int k)) (hce:P.cellsOf e=1) (hct:P.cellsOf t=m) (hd:d=Lib.tabData k zs) :
  ∃ r,B1y w g=some r/\r=(zs.map fun z=>Value.int k z).toArray:=by
 obtain⟨ps,h1, -⟩:=h;obtain⟨g',t',cs,fuel,p,e1,e2,e3,e4⟩:=A7z h1 hm;rw[hg]at e1;cases e1;rw[ht]at e2;cases e2;rw[hd]at e4;have hc:=Lib.cells_of_tab hu he hce hct e4;exact⟨cs,B1x hg e3,Array.toList_inj.1 (hc.trans (by simp))⟩
theorem B1v{P:Program}{w:World}{fuel:Nat}{t:TypeId}{ms}{cs:List Value}{nm:String}{d:DataW Unit}{p:List MemPlace}(hu:P.underlying t=some (.interface ms))
  (h:DataW.trod (fun _=>()) P w 0 (fun _=>true) false fuel t cs=some (.iface nm d,p)):∃ te pe,cs=[.iface te pe]:=by
 cases fuel with
 |zero=>simp[DataW.trod]at h
 |succ fuel =>
  simp only[DataW.trod,hu]at h;split at h<;>first|exact⟨_,_,rfl⟩|(simp_all;done)
theorem laid_err{P:Program}{w:World}{n:String}{nm:String}{d:DataW Unit}{l:List (String × DataW Unit)}{g t:Nat}{ms}(h:laidMet P l w)(hm:(n,DataW.iface nm d)∈l)(hg:P.globalNamed n=some g)
  (ht:(P.globals[g]?).map (·.type)=some t) (hu:P.underlying t=some (.interface ms)):∃ r,B1y w g=some r/\∃ te pe,r = #[.iface te pe]:=by
 obtain⟨ps,h1, -⟩:=h;obtain⟨g',t',cs,fuel,p,e1,e2,e3,e4⟩:=A7z h1 hm;rw[hg]at e1;cases e1;rw[ht]at e2;cases e2;obtain⟨te,pe,e5⟩:=B1v hu e4;exact⟨cs,B1x hg e3,te,pe,Array.toList_inj.1 e5⟩
section
variable {H:Type} {enc:TypeId × Value->H} {P:Program} {W W':World} {hT:TabOk W}
end
open Go.Eng (IC)
def V8(p:Prop):Prop:=p
theorem G0{p:Prop}(h:V8 p):p:=h
theorem IW.stage{P:Program}{N:Nat}{x:IC}{T:Tm}{H:Hp}{c:Nat}{Q:Exit->St->Prop}{L:List (Nat × DV)}(hT:C5 L T)(h:IW P N x ⟨tm L,H,c⟩ Q):V8 (IW P N x ⟨T,H,c⟩ Q):=IW.weaken (U1 hT) (Sub.refl _) h
open Go.Eng (Opd FOp AOp EOp IOp IOper DReg IC RV IFn trC A5f M8 G6)
def pre:IC->List IC
 |.seq x y=>.seq x y :: (pre x++pre y)
 |.cond o x y=>.cond o x y :: (pre x++pre y)
 |.blk i x=>.blk i x :: pre x
 |.loop x=>.loop x :: pre x
 |x=>[x]
def szC:IC->Nat
 |.seq x y=>szC x+szC y+1
 |.cond o x y=>szC x+szC y+1
 |.blk i x=>szC x+1
 |.loop x=>szC x+1
 |x=>1
theorem C1q(t:IC):(pre t).length=szC t:=by
 induction t<;>simp_all[pre,szC]
def B5k(k:Nat):List Nat->List Nat
 |[]=>[k]
 |a :: l=>match Nat.blt k a with
  |true=>k :: a :: l
  |false=>match Nat.beq k a with
   |true=>a :: l
   |false=>a :: B5k k l
def B8g:List Nat->List Nat->List Nat
 |[],m=>m
 |a :: l,m=>B5k a (B8g l m)
def rmS(k:Nat):List Nat->List Nat
 |[]=>[]
 |a :: l=>match Nat.beq k a with
  |true=>l
  |false=>a :: rmS k l
def opS:Opd->List Nat
 |.t n=>[n]
 |_=>[]
def B0z:List IOper->List Nat->List Nat
 |[],out=>out
 |o :: r,out=>B8g o.sees (match o.dst with
  |some d=>rmS d (B0z r out)
  |none=>B0z r out)
def slR:List RV->List Nat
 |[]=>[]
 |.tmp t :: r=>B5k t (slR r)
 |.cell a _ _ :: r=>B5k a (slR r)
def upE(ex:Nat->List Nat)(i:Nat)(L:List Nat)(j:Nat):List Nat:=match Nat.beq i j with
 |true=>L
 |false=>ex j
def rgS:Eng.Rg->List Nat->List Nat
 |.bad,_=>[]
 |.r1 io m it,out=>B0z io (B5k m (rmS it out))
 |.r2 it n io,out=>B5k it (rmS n (B0z io out))
 |.r3 it e io,out=>B5k it (rmS e (B0z io out))
def lvC(rl:List Nat):IC->List Nat->(Nat->List Nat)->List Nat
 |.skip,out,_=>out
 |.exit i,_,ex=>ex i
 |.ret,_,_=>rl
 |.bad,_,_=>[]
 |.rg r,out,_=>rgS r out
 |.reg r,out,_=>B0z r out
 |.drw _ d,out,_=>B0z d.ops out
 |.seq x y,out,ex=>lvC rl x (lvC rl y out ex) ex
 |.cond o x y,out,ex=>B8g (opS o) (B8g (lvC rl x out ex) (lvC rl y out ex))
 |.blk i x,out,ex=>lvC rl x out (upE ex i out)
 |.loop x,_,ex=>lvC rl x [] ex
def chC(h:Nat->IC)(k:Nat):IC->IC
 |.skip=>.skip
 |.exit i=>.exit i
 |.ret=>.ret
 |.bad=>.bad
 |.rg r=>.rg r
 |.loop _=>.loop (h (k+1))
 |_=>h k
def C5l:Nat->List (Nat × Option (List Nat))->List IOper->Nat
 |k,(_,some []) :: p,⟨_,.pur _,_⟩ :: r=>2 ^ k+C5l (k+1) p r
 |k,_ :: p,_ :: r=>C5l (k+1) p r
 |_,_,_=>0
def eqO:Option (List Nat)->Option (List Nat)->Bool
 |none,none=>true
 |some [],some []=>true
 |_,_=>false
def eqP:List (Nat × Option (List Nat))->List (Nat × Option (List Nat))->Bool
 |[],[]=>true
 |(a,x) :: p,(b,y) :: q=>Nat.beq a b && eqO x y && eqP p q
 |_,_=>false
theorem D1v{x y:Option (List Nat)}(h:eqO x y=true):x=y:=by
 unfold eqO at h;grind
theorem C3c:∀ {p q:List (Nat × Option (List Nat))},eqP p q=true->p=q
 |[],[],_=>rfl
 |(a,x) :: p,(b,y) :: q,h=>by
  simp only[eqP,A0D]at h;rw[A3K h.1.1,D1v h.1.2,C3c h.2]
 |[],_ :: _,h=>by trivial
 |_ :: _,[],h=>by trivial
def asM(r:List IOper)(p:List (Nat × Option (List Nat)))(m:Nat):Option Nat:=match eqP (A8r m 0 r) p with
 |true=>some m
 |false=>none
inductive PD where
 |S (r:List IOper) (y:IC) (L:List Nat)
 |E (r:List IOper) (L:List Nat)
 |P (r:List IOper) (y:IC) (e n:Nat) (L:List Nat)
 |F (r:List IOper) (e n:Nat) (L:List Nat)
 |D (r:List IOper) (y:IC) (p:List (Nat × Option (List Nat))) (n:Nat) (L:List Nat)
 |G (r:List IOper) (p:List (Nat × Option (List Nat))) (n:Nat) (L:List Nat)
 |C (x y z:IC) (o:Opd) (L:List Nat)
 |K (x z:IC) (o:Opd) (L:List Nat)
 |B (x y:IC) (i:Nat) (L:List Nat)
 |J (x:IC) (i:Nat) (L:List Nat)
 |Q (x y:IC) (L:List Nat)
 |X (x:IC)
def PD.ic:PD->IC
 |.S r y _=>.seq (.reg r) y
 |.E r _=>.reg r
 |.P r y e n _=>.seq (.drw n (dQ r e)) y
 |.F r e n _=>.drw n (dQ r e)
 |.D r y p n _=>.seq (.drw n ⟨r,[],p⟩) y
 |.G r p n _=>.drw n ⟨r,[],p⟩
 |.C x y z o _=>.seq (.cond o x z) y
 |.K x z o _=>.cond o x z
 |.B x y i _=>.seq (.blk i x) y
 |.J x i _=>.blk i x
 |.Q x y _=>.seq x y
 |.X x=>x
def fuC(h:Nat->IC)(k:Nat)(x y:IC)(L:List Nat):PD:=match x with
 |.reg r=>.S r y L
 |.drw n ⟨r,[],p⟩=>match asM r p (C5l 0 p r) with
  |some m=>.P r y m n L
  |none=>.D r y p n L
 |.cond o a b=>.C (chC h (k+1) a) y (chC h (k+1+szC a) b) o L
 |.blk i a=>.B (chC h (k+1) a) y i L
 |x=>.Q (chC h k x) y L
def B8q(h:Nat->IC)(k:Nat)(x:IC)(L:List Nat):PD:=match x with
 |.reg r=>.E r L
 |.drw n ⟨r,[],p⟩=>match asM r p (C5l 0 p r) with
  |some m=>.F r m n L
  |none=>.G r p n L
 |.cond o a b=>.K (chC h (k+1) a) (chC h (k+1+szC a) b) o L
 |.blk i a=>.J (chC h (k+1) a) i L
 |x=>.X x
def D8q:IC->Bool
 |.reg _=>true
 |.drw _ _=>true
 |.cond _ _ _=>true
 |.blk _ _=>true
 |_=>false
def tlC(b:Bool)(l:List (Nat × PD)):List (Nat × PD):=match b with
 |true=>l.tail
 |false=>l
def flC(h:Nat->IC)(rl:List Nat):IC->Nat->List Nat->(Nat->List Nat)->List Nat × List (Nat × PD)
 |.skip,_,out,_=>(out,[])
 |.exit i,_,_,ex=>(ex i,[])
 |.ret,_,_,_=>(rl,[])
 |.bad,_,_,_=>([],[])
 |.rg r,_,out,_=>(rgS r out,[])
 |.reg r,k,out,_=>match B0z r out with
  |L=>(L,[(k,B8q h k (.reg r) L)])
 |.drw n d,k,out,_=>match B0z d.ops out with
  |L=>(L,[(k,B8q h k (.drw n d) L)])
 |.seq x y,k,out,ex=>match flC h rl y (k+1+szC x) out ex with
  |(Ly,ly)=>match flC h rl x (k+1) Ly ex with
   |(Lx,lx)=>(Lx,(k,fuC h (k+1) x (chC h (k+1+szC x) y) Lx) :: (tlC (D8q x) lx++ly))
 |.cond o x y,k,out,ex=>match flC h rl x (k+1) out ex with
  |(Lx,lx)=>match flC h rl y (k+1+szC x) out ex with
   |(Ly,ly)=>match B8g (opS o) (B8g Lx Ly) with
    |L=>(L,(k,B8q h k (.cond o x y) L) :: (lx++ly))
 |.blk i x,k,out,ex=>match flC h rl x (k+1) out (upE ex i out) with
  |(L,l)=>(L,(k,B8q h k (.blk i x) L) :: l)
 |.loop x,k,_,ex=>match lvC rl x [] ex with
  |L=>(L,(flC h rl x (k+1) L ex).2)
def Num(h:Nat->IC)(k:Nat)(t:IC):Prop:=∀ j x,(pre t)[j]? = some x->h (k+j)=x
section
variable {h:Nat->IC} {k:Nat} {x y t:IC}
theorem Num.self(n:Num h k t):h k=t:=by
 have:=n 0 t (by cases t<;>simp[pre]);omega
theorem Num.sub{l:List IC}{i:Nat}(n:Num h k t)(e:∀ j x,(pre y)[j]? = some x->(pre t)[i+j]? = some x):Num h (k+i) y:=fun j x hx=>by
 rw[A3C];exact n (i+j) x (e j x hx)
theorem D9x{a:IC}{l r:List IC}(j:Nat)(z:IC)(hz:l[j]? = some z):(a :: (l++r))[1+j]? = some z:=by
 grind
theorem C7b{a:IC}{l r:List IC}{n:Nat}(hn:l.length=n)(j:Nat)(z:IC)(hz:r[j]? = some z):(a :: (l++r))[1+n+j]? = some z:=by
 grind
theorem Num.s1(n:Num h k (.seq x y)):Num h (k+1) x:=n.sub (l:=[]) fun j z hz=>by rw[pre];grind
theorem Num.s2(n:Num h k (.seq x y)):Num h (k+1+szC x) y:=by
 rw[A3C];exact n.sub (l:=[]) fun j z hz=>by rw[pre];exact C7b (C1q x) j z hz
theorem Num.c1{o:Opd}(n:Num h k (.cond o x y)):Num h (k+1) x:=n.sub (l:=[]) fun j z hz=>by rw[pre];grind
theorem Num.c2{o:Opd}(n:Num h k (.cond o x y)):Num h (k+1+szC x) y:=by
 rw[A3C];exact n.sub (l:=[]) fun j z hz=>by rw[pre];exact C7b (C1q x) j z hz
theorem Num.b1{i:Nat}(n:Num h k (.blk i x)):Num h (k+1) x:=n.sub (l:=[]) fun j z hz=>by rw[pre,Nat.add_comm,A2O,hz]
theorem Num.l1(n:Num h k (.loop x)):Num h (k+1) x:=n.sub (l:=[]) fun j z hz=>by rw[pre,Nat.add_comm,A2O,hz]
theorem A5a(n:Num h k t):chC h k t=t:=by
 cases t<;>simp only[chC]<;>first|rfl|exact n.self|rw[n.l1.self]
theorem C3p{r:List IOper}{p:List (Nat × Option (List Nat))}{m m':Nat}(e:asM r p m=some m'):A8r m' 0 r=p:=by
 unfold asM at e;split at e<;>cases e;rename_i q;exact C3c q
theorem B1b{L:List Nat}(n:Num h k x):(B8q h k x L).ic=x:=by
 unfold B8q;split
 ·rfl
 ·split
  ·rename_i m e;simp only[PD.ic,dQ,C3p e]
  ·rfl
 ·simp only[PD.ic,A5a n.c1,A5a n.c2]
 ·simp only[PD.ic,A5a n.b1]
 rfl
theorem D5h{L:List Nat}(n:Num h k x):(fuC h k x y L).ic=.seq x y:=by
 unfold fuC;split
 ·rfl
 ·split
  ·rename_i m e;simp only[PD.ic,dQ,C3p e]
  rfl
 ·simp only[PD.ic,A5a n.c1,A5a n.c2]
 ·simp only[PD.ic,A5a n.b1]
 ·simp only[PD.ic,A5a n]
theorem C8p{b:Bool}{l:List (Nat × PD)}{e:Nat × PD}(hm:e∈tlC b l):e∈l:=by
 unfold tlC at hm;split at hm
 ·exact List.mem_of_mem_tail hm
 omega
theorem D5k(rl:List Nat):∀ (t:IC) (k:Nat) (out:List Nat) (ex:Nat->List Nat),Num h k t->∀ e∈(flC h rl t k out ex).2,h e.1=e.2.ic:=by
 intro t
 induction t with
 |skip=>intro k out ex n e he;trivial
 |exit i=>intro k out ex n e he;trivial
 |ret=>intro k out ex n e he;trivial
 |bad=>intro k out ex n e he;trivial
 |rg r=>intro k out ex n e he;trivial
 |reg r=>intro k out ex n e he;simp only[flC,A0O]at he;subst he;simp only[B1b n];exact n.self
 |drw m d=>intro k out ex n e he;simp only[flC,A0O]at he;subst he;simp only[B1b n];exact n.self
 |seq x y ihx ihy =>
  intro k out ex n e he;simp only[flC,A1E,A0W]at he;rcases he with rfl|he|he
  ·simp only[D5h n.s1,A5a n.s2];exact n.self
  ·exact ihx _ _ _ n.s1 e (C8p he)
  ·exact ihy _ _ _ n.s2 e he
 |cond o x y ihx ihy =>
  intro k out ex n e he;simp only[flC,A1E,A0W]at he;rcases he with rfl|he|he
  ·simp only[B1b n];exact n.self
  ·exact ihx _ _ _ n.c1 e he
  ·exact ihy _ _ _ n.c2 e he
 |blk i x ih =>
  intro k out ex n e he;simp only[flC,A1E]at he;rcases he with rfl|he
  ·simp only[B1b n];exact n.self
  ·exact ih _ _ _ n.b1 e he
 |loop x ih =>
  intro k out ex n e he;simp only[flC]at he;exact ih _ _ _ n.l1 e he
end
inductive Ps where
 |h
 |o (p:Ps)
 |i (p:Ps)
def Ps.n:Ps->Nat
 |.h=>1
 |.o p=>2 * p.n
 |.i p=>2 * p.n+1
def Ps.s:Ps->Ps
 |.h=>.o .h
 |.o p=>.i p
 |.i p=>.o p.s
theorem Ps.s_n:∀ p:Ps,p.s.n=p.n+1
 |.h=>rfl
 |.o p=>rfl
 |.i p=>by simp only[Ps.s,Ps.n,Ps.s_n p];rfl
def Ps.of:Nat->Ps
 |0=>.h
 |k+1=>(Ps.of k).s
theorem Ps.of_n:∀ k:Nat,(Ps.of k).n=k+1
 |0=>rfl
 |k+1=>by rw[Ps.of,Ps.s_n,Ps.of_n k]
def Ps.frc:Ps->(Ps->IC)->IC
 |.h,K=>K .h
 |.o p,K=>Ps.frc p fun q=>K (.o q)
 |.i p,K=>Ps.frc p fun q=>K (.i q)
theorem Ps.frc_eq:∀ (p:Ps) (K:Ps->IC),p.frc K=K p
 |.h,K=>rfl
 |.o p,K=>by rw[Ps.frc,Ps.frc_eq p]
 |.i p,K=>by rw[Ps.frc,Ps.frc_eq p]
def hk(h:Ps->IC)(k:Nat):IC:=(Ps.of k).frc h
inductive Tr where
 |e
 |d (x:Option PD) (l r:Tr)
def Tr.get:Tr->Ps->Option PD
 |.e,_=>none
 |.d x _ _,.h=>x
 |.d _ l _,.o p=>l.get p
 |.d _ _ r,.i p=>r.get p
def Tr.put(y:PD):Ps->Tr->Tr
 |.h,.e=>.d (some y) .e .e
 |.o p,.e=>.d none (Tr.put y p .e) .e
 |.i p,.e=>.d none .e (Tr.put y p .e)
 |.h,.d _ l r=>.d (some y) l r
 |.o p,.d x l r=>.d x (Tr.put y p l) r
 |.i p,.d x l r=>.d x l (Tr.put y p r)
theorem Tr.get_put(y:PD):∀ (p:Ps) (t:Tr) (q:Ps) (z:PD),(Tr.put y p t).get q=some z->(q=p/\z=y)\/t.get q=some z:=by
 intro p
 induction p with
 |h=>intro t q z h;cases t<;>cases q<;>simp_all[Tr.put,Tr.get]
 |o p ih =>
  intro t q z h;cases t<;>cases q<;>simp only[Tr.put,Tr.get]at h ⊢ <;> first|exact .inr h|(cases h;done)|skip
  ·rcases ih _ _ _ h with ⟨rfl,rfl⟩|h
   ·exact .inl ⟨rfl,rfl⟩
   ·cases h
  grind
 |i p ih =>
  intro t q z h;cases t<;>cases q<;>simp only[Tr.put,Tr.get]at h ⊢ <;> first|exact .inr h|(cases h;done)|skip
  ·rcases ih _ _ _ h with ⟨rfl,rfl⟩|h
   ·exact .inl ⟨rfl,rfl⟩
   ·cases h
  grind
def D0q:List (Nat × PD)->Tr->Tr
 |[],t=>t
 |e :: l,t=>D0q l (Tr.put e.2 (Ps.of e.1) t)
theorem B2y:∀ (l:List (Nat × PD)) (t:Tr) (q:Ps) (z:PD),(D0q l t).get q=some z->(∃ k,q=Ps.of k/\(k,z)∈l)\/t.get q=some z
 |[],t,q,z,h=>.inr h
 |e :: l,t,q,z,h=>by
  rcases B2y l _ q z h with ⟨k,h1,h2⟩|h
  ·grind
  ·rcases Tr.get_put _ _ _ _ _ h with ⟨rfl,rfl⟩|h
   ·exact .inl ⟨e.1,rfl,A0K⟩
   grind
def pz(P:Program)(f:Nat)(p:Ps):IC:=match (P.funcs[f]?).bind (A5f P) with
 |some i=>(pre i.body).getD (p.n-1) .bad
 |none=>.bad
theorem C1m{P:Program}{f:Nat}{i:IFn}(h:M8 P f i):Num (hk (pz P f)) 0 i.body:=fun j x hx=>by
 rw[hk,Ps.frc_eq];unfold pz;unfold M8 at h;rw[h];simp only[A1M,A0Y,Ps.of_n,Nat.add_sub_cancel,hx,A3W]
inductive TD where
 |mk (n:Nat) (rs:List RV) (top:IC) (l:Tr)
 |no
def TD.l:TD->Tr
 |.mk _ _ _ l=>l
 |.no=>.e
def mkT(h:Ps->IC)(i:IFn):TD:=.mk i.n i.res (chC (hk h) 0 i.body) (D0q (flC (hk h) (slR i.res) i.body 0 (slR i.res) (fun _=>[])).2 .e)
structure XT (P:Program) (f:Nat) where
 d:(Ps->IC)->TD
 i:IFn
 hi:M8 P f i
 hd:∀ h,mkT h i=d h
class FT (P:Program) (f:Nat) (D:outParam ((Ps->IC)->TD)):Prop where
 of:∃ i,M8 P f i/\∀ h,mkT h i=D h
theorem XT.ft{P:Program}{f:Nat}(x:XT P f):FT P f x.d:=⟨⟨x.i,x.hi,x.hd⟩⟩
theorem u8n(n:Nat):UInt8.ofBitVec (BitVec.ofNat 8 n)=UInt8.ofNat n:=rfl
abbrev mkF{P:Program}{f:Nat}{i:IFn}{d:(Ps->IC)->TD}(hi:M8 P f i:=by unfold M8;conv=>lhs;reduce;simp only[seval,u8n])(hd:∀ h,mkT h i=d h:=by intro h;conv=>lhs;cbv):XT P f:=⟨d,i,hi,hd⟩
class LkI (t:Tr) (p:Ps) (x:outParam PD):Prop where
 get:t.get p=some x
instance lkTh {x:PD} {l r:Tr}:LkI (.d (some x) l r) .h x:=⟨rfl⟩
instance lkTo {x:PD} {y:Option PD} {l r:Tr} {p:Ps} [k:LkI l p x]:LkI (.d y l r) (.o p) x:=⟨k.get⟩
instance lkTi {x:PD} {y:Option PD} {l r:Tr} {p:Ps} [k:LkI r p x]:LkI (.d y l r) (.i p) x:=⟨k.get⟩
class WDp (P:Program) (N:Nat) (u:PD) (r:outParam Rl):Prop where
 out:∀ {Q:Exit->St->Prop} {T:Tm} {H:Hp} {c:Nat},r P N Q T H c->IW P N u.ic ⟨T,H,c⟩ Q
section
variable {P:Program} {N n i e:Nat} {x y z:IC} {r:List IOper} {p:List (Nat × Option (List Nat))} {L:List Nat} {o:Opd}
instance dS:WDp P N (.S r y L) (rS r y L):=⟨mkS⟩
instance dE:WDp P N (.E r L) (rE r L):=⟨mkE⟩
instance dP:WDp P N (.P r y e n L) (rP r y n L):=⟨mkP (d:=dQ r e) (Y0 e r 0)⟩
instance dF:WDp P N (.F r e n L) (rPE r n L):=⟨D7l (d:=dQ r e) (Y0 e r 0)⟩
instance dD:WDp P N (.D r y p n L) (rD r p y n L):=⟨mkD (d:=⟨r,[],p⟩)⟩
instance dG:WDp P N (.G r p n L) (rDE r p n L):=⟨D7m (d:=⟨r,[],p⟩)⟩
instance dC:WDp P N (.C x y z o L) (rC o x z y L):=⟨mkC⟩
instance dK:WDp P N (.K x z o L) (rCE o x z L):=⟨D7n⟩
instance dB:WDp P N (.B x y i L) (rB i x y L):=⟨mkB⟩
instance dJ:WDp P N (.J x i L) (rBE i x L):=⟨D7o⟩
instance dQQ:WDp P N (.Q x y L) (rQ x y L):=⟨mkQ⟩
end
class LkD (t:TD) (p:Ps) (x:outParam PD):Prop where
 get:t.l.get p=some x
instance lkTd {n:Nat} {rs:List RV} {top:IC} {x:PD} {l:Tr} {p:Ps} [k:LkI l p x]:LkD (.mk n rs top l) p x:=⟨k.get⟩
section
variable {P:Program} {f:Nat} {D:(Ps->IC)->TD} [F:FT P f D]
theorem wz{p:Ps}{x:PD}(e:(D (pz P f)).l.get p=some x):pz P f p=x.ic:=by
 obtain⟨i,hi,hd⟩:=F.of;rw[<- hd]at e;simp only[mkT,TD.l]at e;rcases B2y _ _ _ _ e with ⟨k,rfl,h⟩|h
 ·have:=D5k (slR i.res) i.body 0 (slR i.res) (fun _=>[]) (C1m hi) _ h;rw[hk,Ps.frc_eq]at this;exact this
 trivial
instance wZ {N:Nat} {p:Ps} {x:PD} {w:Rl} [g:LkD (D (pz P f)) p x] [k:WDp P N x w]:WR P N (pz P f p) w:=⟨fun h=>by rw[wz g.get];exact k.out h⟩
theorem FT.eqs{n:Nat}{rs:List RV}{top:IC}{l:Tr}(e:D (pz P f)=.mk n rs top l):M8 P f ⟨n,top,rs⟩:=by
 obtain⟨i,hi,hd⟩:=F.of;rw[<- hd]at e;simp only[mkT,A5a (C1m hi),TD.mk.injEq]at e;rw[<- e.1, <- e.2.1, <- e.2.2.1];omega
theorem PC.ofT(hm:P.follows .mixedOrders=true){n:Nat}{rs:List RV}{top:IC}{l:Tr}(e:D (pz P f)=.mk n rs top l){args:List DV}(hn:args.length<=n){r:DV}(na:DV.nlL args=true)(nr:r.nl=true)
  (h:IW P n top ⟨A4a args,nil,0⟩ (rt rs fun v H' _ => ∃ H2,GL H' [v] H2 [r])):PC P f args r :=
 PC.of hm (i:=⟨n,top,rs⟩) (FT.eqs e) hn na nr h
theorem PC.go(hm:P.follows .mixedOrders=true){n:Nat}{rs:List RV}{top:IC}{l:Tr}{args:List DV}{r:DV}(h:IW P n top ⟨A4a args,nil,0⟩ (rt rs fun v H' _ => ∃ H2,GL H' [v] H2 [r]))(e:D (pz P f)=.mk n rs top l:=by rfl)(hn:args.length<=n:=by exact A0C rfl)(na:DV.nlL args=true:=by first|(simp[DV.nlL,DV.nl];done)|rfl)(nr:r.nl=true:=by first|rfl|simp[DV.nlL,DV.nl]):PC P f args r:=PC.ofT hm e hn na nr h
theorem AC.bodyT(hm:P.follows .mixedOrders=true){n:Nat}{rs:List RV}{top:IC}{l:Tr}(e:D (pz P f)=.mk n rs top l){args:List DV}(hn:args.length<=n){H:Hp}{c:Nat}{Q:DV->Hp->Nat->Prop}
  (h:(∀ id,c<=id->H id=none)->IW P n top ⟨A4a args,H,c⟩ (rt rs fun v H' c' => ∃ v2 H2,GL H' [v] H2 [v2]/\Q v2 H2 c')):AC P f args H c Q :=
 AC.body hm (i:=⟨n,top,rs⟩) (FT.eqs e) hn h
end
end Go.Sym
namespace Go.Pb
variable [Go.Sym.Tab]
open Go.Sym
def B2v(n:Nat)(s:List UInt8):Nat:=s.foldl (fun n c=>10 * n+(c.toNat-48)) n
theorem B7h:∀ (s:List UInt8) (n:Nat),n<=B2v n s
 |[],n=>A0J _
 |c :: r,n=>by
  have:=B7h r (10 * n+(c.toNat-48));simp only[B2v,List.foldl_cons]at this ⊢;omega
theorem B8t(c:UInt8)(r:List UInt8)(n:Nat):B2v n (c :: r)=B2v (10 * n+(c.toNat-48)) r:=by rfl
theorem D3r{M acc d v w:Nat}(hM:M=18446744073709551615)(hd:d<=9)(hv:10 * acc+d<=v)(hw:w=1844674407370955162):
  (w<=acc->M<v)/\(M<acc * 10+d->M<v):=by
 omega
theorem C1n(M acc:Nat)(c:UInt8)(r:List UInt8):Lib.parseUintM M acc (c :: r) =
  if 48<=c.toNat/\c.toNat<=57 then
   if 1844674407370955162<=acc then .range
   else if M<acc * 10+(c.toNat-48) then .range
   else Lib.parseUintM M (acc * 10+(c.toNat-48)) r
  else .syntax:=by rfl
theorem pum{M:Nat}(hM:M=18446744073709551615):∀ (l:List UInt8) (acc:Nat),(∀ c∈l,dgB c=true)->acc<=M ->
  Lib.parseUintM M acc l=if B2v acc l<=M then .ok (B2v acc l) else .range:=by
 intro l
 induction l with
 |nil =>
  intro acc h ha;rw[if_pos (show B2v acc []<=M from ha),Lib.parseUintM];rfl
 |cons c r ih =>
  intro acc h ha;have hc:=h c A0K;simp only[dgB,A0D,A0F]at hc;have hg:=B7h r (10 * acc+(c.toNat-48));rw[C1n,if_pos hc,B8t]
  grind
theorem pib{l:List UInt8}(h:∀ c∈l,dgB c=true)(h0:l≠[]):
  Lib.parseIntB 64 l=if S9 l<=9223372036854775807 then .ok (S9 l:Int) else .range:=by
 cases l with
 |nil=>grind
 |cons c r =>
  have hc:=h c A0K;simp only[dgB,A0D,A0F]at hc;have e1:¬ c.toNat=43:=by omega
  have e2:¬ c.toNat=45:=by omega
  have hp:=pum (M:=2 ^ 64-1) (by decide) (c :: r) 0 h (A0Z _);have hv:B2v 0 (c :: r)=S9 (c :: r):=rfl;rw[hv]at hp;unfold Lib.parseIntB;simp only[e1,e2,or_self,if_false,not_false_eq_true,true_and,false_and];unfold Lib.parseUintB
  grind
theorem C0j(l:List (List UInt8)):(A3 (l.map DV.str)).length=l.length * 1:=by
 rw[C0 (u:=1)]
 ·simp
 ·intro x hx;obtain⟨y, -,rfl⟩:=A1L.1 hx;rfl
theorem G9(l:List (List UInt8)):∀ x∈l.map DV.str,x.cells.length=1:=by
 intro x hx;obtain⟨y, -,rfl⟩:=A1L.1 hx;rfl
def I5(H:Hp):Option Nat->Hp
 |none=>H
 |some i=>H.del i
theorem B8n{o:Option Nat}{n:Nat}(h:o=none->n=0):A1v (A8 o n)=some (I64 (n:Int)):=by
 cases o with
 |none=>rw[h rfl];rfl
 |some i=>rfl
theorem E0{H:Hp}{c sz bytes n m:Nat}{o:Option Nat}{cs src:List DV}(hn:o=none->n=0/\cs=[])(hb:∀ i,o=some i->H i=some ⟨sz,true,cs⟩)(hl:cs.length=n * sz)(hm:1<=m)(h2:(n+m) * bytes<=140737488355328)(h3:n+m<=9223372036854775807):
  A5c H c sz bytes (A8 o n) m src=some (.slc c 0 (n+m),(I5 H o).upd c ⟨sz,true,cs++src⟩,c+1):=by
 cases o with
 |none =>
  obtain⟨rfl,rfl⟩:=hn rfl;rw[A1s,A0y (by omega) (by grind) (by omega)];simp[I5]
 |some i=>rw[P3,C1g,hb i rfl,E5 hl h2 h3];rfl
theorem C7{H:Hp}{o:Option Nat}{j:Nat}(h:∀ i,o=some i->¬ j=i):I5 H o j=H j:=by
 cases o with
 |none=>rfl
 |some i=>exact F6 (h i rfl)
theorem B6{H:Hp}{o:Option Nat}{b:Blk}{j:Nat}(h:∀ i,o=some i->¬ j=i):B9 H o b j=H j:=by
 cases o with
 |none=>rfl
 |some i=>exact A6 (h i rfl)
section
variable {l:List UInt8} {k p:Nat} {S P V:DV} {I:List Ins} {E:List Ent} {o1 o2:Option Nat} {cc:Nat}
end
theorem A6o{a b:Nat}(h:((a:Int) == (b:Int))=true):a=b:=by grind
theorem A3i{a b:Nat}(h:((a:Int) == (b:Int))=false):a≠b:=fun e=>by grind
theorem C6v{a b:Nat}(h:((a:Int) != (b:Int))=true):a≠b:=fun e=>by grind
theorem D2g{a b:Nat}(h:((a:Int) != (b:Int))=false):a=b:=by
 grind
theorem B9c{a b:Nat}(h:decide ((a:Int)>(b:Int))=true):b<a:=by grind
theorem A9b{a b:Nat}(h:decide ((a:Int)>(b:Int))=false):¬ b<a:=by grind
theorem N5{α : Type}{s:List α}{i:Nat}{c : α}(h:s[i]? = some c):s.drop i=c :: s.drop (i+1):=by
 obtain⟨hi,rfl⟩:=A0P.1 h;simp
theorem C8t{s:List UInt8}{i:Nat}{c:UInt8}(h:s[i]? = some c)(hc:A6l c=true):skM false (s.drop i)=skM false (s.drop (i+1))+1:=by
 rw[N5 h];simp only[skM];grind
theorem C8v{s:List UInt8}{i:Nat}{c:UInt8}(h:s[i]? = some c)(hc:c.toNat=35):
  skM false (s.drop i)=E2 (fun c=>decide (c.toNat≠10)) (s.drop i)+skM false (s.drop (i+E2 (fun c=>decide (c.toNat≠10)) (s.drop i))):=by
 have hs:¬ A6l c=true:=by simp[A6l,hc]
 have e1:skM false (s.drop i)=skM true (s.drop i):=by
  rw[N5 h];simp only[skM]
  grind
 rw[e1,B2g,A3U]
theorem C4j{s:List UInt8}{i:Nat}{c:UInt8}(h:s[i]? = some c)(h1:¬ A6l c=true)(h2:¬ c.toNat=35):skM false (s.drop i)=0:=by
 rw[N5 h];simp only[skM];grind
theorem C8u{s:List UInt8}{i:Nat}(h:s.length<=i):skM false (s.drop i)=0:=by
 rw[A2D h];rfl
theorem C4k{s:List UInt8}{i:Nat}{c:UInt8}(h:s[i]? = some c)(hc:c.toNat=35):1<=E2 (fun c=>decide (c.toNat≠10)) (s.drop i):=by
 rw[N5 h];simp only[E2];grind
def quA(acc:List UInt8)(k:Nat)(q:Option (List UInt8 × Nat)):Option (List UInt8 × Nat):=q.map fun x=>(acc++x.1,x.2+k)
theorem X4(c:UInt8)(r:List UInt8):quM (c :: r)=if c.toNat=34 then some ([],1)
  else if c.toNat<32\/126<c.toNat then none
  else if c.toNat=92 then match r with
   |[]=>none
   |d :: q=>if d.toNat=34\/d.toNat=92 then (quM q).map fun x=>(d :: x.1,x.2+2) else none
  else (quM r).map fun x=>(c :: x.1,x.2+1):=by rw[quM.eq_def];try rfl
theorem A4k{s acc:List UInt8}{k:Nat}{c:UInt8}(h:s[k]? = some c)(hc:c.toNat=34):quA acc k (quM (s.drop k))=some (acc,k+1):=by
 rw[N5 h,X4,if_pos hc];simp[quA];omega
theorem B0v{s acc:List UInt8}{k:Nat}{c:UInt8}(h:s[k]? = some c)(h0:c.toNat≠34)(hc:c.toNat<32\/126<c.toNat):quA acc k (quM (s.drop k))=none:=by
 rw[N5 h,X4,if_neg h0,if_pos hc];rfl
theorem C9w{s acc:List UInt8}{k:Nat}(h:s.length<=k):quA acc k (quM (s.drop k))=none:=by
 rw[A2D h,quM];rfl
theorem B6z{s acc:List UInt8}{k:Nat}{c:UInt8}(h:s[k]? = some c)(h0:c.toNat≠34)(h1:32<=c.toNat)(h2:c.toNat<=126)(h3:c.toNat≠92):
  quA acc k (quM (s.drop k))=quA (acc++[c]) (k+1) (quM (s.drop (k+1))):=by
 rw[N5 h,X4,if_neg h0,if_neg (by omega),if_neg h3];cases quM (s.drop (k+1)) with
 |none=>rfl
 |some x=>simp[quA];omega
theorem C1i{s acc:List UInt8}{k:Nat}{c d:UInt8}(h:s[k]? = some c)(h3:c.toNat=92)(hd:s[k+1]? = some d)(h4:d.toNat=34\/d.toNat=92):
  quA acc k (quM (s.drop k))=quA (acc++[d]) (k+2) (quM (s.drop (k+2))):=by
 rw[N5 h,N5 hd,X4,if_neg (by omega),if_neg (by omega),if_pos h3];simp only;rw[if_pos h4];cases quM (s.drop (k+1+1)) with
 |none=>rfl
 |some x=>simp[quA];omega
theorem B6y{s acc:List UInt8}{k:Nat}{c:UInt8}(h:s[k]? = some c)(h3:c.toNat=92)(hd:∀ d,s[k+1]? = some d->d.toNat≠34/\d.toNat≠92):
  quA acc k (quM (s.drop k))=none:=by
 rw[N5 h];cases hq:s.drop (k+1) with
 |nil=>rw[X4,if_neg (by omega),if_neg (by omega),if_pos h3];rfl
 |cons d q =>
  have h5:s[k+1]? = some d:=by
   have:=congrArg List.head? hq
   rwa [List.head?_drop]at this
  have h6:=hd d h5;rw[X4,if_neg (by omega),if_neg (by omega),if_pos h3];simp only;rw[if_neg (by omega)];rfl
theorem C1f{H:Hp}{o:Option Nat}{u:Nat}{acc:List UInt8}(hn:o=none->acc=[])(hb:∀ i,o=some i->H i=some ⟨u,true,bytesC acc⟩):Z4 H (A8 o acc.length)=some (.str acc):=by
 cases o with
 |none=>rw[hn rfl];rfl
 |some i=>exact A3y (hb i rfl) rfl rfl
theorem K6{X:Hp}{id:Nat}{b b':Blk}(h:b=b'):Sub (B9 Sym.nil (some id) b) (X.upd id b'):=by
 intro j q hj;simp only[B9]at hj;by_cases e:j=id
 ·subst e;rw[A0]at hj ⊢;grind
 ·rw[A6 e]at hj;cases hj
theorem B8o{X:Hp}{o:Option Nat}{c sz bytes n m:Nat}{cs src:List DV}{b2:Blk}(hn:o=none->n=0/\cs=[])(ho:∀ i,o=some i->i<c)(hl:cs.length=n * sz)(hm:1<=m)
  (h2:(n+m) * bytes<=140737488355328) (h3:n+m<=9223372036854775807) :
  A5c ((B9 X o ⟨sz,true,cs⟩).upd c b2) (c+1) sz bytes (A8 o n) m src=some (.slc (c+1) 0 (n+m),(I5 ((B9 X o ⟨sz,true,cs⟩).upd c b2) o).upd (c+1) ⟨sz,true,cs++src⟩,c+1+1) :=
 E0 hn (fun i hi=>by have:=ho i hi;rw[hnO];subst hi;exact A0) hl hm h2 h3
theorem B2o{X:Hp}{o:Option Nat}{c:Nat}{acc:List UInt8}(hn:o=none->acc=[])(ho:∀ i,o=some i->i<c)(hl:acc.length<=10000000)(b2:Blk)(x:UInt8):
  A5c ((B9 X o ⟨1,true,bytesC acc⟩).upd c b2) (c+1) 1 1 (A8 o acc.length) 1 [.int .u8 (x.toNat:Int)]=some (.slc (c+1) 0 (acc.length+1),(I5 ((B9 X o ⟨1,true,bytesC acc⟩).upd c b2) o).upd (c+1) ⟨1,true,bytesC (acc++[x])⟩,c+1+1):=by
 rw[A8o];exact B8o (fun e=>by rw[hn e];trivial) ho (B3r acc) (by omega) (by omega) (by omega)
def quB(c:UInt8):List UInt8:=if c.toNat=34\/c.toNat=92 then [92,c] else [c]
def A1o(s:List UInt8):List UInt8:=[34]++s.flatMap quB
def R0(s:List UInt8):List UInt8:=A1o s++[34]
theorem A9o{s:List UInt8}{k:Nat}{c:UInt8}(h:s[k]? = some c):A1o (s.take (k+1))=A1o (s.take k)++quB c:=by
 unfold A1o;rw[A1D,h,A1Z,A0T];simp
theorem B7a:∀ s:List UInt8,(s.flatMap quB).length<=2 * s.length
 |[]=>by simp
 |c :: r=>by
  have:=B7a r;rw[A1B,A0A,A0I];have:(quB c).length<=2:=by unfold quB;grind
  omega
theorem A7t(s:List UInt8):(A1o s).length<=2 * s.length+1:=by
 have:=B7a s;unfold A1o
 grind
theorem B3s{H:Hp}{c id n:Nat}{acc:List UInt8}{x:UInt8}(hn:n=acc.length)(hl:n<=10000000):
  apB H c id 1 1 n 1 [.int .u8 (x.toNat:Int)] (some ⟨1,true,bytesC acc⟩)=some (.slc c 0 (n+1),(H.del id).upd c ⟨1,true,bytesC (acc++[x])⟩,c+1):=by
 rw[A8o];exact E5 (by rw[A1e,hn];omega) (by omega) (by omega)
theorem C0v(q:List Tok × Int × Int):(C0w q).nl=true:=by
 simp only[DV.nl,DV.nlL,K1,A1X]
theorem B2r{H:Hp}{a b:DV}:∃ H2,GL H [.tup [.snil,a,b]] H2 [.tup [.lst [],a,b]] :=
 ⟨H,GL.view fun ρ vs hA=>⟨hA.1,fun i x y hx hy=>by
  match i with
  |0 =>
   cases hx;have:=hA.2 0 _ y rfl hy;obtain⟨b',rfl,k1,k2⟩:=this.tup_inv;refine .tup _ _ k1 fun j x' y' hx' hy'=>?_
   match j with
   |0=>cases hx';exact (k2 0 _ y' rfl hy').snil_lst
   |1=>grind
   |2=>grind
   |_+3=>grind
  |_+1=>grind⟩⟩
theorem B2i{H:Hp}{a b:Int}:∃ H2,GL H [.tup [.snil,I64 a,I64 b]] H2 [C0w ([],a,b)]:=B2r
theorem C1s{o:Option Nat}{xs:List DV}{u n:Nat}{a b:DV}(hno:o=none->xs=[])(hl:xs.length=n)(hu:∀ x∈xs,x.cells.length=u):
  ∃ H2,GL (B9 Sym.nil o ⟨u,true,A3 xs⟩) [.tup [A8 o n,a,b]] H2 [.tup [.lst xs,a,b]]:=by
 cases o with
 |none=>rw[hno rfl];exact B2r
 |some i=>exact⟨nil,GL.one (id:=i) A0 rfl (.cons _ _ _ _ (.tup _ _ (.cons _ _ _ _ (M6 hl hu ⟨[],by simp⟩) (.cons _ _ _ _ (.same _) (.cons _ _ _ _ (.same _) .nil)))) .nil)⟩
theorem A0c{X:Hp}{o:Option Nat}{b:Blk}{i:Nat}(hi:o=some i):B9 X o b i=some b:=by subst hi;exact A0
theorem u8_eq(c:UInt8)(n:Nat)(h:n<256):(c == UInt8.ofNat n)=decide (c.toNat=n):=by
 rw[A2Q,A1I,decide_eq_true_iff, <- UInt8.toNat_inj];simp;omega
theorem C3x(c d:UInt8):B0k c d=([c,d] == [60,61] || [c,d] == [62,61] || [c,d] == [61,61] || [c,d] == [33,61] || [c,d] == [38,38] || [c,d] == [124,124]):=by
 have hk:∀ a b:UInt8,([c,d] == [a,b])=(c == a && d == b):=fun a b=>by simp[A4D]
 rw[hk,hk,hk,hk,hk,hk];have hu:∀ (x:UInt8) (n:Nat),n<256->(x == UInt8.ofNat n)=(x.toNat == n):=fun x n h=>by rw[u8_eq x n h];rfl
 have e:∀ n:Nat,(OfNat.ofNat n:UInt8)=UInt8.ofNat n:=fun _=>rfl;show ([(60,61),(62,61),(61,61),(33,61),(38,38),(124,124)]:List (Nat × Nat)).contains (c.toNat,d.toNat)=(c == UInt8.ofNat 60 && d == UInt8.ofNat 61 || c == UInt8.ofNat 62 && d == UInt8.ofNat 61 || c == UInt8.ofNat 61 && d == UInt8.ofNat 61 || c == UInt8.ofNat 33 && d == UInt8.ofNat 61 || c == UInt8.ofNat 38 && d == UInt8.ofNat 38 || c == UInt8.ofNat 124 && d == UInt8.ofNat 124);rw[hu c 60 (by omega),hu c 61 (by omega),hu c 62 (by omega),hu c 33 (by omega),hu c 38 (by omega),hu c 124 (by omega),hu d 61 (by omega),hu d 38 (by omega),hu d 124 (by omega)]
 grind
inductive Ex where
 |mk (kind value:Int) (name:List UInt8) (args:List Ex) (pos:Int)
def Ex.kind:Ex->Int |.mk k _ _ _ _=>k
def Ex.value:Ex->Int |.mk _ v _ _ _=>v
def Ex.name:Ex->List UInt8 |.mk _ _ n _ _=>n
def Ex.args:Ex->List Ex |.mk _ _ _ a _=>a
def Ex.pos:Ex->Int |.mk _ _ _ _ p=>p
mutual
def Ex.v:Ex->DV
 |.mk k v n a p=>.agg [I64 k,I64 v,.str n,.lst (Ex.vs a),I64 p]
def Ex.vs:List Ex->List DV
 |[]=>[]
 |e :: l=>Ex.v e :: Ex.vs l
end
theorem Ex.vs_map:∀ l:List Ex,Ex.vs l=l.map Ex.v
 |[]=>rfl
 |e :: l=>by rw[Ex.vs,Ex.vs_map l];rfl
abbrev I9(l:List Ex):DV:=.lst (l.map Ex.v)
abbrev Ex.w(e:Ex):DV:=.agg [I64 e.kind,I64 e.value,.str e.name,I9 e.args,I64 e.pos]
theorem Ex.v_w(e:Ex):e.v=e.w:=by
 cases e with|mk k v n a p=>rw[Ex.v,Ex.vs_map];rfl
theorem W5(l:List Ex):∀ x∈l.map Ex.v,x.cells.length=5:=fun x hx=>by
 obtain⟨y, -,rfl⟩:=A1L.1 hx;rw[Ex.v_w];rfl
mutual
@[simp]theorem Ex.nl:∀ e:Ex,e.v.nl=true
 |.mk k v n a p=>by
  have:=Ex.nls a;rw[Ex.v];simp only[DV.nl,DV.nlL,this,A1X]
theorem Ex.nls:∀ l:List Ex,DV.nlL (Ex.vs l)=true
 |[]=>rfl
 |e :: l=>by rw[Ex.vs,DV.nlL,Ex.nl e,Ex.nls l];rfl
end
@[simp]theorem A0z(l:List Ex):DV.nlL (l.map Ex.v)=true:=by rw[<- Ex.vs_map];exact Ex.nls l
def Ex0:Ex:=.mk 0 0 [] [] 0
inductive St where
 |mk (kind:Int) (name text:List UInt8) (args:List Ex) (thn els:List St) (pos:Int)
def St.kind:St->Int |.mk k _ _ _ _ _ _=>k
def St.name:St->List UInt8 |.mk _ n _ _ _ _ _=>n
def St.text:St->List UInt8 |.mk _ _ t _ _ _ _=>t
def St.args:St->List Ex |.mk _ _ _ a _ _ _=>a
def St.thn:St->List St |.mk _ _ _ _ t _ _=>t
def St.els:St->List St |.mk _ _ _ _ _ e _=>e
def St.pos:St->Int |.mk _ _ _ _ _ _ p=>p
mutual
def St.v:St->DV
 |.mk k n t a x y p=>.agg [I64 k,.str n,.str t,I9 a,.lst (St.vs x),.lst (St.vs y),I64 p]
def St.vs:List St->List DV
 |[]=>[]
 |e :: l=>St.v e :: St.vs l
end
theorem St.vs_map:∀ l:List St,St.vs l=l.map St.v
 |[]=>rfl
 |e :: l=>by rw[St.vs,St.vs_map l];rfl
abbrev F4(l:List St):DV:=.lst (l.map St.v)
abbrev St.w(s:St):DV:=.agg [I64 s.kind,.str s.name,.str s.text,I9 s.args,F4 s.thn,F4 s.els,I64 s.pos]
theorem St.v_w(s:St):s.v=s.w:=by
 cases s with|mk k n t a x y p=>rw[St.v,St.vs_map,St.vs_map];rfl
theorem Q7(l:List St):∀ x∈l.map St.v,x.cells.length=7:=fun x hx=>by
 obtain⟨y, -,rfl⟩:=A1L.1 hx;rw[St.v_w];rfl
mutual
@[simp]theorem St.nl:∀ e:St,e.v.nl=true
 |.mk k n t a x y p=>by
  have h1:=A0z a;have h2:=St.nls x;have h3:=St.nls y;rw[St.v];simp only[DV.nl,DV.nlL,h1,h2,h3,A1X]
theorem St.nls:∀ l:List St,DV.nlL (St.vs l)=true
 |[]=>rfl
 |e :: l=>by rw[St.vs,DV.nlL,St.nl e,St.nls l];rfl
end
@[simp]theorem Y9(l:List St):DV.nlL (l.map St.v)=true:=by rw[<- St.vs_map];exact St.nls l
def St0:St:=.mk 0 [] [] [] [] [] 0
structure Dc where
 kind:Int
 name:List UInt8
 value:Int
 pos:Int
deriving DecidableEq
abbrev Dc.v(d:Dc):DV:=.agg [I64 d.kind,.str d.name,I64 d.value,I64 d.pos]
abbrev E3(l:List Dc):DV:=.lst (l.map Dc.v)
structure Hd where
 trig:Int
 name:List UInt8
 body:List St
 pos:Int
abbrev Hd.v(h:Hd):DV:=.agg [I64 h.trig,.str h.name,F4 h.body,I64 h.pos]
abbrev A1c(l:List Hd):DV:=.lst (l.map Hd.v)
structure Md where
 name:List UInt8
 prio:Int
 hds:List Hd
 pos:Int
abbrev Md.v(m:Md):DV:=.agg [.str m.name,I64 m.prio,A1c m.hds,I64 m.pos]
abbrev H3(l:List Md):DV:=.lst (l.map Md.v)
structure Ru where
 decls:List Dc
 modes:List Md
abbrev Ru.v(r:Ru):DV:=.agg [E3 r.decls,H3 r.modes]
theorem A2z(l:List Dc):∀ x∈l.map Dc.v,x.cells.length=4:=fun x hx=>by obtain⟨y, -,rfl⟩:=A1L.1 hx;rfl
theorem A2u(l:List Hd):∀ x∈l.map Hd.v,x.cells.length=4:=fun x hx=>by obtain⟨y, -,rfl⟩:=A1L.1 hx;rfl
theorem A7f(l:List Md):∀ x∈l.map Md.v,x.cells.length=4:=fun x hx=>by obtain⟨y, -,rfl⟩:=A1L.1 hx;rfl
@[simp]theorem A2q(l:List Dc):DV.nlL (l.map Dc.v)=true:=O3 (fun _=>rfl) l
@[simp]theorem B7i(l:List Hd):DV.nlL (l.map Hd.v)=true:=O3 (fun h=>by simp[DV.nl,DV.nlL,Y9]) l
@[simp]theorem A2p(l:List Md):DV.nlL (l.map Md.v)=true:=O3 (fun h=>by simp[DV.nl,DV.nlL,B7i]) l
theorem Ru.nl(r:Ru):r.v.nl=true:=by simp[DV.nl,DV.nlL,A2q,A2p]
structure Rd where
 i:Nat
 e:Int
 pos:Int
 ops:Int
 par:Int
section
variable (L:List Tok) (E:Int)
abbrev csR(s:Rd):List DV:=[D9 L,I64 E,I64 s.i,I64 s.e,I64 s.pos,I64 s.ops,I64 s.par]
abbrev rdR(s:Rd):Blk:=⟨0,true,csR L E s⟩
def okR(s:Rd):Bool:=s.e == 0
def N4(s:Rd)(p e:Int):Rd:=if okR s=true then { s with e:=e,pos:=p } else s
def C2(s:Rd):Tok:=L.getD s.i ⟨0,[],0,E⟩
def isR(s:Rd)(t:List UInt8):Bool:=okR s && ((C2 L E s).kind == 5 || (C2 L E s).kind == 2) && (C2 L E s).text == t
def I8(s:Rd)(k:Int):Bool:=okR s && (C2 L E s).kind == k
def N8(s:Rd):Rd:=N4 s (C2 L E s).pos 4
def C9(s:Rd)(n most e:Int):Rd:=if most<n then N4 s (C2 L E s).pos e else s
def B2(s:Rd):Rd:={ s with i:=s.i+1 }
def D6(s:Rd)(t:List UInt8):Rd:=if isR L E s t=false then N8 L E s else B2 s
def O9:Tok:=⟨0,[],0,0⟩
def B4(s:Rd)(k:Int):Tok × Rd:=if I8 L E s k=false then (O9,N8 L E s) else (C2 L E s,B2 s)
def A1g(s:Rd):Nat->List (List UInt8)->Int
 |_,[] => -1
 |k,t :: l=>if isR L E s t=true then (k:Int) else A1g s (k+1) l
def C3(s:Rd)(l:List (List UInt8)):Int:=A1g L E s 0 l
end
def D0:List (List UInt8):=[[115,119,105,116,99,104],[99,111,105,108],[108,97,109,112],[115,111,117,110,100],[115,104,111,119],[118,97,114],[116,105,109,101,114],[101,118,101,110,116]]
def D5:List (List UInt8):=[[115,116,97,114,116],[115,116,111,112],[99,108,111,115,101],[111,112,101,110],[116,105,109,101,114],[101,118,101,110,116]]
def B8:List (List UInt8):=[[105,102],[114,101,112,101,97,116],[115,99,111,114,101],[102,105,114,101],[104,111,108,100],[114,101,108,101,97,115,101],[108,105,103,104,116],[98,108,105,110,107],[115,116,97,114,116],[115,116,111,112],[98,101,103,105,110],[101,110,100],[112,111,115,116],[112,108,97,121],[114,117,110],[104,97,108,116],[116,101,120,116],[99,111,110,115,117,109,101]]
def D3:List (List UInt8):=[[42],[47],[37],[43],[45],[60],[60,61],[62],[62,61],[61,61],[33,61],[38,38],[124,124]]
def B5(k:Int):Int:=if k=24 then 1 else if k=23 then 2 else if 17<=k/\k<=22 then 3 else if k=15\/k=16 then 4 else if 12<=k/\k<=14 then 5 else if k=10\/k=11 then 6 else 7
section
variable (L:List Tok) (E:Int)
def J9:List Int:=[3,4,8,9,5,6,7]
def I3:List (List UInt8):=[[116,114,117,101],[102,97,108,115,101],[112,108,97,121,101,114],[98,97,108,108],[99,108,111,115,101,100],[97,99,116,105,118,101],[108,101,102,116]]
def Q1:List (List UInt8):=[[45],[33],[40]]
def J2(s:Rd):Ex × Rd :=
 let t:=C2 L E s
 let k:=C3 L E s I3
 if k<0/\I8 L E s 3=false/\I8 L E s 1=false then (Ex0,N8 L E s)
 else
  let s1:Rd:={ s with ops:=s.ops+1 }
  let s2:=C9 L E s1 s1.ops 32 9
  if okR s2=false then (Ex0,s2)
  else
   let s3:=B2 s2
   if 0<=k then
    if 4<=k then (.mk (J9.getD k.toNat 0) 0 (B4 L E s3 1).1.text [] t.pos,(B4 L E s3 1).2)
    else (.mk (J9.getD k.toNat 0) 0 [] [] t.pos,s3)
   else if t.kind=3 then (.mk 1 t.value [] [] t.pos,s3)
   else (.mk 2 0 t.text [] t.pos,s3)
mutual
def K4:Nat->Int->Rd->Option (Ex × Rd)
 |0,_,_=>none
 |f+1,n,s=>if 5<n then Y3 f s else
  match K4 f (n+1) s with
  |none=>none
  |some (e,s)=>U7 f n e s
def U7:Nat->Int->Ex->Rd->Option (Ex × Rd)
 |0,_,_,_=>none
 |f+1,n,e,s =>
  let k:=C3 L E s D3
  if k<0\/B5 (12+k)≠n then some (e,s) else
  match K4 f (n+1) (B2 s) with
  |none=>none
  |some (x,s1) =>
   let y:=Ex.mk (12+k) 0 [] [e,x] (C2 L E s).pos
   if n=3 then some (y,s1) else U7 f n y s1
def Y3:Nat->Rd->Option (Ex × Rd)
 |0,_=>none
 |f+1,s =>
  let t:=C2 L E s
  let k:=C3 L E s Q1
  if k<0 then some (J2 L E s) else
  let s1:=C9 L E s (s.par+1) 16 50
  if okR s1=false then some (Ex0,s1) else
  let s2:Rd:={ s1 with i:=s1.i+1,par:=s1.par+1 }
  if k=2 then
   match K4 f 1 s2 with
   |none=>none
   |some (e,s3)=>let s4:=D6 L E s3 [41];some (e, { s4 with par:=s4.par-1 })
  else
   match Y3 f s2 with
   |none=>none
   |some (e,s3)=>some (.mk (10+k) 0 [] [e] t.pos, { s3 with par:=s3.par-1 })
end
def R8(f:Nat)(s:Rd):Option (Ex × Rd):=K4 L E f 1 { s with ops:=0,par:=0 }
def N7(f:Nat)(k p:Int)(s:Rd):Option (St × Rd) :=
 if k=4 then
  match R8 L E f s with
  |none=>none
  |some (e,s1)=>some (.mk k [] [] [e] [] [] p,D6 L E s1 [59])
 else if k=18 then
  match R8 L E f (D6 L E (B4 L E s 4).2 [44]) with
  |none=>none
  |some (e,s1)=>some (.mk k [] (B4 L E s 4).1.text [e] [] [] p,D6 L E s1 [59])
 else if k=19 then some (.mk k [] [] [] [] [] p,D6 L E s [59])
 else
  let n:=(B4 L E s 1).1.text
  let s0:=(B4 L E s 1).2
  if k=8\/k=9\/k=10 then
   match R8 L E f s0 with
   |none=>none
   |some (e,s1) =>
    if k=9 then
     match R8 L E f (D6 L E s1 [44]) with
     |none=>none
     |some (e2,s2)=>some (.mk k n [] [e,e2] [] [] p,D6 L E s2 [59])
    else some (.mk k n [] [e] [] [] p,D6 L E s1 [59])
  else some (.mk k n [] [] [] [] p,D6 L E s0 [59])
mutual
def K3:Nat->Int->Rd->Option (List St × Rd)
 |0,_,_=>none
 |f+1,d,s=>S1 f d [] (D6 L E s [123])
def S1:Nat->Int->List St->Rd->Option (List St × Rd)
 |0,_,_,_=>none
 |f+1,d,l,s =>
  if okR s=true/\isR L E s [125]=false then
   if C3 L E s B8<0/\I8 L E s 1=false then some ([],N8 L E s) else
   match U3 f d (C9 L E s ((l.length:Int)+1) 64 9) with
   |none=>none
   |some (x,s1)=>S1 f d (l++[x]) s1
  else some (l,D6 L E s [125])
def U3:Nat->Int->Rd->Option (St × Rd)
 |0,_,_=>none
 |f+1,d,s0 =>
  let s:=C9 L E s0 d 8 50
  if okR s=false then some (St0,s) else
  let p:=(C2 L E s).pos
  let k:=C3 L E s B8
  if k<0 then
   match R8 L E f (D6 L E (B4 L E s 1).2 [61]) with
   |none=>none
   |some (e,s1)=>some (.mk 1 (B4 L E s 1).1.text [] [e] [] [] p,D6 L E s1 [59])
  else
   let s1:=B2 s
   if k=0\/k=1 then
    match R8 L E f s1 with
    |none=>none
    |some (e,s2) =>
     match K3 f (d+1) s2 with
     |none=>none
     |some (t,s3) =>
      if k=0/\isR L E s3 [101,108,115,101]=true then
       match W1 f d (B2 s3) with
       |none=>none
       |some (o,s4)=>some (.mk 2 [] [] [e] t o p,s4)
      else some (.mk (2+k) [] [] [e] t [] p,s3)
   else N7 L E f (2+k) p s1
def W1:Nat->Int->Rd->Option (List St × Rd)
 |0,_,_=>none
 |f+1,d,s =>
  if isR L E s [105,102]=true then
   match U3 f (d+1) s with
   |none=>none
   |some (x,s1)=>some ([x],s1)
  else K3 f (d+1) s
end
def Q2(k:Int)(s:Rd):Dc × Rd :=
 let p:=(C2 L E s).pos
 let s1:=B2 s
 let n:=(B4 L E s1 1).1.text
 let s2:=(B4 L E s1 1).2
 if k+1<=6 then
  let m:=k+1 == 6 && isR L E s2 [45]
  let s3:=if m=true then B2 s2 else s2
  let v:=(B4 L E s3 3).1.value
  (⟨1+k,n,if m=true then -v else v,p⟩,D6 L E (B4 L E s3 3).2 [59])
 else (⟨1+k,n,0,p⟩,D6 L E s2 [59])
def U6:Nat->List Hd->Rd->Option (List Hd × Rd)
 |0,_,_=>none
 |f+1,l,s =>
  if okR s=true/\isR L E s [125]=false then
   if isR L E s [111,110]=false then some (l,N8 L E s) else
   let s1:=C9 L E s ((l.length:Int)+1) 32 9
   let p:=(C2 L E s1).pos
   let s2:=D6 L E s1 [111,110]
   let k:=C3 L E s2 D5
   if k<0 then some (l,N8 L E s2) else
   let s3:=B2 s2
   let n:=if 2<=k then (B4 L E s3 1).1.text else []
   let s4:=if 2<=k then (B4 L E s3 1).2 else s3
   match K3 L E f 1 s4 with
   |none=>none
   |some (b,s5)=>U6 f (l++[⟨1+k,n,b,p⟩]) s5
  else some (l,D6 L E s [125])
def A1a(f:Nat)(s:Rd):Option (Md × Rd) :=
 let p:=(C2 L E s).pos
 let s1:=D6 L E s [109,111,100,101]
 let n:=(B4 L E s1 1).1.text
 let s2:=(B4 L E s1 1).2
 let v:=(B4 L E s2 3).1.value
 match U6 L E f [] (D6 L E (B4 L E s2 3).2 [123]) with
 |none=>none
 |some (l,s3)=>some (⟨n,v,l,p⟩,s3)
def U5:Nat->List Dc->Rd->Option (List Dc × Rd)
 |0,_,_=>none
 |f+1,l,s =>
  let k:=C3 L E s D0
  if k<0 then some (l,s) else
  let s1:=C9 L E s ((l.length:Int)+1) 128 9
  if okR s1=true then U5 f (l++[(Q2 L E k s1).1]) (Q2 L E k s1).2 else U5 f l s1
def P4:Nat->List Md->Rd->Option (List Md × Rd)
 |0,_,_=>none
 |f+1,l,s =>
  if okR s=true/\s.i<L.length then
   if isR L E s [109,111,100,101]=false then some (l,N8 L E s) else
   let s1:=C9 L E s ((l.length:Int)+1) 16 9
   if okR s1=true then
    match A1a L E f s1 with
    |none=>none
    |some (m,s2)=>P4 f (l++[m]) s2
   else P4 f l s1
  else some (l,s)
def A4h(f:Nat)(s:Rd):Option (Ru × Rd) :=
 match U5 L E f [] s with
 |none=>none
 |some (d,s1) =>
  match P4 L E f [] s1 with
  |none=>none
  |some (m,s2)=>some (⟨d,m⟩,s2)
end
end Go.Pb
namespace Go.Sym
variable [Go.Sym.Tab]
open Go.Eng (KKey)
inductive Mz (id:Nat) (r:DV):DV->DV->Prop where
 |same (d:DV):Mz id r d d
 |mid:Mz id r (.mid id) r
 |agg (a a':List DV) (hl:a.length=a'.length) (h:∀ (i:Nat) x y,a[i]? = some x->a'[i]? = some y->Mz id r x y):Mz id r (.agg a) (.agg a')
 |tup (a a':List DV) (hl:a.length=a'.length) (h:∀ (i:Nat) x y,a[i]? = some x->a'[i]? = some y->Mz id r x y):Mz id r (.tup a) (.tup a')
theorem Mz.rel{ρ ρ':Ren}{id:Nat}{r:DV}(hl : ρ.le ρ')(hr:∀ v,VRel ρ (.mid id) v->VRel ρ' r v){d d':DV}(h:Mz id r d d'):∀ v,VRel ρ d v->VRel ρ' d' v:=by
 induction h with
 |same d=>exact fun v hv=>hv.mono hl
 |mid=>omega
 |agg a a' hl' _ ih =>
  intro v hv;obtain⟨b,rfl,h1,h2⟩:=hv.agg_inv;refine .agg _ _ (hl'▸h1) fun i x y hx hy=>?_
  grind
 |tup a a' hl' _ ih =>
  intro v hv;obtain⟨b,rfl,h1,h2⟩:=hv.tup_inv;refine .tup _ _ (hl'▸h1) fun i x y hx hy=>?_
  grind
theorem GL.frzm{H H':Hp}{ds ds':List DV}{id u:Nat}{kd:KKey}{ks vs:List DV}(hb:H id=some ⟨u,true,[.mpc kd ks vs]⟩)(hH:∀ j,H' j=none\/(j≠id/\H' j=H j))
  (hl:ds.length=ds'.length) (hd:∀ (i:Nat) x y,ds[i]? = some x->ds'[i]? = some y->Mz id (.mp kd ks vs) x y):GL H ds H' ds':=by
 refine⟨fun j hj=>?_,fun ρ w a2 hR hA=>?_⟩
 ·grind
 have back:∀ j bj,H' j=some bj->j≠id/\H j=some bj:=by
  grind
 obtain⟨t,ht,hB⟩:=hR.blk id _ hb;rcases hB with ⟨hm,c,e,fr, -, -, -, -,g5, -⟩|⟨hm, -,hs,es,cl,kd',ks',vs',g1,g2,g3,g6⟩
 ·have:=(g5 0 _ rfl).1
  trivial
 cases g2;have hnone : ρ.fm t.block=none:=by
  cases hf : ρ.fm t.block with
  |none=>rfl
  |some es'=>exact absurd rfl ((hR.frm _ _ hf).2 id _ t hb rfl ht)
 obtain⟨ρ2,hρ⟩:∃ ρ2:Ren, ρ2=⟨ρ.nm, ρ.fz, ρ.tab,fun k=>if k=t.block then some es else ρ.fm k⟩:=⟨_,rfl⟩;have n1 : ρ2.nm = ρ.nm:=by grind
 have n2 : ρ2.fz = ρ.fz:=by grind
 have n3:∀ k r, ρ2.fm k=some r->(k=t.block/\r=es) \/ ρ.fm k=some r:=by
  intro k r hk;rw[hρ]at hk
  grind
 have n4 : ρ2.fm t.block=some es:=by simp_all
 have hle : ρ.le ρ2:=⟨fun i x h=>by grind,fun b r h=>by grind,fun b r h=>by
  rw[hρ]
  grind⟩
 have hval:∀ v,VRel ρ (.mid id) v->VRel ρ2 (.mp kd ks vs) v:=by
  intro v hv;obtain⟨t',ht', -,rfl⟩:=hv.mid_inv;rw[ht]at ht';cases ht';obtain⟨a1,a2,a3,a4,a5⟩:=g3;exact .mp kd ks vs t.block es n4 a1 a2 a3 (fun i x e hx he=>(a4 i x e hx he).mono hle) (fun i x e hx he=>(a5 i x e hx he).mono hle)
 refine⟨ρ2,n1,⟨fun j bj hj=>?_,fun i j bi bj ti tj hi hj hij h1 h2 ho=>?_,fun k r hk=>?_,fun j bj tj hj ho hjt=>?_,fun k r hk=>?_⟩,⟨hl▸hA.1,fun i x y hx hy=>?_⟩,?_⟩
 ·rw[n1];obtain⟨-,h1⟩:=back j bj hj;obtain⟨tj,q1,q2⟩:=hR.blk j bj h1;exact⟨tj,q1,q2.mono hle⟩
 ·rw[n1]at h1 h2;exact hR.sep i j bi bj ti tj (back i bi hi).2 (back j bj hj).2 hij h1 h2 ho
 ·rw[n2]at hk;exact hR.frz k r hk
 ·rw[n1]at hjt;rw[n2];exact hR.dis j bj tj (back j bj hj).2 ho hjt
 ·rcases n3 k r hk with ⟨rfl,rfl⟩|h1
  ·refine⟨⟨cl,g1,g6⟩,fun j bj tj hj ho hjt=>?_⟩;rw[n1]at hjt;obtain⟨hne,h2⟩:=back j bj hj;exact hR.sep j id bj _ tj t h2 hb hne hjt ht ho
  ·refine⟨(hR.frm k r h1).1,fun j bj tj hj ho hjt=>?_⟩;rw[n1]at hjt;exact (hR.frm k r h1).2 j bj tj (back j bj hj).2 ho hjt
 ·have hi:i<ds.length:=by grind
  exact (hd i ds[i] x (A0B hi) hx).rel hle hval y (hA.2 i _ y (A0B hi) hy)
 ·refine⟨hle,rfl,rfl,rfl,A0J _,fun _ _ _=>rfl,fun j bj tj hj hjt=>?_,fun k r hk=>.inl (by rw[<- n2];exact hk),fun k r hk=>?_⟩
  ·rw[n1]at hjt;exact .inr ⟨j,bj,tj,(back j bj hj).2,fun h=>h,hjt,rfl⟩
  grind
theorem B0y{H:Hp}{id u:Nat}{kd:KKey}{ks vs:List DV}(hb:H id=some ⟨u,true,[.mpc kd ks vs]⟩):∃ H2,GL H [.mid id] H2 [.mp kd ks vs] :=
 ⟨nil,GL.frzm hb (fun j=>.inl rfl) rfl (fun i x y hx hy=>by
  match i with
  |0=>cases hx;cases hy;exact .mid
  |_+1=>grind)⟩
theorem A2r{a b:List UInt8}:A8a (.str a) (.str b)=(a == b):=id rfl
theorem A5n{s:List UInt8}:∀ (l:List (List UInt8)) (i:Nat),(P0 (.str s) (l.map DV.str) i).isSome=l.contains s
 |[],i=>rfl
 |x :: r,i=>by
  simp only[A0U,P0,A2r,List.contains_cons];cases h:s == x with
  |true=>simp
  |false=>simp[A5n r (i+1)]
theorem A7w{s:List UInt8}{l:List (List UInt8)}(h:l.contains s=false)(i:Nat):P0 (.str s) (l.map DV.str) i=none:=by
 have:=A5n (s:=s) l i
 simp_all
theorem B5g{s:List UInt8}{l:List (List UInt8)}(h:l.contains s=true)(i:Nat):∃ j,P0 (.str s) (l.map DV.str) i=some j:=by
 have:=A5n (s:=s) l i;rw[h]at this;cases hm:P0 (.str s) (l.map DV.str) i with
 |none=>grind
 |some j=>simp
theorem B2z{k:DV}:∀ {ks:List DV} {i j:Nat},P0 k ks i=some j->i<=j/\j<i+ks.length
 |[],i,j,h=>by cases h
 |x :: r,i,j,h=>by
  simp only[P0]at h;split at h
  ·grind
  ·have:=B2z h
   grind
open Go.Eng (G6)
open Go.RowKit
variable {P:Program}
theorem PC.of_callsF{f:Nat}{args:List DV}{r:DV}(hc:G6 P f=true)(na:DV.nlL args=true)(nr:r.nl=true)
  (h:∀ (ρ : Ren) (w:World) (vs:Array Value),(∀ b r, ρ.fz b=some r->∃ e fr,w.heap[b]? = some (.cells r e fr))->F2 ρ args vs ->
   Calls P f vs w fun e w' => ∃ v' b row ty fr,e=.returned v'/\w.heap.size<=b/\w'.heap[b]? = some (.cells row ty fr)/\(∀ ρ':Ren, ρ'.fz b=some row->VRel ρ' r v')/\Below w.heap.size w w'):PC P f args r:=by
 refine⟨na,nr,hc,fun ρ w vs hR hf hA=>?_⟩;refine (h ρ w vs hR.frz hA).mono ?_;rintro e w' ⟨v',b,row,ty,fr,rfl,hb,hrow,hv,b1,b2,b3,b4,b5⟩;have hnone : ρ.fz b=none:=by
  cases hz : ρ.fz b with
  |none=>rfl
  |some r=>have:=hR.flt hz;omega
 have hfz:(ρ.frz b row hnone).fz b=some row:=by simp[Ren.frz]
 refine⟨r,v',nil,0, ρ.frz b row hnone,rfl,rfl,hv _ hfz,⟨fun id b h=>(by cases h),fun i j bi bj ti tj h=>(by cases h),fun k r' hk=>?_,fun id b t h=>(by cases h),fun k r' hk=>⟨?_,fun id b t h=>(by cases h)⟩⟩,hf,A0J _,fun id hid h=>absurd rfl h,fun _ _=>rfl,
  ⟨Ren.le_frz hnone,b1,b2,b3,b4,fun k hk _=>b5 k hk,fun id b t h1=>(by cases h1),fun k r' hk=>?_,fun k r h=>.inl h⟩⟩
 ·simp only[Ren.frz]at hk;split at hk
  ·grind
  ·obtain⟨e,fr,h1⟩:=hR.frz k r' hk
   grind
 ·obtain⟨⟨cl,h1,hst⟩, -⟩:=hR.frm k r' hk
  grind
 ·simp only[Ren.frz]at hk
  grind
theorem VRel.strs{ρ : Ren}{l:List (List UInt8)}{b n c:Nat}(h : ρ.fz b=some ((l.map fun s=>Value.string ⟨s.toArray⟩).toArray))(hn:n=l.length)(hc:n<=c)(hm:c<=maxLen):
  VRel ρ (.lst (l.map DV.str)) (.slice (some ⟨b,0,none⟩) n c):=by
 have hcl:A3 (l.map DV.str)=l.map DV.str:=by
  clear h hn
  induction l with
  |nil=>rfl
  |cons x r ih =>
   have:A3 ((x :: r).map DV.str)=[DV.str x]++A3 (r.map DV.str):=rfl
   grind
 refine .lst _ n 1 b 0 c _ h (by grind) hc hm (fun x hx=>by obtain⟨y, -,rfl⟩:=A1L.1 hx;rfl) ?_ ?_ ?_
 ·grind
 ·rw[hcl];intro d hd;obtain⟨y, -,rfl⟩:=A1L.1 hd;rfl
 ·rw[hcl];intro k d v hd hv;rw[A1A]at hd;obtain⟨s,hs,rfl⟩:=A0R.1 hd;simp only[A1M,A1S,A1A,hs,A3I,Option.some.injEq]at hv;subst hv;exact .mkStr
end Go.Sym
namespace Go.Pb
variable [Go.Sym.Tab]
open Go.Sym
section
variable {L:List Tok} {E:Int}
theorem B1l{s:Rd}{p e:Int}(he:e≠0):okR (N4 s p e)=false:=by
 unfold N4;split
 ·simp[okR,he]
 grind
theorem W9{s:Rd}:okR (N8 L E s)=false:=B1l (by simp)
theorem F5{s:Rd}{n m e:Int}(he:e≠0)(h:okR (C9 L E s n m e)=true):okR s=true/\n<=m/\C9 L E s n m e=s:=by
 unfold C9 at h ⊢;split at h
 ·rw[B1l he]at h;cases h
 grind
theorem A1k{s:Rd}{t:List UInt8}(h:isR L E s t=true):okR s=true/\s.i<L.length:=by
 unfold isR at h;simp only[A0D,A1C,A1I]at h;refine⟨h.1.1,?_⟩;by_cases hi:s.i<L.length
 ·omega
 ·have e:C2 L E s=⟨0,[],0,E⟩:=by unfold C2;rw[A0Y,A1T (by omega)];rfl
  grind
theorem G8{s:Rd}{k:Int}(h:I8 L E s k=true):okR s=true/\(C2 L E s).kind=k:=by
 unfold I8 at h
 grind
theorem J3{s:Rd}{k:Int}(hk:k≠0)(h:(C2 L E s).kind=k):C2 L E s∈L/\s.i<L.length:=by
 by_cases hi:s.i<L.length
 ·refine⟨?_,hi⟩;unfold C2
  grind
 ·exfalso;have e:C2 L E s=⟨0,[],0,E⟩:=by unfold C2;rw[A0Y,A1T (by omega)];rfl
  grind
theorem A8i{s:Rd}{t:List UInt8}(h:okR (D6 L E s t)=true):isR L E s t=true/\D6 L E s t=B2 s:=by
 unfold D6 at h ⊢;cases hi:isR L E s t with
 |false=>rw[hi]at h;simp only[if_true]at h;rw[W9]at h;grind
 |true=>simp
theorem A4e{s:Rd}{k:Int}(h:okR (B4 L E s k).2=true):I8 L E s k=true/\B4 L E s k=(C2 L E s,B2 s):=by
 unfold B4 at h ⊢;cases hi:I8 L E s k with
 |false=>rw[hi]at h;simp only[if_true]at h;rw[W9]at h;grind
 |true=>simp
theorem F7{s:Rd}:∀ {l:List (List UInt8)} {k:Nat},0<=A1g L E s k l->okR s=true/\s.i<L.length/\(k:Int)<=A1g L E s k l/\A1g L E s k l<(k+l.length:Nat)
 |[],k,h=>by trivial
 |t :: l,k,h=>by
  unfold A1g at h ⊢;cases hi:isR L E s t with
  |true =>
   rw[if_pos rfl];obtain⟨h1,h2⟩:=A1k hi
   grind
  |false =>
   rw[hi]at h;simp only[A1N,if_false]at h ⊢;obtain⟨h1,h2,h3,h4⟩:=F7 h
   grind
end
structure RI (L:List Tok) (s:Rd):Prop where
 i:s.i<=L.length
 o0:0<=s.ops
 o1:s.ops<=33
 o2:okR s=true->s.ops<=32
 p0:0<=s.par
 p1:s.par<=16
section
variable {L:List Tok} {E:Int}
theorem RI.fail{s:Rd}{p e:Int}(he:e≠0)(h:RI L s):RI L (N4 s p e)/\(N4 s p e).par=s.par:=by
 have hk:=B1l (s:=s) (p:=p) he;have e1:(N4 s p e).i=s.i:=by unfold N4;grind
 have e2:(N4 s p e).ops=s.ops:=by unfold N4;grind
 have e3:(N4 s p e).par=s.par:=by unfold N4;grind
 exact⟨⟨by rw[e1];exact h.i,by rw[e2];exact h.o0,by rw[e2];exact h.o1,(fun k=>by grind),by rw[e3];exact h.p0,by rw[e3];exact h.p1⟩,e3⟩
theorem RI.syn{s:Rd}(h:RI L s):RI L (N8 L E s)/\(N8 L E s).par=s.par:=h.fail (by simp)
theorem RI.lim{s:Rd}{n m e:Int}(he:e≠0)(h:RI L s):RI L (C9 L E s n m e)/\(C9 L E s n m e).par=s.par:=by
 unfold C9;split
 ·exact h.fail he
 grind
theorem RI.nxt{s:Rd}(h:RI L s)(hi:s.i<L.length):RI L (B2 s):=⟨hi,h.o0,h.o1,h.o2,h.p0,h.p1⟩
theorem RI.exp{s:Rd}{x:List UInt8}(h:RI L s):RI L (D6 L E s x)/\(D6 L E s x).par=s.par:=by
 unfold D6;cases k:isR L E s x with
 |false=>rw[if_pos rfl];exact h.syn
 |true=>rw[if_neg (by simp)];exact⟨h.nxt (A1k k).2,rfl⟩
theorem RI.take{s:Rd}{x:Int}(hx:x≠0)(h:RI L s):RI L (B4 L E s x).2/\(B4 L E s x).2.par=s.par:=by
 unfold B4;cases k:I8 L E s x with
 |false=>rw[if_pos rfl];exact h.syn
 |true=>rw[if_neg (by simp)];exact⟨h.nxt (J3 hx (G8 k).2).2,rfl⟩
theorem RI.prim{s:Rd}(h:RI L s):RI L (J2 L E s).2/\(J2 L E s).2.par=s.par:=by
 unfold J2;dsimp only;split
 ·exact h.syn
 ·rename_i hc;have hok:okR s=true/\s.i<L.length:=by
   by_cases hk:0<=C3 L E s I3
   ·obtain⟨h1,h2, -⟩:=F7 hk;grind
   ·cases h3:I8 L E s 3 with
    |true=>exact⟨(G8 h3).1,(J3 (by simp) (G8 h3).2).2⟩
    |false =>
     cases h1:I8 L E s 1 with
     |true=>exact⟨(G8 h1).1,(J3 (by simp) (G8 h1).2).2⟩
     |false=>grind
  have h32:=h.o2 hok.1;have ho:=h.o0;obtain⟨s2,hs2⟩:∃ s2,s2=C9 L E { s with ops:=s.ops+1 } (s.ops+1) 32 9:=⟨_,rfl⟩;rw[<- hs2];cases h2:okR s2 with
  |false =>
   rw[if_pos rfl];have e1:s2.i=s.i:=by rw[hs2];unfold C9 N4;grind
   have e2:s2.ops=s.ops+1:=by rw[hs2];unfold C9 N4;grind
   have e3:s2.par=s.par:=by rw[hs2];unfold C9 N4;grind
   refine⟨⟨?_,?_,?_,(fun k=>by rw[h2]at k;cases k),?_,?_⟩,e3⟩<;>dsimp only
   ·omega
   ·omega
   ·omega
   ·rw[e3];exact h.p0
   ·rw[e3];exact h.p1
  |true =>
   rw[if_neg (by simp)];rw[hs2]at h2;obtain⟨-,h4,h5⟩:=F5 (by simp) h2;rw[h5]at hs2;have h3:RI L (B2 s2):=by
    rw[hs2];exact⟨hok.2,by show 0<=s.ops+1;omega,by show s.ops+1<=33;omega,fun _=>h4,h.p0,h.p1⟩
   have hp:(B2 s2).par=s.par:=by rw[hs2];rfl
   repeat' split
   ·exact⟨(h3.take (by simp)).1,(h3.take (by simp)).2.trans hp⟩
   all_goals exact⟨h3,hp⟩
theorem RI.all:∀ f:Nat,(∀ n s r,K4 L E f n s=some r->RI L s->RI L r.2/\r.2.par=s.par)/\(∀ n e s r,U7 L E f n e s=some r->RI L s->RI L r.2/\r.2.par=s.par)/\(∀ s r,Y3 L E f s=some r->RI L s->RI L r.2/\r.2.par=s.par)
 |0=>⟨fun n s r h=>by trivial,fun n e s r h=>by trivial,fun s r h=>by trivial⟩
 |f+1=>by
  obtain⟨i1,i2,i3⟩:=RI.all f;refine⟨fun n s r h k=>?_,fun n e s r h k=>?_,fun s r h k=>?_⟩
  ·unfold K4 at h
   grind
  ·unfold U7 at h;dsimp only at h;split at h
   ·grind
   ·rename_i hk;have hk0:0<=C3 L E s D3:=Classical.byContradiction fun g=>hk (.inl (by omega));obtain⟨-,hi, -⟩:=F7 hk0;cases hb:K4 L E f (n+1) (B2 s) with
    |none=>grind
    |some q =>
     obtain⟨x,s1⟩:=q;rw[hb]at h;obtain⟨a1,a2⟩:=i1 _ _ _ hb (k.nxt hi);dsimp only at h;split at h
     ·cases h;trivial
     ·obtain⟨b1,b2⟩:=i2 _ _ _ _ h a1;exact⟨b1,b2.trans a2⟩
  ·unfold Y3 at h;dsimp only at h;split at h
   ·cases h;exact k.prim
   ·rename_i hk;have hk0:0<=C3 L E s Q1:=by omega
    obtain⟨-,hi, -⟩:=F7 hk0;split at h
    ·cases h;exact k.lim (by simp)
    ·rename_i hl;have hl:okR (C9 L E s (s.par+1) 16 50)=true:=by simpa using hl
     obtain⟨h1,h2,h3⟩:=F5 (by decide) hl;rw[h3]at h;have k2:RI L { s with i:=s.i+1,par:=s.par+1 }:=⟨hi,k.o0,k.o1,k.o2,by have:=k.p0;show 0<=s.par+1;omega,h2⟩;have fin:∀ z:Rd,RI L z->z.par=s.par+1->RI L { z with par:=z.par-1 }/\z.par-1=s.par:=fun z hz hp =>
      ⟨⟨hz.i,hz.o0,hz.o1,hz.o2,by have:=k.p0;show 0<=z.par-1;omega,by have:=k.p1;show z.par-1<=16;omega⟩,by omega⟩
     split at h
     ·cases hb:K4 L E f 1 { s with i:=s.i+1,par:=s.par+1 } with
      |none=>rw[hb]at h;cases h
      |some q =>
       obtain⟨e,s3⟩:=q;rw[hb]at h;cases h;obtain⟨a1,a2⟩:=i1 _ _ _ hb k2;obtain⟨b1,b2⟩:=a1.exp (E:=E) (x:=[41]);exact fin _ b1 (b2.trans a2)
     grind
theorem C2u{s:Rd}{p e:Int}:(N4 s p e).i=s.i:=by unfold N4;grind
theorem U2{s:Rd}:(N8 L E s).i=s.i:=C2u
theorem F0{s:Rd}{n m e:Int}:(C9 L E s n m e).i=s.i:=by unfold C9;split;exact C2u;rfl
theorem H4{s:Rd}{x:List UInt8}(h:s.i<=L.length):(D6 L E s x).i<=L.length:=by
 unfold D6;cases k:isR L E s x with
 |false=>rw[if_pos rfl,U2];omega
 |true=>rw[if_neg (by simp)];exact (A1k k).2
theorem J7{s:Rd}{x:Int}(hx:x≠0)(h:s.i<=L.length):(B4 L E s x).2.i<=L.length:=by
 unfold B4;cases k:I8 L E s x with
 |false=>rw[if_pos rfl,U2];omega
 |true=>rw[if_neg (by simp)];exact (J3 hx (G8 k).2).2
theorem R7{f:Nat}{s:Rd}{r:Ex × Rd}(h:R8 L E f s=some r)(hi:s.i<=L.length):r.2.i<=L.length :=
 ((RI.all f).1 1 { s with ops:=0,par:=0 } r h ⟨hi,A4F 0,(by simp:(0:Int)<=33),fun _=>(by simp:(0:Int)<=32),A4F 0,(by simp:(0:Int)<=16)⟩).1.i
theorem C8q{f:Nat}{k p:Int}{s:Rd}{r:St × Rd}(h:N7 L E f k p s=some r)(hi:s.i<=L.length):r.2.i<=L.length:=by
 unfold N7 at h;dsimp only at h;split at h
 ·split at h
  ·grind
  ·rename_i he;cases h;exact H4 (R7 he hi)
 split at h
 ·split at h
  ·grind
  ·rename_i he;cases h;exact H4 (R7 he (H4 (J7 (by simp) hi)))
 split at h
 ·cases h;exact H4 hi
 have h0:=J7 (E:=E) (x:=1) (by simp) hi;split at h
 ·split at h
  ·grind
  ·rename_i he;split at h
   ·split at h
    ·grind
    ·rename_i he2;cases h;exact H4 (R7 he2 (H4 (R7 he h0)))
   ·cases h;exact H4 (R7 he h0)
 ·cases h;exact H4 h0
theorem C0m{f:Nat}{d:Int}{s:Rd}{r:St × Rd}(h:U3 L E f d s=some r)(ho:okR s=false):okR r.2=false:=by
 cases f with
 |zero=>trivial
 |succ f =>
  have hl:okR (C9 L E s d 8 50)=false:=by
   cases k:okR (C9 L E s d 8 50) with
   |false=>rfl
   |true=>rw[(F5 (by decide) k).1]at ho;cases ho
  unfold U3 at h
  grind
theorem II.all:∀ f:Nat,(∀ d s r,K3 L E f d s=some r->s.i<=L.length->r.2.i<=L.length)/\(∀ d l s r,S1 L E f d l s=some r->s.i<=L.length->r.2.i<=L.length)/\(∀ d s r,U3 L E f d s=some r->s.i<=L.length->r.2.i<=L.length)/\(∀ d s r,W1 L E f d s=some r->s.i<=L.length->r.2.i<=L.length)
 |0=>⟨fun d s r h=>by trivial,fun d l s r h=>by trivial,fun d s r h=>by trivial,fun d s r h=>by trivial⟩
 |f+1=>by
  obtain⟨i1,i2,i3,i4⟩:=II.all f;refine⟨fun d s r h k=>?_,fun d l s r h k=>?_,fun d s r h k=>?_,fun d s r h k=>?_⟩
  ·unfold K3 at h;exact i2 _ _ _ _ h (H4 k)
  ·unfold S1 at h;split at h
   ·split at h
    ·cases h;rw[U2];omega
    ·split at h
     ·grind
     ·rename_i he;exact i2 _ _ _ _ h (i3 _ _ _ he (by rw[F0];omega))
   ·cases h;exact H4 k
  ·unfold U3 at h;dsimp only at h;split at h
   ·cases h;rw[F0];omega
   ·split at h
    ·split at h
     ·grind
     ·rename_i he;cases h;exact H4 (R7 he (H4 (J7 (by simp) (by rw[F0];omega))))
    ·rename_i hk;have hn:(B2 (C9 L E s d 8 50)).i<=L.length:=(F7 (show 0<=C3 L E (C9 L E s d 8 50) B8 by omega)).2.1;split at h
     ·split at h
      ·grind
      ·rename_i he;split at h
       ·grind
       ·rename_i hb;have h3:=i1 _ _ _ hb (R7 he hn);split at h
        ·rename_i hc;split at h
         ·cases h
         ·rename_i ho;cases h;exact i4 _ _ _ ho (A1k hc.2).2
        grind
     ·exact C8q h hn
  ·unfold W1 at h
   grind
end
end Go.Pb
namespace Go.Sym
variable [Go.Sym.Tab]
variable {P:Program}
theorem AC.own{f:Nat}{args:List DV}{V:Nat->DV}{u:Nat}{cs:List DV}(h:AC P f args nil 0 (fun v H' _ => ∃ id,v=V id/\H'=nil.upd id ⟨u,true,cs⟩))(hn:DV.nlL args=true)(hcs:∀ d∈cs,d.nl=true)
  (hV:∀ (ρ ρ':Ren) (id id':Nat) (v:Value), ρ.nm id = ρ'.nm id'->((∀ b r, ρ.fz b=some r -> ρ'.fz b=some r)/\∀ b r, ρ.fm b=some r -> ρ'.fm b=some r)->VRel ρ (V id) v->VRel ρ' (V id') v) (H:Hp) (c:Nat) :
  AC P f args H c (fun v H' c'=>v=V c/\H'=H.upd c ⟨u,true,cs⟩/\c'=c+1):=by
 refine⟨h.1,fun ρ w vs hR hf hA=>?_⟩;refine (h.2 ⟨fun _=>none, ρ.fz, ρ.tab, ρ.fm⟩ w vs hR.nil (fun _ _=>rfl) (hA.nl (ρ := ρ) (ρ':=⟨fun _=>none, ρ.fz, ρ.tab, ρ.fm⟩) (fun _ _ h=>h) (fun _ _ h=>h) hn)).mono ?_;rintro e w' ⟨v,v',H1,c1, ρ1,rfl,⟨id,rfl,rfl⟩,d⟩;have hb:=d.ext.below (fun id b hb=>by cases hb);obtain⟨b1,b2,b3,b4,b5⟩:=hb;obtain⟨t,ht,hbr⟩:=d.rep.blk id _ A0;have hsz:w.heap.size<=t.block:=by
  rcases d.ext.mine id _ t A0 ht with h1|⟨i,b0,t0,e1, -⟩
  ·exact h1
  trivial
 obtain⟨ρ2,hρ⟩:∃ ρ2:Ren, ρ2=⟨fun j=>if j=c then some t else ρ.nm j, ρ1.fz, ρ1.tab, ρ1.fm⟩:=⟨_,rfl⟩;have n1 : ρ2.nm c=some t:=by simp_all
 have n2:∀ {j},¬ j=c -> ρ2.nm j = ρ.nm j:=fun {j} hj=>by simp_all
 have n3 : ρ2.fz = ρ1.fz:=by grind
 have n4 : ρ2.fm = ρ1.fm:=by grind
 have hle : ρ.le ρ2:=⟨fun j x hj=>by
  grind,fun b r hb=>by rw[n3];exact d.ext.le.fz b r hb,fun b r hb=>by rw[n4];exact d.ext.le.fm b r hb⟩
 refine⟨V c,v',_,_, ρ2,rfl,⟨rfl,rfl,rfl⟩,hV ρ1 ρ2 id c v' (by grind) ⟨fun b r hb=>by grind,fun b r hb=>by grind⟩ d.val,?_,fun j hj=>by grind,by omega,
  fun j hj hne=>by rw[hnO]at hne;omega,fun j hj=>n2 (by omega),?_⟩
 ·refine⟨fun j b hb=>?_,fun i j bi bj ti tj hi hj hij h1 h2 ho=>?_,by rw[n3];exact d.rep.frz,fun j b t2 hb ho ht2=>?_,fun k es hk=>?_⟩
  ·by_cases e:j=c
   ·subst e;rw[A0]at hb;cases hb;refine⟨t,n1,?_⟩;rcases hbr with ⟨gm,c0,e0,fr,g1,g2,g3,g4,g5,g6⟩|⟨-, -, -,es,cl,kd,ks,vs', -,g2, -⟩
    case inr =>
     simp only at g2;subst g2;have:=hcs _ A0K
     trivial
    refine .inl ⟨gm,c0,e0,fr,g1,g2,g3,g4,fun i x hx=>?_,g6⟩;obtain⟨q1,x',q2,q3⟩:=g5 i x hx;exact⟨q1,x',q2,q3.nl (ρ := ρ1) (ρ' := ρ2) (fun b r hb=>by grind) (fun b r hb=>by grind) (hcs x (A0M hx))⟩
   ·rw[A6 e]at hb;obtain⟨t2,ht2,hb2⟩:=hR.blk j b hb;exact⟨t2,by grind,(hb2.mono hle).world (b5 _ hb2.lt)⟩
  ·by_cases e1:i=c
   ·subst e1;have e2:¬ j=i:=fun e=>hij e.symm;rw[A6 e2]at hj;rw[n1]at h1;cases h1;rw[n2 e2]at h2;have:=(hR.blk j bj hj);obtain⟨t2,ht2,hb2⟩:=this;rw[h2]at ht2;cases ht2;have:=hb2.lt;omega
   ·rw[A6 e1]at hi;rw[n2 e1]at h1;by_cases e2:j=c
    ·subst e2;rw[n1]at h2;cases h2;obtain⟨t2,ht2,hb2⟩:=hR.blk i bi hi;rw[h1]at ht2;cases ht2;have:=hb2.lt;omega
    ·rw[A6 e2]at hj;rw[n2 e2]at h2;exact hR.sep i j bi bj ti tj hi hj hij h1 h2 ho
  ·rw[n3];by_cases e:j=c
   ·subst e;rw[A0]at hb;cases hb;rw[n1]at ht2;cases ht2;exact d.rep.dis id _ t A0 rfl ht
   ·rw[A6 e]at hb;rw[n2 e]at ht2;cases hf1 : ρ1.fz t2.block with
    |none=>rfl
    |some r =>
     rcases d.ext.fzn _ _ hf1 with h1|h1|⟨i,b0,t0,e1, -⟩
     ·rw[hR.dis j b t2 hb ho ht2]at h1;cases h1
     ·have:=(hR.lookb hb ht2).lt;omega
     trivial
  ·rw[n4]at hk;refine⟨(d.rep.frm k es hk).1,fun j b t2 hb ho ht2=>?_⟩;by_cases e:j=c
   ·subst e;rw[A0]at hb;cases hb;rw[n1]at ht2;cases ht2;exact (d.rep.frm k es hk).2 id _ t A0 rfl ht
   ·rw[A6 e]at hb;rw[n2 e]at ht2;rcases d.ext.fmn _ _ hk with h1|h1|⟨i,b0,t0,e1, -⟩
    ·exact (hR.frm k es h1).2 j b t2 hb ho ht2
    ·have:=(hR.lookb hb ht2).lt;omega
    trivial
 ·refine⟨hle,b1,b2,b3,b4,fun k hk _=>b5 k hk,fun j b t2 h1 h2=>?_,fun k r hk=>?_,fun k r hk=>?_⟩
  ·by_cases e:j=c
   ·grind
   ·rw[A6 e]at h1
    grind
  ·rw[n3]at hk;rcases d.ext.fzn k r hk with h1|h1|⟨i,b0,t0,e1, -⟩
   ·exact .inl h1
   ·exact .inr (.inl h1)
   trivial
  ·rw[n4]at hk;rcases d.ext.fmn k r hk with h1|h1|⟨i,b0,t0,e1, -⟩
   ·exact .inl h1
   ·exact .inr (.inl h1)
   trivial
section
open Go.Eng (IC)
variable {N:Nat} {x:IC} {T:Tm} {H:Hp} {c:Nat} {Q:Exit->St->Prop}
theorem IW.gl{s:St}(h:IW P N x s (fun e s'=>Q e s'\/∃ (ks:List Nat) (ds':List DV) (H2:Hp),GL s'.H (ks.map s'.T) H2 ds'/\Q e ⟨tm (ks.zip ds'),H2,s'.c⟩)):IW P N x s Q:=by
 intro hm cd hc ρ a w hS;refine wp_mono (h hm cd hc ρ a w hS) fun e a' w' hq=>?_;obtain⟨ρ2,s2,q,hS2,hst⟩:=hq;rcases q with q|⟨ks,ds',H2,g,q⟩
 ·exact⟨ρ2,s2,q,hS2,hst⟩
 have hA:F2 ρ2 (ks.map s2.T) ((ks.map fun k=>a'.tmps.getD k undef)).toArray:=by
  refine⟨by simp,fun i x y hx hy=>?_⟩;simp only[A1A,A0R,A1S]at hx hy;obtain⟨k,hk,rfl⟩:=hx;obtain⟨k',hk',rfl⟩:=hy;rw[hk]at hk';cases hk';exact hS2.tm k
 obtain⟨ρ1,e1,r1,a1,x1⟩:=g.2 ρ2 w' _ hS2.rep hA;refine⟨ρ1,⟨tm (ks.zip ds'),H2,s2.c⟩,q,⟨C0e fun i k d hk hd=>a1.2 i d _ hd (by grind),r1,by rw[e1];exact hS2.fresh,hS2.size,hS2.dfr⟩,?_⟩;exact⟨hst.up,fun id hid hne=>hst.dom id hid (g.1 id hne),fun id hid=>by rw[e1];exact hst.same id hid,hst.ext.trans x1⟩
theorem A7n:∀ {L:List (Nat × DV)} {T:Tm},C5 L T->(L.map Prod.fst).map T=L.map Prod.snd
 |[],_,_=>rfl
 |(k,v) :: r,T,⟨h1,h2⟩=>by simp only[A0U,h1,A7n h2]
theorem C7z(L:List (Nat × DV)):(L.map Prod.fst).zip (L.map Prod.snd)=L:=by
 induction L with
 |nil=>rfl
 |cons a r ih=>grind
def lpG{σ : Type}(L : σ -> List (Nat × DV))(h : σ -> Hp)(I : σ -> Nat->Prop)(μ : σ -> Nat)(m:Nat)(Q:Exit->St->Prop):Exit->St->Prop
 |.normal,⟨T,H,c⟩ => ∃ b,C5 (L b) T/\GL H ((L b).map Prod.snd) (h b) ((L b).map Prod.snd)/\I b c /\ μ b<m
 |e,s=>Q e s
theorem A2t{σ : Type}(L : σ -> List (Nat × DV))(h : σ -> Hp)(I : σ -> Nat->Prop)(μ : σ -> Nat)(a : σ)(hL:∀ b,C5 (L b) (tm (L b)))(h0:C5 (L a) T)(hH:Sub (h a) H)(hI:I a c)
  (step:∀ a c,I a c->IW P N x ⟨tm (L a),h a,c⟩ (lpG L h I μ (μ a) Q)):IW P N (.loop x) ⟨T,H,c⟩ Q:=by
 refine D4 L h I μ a h0 hH hI fun a c hI=>IW.gl ((step a c hI).mono fun e s' q=>?_);obtain⟨T',H',c'⟩:=s';cases e with
 |normal =>
  obtain⟨b,q1,q2,q3,q4⟩:=q;refine .inr ⟨(L b).map Prod.fst,(L b).map Prod.snd,h b,by rw[A7n q1];omega,?_⟩;rw[C7z];exact⟨b,hL b,Sub.refl _,q3,q4⟩
 |_=>exact .inl q
theorem D4h{σ : Type}{L : σ -> List (Nat × DV)}{h : σ -> Hp}{I : σ -> Nat->Prop}{μ : σ -> Nat}{m:Nat}:lpG L h I μ m Q .normal ⟨T,H,c⟩ = ∃ b,C5 (L b) T/\GL H ((L b).map Prod.snd) (h b) ((L b).map Prod.snd)/\A8u I b c /\ μ b<m:=propext Iff.rfl
theorem D4g{σ : Type}{L : σ -> List (Nat × DV)}{h : σ -> Hp}{I : σ -> Nat->Prop}{μ : σ -> Nat}{m:Nat}:lpG L h I μ m Q .ret ⟨T,H,c⟩=Q .ret ⟨T,H,c⟩:=propext Iff.rfl
theorem D4i{σ : Type}{L : σ -> List (Nat × DV)}{h : σ -> Hp}{I : σ -> Nat->Prop}{μ : σ -> Nat}{m i:Nat}:lpG L h I μ m Q (.exit i) ⟨T,H,c⟩=Q (.exit i) ⟨T,H,c⟩:=propext Iff.rfl
end
section
open Go.Eng (AOp)
variable {c0:Nat} {T:Tm} {H:Hp}
def agN(T:Tm)(H:Hp)(d n:Nat):Option (Option Nat × Blk)->Prop
 |some (k,b)=>T d=mkv n k/\H n=some b
 |none=>False
theorem D6n{j d:Nat}{f:AOp}:agK c0 j T H (some d) (.new f) (some true)=agN T H d (c0+j) (aev (ev T) f):=by
 simp only[agK,agN]
 grind
theorem D6o{d n:Nat}{k:Option Nat}{b:Blk}:agN T H d n (some (k,b))=(T d=mkv n k/\H n=some b):=propext Iff.rfl
end
attribute [go_sem] D6n D6o
attribute [go_sem] D4h D4g D4i
end Go.Sym
namespace Go.Pb
variable [Go.Sym.Tab]
open Go.Sym
section
variable {L:List Tok} {E:Int}
theorem C3i{k:Int}{s:Rd}(hi:s.i<L.length):(Q2 L E k s).2.i<=L.length:=by
 have hn:(B2 s).i<=L.length:=hi;have h2:=J7 (E:=E) (x:=1) (by simp) hn;unfold Q2;dsimp only;split
 ·refine H4 (J7 (by decide) ?_);split
  ·rename_i hm;rw[A0D]at hm;exact (A1k hm.2).2
  omega
 ·exact H4 h2
theorem C7j:∀ (f:Nat) (l:List Hd) (s:Rd) (r:List Hd × Rd),U6 L E f l s=some r->s.i<=L.length->r.2.i<=L.length
 |0,l,s,r,h,hi=>by trivial
 |f+1,l,s,r,h,hi=>by
  unfold U6 at h;dsimp only at h;split at h
  ·split at h
   ·cases h;rw[U2];omega
   ·have h1:(C9 L E s ((l.length:Int)+1) 32 9).i<=L.length:=by rw[F0];omega
    have h2:=H4 (E:=E) (x:=[111,110]) h1;split at h
    ·cases h;rw[U2];omega
    ·rename_i hk;have h3:(B2 (D6 L E (C9 L E s ((l.length:Int)+1) 32 9) [111,110])).i<=L.length:=(F7 (show 0<=C3 L E (D6 L E (C9 L E s ((l.length:Int)+1) 32 9) [111,110]) D5 by omega)).2.1;split at h
     ·grind
     ·rename_i hb;refine C7j f _ _ _ h ((II.all f).1 _ _ _ hb ?_);split
      ·exact J7 (by decide) h3
      omega
  ·cases h;exact H4 hi
theorem C1z{f:Nat}{s:Rd}{r:Md × Rd}(h:A1a L E f s=some r)(hi:s.i<=L.length):r.2.i<=L.length:=by
 unfold A1a at h;dsimp only at h;split at h
 ·grind
 ·rename_i hm;cases h;exact C7j f _ _ _ hm (H4 (J7 (by simp) (J7 (by simp) (H4 hi))))
theorem C1a:∀ (f:Nat) (l:List Dc) (s:Rd) (r:List Dc × Rd),U5 L E f l s=some r->s.i<=L.length->r.2.i<=L.length
 |0,l,s,r,h,hi=>by trivial
 |f+1,l,s,r,h,hi=>by
  unfold U5 at h;dsimp only at h;split at h
  ·grind
  ·rename_i hk;have hlt:=(F7 (show 0<=C3 L E s D0 by omega)).2.1;split at h
   ·exact C1a f _ _ _ h (C3i (by rw[F0];omega))
   ·exact C1a f _ _ _ h (by rw[F0];omega)
theorem C0z:∀ (f:Nat) (l:List Md) (s:Rd) (r:List Md × Rd),P4 L E f l s=some r->s.i<=L.length->r.2.i<=L.length
 |0,l,s,r,h,hi=>by trivial
 |f+1,l,s,r,h,hi=>by
  unfold P4 at h;dsimp only at h;split at h
  ·split at h
   ·cases h;rw[U2];exact hi
   ·split at h
    ·split at h
     ·cases h
     ·rename_i hm;exact C0z f _ _ _ h (C1z hm (by rw[F0];exact hi))
    ·exact C0z f _ _ _ h (by rw[F0];exact hi)
  grind
end
def okN(kind:Int)(text:List UInt8)(value:Int)(i n:Nat):DV:=.tup [.agg [I64 kind,.str text,I64 value,I64 i],I64 ((i+n:Nat):Int),I64 0]
def V1(e:Int)(i:Nat):DV:=.tup [.agg [I64 0,.str [],I64 0,I64 0],I64 i,I64 e]
def nxR(x:Nx)(i:Nat):DV:=if x.err=0 then okN x.kind x.text x.value i x.n else V1 x.err i
theorem B5a(x:Nx)(i:Nat):(nxR x i).nl=true:=by unfold nxR;split<;>rfl
theorem A7v{k:Int}{t:List UInt8}{v:Int}{n i:Nat}:nxR ⟨k,t,v,n,0⟩ i=okN k t v i n:=if_pos rfl
theorem A7e{e:Int}{i:Nat}(h:e≠0):nxR (nxE e) i=V1 e i:=if_neg h
def B1q(s:List UInt8):Bool:=decide (2147483647<S9 s)
def smV(s:List UInt8):Nat:=if 2147483647<S9 s then 0 else S9 s
theorem C0o(s:List UInt8):smV s<=2147483647:=by unfold smV;grind
theorem C0p{s:List UInt8}(h:¬ 2147483647<S9 s):smV s=S9 s:=if_neg h
theorem C7c{s:List UInt8}(h:2147483647<S9 s):smV s=0:=if_pos h
theorem A7p{p:UInt8->Bool}{s:List UInt8}{i j:Nat}{c:UInt8}(h:s[i+j]? = some c)(hj:j<=E2 p (s.drop i)):(p c=true->j+1<=E2 p (s.drop i))/\(p c=false->E2 p (s.drop i)=j) :=
 A7c (by grind) hj
theorem A5g{p:UInt8->Bool}{s:List UInt8}{i j:Nat}(h:s.length<=i+j)(hj:j<=E2 p (s.drop i)):E2 p (s.drop i)=j :=
 B2e (by grind) hj
theorem B2f{s:List UInt8}{i n:Nat}(h:i+n<=s.length):slsR s (some (.int .i64 (i:Int))) (some (.int .i64 ((i+n:Nat):Int)))=some (.str ((s.drop i).take n)):=by
 have b1:∀ k:Nat,boundOf s.length (some (.int .i64 (k:Int)))=some k:=fun k=>by simp[boundOf]
 have b2:∀ k:Nat,boundOf 0 (some (.int .i64 (k:Int)))=some k:=fun k=>by simp[boundOf]
 simp only[slsR,b1,b2]
 grind
theorem B8r(x:Nx)(i:Nat):∃ (k:Int) (t:List UInt8) (v p n e:Int),nxR x i=.tup [.agg [I64 k,.str t,I64 v,I64 p],I64 n,I64 e]:=by
 unfold nxR;split
 ·exact⟨_,_,_,_,_,_,rfl⟩
 ·exact⟨_,_,_,_,_,_,rfl⟩
def C3m:Blk:=⟨0,true,[I64 0,.str [],I64 0,I64 0]⟩
def quR(i:Nat):Option (List UInt8 × Nat)->DV
 |none=>V1 48 i
 |some x=>if 32<x.1.length then V1 9 i else .tup [.agg [I64 4,.str x.1,I64 0,I64 i],I64 (x.2:Int),I64 0]
theorem C9x(i:Nat)(q:Option (List UInt8 × Nat)):(quR i q).nl=true:=by
 cases q with
 |none=>rfl
 |some x=>simp only[quR];split<;>rfl
theorem C1j{s:List UInt8}{i:Nat}{c:UInt8}(h:s[i]? = some c)(h1:ltB c=false)(h2:dgB c=false)(h3:c.toNat=34):quR i (quA [] (i+1) (quM (s.drop (i+1))))=nxR (D2 (s.drop i)) i:=by
 rw[N5 h,D2,if_neg (by grind),if_neg (by grind),if_pos h3];cases hq:quM (s.drop (i+1)) with
 |none=>rfl
 |some x =>
  simp only[quA,A3I,List.nil_append,quR];split
  ·rfl
  ·rw[A7v,okN]
   grind
theorem A7a{X:Hp}{o:Option Nat}{c:Nat}{b b2 b3 b3':Blk}(hX:∀ j q,X j=some q->j<c)(ho:∀ i,o=some i->X i=none)(h:b3=b3'):
  Sub (B9 X (some (c+1)) b3) ((I5 ((B9 X o b).upd c b2) o).upd (c+1) b3'):=by
 subst h;intro j q hj;simp only[B9]at hj;by_cases e:j=c+1
 ·subst e;rw[A0]at hj ⊢;omega
 ·rw[A6 e]at hj ⊢;have h1:=hX j q hj;have h2:∀ i,o=some i->¬ j=i:=fun i hi e2=>by rw[e2,ho i hi]at hj;cases hj
  rw[C7 h2,hnO,B6 h2];omega
theorem A6w{b:Blk}{c j:Nat}{q:Blk}(hc:1<=c)(h:(Sym.nil.upd 0 b) j=some q):j<c:=by
 by_cases e:j=0
 ·omega
 ·rw[A6 e]at h;cases h
theorem A6v{b:Blk}{i:Nat}(h:¬ i=0):(Sym.nil.upd 0 b) i=none:=by rw[A6 h];rfl
def Q8:List (List UInt8):=[[60,61],[62,61],[61,61],[33,61],[38,38],[124,124],[123],[125],[40],[41],[59],[44],[61],[43],[45],[42],[47],[37],[33],[60],[62]]
theorem C0t:∀ k:Nat,k<6->∃ a b,Q8.getD k []=[a,b]/\B0k a b=true:=by
 intro k hk;have:∀ k:Nat,k<6->(match Q8.getD k [] with |[a,b]=>B0k a b|_=>false)=true:=by decide
 grind
theorem C0u:∀ k:Nat,6<=k->k<21->∃ a,Q8.getD k []=[a]/\B2u a=true:=by
 intro k h6 hk;have:∀ k:Nat,k<21->6<=k->(match Q8.getD k [] with |[a]=>B2u a|_=>false)=true:=by decide
 grind
theorem B9z{c d:UInt8}(h:B0k c d=true):∃ k,k<6/\Q8.getD k []=[c,d]:=by
 rw[C3x]at h;simp only[A1C,A1I]at h;rcases h with ((((h|h)|h)|h)|h)|h
 ·exact⟨0,by omega,h.symm⟩
 ·exact⟨1,by omega,h.symm⟩
 ·exact⟨2,by omega,h.symm⟩
 ·exact⟨3,by omega,h.symm⟩
 ·exact⟨4,by omega,h.symm⟩
 ·exact⟨5,by omega,h.symm⟩
theorem D0g{c:UInt8}(h:B2u c=true):∃ k,6<=k/\k<21/\Q8.getD k []=[c]:=by
 have key:∀ n:Nat,n<256->B2u (UInt8.ofNat n)=true->∃ k,k<21/\6<=k/\Q8.getD k []=[UInt8.ofNat n]:=by decide +kernel
 obtain⟨k,h1,h2,h3⟩:=key c.toNat c.toNat_lt (by rw[UInt8.ofNat_toNat];exact h);rw[UInt8.ofNat_toNat]at h3
 grind
def A5m(l s:List UInt8):Bool:=decide (l.length<=s.length) && (s.take l.length == l)
theorem B8j{s:List UInt8}{k:Nat}(hk:k<21)(hno:∀ j,j<k->A5m (Q8.getD j []) s=false)(h:A5m (Q8.getD k []) s=true):P8 s=(Q8.getD k []).length/\(Q8.getD k [])=s.take (Q8.getD k []).length:=by
 simp only[A5m,A0D,A0F,A1I]at h;refine⟨?_,h.2.symm⟩;by_cases h6:k<6
 ·obtain⟨a,b,e,ht⟩:=C0t k h6;rw[e]at h ⊢
  match s,h with
  |[],h=>grind
  |[x],h=>grind
  |x :: y :: r,h =>
   simp at h;obtain⟨rfl,rfl⟩:=h;simp[P8,ht]
 ·obtain⟨a,e,ho⟩:=C0u k (by omega) hk;rw[e]at h ⊢
  match s,h with
  |[],h=>grind
  |[x],h =>
   simp at h;subst h;simp[P8,ho]
  |x :: y :: r,h =>
   simp at h;subst h;have h2:B0k x y=false:=by
    cases ht:B0k x y with
    |false=>rfl
    |true =>
     obtain⟨j,hj,e2⟩:=B9z ht;have:=hno j (by omega);rw[e2]at this;simp[A5m]at this
   simp[P8,h2,ho]
theorem C0s{s:List UInt8}(hno:∀ j,j<21->A5m (Q8.getD j []) s=false):P8 s=0:=by
 have h1:∀ x r,s=x :: r->B2u x=false:=by
  intro x r e;cases ho:B2u x with
  |false=>rfl
  |true =>
   obtain⟨j, -,hj,e2⟩:=D0g ho;have:=hno j hj;rw[e2,e]at this;simp[A5m]at this
 match s,hno,h1 with
 |[],_,_=>rfl
 |[x],_,h1=>simp[P8,h1 x [] rfl]
 |x :: y :: r,hno,h1 =>
  have h2:B0k x y=false:=by
   cases ht:B0k x y with
   |false=>rfl
   |true =>
    obtain⟨j,hj,e2⟩:=B9z ht;have:=hno j (by omega);rw[e2]at this;simp[A5m]at this
  simp[P8,h2,h1 x _ rfl]
def T0:Tok:=⟨0,[],0,0⟩
theorem C7u{g:Bool}{a b d a' b' d':Int}{s t:List UInt8}:B9g g [0,2,0,0] (.agg [I64 a,.str s,I64 b,I64 d]) (.agg [I64 a',.str t,I64 b',I64 d'])=some (.bool (g != (a == a' && (s == t && (b == b' && d == d'))))):=by
 simp only[B9g,S0,A5v,if_true]
 grind
theorem A9l:∀ (f:Nat) (s:List UInt8) (k:Nat) (acc:List Tok),acc.length<=k->k<=s.length->(Q9 f s k acc).1.length<=s.length
 |0,s,k,acc,h1,h2=>by simp only[Q9];omega
 |f+1,s,k,acc,h1,h2=>by
  rw[Q9];split
  ·grind
  ·split
   ·simp
   ·rename_i h3 h4;have h4:(D2 (s.drop k)).err=0:=by omega
    have hn:=B1c h4;rw[A2A]at hn;have hk:=A0w false (s.drop (k+(D2 (s.drop k)).n));rw[A2A]at hk;exact A9l f s _ _ (by grind) (by omega)
theorem B8k(s:List UInt8):(G5 s).1.length<=s.length:=by
 unfold G5;split
 ·simp
 ·have:=A0w false s;exact A9l _ _ _ _ (by simp) this
def H7(t:Tok):List UInt8:=if t.kind=1\/t.kind=2\/t.kind=5 then t.text else if t.kind=3 then J6 t.value else if t.kind=4 then R0 t.text else []
def nxT(x:Nx)(p:Int):Tok:=⟨x.kind,x.text,x.value,p⟩
def B0h(s:List UInt8):Nat->List Tok->Prop
 |k,[]=>s.length<=k
 |k,t :: l=>k<s.length/\(D2 (s.drop k)).err=0/\t=nxT (D2 (s.drop k)) (k:Int)/\B0h s (k+(D2 (s.drop k)).n+skM false (s.drop (k+(D2 (s.drop k)).n))) l
theorem A6d:∀ (f:Nat) (s:List UInt8) (k:Nat) (acc:List Tok),s.length+1<=k+f->(Q9 f s k acc).2.2=0->∃ l,(Q9 f s k acc).1=acc++l/\B0h s k l
 |0,s,k,acc,hf,h=>⟨[],by simp[Q9],by show s.length<=k;omega⟩
 |f+1,s,k,acc,hf,h=>by
  rw[Q9]at h ⊢;by_cases h1:s.length<=k
  ·rw[if_pos h1];exact⟨[],by simp,h1⟩
  ·rw[if_neg h1]at h ⊢;by_cases h2:(D2 (s.drop k)).err=0
   ·rw[if_neg (by simpa using h2)]at h ⊢;have hn:=B1c h2;obtain⟨l,e,hr⟩:=A6d f s _ _ (by omega) h;exact⟨_ :: l,by rw[e,A0T];rfl,by omega,h2,rfl,hr⟩
   grind
theorem A6e{s:List UInt8}(h:(G5 s).2.2=0):s.length<=20000/\B0h s (skM false s) (G5 s).1:=by
 unfold G5 at h ⊢;by_cases h1:20000<s.length
 ·grind
 ·rw[if_neg h1]at h ⊢;have:=A0w false s;obtain⟨l,e,hr⟩:=A6d _ s _ [] (by omega) h
  grind
def TOk(t:Tok):Prop:=∃ s p,(D2 s).err=0/\t=nxT (D2 s) p
theorem B0h.ok{s:List UInt8}:∀ {k:Nat} {l:List Tok},B0h s k l->∀ t∈l,TOk t
 |k,[],_,t,h=>by grind
 |k,x :: l,h,t,ht=>by
  rcases A1E.1 ht with rfl|ht
  ·exact⟨_,_,h.2.1,h.2.2.1⟩
  ·exact B0h.ok h.2.2.2 t ht
def C4d(l:List Tok):Nat:=(l.map fun t=>(H7 t).length).sum
def A6g(sp:Nat->List UInt8):Nat->List Tok->List UInt8
 |_,[]=>[]
 |i,t :: l=>sp i++H7 t++A6g sp (i+1) l
theorem B3g{sp:Nat->List UInt8}{m:Nat}(h:∀ i,(sp i).length<=m):∀ (l:List Tok) (i:Nat),(A6g sp i l).length<=m * l.length+C4d l
 |[],i=>by simp[A6g]
 |t :: l,i=>by
  have ih:=B3g h l (i+1);have hi:=h i;simp only[A6g,A0A,C4d,A0U,A3J,A0I,Nat.mul_succ]at ih ⊢;omega
def spB(i:Nat):List UInt8:=if i=0 then [] else [32]
def A5z(l:List Tok):List UInt8:=A6g spB 0 l
theorem C4h(i:Nat):(spB i).length<=1:=by unfold spB;grind
theorem A9n(s:List UInt8):(R0 s).length<=2 * s.length+2:=by
 have:=A7t s;unfold R0
 grind
def Fit(t:Tok):Prop:=t.text.length<=100000/\I6 t.value
theorem B2t{t:Tok}(h:Fit t):(H7 t).length<=200024:=by
 have h1:=A9n t.text;have h2:=A1z h.2.1 h.2.2;have h3:=h.1;unfold H7
 grind
theorem B6m:∀ {l:List Tok},(∀ t∈l,Fit t)->C4d l<=200024 * l.length
 |[],_=>by trivial
 |t :: l,h=>by
  have h1:=B2t (h t A0K);have h2:=B6m (l:=l) fun x hx=>h x (A0H _ hx);simp only[C4d,A0U,A3J,A0I]at h2 ⊢;omega
theorem A9h{l:List Tok}(h:∀ t∈l,Fit t):(A5z l).length<=200025 * l.length:=by
 have h1:=B3g C4h l 0;have h2:=B6m h;unfold A5z;omega
theorem A9w:∀ (l:List Tok) (i:Nat),1<=i->A6g spB i l=Lib.joinTail [32] (l.map H7)
 |[],i,_=>rfl
 |t :: l,i,h=>by
  have ih:=A9w l (i+1) (by omega);simp only[A6g,ih,Lib.joinTail,A0U,A1J];rw[spB,if_neg (by omega)]
theorem A2i(l:List Tok):Lib.join (l.map H7) [32]=A5z l:=by
 cases l with
 |nil=>rfl
 |cons t l =>
  rw[A0U,Lib.join_cons,A5z,A6g,A9w l 1 (by omega),spB,if_pos rfl];simp
theorem B6s{s:List UInt8}(h:(G5 s).2.2=0):∀ t∈(G5 s).1,TOk t:=(A6e h).2.ok
def Evt{α : Type}(g:Nat->Option α)(r : α):Prop:=∃ N, ∀ f,N<=f->g f=some r
theorem Evt.one{α : Type}{g:Nat->Option α}{r : α}(h:∀ f,g (f+1)=some r):Evt g r :=
 ⟨1,fun f hf=>by obtain⟨k,rfl⟩:∃ k,f=k+1:=⟨f-1,by omega⟩;grind⟩
theorem Evt.ext{α β : Type}{g:Nat->Option α}{h:Nat->Option β}{r : α}{q : β}(hg:Evt g r)(e:∀ f,g f=some r->h (f+1)=some q):Evt h q:=by
 obtain⟨N,hg⟩:=hg;exact⟨N+1,fun f hf=>by obtain⟨k,rfl⟩:∃ k,f=k+1:=⟨f-1,by omega⟩;grind⟩
theorem Evt.map{α β : Type}{g:Nat->Option α}{h:Nat->Option β}{r : α}{q : β}(hg:Evt g r)(e:∀ f,g f=some r->h f=some q):Evt h q:=by
 obtain⟨N,hg⟩:=hg;exact⟨N,fun f hf=>e f (hg f hf)⟩
theorem Evt.and{α β : Type}{g:Nat->Option α}{h:Nat->Option β}{r : α}{q : β}(hg:Evt g r)(hh:Evt h q):Evt (fun f=>match g f,h f with|some a,some b=>some (a,b)|_,_=>none) (r,q):=by
 obtain⟨N,hg⟩:=hg;obtain⟨M,hh⟩:=hh;exact⟨max N M,fun f hf=>by grind⟩
theorem Evt.ext2{α β γ : Type}{g:Nat->Option α}{h:Nat->Option β}{k:Nat->Option γ}{r : α}{q : β}{w : γ}(hg:Evt g r)(hh:Evt h q)(e:∀ f,g f=some r->h f=some q->k (f+1)=some w):Evt k w:=by
 obtain⟨N,hg⟩:=hg;obtain⟨M,hh⟩:=hh;exact⟨max N M+1,fun f hf=>by obtain⟨j,rfl⟩:∃ j,f=j+1:=⟨f-1,by omega⟩;grind⟩
theorem Evt.map2{α β γ : Type}{g:Nat->Option α}{h:Nat->Option β}{k:Nat->Option γ}{r : α}{q : β}{w : γ}(hg:Evt g r)(hh:Evt h q)(e:∀ f,g f=some r->h f=some q->k f=some w):Evt k w:=by
 obtain⟨N,hg⟩:=hg;obtain⟨M,hh⟩:=hh;exact⟨max N M,fun f hf=>e f (hg f (by omega)) (hh f (by omega))⟩
theorem Evt.uniq{α : Type}{g:Nat->Option α}{r q : α}(h1:Evt g r)(h2:Evt g q):r=q:=by
 obtain⟨N,h1⟩:=h1;obtain⟨M,h2⟩:=h2;exact Option.some.inj ((h1 (max N M) (by omega)).symm.trans (h2 (max N M) (by omega)))
theorem Evt.get{α : Type}{g:Nat->Option α}{r : α}(h:Evt g r):∃ f,g f=some r:=by
 obtain⟨N,h⟩:=h;exact⟨N,h N (A0J _)⟩
section
variable {L:List Tok} {E:Int}
abbrev Bin(L:List Tok)(E n:Int)(s:Rd)(r:Ex × Rd):Prop:=Evt (fun f=>K4 L E f n s) r
abbrev Lop(L:List Tok)(E n:Int)(e:Ex)(s:Rd)(r:Ex × Rd):Prop:=Evt (fun f=>U7 L E f n e s) r
abbrev Un(L:List Tok)(E:Int)(s:Rd)(r:Ex × Rd):Prop:=Evt (fun f=>Y3 L E f s) r
theorem Bin.un{n:Int}{s:Rd}{r:Ex × Rd}(hn:5<n)(h:Un L E s r):Bin L E n s r :=
 h.ext fun f h=>by rw[K4,if_pos hn];omega
theorem Bin.go{n:Int}{s s1:Rd}{e:Ex}{r:Ex × Rd}(hn:n<=5)(h:Bin L E (n+1) s (e,s1))(h2:Lop L E n e s1 r):Bin L E n s r :=
 h.ext2 h2 fun f h h2=>by rw[K4,if_neg (by omega),h];omega
theorem Lop.stop{n:Int}{e:Ex}{s:Rd}(h:C3 L E s D3<0\/B5 (12+C3 L E s D3)≠n):Lop L E n e s (e,s) :=
 Evt.one fun f=>by rw[U7];grind
theorem Lop.three{n:Int}{e x:Ex}{s s1:Rd}(h0:0<=C3 L E s D3)(h1:B5 (12+C3 L E s D3)=n)(hn:n=3)(hb:Bin L E (n+1) (B2 s) (x,s1)):Lop L E n e s (.mk (12+C3 L E s D3) 0 [] [e,x] (C2 L E s).pos,s1) :=
 hb.ext fun f h=>by rw[U7];grind
theorem Lop.more{n:Int}{e x:Ex}{s s1:Rd}{r:Ex × Rd}(h0:0<=C3 L E s D3)(h1:B5 (12+C3 L E s D3)=n)(hn:n≠3)(hb:Bin L E (n+1) (B2 s) (x,s1))(hl:Lop L E n (.mk (12+C3 L E s D3) 0 [] [e,x] (C2 L E s).pos) s1 r):Lop L E n e s r :=
 hb.ext2 hl fun f h h2=>by rw[U7];grind
theorem Un.prim{s:Rd}(h:C3 L E s Q1<0):Un L E s (J2 L E s) :=
 Evt.one fun f=>by rw[Y3];grind
theorem Un.bad{s:Rd}(h:0<=C3 L E s Q1)(hl:okR (C9 L E s (s.par+1) 16 50)=false):Un L E s (Ex0,C9 L E s (s.par+1) 16 50) :=
 Evt.one fun f=>by rw[Y3];grind
theorem Un.par{s s3:Rd}{e:Ex}(h:C3 L E s Q1=2)(hl:okR (C9 L E s (s.par+1) 16 50)=true)(hb:Bin L E 1 { s with i:=s.i+1,par:=s.par+1 } (e,s3)):Un L E s (e, { D6 L E s3 [41] with par:=(D6 L E s3 [41]).par-1 }) :=
 hb.ext fun f hf=>by
  have e0:=(F5 (by decide) hl).2.2;rw[Y3];grind
theorem Un.pre{s s3:Rd}{e:Ex}(h0:0<=C3 L E s Q1)(h:C3 L E s Q1≠2)(hl:okR (C9 L E s (s.par+1) 16 50)=true)(hb:Un L E { s with i:=s.i+1,par:=s.par+1 } (e,s3)):Un L E s (.mk (10+C3 L E s Q1) 0 [] [e] (C2 L E s).pos, { s3 with par:=s3.par-1 }) :=
 hb.ext fun f hf=>by
  have e0:=(F5 (by decide) hl).2.2;rw[Y3];grind
theorem E7{s:Rd}{x:List UInt8}:s.i<=(D6 L E s x).i:=by
 unfold D6;cases k:isR L E s x with
 |false=>rw[if_pos rfl,U2];omega
 |true=>rw[if_neg (by simp)];exact A3F _
theorem I7{s:Rd}{x:Int}:s.i<=(B4 L E s x).2.i:=by
 unfold B4;cases k:I8 L E s x with
 |false=>rw[if_pos rfl];show s.i<=(N8 L E s).i;rw[U2];omega
 |true=>rw[if_neg (by simp)];exact A3F _
theorem B7d{s:Rd}:s.i<=(J2 L E s).2.i:=by
 unfold J2;dsimp only;have h2:(C9 L E { s with ops:=s.ops+1 } (s.ops+1) 32 9).i=s.i:=F0;have h3:(B2 (C9 L E { s with ops:=s.ops+1 } (s.ops+1) 32 9)).i=s.i+1:=by show (C9 L E { s with ops:=s.ops+1 } (s.ops+1) 32 9).i+1=_;omega
 split
 ·show s.i<=(N8 L E s).i;rw[U2];omega
 ·split
  ·grind
  ·have:=I7 (L:=L) (E:=E) (s:=B2 (C9 L E { s with ops:=s.ops+1 } (s.ops+1) 32 9)) (x:=1)
   grind
theorem ET.all:∀ (m:Nat),(∀ s:Rd,L.length-s.i<=m->∃ r,Un L E s r/\s.i<=r.2.i)/\(∀ (n:Int) e (s:Rd),n<=5->1<=n->L.length-s.i<=m->∃ r,Lop L E n e s r/\s.i<=r.2.i)/\(∀ (n:Int) (s:Rd),1<=n->L.length-s.i<=m->∃ r,Bin L E n s r/\s.i<=r.2.i):=by
 intro m
 induction m using Nat.strongRecOn with
 |_ m ih =>
  have A:∀ s:Rd,L.length-s.i<=m->∃ r,Un L E s r/\s.i<=r.2.i:=by
   intro s hs;by_cases hk:C3 L E s Q1<0
   ·exact⟨_,Un.prim hk,B7d⟩
   ·obtain⟨-,hi, -⟩:=F7 (show 0<=C3 L E s Q1 by omega);cases hl:okR (C9 L E s (s.par+1) 16 50) with
    |false=>exact⟨_,Un.bad (by omega) hl,by show s.i<=(C9 L E s (s.par+1) 16 50).i;rw[F0];omega⟩
    |true =>
     by_cases h2:C3 L E s Q1=2
     ·obtain⟨⟨e,s3⟩,hb,hge⟩:=(ih (m-1) (by omega)).2.2 1 { s with i:=s.i+1,par:=s.par+1 } (by decide) (by show L.length-(s.i+1)<=m-1;omega);refine⟨_,Un.par h2 hl hb,?_⟩;have h4:=E7 (L:=L) (E:=E) (s:=s3) (x:=[41])
      grind
     ·obtain⟨⟨e,s3⟩,hb,hge⟩:=(ih (m-1) (by omega)).1 { s with i:=s.i+1,par:=s.par+1 } (by show L.length-(s.i+1)<=m-1;omega);refine⟨_,Un.pre (by omega) h2 hl hb,?_⟩
      grind
  have B:∀ (n:Int) e (s:Rd),n<=5->1<=n->L.length-s.i<=m->∃ r,Lop L E n e s r/\s.i<=r.2.i:=by
   intro n e s h5 h1 hs;by_cases hk:C3 L E s D3<0\/B5 (12+C3 L E s D3)≠n
   ·exact⟨_,Lop.stop hk,A0J _⟩
   ·have h0:0<=C3 L E s D3:=by omega
    obtain⟨-,hi, -⟩:=F7 h0;obtain⟨⟨x,s1⟩,hb,hge⟩:=(ih (m-1) (by omega)).2.2 (n+1) (B2 s) (by omega) (by show L.length-(s.i+1)<=m-1;omega);have hge:s.i+1<=s1.i:=hge;by_cases h3:n=3
    ·exact⟨_,Lop.three h0 (by omega) h3 hb,by grind⟩
    ·obtain⟨r,hl,hg2⟩:=(ih (m-1) (by omega)).2.1 n (.mk (12+C3 L E s D3) 0 [] [e,x] (C2 L E s).pos) s1 h5 h1 (by omega);exact⟨_,Lop.more h0 (by omega) h3 hb hl,by omega⟩
  refine⟨A,B,?_⟩;have C:∀ (j:Nat) (n:Int) (s:Rd),6-n<=j->1<=n->L.length-s.i<=m->∃ r,Bin L E n s r/\s.i<=r.2.i:=by
   intro j
   induction j with
   |zero =>
    intro n s hj h1 hs;obtain⟨r,h,hg⟩:=A s hs;exact⟨r,Bin.un (by omega) h,hg⟩
   |succ j ihj =>
    intro n s hj h1 hs;by_cases h5:5<n
    ·grind
    ·obtain⟨⟨e,s1⟩,h,hg⟩:=ihj (n+1) s (by omega) (by omega) hs;have hg:s.i<=s1.i:=hg;obtain⟨r,h2,hg2⟩:=B n e s1 (by omega) h1 (by omega);exact⟨r,Bin.go (by omega) h h2,by omega⟩
  exact fun n s h1 hs=>C (6-n).toNat n s (by omega) h1 hs
abbrev Xpn(L:List Tok)(E:Int)(s:Rd)(r:Ex × Rd):Prop:=Evt (fun f=>R8 L E f s) r
theorem A2g(s:Rd):∃ r,Xpn L E s r/\s.i<=r.2.i:=by
 obtain⟨r,h,hg⟩:=(ET.all (L:=L) (E:=E) (L.length-s.i)).2.2 1 { s with ops:=0,par:=0 } (by simp) (A0J _);exact⟨r,h,hg⟩
theorem C0g(k p:Int)(s:Rd):∃ r,Evt (fun f=>N7 L E f k p s) r/\s.i<=r.2.i:=by
 by_cases h4:k=4
 ·obtain⟨⟨e,s1⟩,h,hg⟩:=A2g (L:=L) (E:=E) s;exact⟨_,h.map fun f h=>by unfold N7;rw[if_pos h4,h],A1O hg E7⟩
 by_cases h18:k=18
 ·obtain⟨⟨e,s1⟩,h,hg⟩:=A2g (L:=L) (E:=E) (D6 L E (B4 L E s 4).2 [44]);exact⟨_,h.map fun f h=>by unfold N7;rw[if_neg h4,if_pos h18,h],A1O (A1O I7 (A1O E7 hg)) E7⟩
 by_cases h19:k=19
 ·exact⟨_,Evt.one fun f=>by unfold N7;rw[if_neg h4,if_neg h18,if_pos h19],E7⟩
 by_cases h8:k=8\/k=9\/k=10
 ·obtain⟨⟨e,s1⟩,h,hg⟩:=A2g (L:=L) (E:=E) (B4 L E s 1).2;by_cases h9:k=9
  ·obtain⟨⟨e2,s2⟩,h2,hg2⟩:=A2g (L:=L) (E:=E) (D6 L E s1 [44]);exact⟨_,h.map2 h2 fun f h h2=>by unfold N7;rw[if_neg h4,if_neg h18,if_neg h19];dsimp only;rw[if_pos h8,h];dsimp only;rw[if_pos h9,h2],A1O (A1O I7 (A1O hg (A1O E7 hg2))) E7⟩
  ·exact⟨_,h.map fun f h=>by unfold N7;rw[if_neg h4,if_neg h18,if_neg h19];dsimp only;rw[if_pos h8,h];dsimp only;rw[if_neg h9],A1O (A1O I7 hg) E7⟩
 ·exact⟨_,Evt.one fun f=>by unfold N7;rw[if_neg h4,if_neg h18,if_neg h19];dsimp only;rw[if_neg h8],A1O I7 E7⟩
abbrev A6r(L:List Tok)(E d:Int)(s:Rd)(r:List St × Rd):Prop:=Evt (fun f=>K3 L E f d s) r
abbrev A0d(L:List Tok)(E d:Int)(l:List St)(s:Rd)(r:List St × Rd):Prop:=Evt (fun f=>S1 L E f d l s) r
abbrev S4(L:List Tok)(E d:Int)(s:Rd)(r:St × Rd):Prop:=Evt (fun f=>U3 L E f d s) r
abbrev A6q(L:List Tok)(E d:Int)(s:Rd)(r:List St × Rd):Prop:=Evt (fun f=>W1 L E f d s) r
theorem A6r.mk{d:Int}{s:Rd}{r:List St × Rd}(h:A0d L E d [] (D6 L E s [123]) r):A6r L E d s r :=
 h.ext fun f h=>by assumption
theorem A0d.stop{d:Int}{l:List St}{s:Rd}(h:¬ (okR s=true/\isR L E s [125]=false)):A0d L E d l s (l,D6 L E s [125]) :=
 Evt.one fun f=>by rw[S1,if_neg h]
theorem A0d.bad{d:Int}{l:List St}{s:Rd}(h:okR s=true/\isR L E s [125]=false)(h2:C3 L E s B8<0/\I8 L E s 1=false):A0d L E d l s ([],N8 L E s) :=
 Evt.one fun f=>by rw[S1,if_pos h,if_pos h2]
theorem A0d.more{d:Int}{l:List St}{s s1:Rd}{x:St}{r:List St × Rd}(h:okR s=true/\isR L E s [125]=false)(h2:¬ (C3 L E s B8<0/\I8 L E s 1=false))(hx:S4 L E d (C9 L E s ((l.length:Int)+1) 64 9) (x,s1))(hl:A0d L E d (l++[x]) s1 r):A0d L E d l s r :=
 hx.ext2 hl fun f hx hl=>by rw[S1,if_pos h,if_neg h2,hx];omega
theorem S4.bad{d:Int}{s:Rd}(h:okR (C9 L E s d 8 50)=false):S4 L E d s (St0,C9 L E s d 8 50) :=
 Evt.one fun f=>by rw[U3];grind
theorem S4.set{d:Int}{s s1:Rd}{e:Ex}(h:okR (C9 L E s d 8 50)=true)(hk:C3 L E s B8<0)(he:Xpn L E (D6 L E (B4 L E s 1).2 [61]) (e,s1)):S4 L E d s (.mk 1 (B4 L E s 1).1.text [] [e] [] [] (C2 L E s).pos,D6 L E s1 [59]) :=
 he.ext fun f hf=>by
  have e0:=(F5 (by decide) h).2.2;rw[U3];grind
theorem S4.els{d:Int}{s s2 s3 s4:Rd}{e:Ex}{t o:List St}(h:okR (C9 L E s d 8 50)=true)(hk:C3 L E s B8=0)(he:Xpn L E (B2 s) (e,s2))(ht:A6r L E (d+1) s2 (t,s3))(hi:isR L E s3 [101,108,115,101]=true)(ho:A6q L E d (B2 s3) (o,s4)):S4 L E d s (.mk 2 [] [] [e] t o (C2 L E s).pos,s4) :=
 (he.and ht).ext2 ho fun f hf h2=>by
  have e0:=(F5 (by simp) h).2.2;cases h3:R8 L E f (B2 s) with
  |none=>grind
  |some q =>
   cases h4:K3 L E f (d+1) s2 with
   |none=>grind
   |some w =>
    rw[h3,h4]at hf;obtain⟨rfl,rfl⟩:=Prod.mk.inj (Option.some.inj hf);rw[U3];grind
theorem S4.blk{d:Int}{s s2 s3:Rd}{e:Ex}{t:List St}(h:okR (C9 L E s d 8 50)=true)(hk:C3 L E s B8=0\/C3 L E s B8=1)(he:Xpn L E (B2 s) (e,s2))(ht:A6r L E (d+1) s2 (t,s3))(hi:¬ (C3 L E s B8=0/\isR L E s3 [101,108,115,101]=true)):S4 L E d s (.mk (2+C3 L E s B8) [] [] [e] t [] (C2 L E s).pos,s3) :=
 he.ext2 ht fun f h3 h4=>by
  have e0:=(F5 (by decide) h).2.2;rw[U3];grind
theorem S4.tail{d:Int}{s:Rd}{r:St × Rd}(h:okR (C9 L E s d 8 50)=true)(hk:2<=C3 L E s B8)(he:Evt (fun f=>N7 L E f (2+C3 L E s B8) (C2 L E s).pos (B2 s)) r):S4 L E d s r :=
 he.ext fun f h3=>by
  have e0:=(F5 (by decide) h).2.2;rw[U3];grind
theorem A6q.iff{d:Int}{s s1:Rd}{x:St}(h:isR L E s [105,102]=true)(hs:S4 L E (d+1) s (x,s1)):A6q L E d s ([x],s1) :=
 hs.ext fun f hf=>by rw[W1,if_pos h,hf]
theorem A6q.blk{d:Int}{s:Rd}{r:List St × Rd}(h:isR L E s [105,102]=false)(hs:A6r L E (d+1) s r):A6q L E d s r :=
 hs.ext fun f hf=>by rw[W1,if_neg (by rw[h];decide)];omega
theorem ST.all:∀ (m:Nat),(∀ d (s:Rd),L.length-s.i<=m->∃ r,S4 L E d s r/\s.i<=r.2.i/\(okR (C9 L E s d 8 50)=true->(0<=C3 L E s B8\/I8 L E s 1=true)->s.i<r.2.i)) /\
  (∀ d l (s:Rd),L.length-s.i<=m->∃ r,A0d L E d l s r/\s.i<=r.2.i):=by
 intro m
 induction m using Nat.strongRecOn with
 |_ m ih =>
  have blk:∀ d (s:Rd),L.length-s.i<m->∃ r,A6r L E d s r/\s.i<=r.2.i:=by
   intro d s hs;have h0:=E7 (L:=L) (E:=E) (s:=s) (x:=[123]);obtain⟨r,h,hg⟩:=(ih _ hs).2 d [] (D6 L E s [123]) (by omega);exact⟨r,A6r.mk h,by omega⟩
  have oth:∀ d (s:Rd),L.length-s.i<m->∃ r,A6q L E d s r/\s.i<=r.2.i:=by
   intro d s hs;cases hi:isR L E s [105,102] with
   |true =>
    obtain⟨⟨x,s1⟩,h,hg, -⟩:=(ih _ hs).1 (d+1) s (A0J _);exact⟨_,A6q.iff hi h,hg⟩
   |false =>
    obtain⟨r,h,hg⟩:=blk (d+1) s hs;exact⟨r,A6q.blk hi h,hg⟩
  have A:∀ d (s:Rd),L.length-s.i<=m->∃ r,S4 L E d s r/\s.i<=r.2.i/\(okR (C9 L E s d 8 50)=true->(0<=C3 L E s B8\/I8 L E s 1=true)->s.i<r.2.i):=by
   intro d s hs;cases hl:okR (C9 L E s d 8 50) with
   |false=>exact⟨_,S4.bad hl,by show s.i<=(C9 L E s d 8 50).i;rw[F0];omega,fun h=>by grind⟩
   |true =>
    by_cases hk:C3 L E s B8<0
    ·obtain⟨⟨e,s1⟩,he,hg⟩:=A2g (L:=L) (E:=E) (D6 L E (B4 L E s 1).2 [61]);have hg:(D6 L E (B4 L E s 1).2 [61]).i<=s1.i:=hg;have h1:=E7 (L:=L) (E:=E) (s:=s1) (x:=[59]);have h2:=E7 (L:=L) (E:=E) (s:=(B4 L E s 1).2) (x:=[61]);have h3:=I7 (L:=L) (E:=E) (s:=s) (x:=1);refine⟨_,S4.set hl hk he,by show s.i<=(D6 L E s1 [59]).i;omega,fun _ hc=>?_⟩;have h4:I8 L E s 1=true:=hc.resolve_left (by omega);have h5:(B4 L E s 1).2.i=s.i+1:=by unfold B4;rw[if_neg (by rw[h4];decide)];rfl
     grind
    ·obtain⟨-,hi, -,hk18⟩:=F7 (show 0<=C3 L E s B8 by omega);by_cases h01:C3 L E s B8=0\/C3 L E s B8=1
     ·obtain⟨⟨e,s2⟩,he,hg⟩:=A2g (L:=L) (E:=E) (B2 s);have hg:s.i+1<=s2.i:=hg;obtain⟨⟨t,s3⟩,ht,hg3⟩:=blk (d+1) s2 (by omega);have hg3:s2.i<=s3.i:=hg3;by_cases hc:C3 L E s B8=0/\isR L E s3 [101,108,115,101]=true
      ·have hi3:=(A1k hc.2).2;obtain⟨⟨o,s4⟩,ho,hg4⟩:=oth d (B2 s3) (by show L.length-(s3.i+1)<m;omega);have hg4:s3.i+1<=s4.i:=hg4;exact⟨_,S4.els hl hc.1 he ht hc.2 ho,by grind,fun _ _=>by grind⟩
      ·exact⟨_,S4.blk hl h01 he ht hc,by grind,fun _ _=>by grind⟩
     ·obtain⟨r,hr,hg⟩:=C0g (L:=L) (E:=E) (2+C3 L E s B8) (C2 L E s).pos (B2 s);have hg:s.i+1<=r.2.i:=hg;exact⟨_,S4.tail hl (by omega) hr,by omega,fun _ _=>by omega⟩
  refine⟨A,fun d l s hs=>?_⟩;by_cases hc:okR s=true/\isR L E s [125]=false
  ·by_cases h2:C3 L E s B8<0/\I8 L E s 1=false
   ·exact⟨_,A0d.bad hc h2,by show s.i<=(N8 L E s).i;rw[U2];omega⟩
   ·have hlt:s.i<L.length:=by
     by_cases hk:0<=C3 L E s B8
     ·exact (F7 hk).2.1
     ·cases h1:I8 L E s 1 with
      |false=>grind
      |true=>exact (J3 (by simp) (G8 h1).2).2
    cases hl:okR (C9 L E s ((l.length:Int)+1) 64 9) with
    |false =>
     have hb:okR (C9 L E (C9 L E s ((l.length:Int)+1) 64 9) d 8 50)=false:=by
      cases hz:okR (C9 L E (C9 L E s ((l.length:Int)+1) 64 9) d 8 50) with
      |false=>rfl
      |true=>rw[(F5 (by decide) hz).1]at hl;cases hl
     have hx:=S4.bad hb;refine⟨_,A0d.more hc h2 hx (A0d.stop (by rw[hb];simp)),?_⟩;have h1:=E7 (L:=L) (E:=E) (s:=C9 L E (C9 L E s ((l.length:Int)+1) 64 9) d 8 50) (x:=[125]);rw[F0,F0]at h1;omega
    |true =>
     have e0:=(F5 (by simp) hl).2.2;obtain⟨⟨x,s1⟩,hx,hg,hprog⟩:=A d s hs;have hg:s.i<=s1.i:=hg;cases hd:okR (C9 L E s d 8 50) with
     |false =>
      have hx:=S4.bad hd;refine⟨_,A0d.more hc h2 (by rw[e0];exact hx) (A0d.stop (by rw[hd];simp)),?_⟩;have h1:=E7 (L:=L) (E:=E) (s:=C9 L E s d 8 50) (x:=[125]);rw[F0]at h1;omega
     |true =>
      have hlt2:s.i<s1.i:=hprog hd (by
       grind)
      obtain⟨r,hr,hg2⟩:=(ih (L.length-s1.i) (by omega)).2 d (l++[x]) s1 (A0J _);exact⟨r,A0d.more hc h2 (by grind) hr,by omega⟩
  ·exact⟨_,A0d.stop hc,E7⟩
theorem C6w(d:Int)(s:Rd):∃ r,A6r L E d s r/\s.i<=r.2.i:=by
 obtain⟨r,h,hg⟩:=(ST.all (L:=L) (E:=E) _).2 d [] (D6 L E s [123]) (A0J _);exact⟨r,A6r.mk h,A1O E7 hg⟩
theorem C5p:∀ (m:Nat) (l:List Hd) (s:Rd),L.length-s.i<=m->∃ r,Evt (fun f=>U6 L E f l s) r/\s.i<=r.2.i:=by
 intro m
 induction m using Nat.strongRecOn with
 |_ m ih =>
  intro l s hs;by_cases hc:okR s=true/\isR L E s [125]=false
  ·cases hon:isR L E s [111,110] with
   |false=>exact⟨_,Evt.one fun f=>by rw[U6,if_pos hc,if_pos hon],by show s.i<=(N8 L E s).i;rw[U2];omega⟩
   |true =>
    have hi:=(A1k hon).2;have h1:(C9 L E s ((l.length:Int)+1) 32 9).i=s.i:=F0;generalize hl:C9 L E s ((l.length:Int)+1) 32 9=s1 at h1;have h2:=E7 (L:=L) (E:=E) (s:=s1) (x:=[111,110]);generalize he:D6 L E s1 [111,110]=s2 at h2;by_cases hk:C3 L E s2 D5<0
    ·exact⟨_,Evt.one fun f=>by rw[U6,if_pos hc,if_neg (by grind),hl];dsimp only;rw[he,if_pos hk],by show s.i<=(N8 L E s2).i;rw[U2];omega⟩
    ·have hi2:=(F7 (show 0<=C3 L E s2 D5 by omega)).2.1;have h4:s2.i+1<=(if 2<=C3 L E s2 D5 then (B4 L E (B2 s2) 1).2 else B2 s2).i:=by
      split
      ·exact I7 (L:=L) (E:=E) (s:=B2 s2) (x:=1)
      ·exact A0J _
     obtain⟨⟨b,s5⟩,hb,hg⟩:=C6w (L:=L) (E:=E) 1 (if 2<=C3 L E s2 D5 then (B4 L E (B2 s2) 1).2 else B2 s2);have hg:(if 2<=C3 L E s2 D5 then (B4 L E (B2 s2) 1).2 else B2 s2).i<=s5.i:=hg;obtain⟨r,hr,hg2⟩:=ih (L.length-s5.i) (by omega) (l++[⟨1+C3 L E s2 D5,if 2<=C3 L E s2 D5 then (B4 L E (B2 s2) 1).1.text else [],b,(C2 L E s1).pos⟩]) s5 (A0J _);exact⟨r,hb.ext2 hr fun f hb hr=>by rw[U6,if_pos hc,if_neg (by rw[hon];decide),hl];grind,by omega⟩
  ·exact⟨_,Evt.one fun f=>by rw[U6,if_neg hc],E7⟩
theorem C5n(s:Rd):∃ r,Evt (fun f=>A1a L E f s) r/\s.i<=r.2.i/\(isR L E s [109,111,100,101]=true->s.i<r.2.i):=by
 obtain⟨⟨l,s3⟩,h,hg⟩:=C5p (L:=L) (E:=E) _ [] (D6 L E (B4 L E (B4 L E (D6 L E s [109,111,100,101]) 1).2 3).2 [123]) (A0J _);have hg:(D6 L E (B4 L E (B4 L E (D6 L E s [109,111,100,101]) 1).2 3).2 [123]).i<=s3.i:=hg;have h1:=E7 (L:=L) (E:=E) (s:=(B4 L E (B4 L E (D6 L E s [109,111,100,101]) 1).2 3).2) (x:=[123]);have h2:=I7 (L:=L) (E:=E) (s:=(B4 L E (D6 L E s [109,111,100,101]) 1).2) (x:=3);have h3:=I7 (L:=L) (E:=E) (s:=D6 L E s [109,111,100,101]) (x:=1);have h4:=E7 (L:=L) (E:=E) (s:=s) (x:=[109,111,100,101]);refine⟨_,h.map fun f h=>by unfold A1a;dsimp only;rw[h],by show s.i<=s3.i;omega,fun hi=>?_⟩;have h5:(D6 L E s [109,111,100,101]).i=s.i+1:=by unfold D6;rw[if_neg (by rw[hi];decide)];rfl
 grind
theorem C3j{k:Int}{s:Rd}:s.i+1<=(Q2 L E k s).2.i:=by
 unfold Q2;dsimp only;have h1:=I7 (L:=L) (E:=E) (s:=B2 s) (x:=1);have h0:(B2 s).i=s.i+1:=rfl;split
 ·generalize (B4 L E (B2 s) 1).2=s2 at h1 ⊢;have h3:s2.i<=(if (k+1 == 6 && isR L E s2 [45])=true then B2 s2 else s2).i:=by
   split
   ·exact A3F _
   ·exact A0J _
  generalize (if (k+1 == 6 && isR L E s2 [45])=true then B2 s2 else s2)=s3 at h3 ⊢;have h4:=I7 (L:=L) (E:=E) (s:=s3) (x:=3);have h5:=E7 (L:=L) (E:=E) (s:=(B4 L E s3 3).2) (x:=[59])
  grind
 ·have h5:=E7 (L:=L) (E:=E) (s:=(B4 L E (B2 s) 1).2) (x:=[59])
  grind
theorem B7y{s:Rd}(h:okR s=false):∀ (l:List (List UInt8)) (k:Nat),A1g L E s k l = -1
 |[],k=>rfl
 |t :: l,k=>by rw[A1g,show isR L E s t=false by unfold isR;grind,if_neg (by simp),B7y h l]
theorem C4q:∀ (m:Nat) (l:List Dc) (s:Rd),L.length-s.i<=m->∃ r,Evt (fun f=>U5 L E f l s) r/\s.i<=r.2.i:=by
 intro m
 induction m using Nat.strongRecOn with
 |_ m ih =>
  intro l s hs;by_cases hk:C3 L E s D0<0
  ·exact⟨_,Evt.one fun f=>by rw[U5];dsimp only;rw[if_pos hk],A0J _⟩
  ·have hi:=(F7 (show 0<=C3 L E s D0 by omega)).2.1;have h1:(C9 L E s ((l.length:Int)+1) 128 9).i=s.i:=F0;cases hl:okR (C9 L E s ((l.length:Int)+1) 128 9) with
   |false =>
    have hz:C3 L E (C9 L E s ((l.length:Int)+1) 128 9) D0<0:=by
     show A1g L E _ 0 D0<0;rw[B7y hl];simp
    have h2:Evt (fun f=>U5 L E f l (C9 L E s ((l.length:Int)+1) 128 9)) (l,C9 L E s ((l.length:Int)+1) 128 9):=Evt.one fun f=>by rw[U5];grind
    exact⟨_,h2.ext fun f h=>by rw[U5];dsimp only;rw[if_neg hk,if_neg (by grind)];exact h,by grind⟩
   |true =>
    have h3:=C3j (L:=L) (E:=E) (k:=C3 L E s D0) (s:=C9 L E s ((l.length:Int)+1) 128 9);obtain⟨r,hr,hg⟩:=ih (L.length-(Q2 L E (C3 L E s D0) (C9 L E s ((l.length:Int)+1) 128 9)).2.i) (by omega) (l++[(Q2 L E (C3 L E s D0) (C9 L E s ((l.length:Int)+1) 128 9)).1]) _ (A0J _);exact⟨r,hr.ext fun f h=>by rw[U5];grind,by omega⟩
theorem C4p:∀ (m:Nat) (l:List Md) (s:Rd),L.length-s.i<=m->∃ r,Evt (fun f=>P4 L E f l s) r/\s.i<=r.2.i:=by
 intro m
 induction m using Nat.strongRecOn with
 |_ m ih =>
  intro l s hs;by_cases hc:okR s=true/\s.i<L.length
  ·cases hm:isR L E s [109,111,100,101] with
   |false=>exact⟨_,Evt.one fun f=>by rw[P4,if_pos hc,if_pos hm],by show s.i<=(N8 L E s).i;rw[U2];omega⟩
   |true =>
    have h1:(C9 L E s ((l.length:Int)+1) 16 9).i=s.i:=F0;cases hl:okR (C9 L E s ((l.length:Int)+1) 16 9) with
    |false =>
     have h2:Evt (fun f=>P4 L E f l (C9 L E s ((l.length:Int)+1) 16 9)) (l,C9 L E s ((l.length:Int)+1) 16 9):=Evt.one fun f=>by rw[P4,if_neg (by grind)]
     exact⟨_,h2.ext fun f h=>by rw[P4,if_pos hc,if_neg (by grind)];dsimp only;rw[if_neg (by grind)];exact h,by grind⟩
    |true =>
     have e0:=(F5 (by simp) hl).2.2;obtain⟨⟨md,s2⟩,h2,hg,hlt⟩:=C5n (L:=L) (E:=E) s;have hlt:s.i<s2.i:=hlt hm;obtain⟨r,hr,hg2⟩:=ih (L.length-s2.i) (by omega) (l++[md]) s2 (A0J _);exact⟨r,h2.ext2 hr fun f h2 hr=>by rw[P4,if_pos hc,if_neg (by rw[hm];decide)];grind,by omega⟩
  ·exact⟨_,Evt.one fun f=>by rw[P4,if_neg hc],A0J _⟩
theorem B6t(s:Rd):∃ r,Evt (fun f=>A4h L E f s) r:=by
 obtain⟨⟨d,s1⟩,h1, -⟩:=C4q (L:=L) (E:=E) _ [] s (A0J _);obtain⟨⟨m,s2⟩,h2, -⟩:=C4p (L:=L) (E:=E) _ [] s1 (A0J _);exact⟨_,h1.map2 h2 fun f h1 h2=>by unfold A4h;rw[h1];dsimp only;rw[h2]⟩
end
def A5(s:List UInt8):Tok:=⟨if G3 s=true then 2 else if C4 s=true then 1 else 5,s,0,0⟩
def C8(s:List UInt8):List Tok:=if C4 s=false then [O9] else [⟨1,s,0,0⟩]
def N9(n:Int):List Tok:=if n<0\/2147483647<n then [O9] else [⟨3,[],n,0⟩]
def txB(c:UInt8):Bool:=decide (32<=c.toNat) && decide (c.toNat<=126)
def Q6(s:List UInt8):List Tok:=if s.all txB=false\/32<s.length then [O9] else [⟨4,s,0,0⟩]
def E1(q:Int × List Tok)(least:Int):List Tok:=if B5 q.1<least then [A5 [40]]++q.2++[A5 [41]] else q.2
def F1(k v:Int)(n:List UInt8)(as1:List (Int × List Tok)):List Tok :=
 let lv:=B5 k
 if k=1 then N9 v
 else if k=2 then C8 n
 else if k=3 then [A5 [116,114,117,101]]
 else if k=4 then [A5 [102,97,108,115,101]]
 else if k=8 then [A5 [112,108,97,121,101,114]]
 else if k=9 then [A5 [98,97,108,108]]
 else if k=5 then [A5 [99,108,111,115,101,100]]++C8 n
 else if k=6 then [A5 [97,99,116,105,118,101]]++C8 n
 else if k=7 then [A5 [108,101,102,116]]++C8 n
 else match as1 with
  |[q]=>if lv=6 then [A5 (if k=10 then [45] else [33])]++E1 q 6 else [O9]
  |[q,r]=>if lv<6 then E1 q (if lv=3 then 4 else lv)++[A5 (D3.getD (k-12).toNat [])]++E1 r (lv+1) else [O9]
  |_=>[O9]
mutual
def exT:Ex->List Tok
 |.mk k v n a p=>F1 k v n (A8j a)
def A8j:List Ex->List (Int × List Tok)
 |[]=>[]
 |e :: l=>(e.kind,exT e) :: A8j l
end
def agT(l:List Ex)(i:Nat):List Tok:=match l[i]? with
 |some e=>exT e
 |none=>[O9]
mutual
def stT:St->List Tok
 |.mk k n t a x y p =>
  if k=1 then C8 n++[A5 [61]]++agT a 0++[A5 [59]]
  else if k<2\/19<k then [O9]
  else
   let w:=A5 (B8.getD (k-2).toNat [])
   if k=2\/k=3 then
    let o:=[w]++agT a 0++([A5 [123]]++L6 x++[A5 [125]])
    match y with
    |[]=>o
    |[s]=>if s.kind=2 then o++[A5 [101,108,115,101]]++stT s else o++[A5 [101,108,115,101]]++([A5 [123]]++stT s++[A5 [125]])
    |s :: s2 :: r=>o++[A5 [101,108,115,101]]++([A5 [123]]++L6 (s :: s2 :: r)++[A5 [125]])
   else if k=4 then [w]++agT a 0++[A5 [59]]
   else if k=18 then [w]++Q6 t++[A5 [44]]++agT a 0++[A5 [59]]
   else if k=8\/k=10 then [w]++C8 n++agT a 0++[A5 [59]]
   else if k=9 then [w]++C8 n++agT a 0++[A5 [44]]++agT a 1++[A5 [59]]
   else if k=19 then [w]++[A5 [59]]
   else [w]++C8 n++[A5 [59]]
def L6:List St->List Tok
 |[]=>[]
 |s :: l=>stT s++L6 l
end
def blT(l:List St):List Tok:=[A5 [123]]++L6 l++[A5 [125]]
def dcT(d:Dc):List Tok :=
 if d.kind<1\/8<d.kind then [O9]
 else
  let o:=[A5 (D0.getD (d.kind-1).toNat [])]++C8 d.name
  (if 6<d.kind then o
  else if d.value<0 /\ -2147483647<=d.value/\d.kind=6 then o++[A5 [45]]++N9 (-d.value)
  else o++N9 d.value)++[A5 [59]]
def hdT(h:Hd):List Tok:=[A5 [111,110],A5 (D5.getD (h.trig-1).toNat [])]++(if 2<h.trig then C8 h.name else [])++blT h.body
def R5(h:Hd):Bool:=decide (h.trig<1) || decide (6<h.trig)
def mdT(m:Md):List Tok:=[A5 [109,111,100,101]]++C8 m.name++N9 m.prio++[A5 [123]]++m.hds.flatMap hdT++[A5 [125]]
def ruT(r:Ru):List Tok:=if (r.modes.any fun m=>m.hds.any R5)=true then [O9] else r.decls.flatMap dcT++r.modes.flatMap mdT
mutual
def Ex.plain:Ex->Ex
 |.mk k v n a p=>.mk k v n (Ex.plains a) 0
def Ex.plains:List Ex->List Ex
 |[]=>[]
 |e :: l=>e.plain :: Ex.plains l
end
mutual
def St.plain:St->St
 |.mk k n t a x y p=>.mk k n t (Ex.plains a) (St.plains x) (St.plains y) 0
def St.plains:List St->List St
 |[]=>[]
 |e :: l=>e.plain :: St.plains l
end
def Dc.plain(d:Dc):Dc:={ d with pos:=0 }
def Hd.plain(h:Hd):Hd:=⟨h.trig,h.name,St.plains h.body,0⟩
def Md.plain(m:Md):Md:=⟨m.name,m.prio,m.hds.map Hd.plain,0⟩
def Ru.plain(r:Ru):Ru:=⟨r.decls.map Dc.plain,r.modes.map Md.plain⟩
theorem Ex.plains_map:∀ l:List Ex,Ex.plains l=l.map Ex.plain
 |[]=>rfl
 |e :: l=>by rw[Ex.plains,Ex.plains_map l];rfl
theorem St.plains_map:∀ l:List St,St.plains l=l.map St.plain
 |[]=>rfl
 |e :: l=>by rw[St.plains,St.plains_map l];rfl
mutual
def A9c(p:Bool):Ex->Ex->Bool
 |.mk k v n a q,.mk k' v' n' a' q'=>k == k' && (v == v' && (n == n' && ((p || q == q') && O6 p a a')))
def O6(p:Bool):List Ex->List Ex->Bool
 |[],[]=>true
 |e :: l,e' :: l'=>A9c p e e' && O6 p l l'
 |_,_=>false
end
mutual
def B4g:St->St->Bool
 |.mk k n t a x y q,.mk k' n' t' a' x' y' q'=>k == k' && (n == n' && (t == t' && (q == q' && (O6 false a a' && (M9 x x' && M9 y y')))))
def M9:List St->List St->Bool
 |[],[]=>true
 |e :: l,e' :: l'=>B4g e e' && M9 l l'
 |_,_=>false
end
mutual
theorem C2x:∀ a b:Ex,A9c false a b=true↔a=b
 |.mk k v n a q,.mk k' v' n' a' q'=>by
  have:=A5s a a';simp only[A9c,A0D,A1I,Bool.false_or,this,Ex.mk.injEq]
  grind
theorem A5s:∀ a b:List Ex,O6 false a b=true↔a=b
 |[],[]=>by trivial
 |[],_ :: _=>by simp[O6]
 |_ :: _,[]=>by simp[O6]
 |e :: l,e' :: l'=>by
  have h1:=C2x e e';have h2:=A5s l l';simp only[O6,A0D,h1,h2,List.cons.injEq]
end
mutual
theorem C0n:∀ a b:St,B4g a b=true↔a=b
 |.mk k n t a x y q,.mk k' n' t' a' x' y' q'=>by
  have h1:=A5s a a';have h2:=A0g x x';have h3:=A0g y y';simp only[B4g,A0D,A1I,h1,h2,h3,St.mk.injEq]
  grind
theorem A0g:∀ a b:List St,M9 a b=true↔a=b
 |[],[]=>by trivial
 |[],_ :: _=>by simp[M9]
 |_ :: _,[]=>by simp[M9]
 |e :: l,e' :: l'=>by
  have h1:=C0n e e';have h2:=A0g l l';simp only[M9,A0D,h1,h2,List.cons.injEq]
end
def I0(k:Int):Nat:=if B5 k=6 then 1 else if B5 k<6 then 2 else 0
def A0k(k:Int):Bool:=k == 5 || (k == 6 || k == 7)
def kOk(k:Int):Bool:=decide (B5 k<7) || (decide (1<=k) && decide (k<=24))
def A0j(k:Int)(n:List UInt8):Bool:=if k=2\/A0k k=true then C4 n else n == []
def A1q(k v:Int):Bool:=v == 0 || (k == 1 && (decide (0<v) && decide (v<=2147483647)))
def P2(k q:Int)(i:Nat):Bool:=decide (B5 q<B5 k) || (B5 q == B5 k && (i == 1 || B5 k == 3))
mutual
def msM:Ex->Option (Nat × Nat)
 |.mk k v n a p =>
  if kOk k=false\/a.length≠I0 k\/A0j k n=false\/A1q k v=false then none
  else if I0 k=0 then some (1,0)
  else match msL k 0 a with
   |none=>none
   |some (o,d)=>some (o,if I0 k=1 then d+1 else d)
def msL(k:Int):Nat->List Ex->Option (Nat × Nat)
 |_,[]=>some (0,0)
 |i,e :: l=>match msM e with
  |none=>none
  |some (o,d)=>match msL k (i+1) l with
   |none=>none
   |some (o2,d2)=>some (o+o2,max (if P2 k e.kind i=true then d+1 else d) d2)
end
def V5(e:Ex):Bool:=match msM e with
 |some (o,d)=>decide (o<=32) && decide (d<=16)
 |none=>false
structure Shp where
 name:Bool
 text:Bool
 args:Nat
 thn:Bool
 els:Bool
def G4(k:Int):Shp :=
 if k=1\/k=8\/k=10 then ⟨true,false,1,false,false⟩
 else if k=9 then ⟨true,false,2,false,false⟩
 else if k=2 then ⟨false,false,1,true,true⟩
 else if k=3 then ⟨false,false,1,true,false⟩
 else if k=4 then ⟨false,false,1,false,false⟩
 else if k=18 then ⟨false,true,1,false,false⟩
 else if k=19 then ⟨false,false,0,false,false⟩
 else ⟨true,false,0,false,false⟩
def P1(s:List UInt8):Bool:=s.all txB && decide (s.length<=32)
mutual
def Q3:Nat->St->Bool
 |d,.mk k n t a x y p =>
  (decide (1<=k) && decide (k<=19)) && (a.length == (G4 k).args && a.all V5) &&
   ((if (G4 k).name=true then C4 n else n == []) && (if (G4 k).text=true then P1 t else t == [])) &&
   (((G4 k).thn || x.isEmpty) && ((G4 k).els || y.isEmpty)) &&
   ((decide (x.length<=64) && (x.isEmpty || decide (d+1<=8)) && K8 (d+1) x) && (decide (y.length<=64) && (y.isEmpty || decide (d+1<=8)) && K8 (d+1) y))
def K8:Nat->List St->Bool
 |_,[]=>true
 |d,s :: l=>Q3 d s && K8 d l
end
def O8(l:List St)(d:Nat):Bool:=decide (l.length<=64) && (l.isEmpty || decide (d<=8)) && K8 d l
def A0a(d:Dc):Bool:=decide (1<=d.kind) && decide (d.kind<=8) && C4 d.name && decide ((if d.kind=6 then -2147483647 else 0)<=d.value) && decide (d.value<=(if d.kind=7\/d.kind=8 then 0 else 2147483647))
def W4(h:Hd):Bool:=decide (1<=h.trig) && decide (h.trig<=6) && (if 3<=h.trig then C4 h.name else h.name == []) && O8 h.body 1
def S5(m:Md):Bool:=C4 m.name && decide (0<=m.prio) && decide (m.prio<=2147483647) && decide (m.hds.length<=32) && m.hds.all W4
def Z9(r:Ru):Bool:=decide (r.decls.length<=128) && decide (r.modes.length<=16) && r.decls.all A0a && r.modes.all S5
def G7(t:Tok):Prop:=(t.kind=1->C4 t.text=true)/\(t.kind=3->0<=t.value/\t.value<=2147483647)/\(t.kind=4->P1 t.text=true)
def SE(n:Int)(s:Rd)(e:Ex)(s':Rd):Prop :=
 okR s=true/\s'.par=s.par/\∃ o d,msM e=some (o,d)/\s'.ops=s.ops+(o:Int)/\s'.ops<=32/\((n<=B5 e.kind/\s.par+(d:Int)<=16)\/s.par+(d:Int)+1<=16)
theorem T3(k:Int):1<=B5 k/\B5 k<=7:=by
 unfold B5;omega
theorem B1e{k:Int}(h:B5 k<7):10<=k/\k<=24:=by
 unfold B5 at h;omega
theorem C5s{k:Int}(h0:0<=k)(h1:k<13):B5 (12+k)<6:=by
 unfold B5;omega
theorem Z1{k:Int}(h:k=10\/k=11):B5 k=6:=by
 rcases h with rfl|rfl<;>rfl
theorem D0n{k:Int}{a b:Ex}{o1 d1 o2 d2:Nat}{p:Int}(hk:B5 k<6)(ha:msM a=some (o1,d1))(hb:msM b=some (o2,d2)):
  msM (.mk k 0 [] [a,b] p)=some (o1+o2,max (if P2 k a.kind 0=true then d1+1 else d1) (if P2 k b.kind 1=true then d2+1 else d2)):=by
 have hl:=B1e (k:=k) (by omega);have h1:kOk k=true:=by simp[kOk];omega
 have h2:I0 k=2:=by unfold I0;grind
 have h3:A0j k []=true:=by
  unfold A0j;rw[if_neg]
  ·rfl
  ·simp only[A0k,A1C,A1I];omega
 have h4:A1q k 0=true:=by rfl
 unfold msM;rw[if_neg (by grind),h2,if_neg (by omega)];simp only[msL,ha,hb,A2V,A1M,Nat.max_zero,if_neg (show ¬ 2=1 by omega)]
theorem D4a{k:Int}{a:Ex}{o d:Nat}{p:Int}(hk:k=10\/k=11)(ha:msM a=some (o,d)):
  msM (.mk k 0 [] [a] p)=some (o,(if P2 k a.kind 0=true then d+1 else d)+1):=by
 have hl:=Z1 hk;have h1:kOk k=true:=by simp[kOk];omega
 have h2:I0 k=1:=by unfold I0;grind
 have h3:A0j k []=true:=by
  unfold A0j;rw[if_neg]
  ·rfl
  ·simp only[A0k,A1C,A1I];omega
 have h4:A1q k 0=true:=by rfl
 unfold msM;rw[if_neg (by grind),h2,if_neg (by omega)];simp only[msL,ha,A2V,Nat.max_zero,if_true]
theorem C5m{k v:Int}{n:List UInt8}{p:Int}(hk:B5 k=7)(h1:kOk k=true)(h3:A0j k n=true)(h4:A1q k v=true):msM (.mk k v n [] p)=some (1,0):=by
 have h2:I0 k=0:=by unfold I0;rw[if_neg (by omega),if_neg (by omega)]
 unfold msM
 grind
section
variable {L:List Tok} {E:Int}
theorem H8{s:Rd}{t:List UInt8}(h:okR (D6 L E s t)=true):okR s=true:=(A1k (A8i h).1).1
theorem X7{s:Rd}{k:Int}(h:okR (B4 L E s k).2=true):okR s=true:=(G8 (A4e h).1).1
theorem B7c{s:Rd}(h:okR (J2 L E s).2=true):okR s=true:=by
 unfold J2 at h;dsimp only at h;split at h
 ·rw[W9]at h;grind
 ·split at h
  ·grind
  ·rename_i h1;have h2:okR (C9 L E { s with ops:=s.ops+1 } (s.ops+1) 32 9)=true:=by grind
   exact (F5 (by simp) h2).1
theorem B4v(hG:∀ t∈L,G7 t){s s':Rd}{e:Ex}(h:J2 L E s=(e,s'))(hok:okR s'=true)(hp:s.par<=16):SE 7 s e s':=by
 have hs:okR s=true:=B7c (L:=L) (E:=E) (by grind);have leaf:∀ (k v:Int) (n:List UInt8) (p:Int),B5 k=7->kOk k=true->A0j k n=true->A1q k v=true->s.ops+1<=32->∀ s2:Rd,s2.par=s.par->s2.ops=s.ops+1->SE 7 s (.mk k v n [] p) s2:=by
  intro k v n p q1 q2 q3 q4 q6 s2 q7 q8;refine⟨hs,q7,1,0,C5m q1 q2 q3 q4,by omega,by omega,.inl ⟨?_,by omega⟩⟩;show 7<=B5 k;omega
 unfold J2 at h;dsimp only at h;split at h
 ·cases h;rw[W9]at hok;grind
 rename_i hc;split at h
 ·grind
 rename_i h1;have h2:okR (C9 L E { s with ops:=s.ops+1 } (s.ops+1) 32 9)=true:=by grind
 obtain⟨-,h3,h4⟩:=F5 (by simp) h2;rw[h4]at h;split at h
 ·rename_i hk;obtain⟨-, -, -,hk7⟩:=F7 hk;have hk7:C3 L E s I3<7:=hk7;generalize C3 L E s I3=k at h hk hk7;split at h
  ·rename_i hk4;cases h;obtain⟨t1,t2⟩:=A4e hok;obtain⟨t3,t4⟩:=G8 t1;have hn:=(hG _ (J3 (by simp) t4).1).1 t4;rw[t2];have:k=4\/k=5\/k=6:=by omega
   rcases this with rfl|rfl|rfl
   ·exact leaf 5 _ _ _ (by rfl) (by rfl) hn (by rfl) h3 _ rfl rfl
   ·exact leaf 6 _ _ _ (by rfl) (by rfl) hn (by rfl) h3 _ rfl rfl
   ·exact leaf 7 _ _ _ (by rfl) (by rfl) hn (by rfl) h3 _ rfl rfl
  ·rename_i hk4;cases h;have:k=0\/k=1\/k=2\/k=3:=by omega
   rcases this with rfl|rfl|rfl|rfl
   all_goals exact leaf _ _ _ _ (by decide) (by decide) (by decide) (by decide) h3 _ rfl rfl
 ·rename_i hk;split at h
  ·rename_i hk3;cases h;have hn:=(hG _ (J3 (by decide) hk3).1).2.1 hk3;refine leaf 1 _ _ _ (by decide) (by decide) (by decide) ?_ h3 _ rfl rfl;simp only[A1q,A1C,A0D,A1I,A0F]
   grind
  ·rename_i hk3;cases h;have h1k:I8 L E s 1=true:=by
    cases hz:I8 L E s 1 with
    |true=>rfl
    |false =>
     refine absurd ⟨by omega,?_,hz⟩ hc;cases hy:I8 L E s 3 with
     |false=>rfl
     |true=>exact absurd (G8 hy).2 hk3
   have hn:=(hG _ (J3 (by simp) (G8 h1k).2).1).1 (G8 h1k).2;exact leaf 2 _ _ _ (by rfl) (by rfl) hn (by rfl) h3 _ rfl rfl
theorem OB.all:∀ f:Nat,(∀ n s r,K4 L E f n s=some r->okR r.2=true->okR s=true)/\(∀ n e s r,U7 L E f n e s=some r->okR r.2=true->okR s=true)/\(∀ s r,Y3 L E f s=some r->okR r.2=true->okR s=true)
 |0=>⟨fun n s r h=>by trivial,fun n e s r h=>by trivial,fun s r h=>by trivial⟩
 |f+1=>by
  obtain⟨i1,i2,i3⟩:=OB.all f;refine⟨fun n s r h k=>?_,fun n e s r h k=>?_,fun s r h k=>?_⟩
  ·unfold K4 at h
   grind
  ·unfold U7 at h;dsimp only at h;split at h
   ·grind
   ·rename_i hk;exact (F7 (show 0<=C3 L E s D3 from Classical.byContradiction fun g=>hk (.inl (by omega)))).1
  ·unfold Y3 at h;dsimp only at h;split at h
   ·cases h;exact B7c k
   ·rename_i hk;exact (F7 (show 0<=C3 L E s Q1 by omega)).1
theorem SE.weak{m n:Int}{s s':Rd}{e:Ex}(hmn:n<=m)(h:SE m s e s'):SE n s e s':=by
 obtain⟨h1,h2,o,d,h3,h4,h5,h6⟩:=h;exact⟨h1,h2,o,d,h3,h4,h5,h6.imp (fun h=>⟨by omega,h.2⟩) id⟩
theorem SE.all(hG:∀ t∈L,G7 t):∀ f:Nat,(∀ n s r,1<=n->n<=6->K4 L E f n s=some r->okR r.2=true->s.par<=16->SE n s r.1 r.2) /\
  (∀ n m e s s0 r,1<=n->n<=5->(m=n+1\/m=n/\n≠3)->U7 L E f n e s=some r->okR r.2=true->SE m s0 e s->s0.par<=16->SE n s0 r.1 r.2) /\
  (∀ s r,Y3 L E f s=some r->okR r.2=true->s.par<=16->SE 6 s r.1 r.2)
 |0=>⟨fun n s r _ _ h=>by trivial,fun n m e s s0 r _ _ _ h=>by trivial,fun s r h=>by trivial⟩
 |f+1=>by
  obtain⟨i1,i2,i3⟩:=SE.all hG f;refine⟨fun n s r n1 n6 h k hp=>?_,fun n m e s s0 r n1 n5 hm h k he hp=>?_,fun s r h k hp=>?_⟩
  ·unfold K4 at h;split at h
   ·grind
   ·rename_i hn;split at h
    ·grind
    ·rename_i e s1 hb;have k1:=(OB.all f).2.1 _ _ _ _ h k;have h1:=i1 _ _ _ (by omega) (by omega) hb k1 hp
     grind
  ·unfold U7 at h;dsimp only at h;split at h
   ·cases h;exact he.weak (by omega)
   ·rename_i hk;have hk0:0<=C3 L E s D3:=Classical.byContradiction fun g=>hk (.inl (by omega));have hlv:B5 (12+C3 L E s D3)=n:=Classical.byContradiction fun g=>hk (.inr g);split at h
    ·grind
    ·rename_i x s1 hb;obtain⟨e1,e2,o1,d1,e3,e4,e5,e6⟩:=he;have step:okR s1=true->SE n s0 (.mk (12+C3 L E s D3) 0 [] [e,x] (C2 L E s).pos) s1:=by
      intro k1;obtain⟨x1,x2,o2,d2,x3,x4,x5,x6⟩:=i1 _ _ _ (by omega) (by omega) hb k1 (by show s.par<=16;omega);have x2':s1.par=s.par:=x2;have x4':s1.ops=s.ops+(o2:Int):=x4;have x6':((n+1<=B5 x.kind/\s.par+(d2:Int)<=16)\/s.par+(d2:Int)+1<=16):=x6;refine⟨e1,by omega,_,_,D0n (by omega) e3 x3,by omega,x5,.inl ⟨?_,?_⟩⟩
      ·show n<=B5 (12+C3 L E s D3);omega
      ·have w1:s0.par+((if P2 (12+C3 L E s D3) e.kind 0=true then d1+1 else d1:Nat):Int)<=16:=by
        split
        ·rename_i hw;simp only[P2,A1C,A0D,A0F,A1I,hlv]at hw;omega
        omega
       have w2:s0.par+((if P2 (12+C3 L E s D3) x.kind 1=true then d2+1 else d2:Nat):Int)<=16:=by
        split
        ·rename_i hw;simp only[P2,A1C,A0D,A0F,A1I,hlv]at hw;omega
        omega
       omega
     split at h
     ·grind
     ·rename_i hn3;have k1:=(OB.all f).2.1 _ _ _ _ h k
      grind
  ·unfold Y3 at h;dsimp only at h;split at h
   ·cases h;exact (B4v hG rfl k hp).weak (by simp)
   ·rename_i hk;obtain⟨hs,hi, -,hk3⟩:=F7 (show 0<=C3 L E s Q1 by omega);have hk3:C3 L E s Q1<3:=hk3;split at h
    ·grind
    rename_i hl;have hl:okR (C9 L E s (s.par+1) 16 50)=true:=by grind
    obtain⟨-,h2,h3⟩:=F5 (by simp) hl;rw[h3]at h;split at h
    ·split at h
     ·grind
     ·rename_i e s3 hb;cases h;have k3:okR (D6 L E s3 [41])=true:=k;obtain⟨-,x2⟩:=A8i k3;obtain⟨e1,e2,o,d,e3,e4,e5,e6⟩:=i1 1 _ _ (by simp) (by simp) hb (H8 k3) (show s.par+1<=16 from h2);have e2':s3.par=s.par+1:=e2;have e4':s3.ops=s.ops+(o:Int):=e4;have e6':((1<=B5 e.kind/\s.par+1+(d:Int)<=16)\/s.par+1+(d:Int)+1<=16):=e6;rw[x2];refine⟨hs,by show s3.par-1=s.par;omega,o,d,e3,e4',e5,.inr (by omega)⟩
    ·rename_i hk2;split at h
     ·grind
     ·rename_i e s3 hb;cases h;have k3:okR s3=true:=k;obtain⟨e1,e2,o,d,e3,e4,e5,e6⟩:=i3 _ _ hb k3 (show s.par+1<=16 from h2);have e2':s3.par=s.par+1:=e2;have e4':s3.ops=s.ops+(o:Int):=e4;have e6':((6<=B5 e.kind/\s.par+1+(d:Int)<=16)\/s.par+1+(d:Int)+1<=16):=e6;have hk10:10+C3 L E s Q1=10\/10+C3 L E s Q1=11:=by omega
      refine⟨hs,by grind,o,_,D4a hk10 e3,e4',e5,.inl ⟨?_,?_⟩⟩
      ·show 6<=B5 (10+C3 L E s Q1);rw[Z1 hk10];simp
      ·split
       ·rename_i hw;simp only[P2,A1C,A0D,A0F,A1I,Z1 hk10]at hw;omega
       omega
theorem O0(hG:∀ t∈L,G7 t){f:Nat}{s:Rd}{r:Ex × Rd}(h:R8 L E f s=some r)(hok:okR r.2=true):okR s=true/\V5 r.1=true:=by
 obtain⟨h1,h2,o,d,h3,h4,h5,h6⟩:=(SE.all hG f).1 1 _ _ (by decide) (by decide) h hok (by decide:(0:Int)<=16);refine⟨h1,?_⟩;have h4':r.2.ops=0+(o:Int):=h4;have h6':((1<=B5 r.1.kind/\0+(d:Int)<=16)\/0+(d:Int)+1<=16):=h6;unfold V5
 grind
end
section
variable {L:List Tok} {E:Int}
theorem P7(hG:∀ t∈L,G7 t){s:Rd}(h:okR (B4 L E s 1).2=true):C4 (B4 L E s 1).1.text=true:=by
 obtain⟨h1,h2⟩:=A4e h;rw[h2];exact (hG _ (J3 (by simp) (G8 h1).2).1).1 (G8 h1).2
theorem B1z(hG:∀ t∈L,G7 t){s:Rd}(h:okR (B4 L E s 3).2=true):0<=(B4 L E s 3).1.value/\(B4 L E s 3).1.value<=2147483647:=by
 obtain⟨h1,h2⟩:=A4e h;rw[h2];exact (hG _ (J3 (by simp) (G8 h1).2).1).2.1 (G8 h1).2
theorem C0f(hG:∀ t∈L,G7 t){s:Rd}(h:okR (B4 L E s 4).2=true):P1 (B4 L E s 4).1.text=true:=by
 obtain⟨h1,h2⟩:=A4e h;rw[h2];exact (hG _ (J3 (by simp) (G8 h1).2).1).2.2 (G8 h1).2
theorem A0u{d:Nat}{k p:Int}{n t:List UInt8}{a:List Ex}(h1:1<=k)(h2:k<=19)(h3:a.length=(G4 k).args)(h4:a.all V5=true)
  (h5:(if (G4 k).name=true then C4 n else n == [])=true) (h6:(if (G4 k).text=true then P1 t else t == [])=true):Q3 d (.mk k n t a [] [] p)=true:=by
 unfold Q3;simp only[A0D,A0F,A1I];exact⟨⟨⟨⟨⟨h1,h2⟩,h3,h4⟩,h5,h6⟩,by simp⟩,by trivial⟩
theorem B4d(hG:∀ t∈L,G7 t){f:Nat}{k p:Int}{s:Rd}{r:St × Rd}(d:Nat)(hk4:4<=k)(hk:k<=19)(h:N7 L E f k p s=some r)(hok:okR r.2=true):okR s=true/\Q3 d r.1=true:=by
 unfold N7 at h;dsimp only at h;split at h
 ·rename_i hk;subst hk;split at h
  ·grind
  ·rename_i e s1 he;cases h;obtain⟨h1,h2⟩:=O0 hG he (H8 hok);exact⟨h1,A0u (by simp) (by simp) rfl (by grind) rfl rfl⟩
 split at h
 ·rename_i hk;subst hk;split at h
  ·grind
  ·rename_i e s1 he;cases h;obtain⟨h1,h2⟩:=O0 hG he (H8 hok);have h3:=H8 h1;exact⟨X7 h3,A0u (by simp) (by simp) rfl (by grind) rfl (C0f hG h3)⟩
 split at h
 ·rename_i hk;subst hk;cases h;exact⟨H8 hok,A0u (by simp) (by simp) rfl rfl rfl rfl⟩
 rename_i n4 n18 n19;split at h
 ·rename_i hk;split at h
  ·grind
  ·rename_i e s1 he;split at h
   ·rename_i hk9;subst hk9;split at h
    ·grind
    ·rename_i e2 s2 he2;cases h;obtain⟨h1,h2⟩:=O0 hG he2 (H8 hok);obtain⟨h3,h4⟩:=O0 hG he (H8 h1);exact⟨X7 h3,A0u (by simp) (by simp) rfl (by grind) (P7 hG h3) rfl⟩
   ·rename_i hk9;cases h;obtain⟨h1,h2⟩:=O0 hG he (H8 hok);have:k=8\/k=10:=by omega
    rcases this with rfl|rfl
    all_goals exact⟨X7 h1,A0u (by decide) (by decide) rfl (by simp[h2]) (P7 hG h1) rfl⟩
 ·rename_i hk8;cases h;have h1:=H8 hok;have hs:G4 k=⟨true,false,0,false,false⟩:=by
   unfold G4
   grind
  exact⟨X7 h1,A0u (by omega) hk (by grind) rfl (by rw[hs];exact P7 hG h1) (by grind)⟩
theorem A7l{d:Nat}:∀ {l:List St} {x:St},K8 d (l++[x])=(K8 d l && Q3 d x)
 |[],x=>by simp[K8]
 |a :: l,x=>by rw[List.cons_append,K8,K8,A7l,Bool.and_assoc]
theorem B1t{d:Nat}{k p:Int}{e:Ex}{t o:List St}(hk:k=2\/k=3)(he:V5 e=true)(ht:O8 t (d+1)=true)(ho:O8 o (d+1)=true)(h3:k=3->o=[]):Q3 d (.mk k [] [] [e] t o p)=true:=by
 unfold O8 at ht ho;unfold Q3;rcases hk with rfl|rfl
 ·simp only[G4]
  grind
 ·obtain rfl:=h3 rfl;simp only[G4]
  grind
theorem SS.all(hG:∀ t∈L,G7 t):∀ f:Nat,(∀ (d:Nat) s r,K3 L E f d s=some r->okR r.2=true->okR s=true/\O8 r.1 d=true) /\
  (∀ (d:Nat) l s r,S1 L E f d l s=some r->okR r.2=true->okR s=true/\(K8 d l=true->l.length<=64->(l=[]\/d<=8)->O8 r.1 d=true)) /\
  (∀ (d:Nat) s r,U3 L E f d s=some r->okR r.2=true->okR s=true/\d<=8/\Q3 d r.1=true) /\
  (∀ (d:Nat) s r,W1 L E f d s=some r->okR r.2=true->okR s=true/\O8 r.1 (d+1)=true)
 |0=>⟨fun d s r h=>by trivial,fun d l s r h=>by trivial,fun d s r h=>by trivial,fun d s r h=>by trivial⟩
 |f+1=>by
  obtain⟨i1,i2,i3,i4⟩:=SS.all hG f;have hd1:∀ d:Nat,(d:Int)+1=((d+1:Nat):Int):=fun d=>by rfl
  refine⟨fun d s r h k=>?_,fun d l s r h k=>?_,fun d s r h k=>?_,fun d s r h k=>?_⟩
  ·unfold K3 at h;obtain⟨h1,h2⟩:=i2 _ _ _ _ h k;exact⟨H8 h1,h2 rfl (by simp) (.inl rfl)⟩
  ·unfold S1 at h;split at h
   ·rename_i hc;refine⟨hc.1,fun h1 h2 h3=>?_⟩;split at h
    ·cases h;rfl
    ·split at h
     ·grind
     ·rename_i x s1 he;obtain⟨h4,h5⟩:=i2 _ _ _ _ h k;obtain⟨h6,h7,h8⟩:=i3 _ _ _ he h4;obtain⟨-,h9, -⟩:=F5 (by simp) h6;exact h5 (by rw[A7l,h1,h8];rfl) (by grind) (.inr h7)
   ·cases h;refine⟨H8 k,fun h1 h2 h3=>?_⟩;unfold O8
    grind
  ·unfold U3 at h;dsimp only at h;split at h
   ·grind
   rename_i hl;have hl:okR (C9 L E s d 8 50)=true:=by grind
   obtain⟨hs,hd,hle⟩:=F5 (by simp) hl;rw[hle]at h;refine⟨hs,by omega,?_⟩;split at h
   ·split at h
    ·grind
    ·rename_i e s1 he;cases h;obtain⟨h1,h2⟩:=O0 hG he (H8 k);exact A0u (by simp) (by simp) rfl (by grind) (P7 hG (H8 h1)) rfl
   ·rename_i hk;obtain⟨-,hi, -,hk18⟩:=F7 (show 0<=C3 L E s B8 by omega);have hk18:C3 L E s B8<18:=hk18;generalize C3 L E s B8=q at h hk hk18;split at h
    ·rename_i hq;split at h
     ·grind
     ·rename_i e s2 he;split at h
      ·grind
      ·rename_i t s3 ht;rw[hd1]at ht;split at h
       ·rename_i hc;split at h
        ·grind
        ·rename_i o s4 ho;cases h;obtain⟨o1,o2⟩:=i4 _ _ _ ho k;obtain⟨t1,t2⟩:=i1 _ _ _ ht (show okR s3=true from o1);obtain⟨e1,e2⟩:=O0 hG he t1;exact B1t (.inl rfl) e2 t2 o2 (fun h=>absurd h (by simp))
       ·cases h;obtain⟨t1,t2⟩:=i1 _ _ _ ht k;obtain⟨e1,e2⟩:=O0 hG he t1;exact B1t (by omega) e2 t2 (by rfl) (fun _=>rfl)
    ·rename_i hq;exact (B4d hG d (by omega) (by omega) h k).2
  ·unfold W1 at h;rw[hd1]at h;split at h
   ·split at h
    ·grind
    ·rename_i x s1 he;cases h;obtain⟨h1,h2,h3⟩:=i3 _ _ _ he k;refine⟨h1,?_⟩;unfold O8;simp only[A0D,A1C,A0F];exact⟨⟨by simp,.inr h2⟩,by rw[K8,K8,h3];rfl⟩
   ·exact i1 _ _ _ h k
theorem B9l(hG:∀ t∈L,G7 t){k:Int}{s:Rd}(h0:0<=k)(h8:k<8)(h:okR (Q2 L E k s).2=true):A0a (Q2 L E k s).1=true:=by
 have key:∀ d:Dc,1<=d.kind->d.kind<=8->C4 d.name=true->(if d.kind=6 then -2147483647 else 0)<=d.value->d.value<=(if d.kind=7\/d.kind=8 then 0 else 2147483647)->A0a d=true:=by
  intro d a1 a2 a3 a4 a5;simp only[A0a,A0D,A0F]
  grind
 unfold Q2 at h ⊢;dsimp only at h ⊢;split at h
 ·rename_i hk;rw[if_pos hk];have h1:=H8 h;obtain⟨n0,n1⟩:=B1z hG h1;have h2:=X7 h1;have h3:okR (B4 L E (B2 s) 1).2=true:=by
   split at h2
   ·exact h2
   ·exact h2
  refine key _ (by dsimp only;omega) (by dsimp only;omega) (P7 hG h3) ?_ ?_
  ·dsimp only;generalize (B4 L E (if (k+1 == 6 && isR L E (B4 L E (B2 s) 1).2 [45])=true then B2 (B4 L E (B2 s) 1).2 else (B4 L E (B2 s) 1).2) 3).1.value=w at n0 n1 ⊢;by_cases h6:k+1=6
   ·rw[if_pos (by omega)];split<;>omega
   ·rw[if_neg (by omega),if_neg (by simp[h6])];exact n0
  grind
 ·rename_i hk;rw[if_neg hk];have h3:=H8 h;refine key _ (by dsimp only;omega) (by dsimp only;omega) (P7 hG h3) ?_ ?_
  ·dsimp only;rw[if_neg (by omega)];decide
  grind
theorem A9s(hG:∀ t∈L,G7 t):∀ (f:Nat) (l:List Hd) (s:Rd) (r:List Hd × Rd),U6 L E f l s=some r->okR r.2=true->okR s=true/\(l.length<=32->l.all W4=true->r.1.length<=32/\r.1.all W4=true)
 |0,l,s,r,h,_=>by trivial
 |f+1,l,s,r,h,k=>by
  unfold U6 at h;dsimp only at h;split at h
  ·rename_i hc;refine⟨hc.1,fun h1 h2=>?_⟩;split at h
   ·grind
   split at h
   ·grind
   rename_i hk;obtain⟨hok2,hi2, -,hk6⟩:=F7 (show 0<=C3 L E (D6 L E (C9 L E s ((l.length:Int)+1) 32 9) [111,110]) D5 by omega);have hk6:C3 L E (D6 L E (C9 L E s ((l.length:Int)+1) 32 9) [111,110]) D5<6:=hk6;obtain⟨-,hll, -⟩:=F5 (by simp) (H8 hok2);generalize C3 L E (D6 L E (C9 L E s ((l.length:Int)+1) 32 9) [111,110]) D5=q at h hk hk6;split at h
   ·grind
   ·rename_i b s5 hb;obtain⟨m1,m2⟩:=A9s hG f _ _ _ h k;obtain⟨b1,b2⟩:=(SS.all hG f).1 1 _ _ hb m1;refine m2 (by simp only[A0A,A0G];omega) ?_;rw[A3R,h2,A2B];simp only[A2H,List.all_nil,A1X,W4,A0D,A0F];refine⟨⟨⟨by omega,by omega⟩,?_⟩,b2⟩;by_cases hq:2<=q
    ·rw[if_pos (by omega),if_pos hq];rw[if_pos hq]at b1;exact P7 hG b1
    grind
  ·cases h;exact⟨H8 k,fun h1 h2=>⟨h1,h2⟩⟩
theorem B8v(hG:∀ t∈L,G7 t){f:Nat}{s:Rd}{r:Md × Rd}(h:A1a L E f s=some r)(k:okR r.2=true):okR s=true/\S5 r.1=true:=by
 unfold A1a at h;dsimp only at h;split at h
 ·grind
 ·rename_i l s3 hm;cases h;obtain⟨m1,m2⟩:=A9s hG _ _ _ _ hm k;obtain⟨m3,m4⟩:=m2 (by simp) rfl;have h1:=H8 m1;have h2:=X7 h1;obtain⟨n0,n1⟩:=B1z hG h1;refine⟨H8 (X7 h2),?_⟩;simp only[S5,A0D,A0F];exact⟨⟨⟨⟨P7 hG h2,n0⟩,n1⟩,m3⟩,m4⟩
theorem A5j(hG:∀ t∈L,G7 t):∀ (f:Nat) (l:List Dc) (s:Rd) (r:List Dc × Rd),U5 L E f l s=some r->okR r.2=true->okR s=true/\(l.length<=128->l.all A0a=true->r.1.length<=128/\r.1.all A0a=true)
 |0,l,s,r,h,_=>by trivial
 |f+1,l,s,r,h,k=>by
  unfold U5 at h;dsimp only at h;split at h
  ·grind
  ·rename_i hk;obtain⟨hs,hi, -,hk8⟩:=F7 (show 0<=C3 L E s D0 by omega);have hk8:C3 L E s D0<8:=hk8;refine⟨hs,fun h1 h2=>?_⟩;split at h
   ·rename_i hl;obtain⟨-,hll,hle⟩:=F5 (by simp) hl;obtain⟨m1,m2⟩:=A5j hG f _ _ _ h k;exact m2 (by grind) (by rw[A3R,h2,A2B,A2H,B9l hG (by omega) hk8 m1];rfl)
   ·rename_i hl;obtain⟨m1,m2⟩:=A5j hG f _ _ _ h k
    grind
theorem A5i(hG:∀ t∈L,G7 t):∀ (f:Nat) (l:List Md) (s:Rd) (r:List Md × Rd),P4 L E f l s=some r->okR r.2=true->okR s=true/\(l.length<=16->l.all S5=true->r.1.length<=16/\r.1.all S5=true)
 |0,l,s,r,h,_=>by trivial
 |f+1,l,s,r,h,k=>by
  unfold P4 at h;dsimp only at h;split at h
  ·rename_i hc;refine⟨hc.1,fun h1 h2=>?_⟩;split at h
   ·cases h;rw[W9]at k;cases k
   split at h
   ·rename_i hl;split at h
    ·cases h
    ·rename_i m s2 hm;obtain⟨m1,m2⟩:=A5i hG f _ _ _ h k;obtain⟨q1,q2⟩:=B8v hG hm m1;obtain⟨-,hll,hle⟩:=F5 (by decide) hl;exact m2 (by simp only[A0A,A0G];omega) (by rw[A3R,h2,A2B,A2H,q2];rfl)
   ·rename_i hl;obtain⟨m1,m2⟩:=A5i hG f _ _ _ h k;exact absurd m1 hl
  grind
theorem B8l(hG:∀ t∈L,G7 t){f:Nat}{s:Rd}{r:Ru × Rd}(h:A4h L E f s=some r)(k:okR r.2=true):Z9 r.1=true:=by
 unfold A4h at h;split at h
 ·grind
 ·rename_i d s1 hd;split at h
  ·grind
  ·rename_i m s2 hm;cases h;obtain⟨m1,m2⟩:=A5i hG _ _ _ _ hm k;obtain⟨m3,m4⟩:=m2 (by simp) rfl;obtain⟨d1,d2⟩:=A5j hG _ _ _ _ hd m1;obtain⟨d3,d4⟩:=d2 (by simp) rfl;simp only[Z9,A0D,A0F]
   grind
end
theorem A9k{p:UInt8->Bool}:∀ (s:List UInt8),E2 p (s.take (E2 p s))=E2 p s
 |[]=>rfl
 |c :: r=>by
  have ih:=A9k (p:=p) r;by_cases h:p c=true
  ·simp only[E2,h,if_true,A1Y];omega
  ·simp only[E2,h,if_false,List.take_zero,A1N]
theorem B0w:∀ {s t:List UInt8} {n:Nat},quM s=some (t,n)->t.all txB=true
 |[],t,n,h=>by trivial
 |c :: r,t,n,h=>by
  rw[X4]at h;split at h
  ·grind
  ·split at h
   ·grind
   ·rename_i h34 hr;split at h
    ·cases r with
     |nil=>grind
     |cons d q =>
      simp only at h;split at h
      ·rename_i hd;obtain⟨⟨t',n'⟩,h1,h2⟩:=A0R.1 h;have:=B0w h1;cases h2;simp only[A2H,this,A1X,txB,A0D,A0F];omega
      grind
    ·obtain⟨⟨t',n'⟩,h1,h2⟩:=A0R.1 h;have:=B0w h1;cases h2;simp only[A2H,this,A1X,txB,A0D,A0F];omega
theorem B5c{s:List UInt8}{p:Int}(h:(D2 s).err=0):G7 (nxT (D2 s) p)/\0<=(D2 s).value/\(D2 s).value<=2147483647:=by
 unfold G7;cases s with
 |nil=>trivial
 |cons c q =>
  by_cases hl:ltB c=true
  ·by_cases h12:12<E2 ptB (c :: q)
   ·rw[D2,if_pos hl,if_pos h12]at h;trivial
   ·rw[D2,if_pos hl,if_neg h12,nxT];refine⟨⟨fun hk=>?_,fun hk=>?_,fun hk=>?_⟩,by simp,by simp⟩
    ·simp only at hk ⊢;have hw:G3 ((c :: q).take (E2 ptB (c :: q)))=false:=by
      cases hz:G3 ((c :: q).take (E2 ptB (c :: q))) with
      |false=>rfl
      |true=>rw[hz]at hk;simp at hk
     have hp:ptB c=true:=by unfold ptB;rw[hl];rfl
     have h1:1<=E2 ptB (c :: q):=by simp only[E2,hp,if_true];omega
     have hle:=Y7 ptB (c :: q);have hlen:((c :: q).take (E2 ptB (c :: q))).length=E2 ptB (c :: q):=by rw[A1F];omega
     have hhd:∃ r,(c :: q).take (E2 ptB (c :: q))=c :: r:=by
      obtain⟨k,hk⟩:∃ k,E2 ptB (c :: q)=k+1:=⟨E2 ptB (c :: q)-1,by omega⟩;rw[hk];exact⟨_,rfl⟩
     unfold C4;rw[hlen,hw,A9k];obtain⟨r,hr⟩:=hhd;rw[hr];simp only[hl,A1X,Bool.not_false,A0D,A0F];exact⟨⟨h1,by omega⟩,trivial⟩
    ·simp only at hk;split at hk<;>simp at hk
    grind
  ·by_cases hd:dgB c=true
   ·by_cases h3:1<E2 dgB (c :: q)/\c.toNat=48
    ·rw[D2,if_neg hl,if_pos hd,if_pos h3]at h;trivial
    ·by_cases h2:2147483647<S9 ((c :: q).take (E2 dgB (c :: q)))
     ·rw[D2,if_neg hl,if_pos hd,if_neg h3,if_pos h2]at h;trivial
     ·rw[D2,if_neg hl,if_pos hd,if_neg h3,if_neg h2,nxT]
      grind
   ·by_cases h34:c.toNat=34
    ·cases hq:quM q with
     |none=>rw[D2,if_neg hl,if_neg hd,if_pos h34,hq]at h;trivial
     |some x =>
      obtain⟨t,m⟩:=x;by_cases h32:32<t.length
      ·rw[D2,if_neg hl,if_neg hd,if_pos h34,hq]at h;simp only at h;rw[if_pos h32]at h;trivial
      ·rw[D2,if_neg hl,if_neg hd,if_pos h34,hq];simp only;rw[if_neg h32,nxT];refine⟨⟨fun hk=>by grind,fun hk=>by simp,fun hk=>?_⟩,by simp,by simp⟩;simp only[P1,B0w hq,A2B,A0F];omega
    ·by_cases hs:P8 (c :: q)=0
     ·rw[D2,if_neg hl,if_neg hd,if_neg h34,if_pos hs]at h;trivial
     ·rw[D2,if_neg hl,if_neg hd,if_neg h34,if_neg hs,nxT];simp
theorem TOk.good{t:Tok}(h:TOk t):G7 t/\0<=t.value/\t.value<=2147483647:=by
 obtain⟨s,p,h1,rfl⟩:=h;obtain⟨h2,h3⟩:=B5c (p:=p) h1
 trivial
theorem B4j{s:List UInt8}(h:(G5 s).2.2=0):∀ t∈(G5 s).1,G7 t:=fun t ht=>(B6s h t ht).good.1
theorem B2h{s:List UInt8}(h:(G5 s).2.2=0):∀ t∈(G5 s).1,0<=t.value/\t.value<=9223372036854775807:=fun t ht=>by
 have:=(B6s h t ht).good.2;omega
theorem B0r{s:List UInt8}(h:(G5 s).2.2=0):(G5 s).1.length<=20000:=A1O (B8k s) (A6e h).1
def rd0:Rd:=⟨0,0,0,0,0⟩
def V6(L:List Tok)(E:Int):Ru × Rd:=Classical.choose (B6t (L:=L) (E:=E) rd0)
theorem A5h(L:List Tok)(E:Int):Evt (fun f=>A4h L E f rd0) (V6 L E):=Classical.choose_spec (B6t (L:=L) (E:=E) rd0)
def Ru0:Ru:=⟨[],[]⟩
def A4m(s:List UInt8):Ru × Int × Int :=
 let q:=G5 s
 if q.2.2≠0 then (Ru0,q.2.1,q.2.2)
 else if okR (V6 q.1 s.length).2=false then (Ru0,(V6 q.1 s.length).2.pos,(V6 q.1 s.length).2.e)
 else ((V6 q.1 s.length).1,0,0)
end Go.Pb
namespace Go.Sym
variable [Go.Sym.Tab]
open Go.Eng (KKey)
theorem B1k{H:Hp}{a k u u' w n:Nat}{pre suf xs ds junk:List DV}(hk:H k=some ⟨w,true,pre++[.slc a 0 n]++suf⟩)(ha:H a=some ⟨u,true,A3 xs++junk⟩)
  (h1:∀ d∈pre++suf,d.one=true) (hl:xs.length=n) (hu:∀ x∈xs,x.cells.length=u') (hak:¬ a=k) :
  GL H ds ((H.del a).upd k ⟨w,true,pre++[.lst xs]++suf⟩) ds:=by
 have hz:FzL a ⟨u,true,A3 xs++junk⟩ (pre++[.slc a 0 n]++suf) (pre++[.lst xs]++suf) :=
  FzL.app (FzL.app (FzL.refl _) (.cons _ _ _ _ (M6 (blk:=⟨u,true,A3 xs++junk⟩) hl hu ⟨junk,rfl⟩) .nil)) (FzL.refl _)
 refine GL.frzT (id:=a) ha rfl (fun j=>?_) (FzL.refl ds);by_cases ej:j=k
 ·subst ej;refine .inr ⟨Ne.symm hak,.inr ⟨_,_,hk,A0,rfl,rfl,hz,fun d hd=>?_⟩⟩;simp only[A0T,A0W,A0O]at hd;rcases hd with hd|rfl|hd
  ·exact h1 d (A2R _ hd)
  ·rfl
  grind
 ·rw[A6 ej];by_cases ea:j=a
  ·subst ea;left;simp[Hp.del]
  ·refine .inr ⟨ea,.inl ?_⟩;rw[F6 ea]
end Go.Sym
namespace Go.Pb
variable [Go.Sym.Tab]
open Go.Sym
mutual
def Ex.sz:Ex->Nat
 |.mk k v n a p=>1+n.length+Ex.szs a
def Ex.szs:List Ex->Nat
 |[]=>0
 |e :: l=>e.sz+Ex.szs l
end
mutual
def St.sz:St->Nat
 |.mk k n t a x y p=>1+n.length+t.length+Ex.szs a+St.szs x+St.szs y
def St.szs:List St->Nat
 |[]=>0
 |e :: l=>e.sz+St.szs l
end
def Dc.sz(d:Dc):Nat:=1+d.name.length
def Hd.sz(h:Hd):Nat:=1+h.name.length+St.szs h.body
def Md.sz(m:Md):Nat:=1+m.name.length+(m.hds.map Hd.sz).sum
def Ru.sz(r:Ru):Nat:=(r.decls.map Dc.sz).sum+(r.modes.map Md.sz).sum
theorem Ex.szs_map:∀ l:List Ex,Ex.szs l=(l.map Ex.sz).sum
 |[]=>rfl
 |e :: l=>by rw[Ex.szs,Ex.szs_map l];rfl
theorem St.szs_map:∀ l:List St,St.szs l=(l.map St.sz).sum
 |[]=>rfl
 |e :: l=>by rw[St.szs,St.szs_map l];rfl
theorem H6{α : Type}{f : α -> Nat}{x : α}:∀ {l:List α},x∈l->f x<=(l.map f).sum
 |a :: l,h=>by
  rw[A0U,A3J];rcases A1E.1 h with rfl|h
  ·omega
  ·have:=H6 (f:=f) h;omega
theorem J1{α : Type}{f : α -> Nat}:∀ {l:List α},(∀ x∈l,1<=f x)->l.length<=(l.map f).sum
 |[],h=>A0Z _
 |a :: l,h=>by
  have:=J1 (f:=f) (l:=l) fun x hx=>h x (A0H _ hx)
  grind
theorem Ex.sz_pos(e:Ex):1<=e.sz:=by cases e with|mk k v n a p=>rw[Ex.sz];omega
theorem St.sz_pos(e:St):1<=e.sz:=by cases e with|mk k n t a x y p=>rw[St.sz];omega
theorem Ex.sz_arg{e x:Ex}(h:x∈e.args):x.sz<e.sz:=by
 cases e with|mk k v n a p =>
 have:=H6 (f:=Ex.sz) h;rw[Ex.sz,Ex.szs_map];have h':(Ex.mk k v n a p).args=a:=rfl
 grind
theorem Ex.sz_name(e:Ex):e.name.length<e.sz:=by
 cases e with|mk k v n a p=>rw[Ex.sz];show n.length<_;omega
theorem Ex.sz_args(e:Ex):e.args.length<e.sz:=by
 cases e with|mk k v n a p =>
 have:=J1 (f:=Ex.sz) (l:=a) fun x _=>x.sz_pos;rw[Ex.sz,Ex.szs_map];show a.length<_;omega
theorem St.sz_name(e:St):e.name.length<e.sz:=by
 cases e with|mk k n t a x y p=>rw[St.sz];show n.length<_;omega
theorem St.sz_text(e:St):e.text.length<e.sz:=by
 cases e with|mk k n t a x y p=>rw[St.sz];show t.length<_;omega
theorem St.sz_arg{e:St}{x:Ex}(h:x∈e.args):x.sz<e.sz:=by
 cases e with|mk k n t a u w p =>
 have:=H6 (f:=Ex.sz) h;have h':(St.mk k n t a u w p).args=a:=rfl;rw[h']at this;rw[St.sz,Ex.szs_map];omega
theorem St.sz_args(e:St):e.args.length<e.sz:=by
 cases e with|mk k n t a u w p =>
 have:=J1 (f:=Ex.sz) (l:=a) fun x _=>x.sz_pos;rw[St.sz,Ex.szs_map];show a.length<_;omega
theorem St.sz_thn(e:St):St.szs e.thn<e.sz:=by
 cases e with|mk k n t a u w p=>rw[St.sz];show St.szs u<_;omega
theorem St.sz_els(e:St):St.szs e.els<e.sz:=by
 cases e with|mk k n t a u w p=>rw[St.sz];show St.szs w<_;omega
theorem St.szs_len(l:List St):l.length<=St.szs l:=by rw[St.szs_map];exact J1 fun x _=>x.sz_pos
theorem St.szs_mem{l:List St}{x:St}(h:x∈l):x.sz<=St.szs l:=by rw[St.szs_map];exact H6 h
theorem Ex.szs_mem{l:List Ex}{x:Ex}(h:x∈l):x.sz<=Ex.szs l:=by rw[Ex.szs_map];exact H6 h
theorem Ex.szs_len(l:List Ex):l.length<=Ex.szs l:=by rw[Ex.szs_map];exact J1 fun x _=>x.sz_pos
theorem A4(s:List UInt8):(C8 s).length=1:=by unfold C8;grind
theorem A9(n:Int):(N9 n).length=1:=by unfold N9;grind
theorem A7(s:List UInt8):(Q6 s).length=1:=by unfold Q6;grind
theorem A2n(q:Int × List Tok)(n:Int):q.2.length<=(E1 q n).length/\(E1 q n).length<=q.2.length+2:=by
 unfold E1;grind
theorem A1y:∀ l:List Ex,A8j l=l.map fun e=>(e.kind,exT e)
 |[]=>rfl
 |e :: l=>by rw[A8j,A1y l];rfl
set_option maxHeartbeats 2000000 in
theorem B6a{k v:Int}{n:List UInt8}{as1:List (Int × List Tok)}:1<=(F1 k v n as1).length/\(F1 k v n as1).length<=5+(as1.map fun q=>q.2.length).sum:=by
 unfold F1
 match as1 with
 |[] =>
  dsimp only;repeat' split
  all_goals simp only[A0A,A0G,A4,A9]
  all_goals omega
 |[q] =>
  have:=A2n q 6;dsimp only;repeat' split
  all_goals simp only[A0A,A0G,A4,A9,A0U,List.map_nil,A3J,List.sum_nil]
  all_goals omega
 |[q,r] =>
  have h1:=A2n q (if B5 k=3 then 4 else B5 k);have h2:=A2n r (B5 k+1);dsimp only;generalize E1 q (if B5 k=3 then 4 else B5 k)=A at h1 ⊢;generalize E1 r (B5 k+1)=B at h2 ⊢;generalize A5 (D3.getD (k-12).toNat [])=W;generalize B5 k=lv;repeat' split
  all_goals simp only[A0A,A0G,A4,A9,A0U,List.map_nil,A3J,List.sum_nil]
  all_goals omega
 |q :: r :: w :: l =>
  dsimp only;repeat' split
  all_goals simp only[A0A,A0G,A4,A9]
  all_goals omega
theorem A1d:∀ e:Ex,1<=(exT e).length/\(exT e).length<=5 * e.sz
 |.mk k v n a p=>by
  have ih:∀ x∈a,(exT x).length<=5 * x.sz:=fun x hx=>(A1d x).2;have h:=B6a (k:=k) (v:=v) (n:=n) (as1:=A8j a);rw[exT];refine⟨h.1,?_⟩;have h2:((A8j a).map fun q=>q.2.length).sum<=5 * Ex.szs a:=by
   rw[A1y,List.map_map,Ex.szs_map];clear h
   induction a with
   |nil=>simp
   |cons x l ihl =>
    grind
  rw[Ex.sz];omega
theorem C3s(l:List Ex)(i:Nat):1<=(agT l i).length/\(agT l i).length<=1+5 * Ex.szs l:=by
 unfold agT;cases h:l[i]? with
 |none=>simp
 |some e =>
  have h1:=A1d e;have h2:=Ex.szs_mem (A0M h)
  grind
mutual
theorem A2k:∀ s:St,1<=(stT s).length/\(stT s).length<=11 * s.sz
 |.mk k n t a x y p=>by
  have h0:=C3s a 0;have h1:=C3s a 1;have hx:=A1u x;have hy:∀ l,l=y->(L6 l).length<=11 * St.szs l:=fun l h=>by subst h;exact A1u l
  have hq:∀ q,y=[q]->(stT q).length<=11 * q.sz:=fun q h=>by subst h;exact (A2k q).2
  rw[St.sz];unfold stT;dsimp only;generalize agT a 0=A at h0 ⊢;generalize agT a 1=B at h1 ⊢;generalize L6 x=X at hx ⊢;generalize A5 (B8.getD (k-2).toNat [])=W
  match y,hy,hq with
  |[],hy,hq =>
   dsimp only;rw[St.szs];repeat' split
   all_goals simp only[A0A,A0G,A4,A7]
   all_goals omega
  |[q],hy,hq =>
   have hq:=hq q rfl;dsimp only;rw[St.szs,St.szs];generalize stT q=Q at hq ⊢;repeat' split
   all_goals simp only[A0A,A0G,A4,A7]
   all_goals omega
  |q :: q2 :: r,hy,hq =>
   have hy:=hy _ rfl;dsimp only;generalize L6 (q :: q2 :: r)=Y at hy ⊢;generalize St.szs (q :: q2 :: r)=z at hy ⊢;repeat' split
   all_goals simp only[A0A,A0G,A4,A7]
   all_goals omega
theorem A1u:∀ l:List St,(L6 l).length<=11 * St.szs l
 |[]=>A0Z _
 |s :: l=>by
  have h1:=A2k s;have h2:=A1u l;rw[L6,St.szs,A0A];omega
end
theorem A3d(l:List St):1<=(blT l).length/\(blT l).length<=11 * St.szs l+2:=by
 have:=A1u l;unfold blT
 grind
theorem B7x(d:Dc):1<=(dcT d).length/\(dcT d).length<=6:=by
 unfold dcT;dsimp only;generalize A5 (D0.getD (d.kind-1).toNat [])=W;repeat' split
 all_goals simp only[A0A,A0G,A4,A9]
 all_goals (first|omega|simp)
theorem C6f(h:Hd):1<=(hdT h).length/\(hdT h).length<=11 * h.sz:=by
 have:=A3d h.body;unfold hdT Hd.sz;generalize A5 (D5.getD (h.trig-1).toNat [])=W;split
 ·simp only[A0A,A0I,A0N,A4];omega
 grind
theorem A7i{α : Type}{f : α -> List Tok}{g : α -> Nat}{c:Nat}:∀ {l:List α},(∀ x∈l,(f x).length<=c * g x)->(l.flatMap f).length<=c * (l.map g).sum
 |[],_=>by simp
 |a :: l,h=>by
  have h1:=h a A0K;have h2:=A7i (l:=l) fun x hx=>h x (A0H _ hx);rw[A1B,A0A,A0U,A3J,Nat.mul_add];omega
theorem C5r(m:Md):1<=(mdT m).length/\(mdT m).length<=11 * m.sz:=by
 have:=A7i (l:=m.hds) (f:=hdT) (g:=Hd.sz) (c:=11) fun x _=>(C6f x).2;unfold mdT Md.sz;simp only[A0A,A0G,A4,A9];omega
theorem B0s(r:Ru):(ruT r).length<=11 * r.sz+1/\(r.decls.flatMap dcT++r.modes.flatMap mdT).length<=11 * r.sz:=by
 have h1:=A7i (l:=r.decls) (f:=dcT) (g:=Dc.sz) (c:=11) fun x _=>by have:=B7x x;unfold Dc.sz;omega
 have h2:=A7i (l:=r.modes) (f:=mdT) (g:=Md.sz) (c:=11) fun x _=>(C5r x).2;have h3:(r.decls.flatMap dcT++r.modes.flatMap mdT).length<=11 * r.sz:=by
  unfold Ru.sz;rw[A0A];omega
 refine⟨?_,h3⟩;unfold ruT
 grind
def B8b(t:Tok):Prop:=G7 t/\0<=t.value/\t.value<=2147483647
abbrev D8(l:List Tok):Prop:=∀ t∈l,B8b t
theorem A6f:B8b O9:=⟨⟨fun h=>by trivial,fun h=>by trivial,fun h=>by rfl⟩,by trivial,by trivial⟩
theorem S7(s:List UInt8):B8b (A5 s):=by
 refine⟨⟨fun h=>?_,fun h=>?_,fun h=>?_⟩,by simp[A5],by simp[A5]⟩;all_goals simp only[A5]at h ⊢
 all_goals (by_cases h1:G3 s=true)
 all_goals (by_cases h2:C4 s=true)
 all_goals (simp_all)
theorem A0n(s:List UInt8):D8 (C8 s):=by
 intro t ht;unfold C8 at ht;split at ht
 ·rw[A0O]at ht;subst ht;trivial
 ·rename_i h;rw[A0O]at ht;subst ht;exact⟨⟨fun _=>by grind,fun h=>by simp,fun h=>by grind⟩,by simp,by simp⟩
theorem B7t(n:Int):D8 (N9 n):=by
 intro t ht;unfold N9 at ht;split at ht
 ·rw[A0O]at ht;subst ht;trivial
 ·rename_i h;rw[A0O]at ht;subst ht;refine⟨⟨fun h=>by simp at h,fun _=>?_,fun h=>by simp at h⟩,?_,?_⟩<;>simp only<;>omega
theorem D4z(s:List UInt8):D8 (Q6 s):=by
 intro t ht;unfold Q6 at ht;split at ht
 ·rw[A0O]at ht;subst ht;trivial
 ·rename_i h;rw[A0O]at ht;subst ht;refine⟨⟨fun h=>by simp at h,fun h=>by simp at h,fun _=>?_⟩,by simp,by simp⟩;simp only[P1,A0D,A0F]
  grind
theorem D8.app{a b:List Tok}(ha:D8 a)(hb:D8 b):D8 (a++b):=fun t ht=>(A0W.1 ht).elim (ha t) (hb t)
theorem D8.one{t:Tok}(h:B8b t):D8 [t]:=fun x hx=>by grind
theorem D8.nil:D8 []:=fun x hx=>by grind
theorem D8.flat{α : Type}{f : α -> List Tok}{l:List α}(h:∀ x∈l,D8 (f x)):D8 (l.flatMap f):=fun t ht=>by
 grind
theorem C2m{q:Int × List Tok}(n:Int)(h:D8 q.2):D8 (E1 q n):=by
 unfold E1;split
 ·exact ((D8.one (S7 _)).app h).app (D8.one (S7 _))
 omega
theorem D5a{k v:Int}{n:List UInt8}{as1:List (Int × List Tok)}(h:∀ q∈as1,D8 q.2):D8 (F1 k v n as1):=by
 unfold F1;dsimp only;by_cases h1:k=1
 ·rw[if_pos h1];exact B7t _
 rw[if_neg h1];by_cases h2:k=2
 ·rw[if_pos h2];exact A0n _
 rw[if_neg h2];by_cases h3:k=3
 ·rw[if_pos h3];exact D8.one (S7 _)
 rw[if_neg h3];by_cases h4:k=4
 ·rw[if_pos h4];exact D8.one (S7 _)
 rw[if_neg h4];by_cases h8:k=8
 ·rw[if_pos h8];exact D8.one (S7 _)
 rw[if_neg h8];by_cases h9:k=9
 ·rw[if_pos h9];exact D8.one (S7 _)
 rw[if_neg h9];by_cases h5:k=5
 ·rw[if_pos h5];exact (D8.one (S7 _)).app (A0n _)
 rw[if_neg h5];by_cases h6:k=6
 ·rw[if_pos h6];exact (D8.one (S7 _)).app (A0n _)
 rw[if_neg h6];by_cases h7:k=7
 ·rw[if_pos h7];exact (D8.one (S7 _)).app (A0n _)
 rw[if_neg h7]
 match as1,h with
 |[],_=>exact D8.one A6f
 |[q],h =>
  dsimp only;split
  ·exact (D8.one (S7 _)).app (C2m _ (h q A0K))
  ·exact D8.one A6f
 |[q,r],h =>
  dsimp only;split
  ·exact ((C2m _ (h q A0K)).app (D8.one (S7 _))).app (C2m _ (h r (A0H _ A0K)))
  ·exact D8.one A6f
 |_ :: _ :: _ :: _,_=>exact D8.one A6f
theorem C7o:∀ e:Ex,D8 (exT e)
 |.mk k v n a p=>by
  have ih:∀ x∈a,D8 (exT x):=fun x hx=>C7o x;rw[exT,A1y];exact D5a fun q hq=>by
   grind
theorem A8c(l:List Ex)(i:Nat):D8 (agT l i):=by
 unfold agT;cases h:l[i]? with
 |none=>exact D8.one A6f
 |some e=>exact C7o e
mutual
theorem C2k:∀ s:St,D8 (stT s)
 |.mk k n t a x y p=>by
  have hx:=A7h x;have hy:∀ l,l=y->D8 (L6 l):=fun l h=>by subst h;exact A7h l
  have hq:∀ q,y=[q]->D8 (stT q):=fun q h=>by subst h;exact C2k q
  have w:∀ s,D8 [A5 s]:=fun s=>D8.one (S7 s);unfold stT;split
  ·exact (((A0n _).app (w _)).app (A8c _ _)).app (w _)
  split
  ·exact D8.one A6f
  dsimp only;split
  ·have ho:D8 ([A5 (B8.getD (k-2).toNat [])]++agT a 0++([A5 [123]]++L6 x++[A5 [125]])):=((w _).app (A8c _ _)).app (((w _).app hx).app (w _))
   match y,hy,hq with
   |[],_,_=>omega
   |[q],_,hq =>
    dsimp only;split
    ·exact (ho.app (w _)).app (hq q rfl)
    grind
   |q :: q2 :: r,hy,_=>grind
  split
  ·exact ((w _).app (A8c _ _)).app (w _)
  split
  ·exact ((((w _).app (D4z _)).app (w _)).app (A8c _ _)).app (w _)
  split
  ·exact (((w _).app (A0n _)).app (A8c _ _)).app (w _)
  split
  ·exact (((((w _).app (A0n _)).app (A8c _ _)).app (w _)).app (A8c _ _)).app (w _)
  split
  ·grind
  ·exact ((w _).app (A0n _)).app (w _)
theorem A7h:∀ l:List St,D8 (L6 l)
 |[]=>by rw[L6];grind
 |s :: l=>by rw[L6];exact (C2k s).app (A7h l)
end
theorem D1m(l:List St):D8 (blT l):=((D8.one (S7 _)).app (A7h l)).app (D8.one (S7 _))
theorem D1l(d:Dc):D8 (dcT d):=by
 have w:∀ s,D8 [A5 s]:=fun s=>D8.one (S7 s);unfold dcT;split
 ·exact D8.one A6f
 ·dsimp only;refine D8.app ?_ (w _);split
  ·exact (w _).app (A0n _)
  split
  ·exact (((w _).app (A0n _)).app (w _)).app (B7t _)
  ·exact ((w _).app (A0n _)).app (B7t _)
theorem D1k(h:Hd):D8 (hdT h):=by
 unfold hdT;refine D8.app (D8.app ?_ ?_) (D1m _)
 ·exact (D8.one (S7 _)).app (D8.one (S7 _))
 ·split
  ·exact A0n _
  grind
theorem D1j(m:Md):D8 (mdT m):=by
 have w:∀ s,D8 [A5 s]:=fun s=>D8.one (S7 s);unfold mdT;exact (((((w _).app (A0n _)).app (B7t _)).app (w _)).app (D8.flat fun x _=>D1k x)).app (w _)
theorem C2l(r:Ru):D8 (ruT r):=by
 unfold ruT;split
 ·exact D8.one A6f
 ·exact (D8.flat fun x _=>D1l x).app (D8.flat fun x _=>D1j x)
section
variable {L:List Tok} {E:Int}
theorem B7k{s:List UInt8}(h:C4 s=true):s.length<=12:=by
 unfold C4 at h
 grind
theorem A2j(hG:∀ t∈L,G7 t){s:Rd}:(B4 L E s 1).1.text.length<=12:=by
 cases h:I8 L E s 1 with
 |false=>unfold B4;rw[if_pos h];exact A0Z _
 |true =>
  unfold B4;rw[if_neg (by grind)];exact B7k ((hG _ (J3 (by simp) (G8 h).2).1).1 (G8 h).2)
theorem C3y(hG:∀ t∈L,G7 t){s:Rd}:(B4 L E s 4).1.text.length<=32:=by
 cases h:I8 L E s 4 with
 |false=>unfold B4;rw[if_pos h];exact A0Z _
 |true =>
  unfold B4;rw[if_neg (by rw[h];decide)];have:=(hG _ (J3 (by decide) (G8 h).2).1).2.2 (G8 h).2;unfold P1 at this
  grind
theorem C4x(hG:∀ t∈L,G7 t){s:Rd}:(J2 L E s).1.sz+13 * s.i<=13 * (J2 L E s).2.i+1:=by
 have hge:=B7d (L:=L) (E:=E) (s:=s);have h2:(C9 L E { s with ops:=s.ops+1 } (s.ops+1) 32 9).i=s.i:=F0;unfold J2 at hge ⊢;dsimp only at hge ⊢;split
 ·rename_i hc;rw[if_pos hc]at hge;show 1+0+0+_<=_;omega
 ·rename_i hc;rw[if_neg hc]at hge;split
  ·show 1+0+0+13 * s.i<=13 * (C9 L E { s with ops:=s.ops+1 } (s.ops+1) 32 9).i+1;omega
  ·have h3:(B2 (C9 L E { s with ops:=s.ops+1 } (s.ops+1) 32 9)).i=s.i+1:=by show (C9 L E { s with ops:=s.ops+1 } (s.ops+1) 32 9).i+1=_;omega
   generalize B2 (C9 L E { s with ops:=s.ops+1 } (s.ops+1) 32 9)=s3 at h3;have h4:=I7 (L:=L) (E:=E) (s:=s3) (x:=1);have h5:=A2j (L:=L) (E:=E) hG (s:=s3);split
   ·split
    ·show 1+(B4 L E s3 1).1.text.length+0+13 * s.i<=13 * (B4 L E s3 1).2.i+1;omega
    ·show 1+0+0+13 * s.i<=13 * s3.i+1;omega
   ·rename_i hk;split
    ·show 1+0+0+13 * s.i<=13 * s3.i+1;omega
    ·rename_i hk3;have h1k:I8 L E s 1=true:=by
      cases hz:I8 L E s 1 with
      |true=>rfl
      |false =>
       refine absurd ⟨by omega,?_,hz⟩ hc;cases hy:I8 L E s 3 with
       |false=>rfl
       |true=>exact absurd (G8 hy).2 hk3
     have:=B7k ((hG _ (J3 (by simp) (G8 h1k).2).1).1 (G8 h1k).2);show 1+(C2 L E s).text.length+0+13 * s.i<=13 * s3.i+1;omega
theorem EZ.all(hG:∀ t∈L,G7 t):∀ f:Nat,(∀ n s r,K4 L E f n s=some r->r.1.sz+13 * s.i<=13 * r.2.i+1)/\(∀ n e s r,U7 L E f n e s=some r->r.1.sz+13 * s.i<=13 * r.2.i+e.sz)/\(∀ s r,Y3 L E f s=some r->r.1.sz+13 * s.i<=13 * r.2.i+1)
 |0=>⟨fun n s r h=>by trivial,fun n e s r h=>by trivial,fun s r h=>by trivial⟩
 |f+1=>by
  obtain⟨i1,i2,i3⟩:=EZ.all hG f;refine⟨fun n s r h=>?_,fun n e s r h=>?_,fun s r h=>?_⟩
  ·unfold K4 at h
   grind
  ·unfold U7 at h;dsimp only at h;split at h
   ·grind
   ·split at h
    ·grind
    ·rename_i x s1 hb;have h1:=i1 _ _ _ hb;have h1:x.sz+13 * (s.i+1)<=13 * s1.i+1:=h1;have h3:(Ex.mk (12+C3 L E s D3) 0 [] [e,x] (C2 L E s).pos).sz=1+e.sz+x.sz:=by rw[Ex.sz,Ex.szs,Ex.szs,Ex.szs];simp;omega
     grind
  ·unfold Y3 at h;dsimp only at h;split at h
   ·cases h;exact C4x hG
   ·split at h
    ·cases h;show 1+0+0+13 * s.i<=13 * (C9 L E s (s.par+1) 16 50).i+1;rw[F0];omega
    ·rename_i hl;have hl:okR (C9 L E s (s.par+1) 16 50)=true:=by grind
     obtain⟨-, -,h3⟩:=F5 (by simp) hl;rw[h3]at h;split at h
     ·split at h
      ·grind
      ·rename_i e s3 hb;cases h;have h1:=i1 _ _ _ hb;have h1:e.sz+13 * (s.i+1)<=13 * s3.i+1:=h1;have h2:=E7 (L:=L) (E:=E) (s:=s3) (x:=[41])
       grind
     ·split at h
      ·grind
      ·rename_i e s3 hb;cases h;have h1:=i3 _ _ hb;have h1:e.sz+13 * (s.i+1)<=13 * s3.i+1:=h1;have h4:(Ex.mk (10+C3 L E s Q1) 0 [] [e] (C2 L E s).pos).sz=1+e.sz:=by rw[Ex.sz,Ex.szs,Ex.szs];simp
       grind
theorem A2x(hG:∀ t∈L,G7 t){f:Nat}{s:Rd}{r:Ex × Rd}(h:R8 L E f s=some r):r.1.sz+13 * s.i<=13 * r.2.i+1:=(EZ.all hG f).1 1 { s with ops:=0,par:=0 } r h
theorem A6b(k p:Int)(n t:List UInt8)(a:List Ex)(x y:List St):(St.mk k n t a x y p).sz=1+n.length+t.length+Ex.szs a+St.szs x+St.szs y:=by rfl
theorem C4a(hG:∀ t∈L,G7 t){f:Nat}{k p:Int}{s:Rd}{r:St × Rd}(h:N7 L E f k p s=some r):r.1.sz+45 * s.i<=45 * r.2.i+40:=by
 have t1:=A2j (L:=L) (E:=E) hG (s:=s);have t4:=C3y (L:=L) (E:=E) hG (s:=s);have g1:=I7 (L:=L) (E:=E) (s:=s) (x:=1);have g4:=I7 (L:=L) (E:=E) (s:=s) (x:=4);unfold N7 at h;dsimp only at h;split at h
 ·split at h
  ·grind
  ·rename_i e s1 he;cases h;have h1:=A2x hG he;have h2:=E7 (L:=L) (E:=E) (s:=s1) (x:=[59]);rw[A6b,Ex.szs,Ex.szs,St.szs]
   grind
 split at h
 ·split at h
  ·grind
  ·rename_i e s1 he;cases h;have h1:=A2x hG he;have h2:=E7 (L:=L) (E:=E) (s:=s1) (x:=[59]);have h3:=E7 (L:=L) (E:=E) (s:=(B4 L E s 4).2) (x:=[44]);rw[A6b,Ex.szs,Ex.szs,St.szs]
   grind
 split at h
 ·cases h;have h2:=E7 (L:=L) (E:=E) (s:=s) (x:=[59]);rw[A6b,Ex.szs,St.szs]
  grind
 split at h
 ·split at h
  ·grind
  ·rename_i e s1 he;have h1:=A2x hG he;split at h
   ·split at h
    ·grind
    ·rename_i e2 s2 he2;cases h;have h4:=A2x hG he2;have h2:=E7 (L:=L) (E:=E) (s:=s2) (x:=[59]);have h3:=E7 (L:=L) (E:=E) (s:=s1) (x:=[44]);rw[A6b,Ex.szs,Ex.szs,Ex.szs,St.szs]
     grind
   ·cases h;have h2:=E7 (L:=L) (E:=E) (s:=s1) (x:=[59]);rw[A6b,Ex.szs,Ex.szs,St.szs]
    grind
 ·cases h;have h2:=E7 (L:=L) (E:=E) (s:=(B4 L E s 1).2) (x:=[59]);rw[A6b,Ex.szs,St.szs]
  grind
theorem B6l:∀ (l:List St) (x:St),St.szs (l++[x])=St.szs l+x.sz
 |[],x=>by simp[St.szs]
 |a :: l,x=>by rw[List.cons_append,St.szs,St.szs,B6l l x];omega
theorem SZ.all(hG:∀ t∈L,G7 t):∀ f:Nat,(∀ d s r,K3 L E f d s=some r->St.szs r.1+45 * s.i<=45 * r.2.i+40) /\
  (∀ d l s r,S1 L E f d l s=some r->St.szs r.1+45 * s.i<=45 * r.2.i+St.szs l+40/\(okR s=false->St.szs r.1<=St.szs l)) /\
  (∀ d s r,U3 L E f d s=some r->r.1.sz+45 * s.i<=45 * r.2.i+40/\(r.1.sz+45 * s.i<=45 * r.2.i\/okR r.2=false/\r.1.sz<=40)/\s.i<=r.2.i) /\
  (∀ d s r,W1 L E f d s=some r->St.szs r.1+45 * s.i<=45 * r.2.i+40)
 |0=>⟨fun d s r h=>by trivial,fun d l s r h=>by trivial,fun d s r h=>by trivial,fun d s r h=>by trivial⟩
 |f+1=>by
  obtain⟨i1,i2,i3,i4⟩:=SZ.all hG f;refine⟨fun d s r h=>?_,fun d l s r h=>?_,fun d s r h=>?_,fun d s r h=>?_⟩
  ·unfold K3 at h;have h1:=(i2 _ _ _ _ h).1;have h2:=E7 (L:=L) (E:=E) (s:=s) (x:=[123]);rw[St.szs]at h1;omega
  ·unfold S1 at h;split at h
   ·rename_i hc;refine⟨?_,fun h0=>by grind⟩;split at h
    ·cases h;show St.szs []+45 * s.i<=45 * (N8 L E s).i+St.szs l+40;rw[U2,St.szs];omega
    ·split at h
     ·grind
     ·rename_i x s1 he;obtain⟨h1,h2⟩:=i2 _ _ _ _ h;obtain⟨h3,h4,h5⟩:=i3 _ _ _ he;rw[F0]at h3 h4 h5;rw[B6l]at h1 h2;dsimp only at h3 h4 h5;rcases h4 with h4|⟨h4,h6⟩
      ·omega
      ·have h7:=h2 h4;have h8:s1.i<=r.2.i:=by
        obtain⟨N,hN⟩:=(ST.all (L:=L) (E:=E) _).2 d (l++[x]) s1 (A0J _);obtain⟨⟨M,hM⟩,hg⟩:=hN;have h9:okR s1=false:=h4;have hfr:A0d L E d (l++[x]) s1 (l++[x],D6 L E s1 [125]):=A0d.stop (by grind);cases f with
        |zero=>trivial
        |succ f =>
         rw[S1,if_neg (by grind)]at h;cases h;exact E7
       omega
   ·rename_i hc;cases h;have h2:=E7 (L:=L) (E:=E) (s:=s) (x:=[125])
    grind
  ·have hst:=(ST.all (L:=L) (E:=E) (L.length-s.i)).1 d s (A0J _);unfold U3 at h;dsimp only at h;split at h
   ·rename_i hl;cases h;have e1:St0.sz=1:=by rfl
    refine⟨?_,.inr ⟨hl,by grind⟩,?_⟩
    ·show St0.sz+45 * s.i<=45 * (C9 L E s d 8 50).i+40;rw[F0];omega
    ·show s.i<=(C9 L E s d 8 50).i;rw[F0];omega
   rename_i hl;have hl:okR (C9 L E s d 8 50)=true:=by grind
   obtain⟨hs,hd,hle⟩:=F5 (by simp) hl;rw[hle]at h;split at h
   ·split at h
    ·grind
    ·rename_i e s1 he;cases h;have h1:=A2x hG he;have h2:=E7 (L:=L) (E:=E) (s:=s1) (x:=[59]);have h3:=E7 (L:=L) (E:=E) (s:=(B4 L E s 1).2) (x:=[61]);have h4:=I7 (L:=L) (E:=E) (s:=s) (x:=1);have h5:=A2j (L:=L) (E:=E) hG (s:=s);have hsz:(St.mk 1 (B4 L E s 1).1.text [] [e] [] [] (C2 L E s).pos).sz=1+(B4 L E s 1).1.text.length+e.sz:=by
      rfl
     rw[hsz];dsimp only at h1 ⊢;refine⟨by omega,?_,by omega⟩;by_cases ht:I8 L E s 1=true
     ·have h6:(B4 L E s 1).2.i=s.i+1:=by unfold B4;rw[if_neg (by rw[ht];decide)];rfl
      omega
     ·have ht:I8 L E s 1=false:=by grind
      have h6:(B4 L E s 1).2=N8 L E s:=by unfold B4;grind
      by_cases hp:1<=(D6 L E s1 [59]).i-s.i
      ·omega
      ·refine .inr ⟨?_,by omega⟩;cases hz:okR (D6 L E s1 [59]) with
       |false=>rfl
       |true =>
        have h7:=(A8i hz).2;have h8:(D6 L E s1 [59]).i=s1.i+1:=by rw[h7];rfl
        omega
   ·rename_i hk;obtain⟨-,hi, -,hk18⟩:=F7 (show 0<=C3 L E s B8 by omega);have hn:(B2 s).i=s.i+1:=rfl;split at h
    ·split at h
     ·grind
     ·rename_i e s2 he;split at h
      ·grind
      ·rename_i t s3 ht;have h1:=A2x hG he;have h2:=i1 _ _ _ ht;rw[hn]at h1;dsimp only at h1 h2;split at h
       ·split at h
        ·grind
        ·rename_i o s4 ho;cases h;have h3:=i4 _ _ _ ho;have h3:St.szs o+45 * (s3.i+1)<=45 * s4.i+40:=h3;have hsz:(St.mk 2 [] [] [e] t o (C2 L E s).pos).sz=1+e.sz+St.szs t+St.szs o:=by
          rw[A6b,Ex.szs,Ex.szs];simp
         grind
       ·cases h;have hsz:(St.mk (2+C3 L E s B8) [] [] [e] t [] (C2 L E s).pos).sz=1+e.sz+St.szs t:=by
         rw[A6b,Ex.szs,Ex.szs,St.szs];simp
        grind
    ·have h1:=C4a hG h;omega
  ·unfold W1 at h;split at h
   ·split at h
    ·cases h
    ·rename_i x s1 he;cases h;have h1:=(i3 _ _ _ he).1;rw[St.szs,St.szs];dsimp only at h1 ⊢;omega
   grind
end
section
variable {L:List Tok} {E:Int}
theorem D2a(hG:∀ t∈L,G7 t){k:Int}{s:Rd}:(Q2 L E k s).1.sz<=13:=by
 have h:=A2j (L:=L) (E:=E) hG (s:=B2 s);unfold Q2 Dc.sz
 grind
theorem B0p{α : Type}(f : α -> Nat)(l:List α)(x : α):((l++[x]).map f).sum=(l.map f).sum+f x:=by simp
theorem C2a(hG:∀ t∈L,G7 t):∀ (f:Nat) (l:List Hd) (s:Rd) (r:List Hd × Rd),U6 L E f l s=some r->(r.1.map Hd.sz).sum+45 * s.i<=45 * r.2.i+(l.map Hd.sz).sum
 |0,l,s,r,h=>by trivial
 |f+1,l,s,r,h=>by
  unfold U6 at h;dsimp only at h;split at h
  ·split at h
   ·cases h;show (l.map Hd.sz).sum+45 * s.i<=45 * (N8 L E s).i+_;rw[U2];omega
   ·have h1:(C9 L E s ((l.length:Int)+1) 32 9).i=s.i:=F0;generalize C9 L E s ((l.length:Int)+1) 32 9=s1 at h h1;split at h
    ·cases h;have h2:=E7 (L:=L) (E:=E) (s:=s1) (x:=[111,110]);show (l.map Hd.sz).sum+45 * s.i<=45 * (N8 L E (D6 L E s1 [111,110])).i+_;rw[U2];omega
    ·rename_i hk;obtain⟨hok,hi, -⟩:=F7 (show 0<=C3 L E (D6 L E s1 [111,110]) D5 by omega);have h3:(D6 L E s1 [111,110]).i=s1.i+1:=by rw[(A8i hok).2];rfl
     generalize D6 L E s1 [111,110]=s2 at h hk h3;have h4:=I7 (L:=L) (E:=E) (s:=B2 s2) (x:=1);have h5:=A2j (L:=L) (E:=E) hG (s:=B2 s2);have h6:(B2 s2).i=s2.i+1:=rfl;split at h
     ·grind
     ·rename_i b s5 hb;have h7:=(SZ.all hG f).1 _ _ _ hb;have h8:=C2a hG f _ _ _ h;rw[B0p]at h8;have h9:s2.i+1<=(if 2<=C3 L E s2 D5 then (B4 L E (B2 s2) 1).2 else B2 s2).i:=by
       split
       ·omega
       ·omega
      have h10:(if 2<=C3 L E s2 D5 then (B4 L E (B2 s2) 1).1.text else []).length<=12:=by
       split
       ·exact h5
       ·exact A0Z _
      have h11:Hd.sz ⟨1+C3 L E s2 D5,if 2<=C3 L E s2 D5 then (B4 L E (B2 s2) 1).1.text else [],b,(C2 L E s1).pos⟩<=13+St.szs b:=by
       unfold Hd.sz;dsimp only;omega
      grind
  ·cases h;have h2:=E7 (L:=L) (E:=E) (s:=s) (x:=[125])
   grind
theorem D0p(hG:∀ t∈L,G7 t){f:Nat}{s:Rd}{r:Md × Rd}(h:A1a L E f s=some r)(hm:isR L E s [109,111,100,101]=true):r.1.sz+45 * s.i<=45 * r.2.i:=by
 unfold A1a at h;dsimp only at h;split at h
 ·grind
 ·rename_i l s3 hml;cases h;have h1:=C2a hG _ _ _ _ hml;have h2:(D6 L E s [109,111,100,101]).i=s.i+1:=by unfold D6;rw[if_neg (by rw[hm];decide)];rfl
  generalize D6 L E s [109,111,100,101]=s1 at h1 h2 ⊢;have h3:=A2j (L:=L) (E:=E) hG (s:=s1);have h4:=I7 (L:=L) (E:=E) (s:=s1) (x:=1);have h5:=I7 (L:=L) (E:=E) (s:=(B4 L E s1 1).2) (x:=3);have h6:=E7 (L:=L) (E:=E) (s:=(B4 L E (B4 L E s1 1).2 3).2) (x:=[123]);unfold Md.sz
  grind
theorem B4m(hG:∀ t∈L,G7 t):∀ (f:Nat) (l:List Dc) (s:Rd) (r:List Dc × Rd),U5 L E f l s=some r->(r.1.map Dc.sz).sum+45 * s.i<=45 * r.2.i+(l.map Dc.sz).sum
 |0,l,s,r,h=>by trivial
 |f+1,l,s,r,h=>by
  unfold U5 at h;dsimp only at h;split at h
  ·grind
  ·have h1:(C9 L E s ((l.length:Int)+1) 128 9).i=s.i:=F0;split at h
   ·have h2:=B4m hG f _ _ _ h;rw[B0p]at h2;have h3:=D2a (L:=L) (E:=E) hG (k:=C3 L E s D0) (s:=C9 L E s ((l.length:Int)+1) 128 9);have h4:=C3j (L:=L) (E:=E) (k:=C3 L E s D0) (s:=C9 L E s ((l.length:Int)+1) 128 9);omega
   ·have h2:=B4m hG f _ _ _ h;omega
theorem B4l(hG:∀ t∈L,G7 t):∀ (f:Nat) (l:List Md) (s:Rd) (r:List Md × Rd),P4 L E f l s=some r->(r.1.map Md.sz).sum+45 * s.i<=45 * r.2.i+(l.map Md.sz).sum
 |0,l,s,r,h=>by trivial
 |f+1,l,s,r,h=>by
  unfold P4 at h;dsimp only at h;split at h
  ·split at h
   ·cases h;show (l.map Md.sz).sum+45 * s.i<=45 * (N8 L E s).i+_;rw[U2];omega
   ·rename_i hm;have hm:isR L E s [109,111,100,101]=true:=by simpa using hm
    split at h
    ·rename_i hl;have e0:=(F5 (by decide) hl).2.2;rw[e0]at h;split at h
     ·cases h
     ·rename_i m s2 hmd;have h1:=D0p hG hmd hm;have h2:=B4l hG f _ _ _ h;rw[B0p]at h2;dsimp only at h1;omega
    ·have h1:(C9 L E s ((l.length:Int)+1) 16 9).i=s.i:=F0;have h2:=B4l hG f _ _ _ h;omega
  grind
theorem C9a(hG:∀ t∈L,G7 t){f:Nat}{s:Rd}{r:Ru × Rd}(h:A4h L E f s=some r)(hi:s.i<=L.length):r.1.sz<=45 * L.length:=by
 unfold A4h at h;split at h
 ·grind
 ·rename_i d s1 hd;split at h
  ·grind
  ·rename_i m s2 hm;cases h;have h1:=B4m hG _ _ _ _ hd;have h2:=B4l hG _ _ _ _ hm;have h3:=C0z _ _ _ _ hm (C1a _ _ _ _ hd hi);unfold Ru.sz
   grind
end
theorem B6u{L:List Tok}{E:Int}(hG:∀ t∈L,G7 t):(V6 L E).1.sz<=45 * L.length:=by
 obtain⟨f,hf⟩:=(A5h L E).get;exact C9a hG hf (A0Z _)
theorem C5b(s:List UInt8):(A4m s).1.sz<=900000:=by
 unfold A4m;dsimp only;split
 ·show 0+0<=_;omega
 ·rename_i h;have h:(G5 s).2.2=0:=by omega
  have h1:=B0r h;split
  ·show 0+0<=_;omega
  ·have:=B6u (E:=s.length) (B4j h)
   grind
mutual
theorem Ex.plain_sz:∀ e:Ex,e.plain.sz=e.sz
 |.mk k v n a p=>by rw[Ex.plain,Ex.sz,Ex.sz,Ex.plains_sz a]
theorem Ex.plains_sz:∀ l:List Ex,Ex.szs (Ex.plains l)=Ex.szs l
 |[]=>rfl
 |e :: l=>by rw[Ex.plains,Ex.szs,Ex.szs,Ex.plain_sz e,Ex.plains_sz l]
end
mutual
theorem St.plain_sz:∀ e:St,e.plain.sz=e.sz
 |.mk k n t a x y p=>by rw[St.plain,St.sz,St.sz,Ex.plains_sz a,St.plains_sz x,St.plains_sz y]
theorem St.plains_sz:∀ l:List St,St.szs (St.plains l)=St.szs l
 |[]=>rfl
 |e :: l=>by rw[St.plains,St.szs,St.szs,St.plain_sz e,St.plains_sz l]
end
theorem Md.plain_sz(m:Md):m.plain.sz=m.sz:=by
 unfold Md.sz Md.plain;dsimp only;rw[List.map_map]
 congr 2
 refine A3O fun h _=>?_;show Hd.sz h.plain=Hd.sz h;unfold Hd.sz Hd.plain;dsimp only;rw[St.plains_sz]
theorem Ru.plain_sz(r:Ru):r.plain.sz=r.sz:=by
 unfold Ru.sz Ru.plain;dsimp only;rw[List.map_map,List.map_map]
 congr 2
 exact A3O fun m _=>Md.plain_sz m
def B8f(r:Ru):Bool:=okR (V6 (ruT r) 0).2 && @decide ((V6 (ruT r) 0).1.plain=r.plain) (Classical.propDecidable _)
end Go.Pb
namespace Go.Sym
theorem A3b{u:Nat}:∀ {xs:List DV},(∀ x∈xs,x.cells.length=u)->∀ {i j:Nat} {r:DV},xs[i]? = some r->j<u->(A3 xs)[i * u+j]? = r.cells[j]?
 |[],_,i,j,r,h,_=>by grind
 |x :: xs,hu,0,j,r,h,hj=>by
  have h:x=r:=by grind
  subst h;rw[Nat.zero_mul,A1M,show A3 (x :: xs)=x.cells++A3 xs from rfl,A2Z (by grind)]
 |x :: xs,hu,i+1,j,r,h,hj=>by
  have hx:=hu x A0K;rw[show A3 (x :: xs)=x.cells++A3 xs from rfl,A2Y (by grind),hx,show (i+1) * u+j-u=i * u+j by grind];exact A3b (fun y hy=>hu y (A0H _ hy)) (by grind) hj
theorem A3z{u:Nat}{r r' v:DV}{j:Nat}(hr:r'.cells=r.cells.set j v)(hv:v.cells=[v]):∀ {xs:List DV},(∀ x∈xs,x.cells.length=u)->∀ {i:Nat},xs[i]? = some r->j<u ->
  (A3 xs).take (i * u+j)++v.cells++(A3 xs).drop (i * u+j+1)=A3 (xs.set i r')
 |[],_,i,h,_=>by grind
 |x :: xs,hu,0,h,hj=>by
  have h:x=r:=by grind
  subst h;have hx:=hu x A0K;rw[Nat.zero_mul,A1M,List.set_cons_zero,show A3 (x :: xs)=x.cells++A3 xs from rfl,show A3 (r' :: xs)=r'.cells++A3 xs from rfl,hr,hv,List.take_append_of_le_length (by omega),List.drop_append_of_le_length (by omega),List.set_eq_take_append_cons_drop,if_pos (by omega)];simp
 |x :: xs,hu,i+1,h,hj=>by
  have hx:=hu x A0K;have ih:=A3z hr hv (fun y hy=>hu y (A0H _ hy)) (xs:=xs) (i:=i) (by grind) hj;rw[A4C,show A3 (x :: xs)=x.cells++A3 xs from rfl,show A3 (x :: xs.set i r')=x.cells++A3 (xs.set i r') from rfl, <- ih,show (i+1) * u+j=x.cells.length+(i * u+j) by grind,
   List.take_length_add_append,A3C,List.drop_length_add_append]
  simp
end Go.Sym
namespace Go.Sym
variable [Go.Sym.Tab]
open Go.Eng (Opd FOp AOp EOp IOp IOper DReg IC RV IFn trC trR A5f M8 opd A3t trO trF trA trE trI A8w trG trL A0p KKey Rg rgT B8m)
open Go.ChangeMaps (setBlock)
section
variable {P:Program} {N:Nat} {ρ ρ' ρ1:Ren} {s s' s1:St} {w w' w1:World} {a:Act} {ops:Array Oper}
theorem B1s{o:Oper}(h:o.guard=none)(y:Nat->Option Bool):Region.wanted o y=true:=by simp[Region.wanted,h]
theorem A6t{Q:Exit->Act->World->Prop}{o:Oper}{rest:List Oper}{v:Value}(hg:o.guard=none)(h:(execOp a.eval o).run P w=.ok (.value v) w')(k:wpList P ops Q rest (a.put o.dst v) w'):
  wpList P ops Q (o :: rest) a w:=by
 unfold wpList;rw[B1s hg,if_pos rfl];left;unfold Oper.wp;rw[h];exact k
theorem A3o{Q:Exit->Act->World->Prop}{Q':St->Prop}(rest:List Oper):∀ (os:List Oper) (is:List IOper) {ρ : Ren} {s:St} {a:Act} {w:World},trL P N ops os=some is->Sim N ρ s a w ->
  rwp P Q' is s->(∀ ρ' s' a' w',Q' s'->Sim N ρ' s' a' w'->Step ρ s w ρ' s' w'->wpList P ops Q rest a' w')->wpList P ops Q (os++rest) a w
 |[],is, ρ,s,a,w,htr,hS,h,hq=>by
  simp only[trL,Option.some.injEq]at htr;subst htr;exact hq ρ s a w h hS (Step.refl _ _ _)
 |o :: os,is, ρ,s,a,w,htr,hS,h,hq=>by
  simp only[trL]at htr;split at htr
  ·rename_i i is' ho his;cases htr;unfold trO at ho;split at ho
   ·rename_i op g hop hg hd;cases ho;rw[List.cons_append];unfold wpList;simp only[rwp]at h;split at h
    ·rename_i hw;rw[U0 hS hg rfl hw];rw[if_pos rfl];left;refine A2o hS hop h fun v v' H' c' ρ' w' hk d=>?_;obtain⟨hS',hst⟩:=hS.did hd d;exact A3o rest os is' his hS' hk fun ρ2 s2 a2 w2 q2 hS2 hst2=>hq ρ2 s2 a2 w2 q2 hS2 (hst.trans hst2)
    ·rename_i hw;rw[U0 hS hg rfl hw];rw[if_neg A1P];have d:Did ρ s.H s.c w undef w (.tup []) s.H s.c ρ := ⟨A0f ρ,hS.rep,hS.fresh,A0J _,fun _ _ h=>h,fun _ _=>rfl,Ext.refl _ _ _⟩;obtain⟨hS',hst⟩:=hS.did hd d;exact A3o rest os is' his hS' h fun ρ2 s2 a2 w2 q2 hS2 hst2=>hq ρ2 s2 a2 w2 q2 hS2 (hst.trans hst2)
    ·exact h.elim
   ·cases ho
  grind
structure Kp (ρ : Ren) (s:St) (w:World) (r id:Nat) (o:Obj):Prop where
 nm : ρ.nm id=some ⟨r,0,0,0,false⟩
 lt:id<s.c
 no:s.H id=none
 obj:w.heap[r]? = some o
 blk:∀ j b t,s.H j=some b -> ρ.nm j=some t->t.block≠r
 fz : ρ.fz r=none
 fm : ρ.fm r=none
theorem Kp.step{r id:Nat}{o:Obj}(h:Kp ρ s w r id o)(st:Step ρ s w ρ' s' w'):Kp ρ' s' w' r id o:=by
 have hr:r<w.heap.size:=(A0X.1 h.obj).1;refine⟨(st.same id h.lt).trans h.nm,A4B h.lt st.up,?_,?_,fun j b t hb ht=>?_,?_,?_⟩
 ·cases hn:s'.H id with
  |none=>rfl
  |some x=>exact absurd h.no (st.dom id h.lt (by grind))
 ·rw[st.ext.keep r hr fun j b t hb _ ht=>h.blk j b t hb ht];exact h.obj
 ·rcases st.ext.mine j b t hb ht with h1|⟨i,b0,t0,e1, -,e2,e3⟩
  ·omega
  ·rw[<- e3];exact h.blk i b0 t0 e1 e2
 ·cases hf : ρ'.fz r with
  |none=>rfl
  |some x =>
   rcases st.ext.fzn r x hf with h1|h1|⟨i,b0,t0,e1, -,e2,e3⟩
   ·rw[h.fz]at h1;grind
   ·omega
   ·exact absurd e3 (h.blk i b0 t0 e1 e2)
 ·cases hf : ρ'.fm r with
  |none=>rfl
  |some x =>
   rcases st.ext.fmn r x hf with h1|h1|⟨i,b0,t0,e1, -,e2,e3⟩
   ·rw[h.fm]at h1;grind
   ·omega
   ·exact absurd e3 (h.blk i b0 t0 e1 e2)
theorem Kp.set{r id:Nat}{o o':Obj}(h:Kp ρ s w r id o)(hw:∀ k,k≠r->w'.heap[k]? = w.heap[k]?)(ho:w'.heap[r]? = some o'):Kp ρ s w' r id o' :=
 ⟨h.nm,h.lt,h.no,ho,h.blk,h.fz,h.fm⟩
theorem Sim.setKp{r id:Nat}{o:Obj}(hS:Sim N ρ s a w)(h:Kp ρ s w r id o)(hw:∀ k,k≠r->w'.heap[k]? = w.heap[k]?):Sim N ρ s a w':=by
 refine⟨hS.tm,⟨fun j b hb=>?_,hS.rep.sep,fun k x hk=>?_,hS.rep.dis,fun k es hk=>?_⟩,hS.fresh,hS.size,hS.dfr⟩
 ·obtain⟨t,h1,h2⟩:=hS.rep.blk j b hb;exact⟨t,h1,h2.world (hw _ (h.blk j b t hb h1))⟩
 ·obtain⟨e,fr,h1⟩:=hS.rep.frz k x hk;exact⟨e,fr,by rw[hw k (fun e=>by rw[e,h.fz]at hk;cases hk)];omega⟩
 ·obtain⟨⟨cl,h1,h2⟩,h3⟩:=hS.rep.frm k es hk;exact⟨⟨cl,by rw[hw k (fun e=>by rw[e,h.fm]at hk;cases hk)];omega,h2⟩,h3⟩
theorem Step.set{r:Nat}(st:Step ρ1 s1 w1 ρ s w)(hr:w1.heap.size<=r)(hw:∀ k,k≠r->w'.heap[k]? = w.heap[k]?)(h1:w'.os=w.os)(h2:w'.tape=w.tape)(h3:w'.output=w.output)(h4:w'.heap.size=w.heap.size):
  Step ρ1 s1 w1 ρ s w' :=
 ⟨st.up,st.dom,st.same,⟨st.ext.le,h1.trans st.ext.os,h2.trans st.ext.tape,h3.trans st.ext.output,h4▸st.ext.size,fun k hk hno=>(hw k (by omega)).trans (st.ext.keep k hk hno),st.ext.mine,st.ext.fzn,st.ext.fmn⟩⟩
theorem Sim.new(hS:Sim N ρ s a w)(o:Obj):Did ρ s.H s.c w (.pointer (some ⟨w.heap.size,0,none⟩)) (w.alloc o) (.ptr s.c 0) s.H (s.c+1) (ρ.upd s.c ⟨w.heap.size,0,0,0,false⟩) /\
  ∀ T,Kp (ρ.upd s.c ⟨w.heap.size,0,0,0,false⟩) ⟨T,s.H,s.c+1⟩ (w.alloc o) w.heap.size s.c o:=by
 have hid:=hS.fresh s.c (A0J _);have hle : ρ.le (ρ.upd s.c ⟨w.heap.size,0,0,0,false⟩):=Ren.le_upd hid;have hno:s.H s.c=none:=by
  cases h:s.H s.c with
  |none=>rfl
  |some b=>obtain⟨t,h1, -⟩:=hS.rep.blk _ _ h;rw[hid]at h1;cases h1
 have nmj:∀ j b,s.H j=some b->(ρ.upd s.c ⟨w.heap.size,0,0,0,false⟩).nm j = ρ.nm j:=fun j b hb=>by
  have:j≠s.c:=fun e=>by rw[e,hno]at hb;cases hb
  simp only[Ren.upd,this,if_false]
 have lt:∀ j b t,s.H j=some b -> ρ.nm j=some t->t.block<w.heap.size:=fun j b t hb ht=>by
  obtain⟨t',h1,h2⟩:=hS.rep.blk j b hb;rw[ht]at h1;cases h1;exact h2.lt
 have fzn : ρ.fz w.heap.size=none:=by
  cases hf : ρ.fz w.heap.size with
  |none=>rfl
  |some x=>exact absurd (hS.rep.flt hf) (Nat.lt_irrefl _)
 have fmn : ρ.fm w.heap.size=none:=by
  cases hf : ρ.fm w.heap.size with
  |none=>rfl
  |some x =>
   obtain⟨⟨cl,h1, -⟩, -⟩:=hS.rep.frm _ _ hf;exact absurd (A0X.1 h1).1 (Nat.lt_irrefl _)
 refine⟨⟨.ptr s.c 0 _ (Ren.upd_same _ _ _) rfl,⟨fun j b hb=>?_,fun i j bi bj ti tj hi hj hij h1 h2 ho=>?_,fun k x hk=>?_,fun j b t hb ho ht=>?_,fun k es hk=>?_⟩,fun j hj=>?_,A3F _,fun _ _ h=>h,fun j hj=>?_,?_⟩,fun T=>⟨Ren.upd_same _ _ _,A2E _,hno,heap_alloc_new w o,fun j b t hb ht=>?_,fzn,fmn⟩⟩
 ·obtain⟨t,h1,h2⟩:=hS.rep.blk j b hb;exact⟨t,hle.nm _ _ h1,(h2.mono hle).world (heap_alloc_old w o h2.lt)⟩
 ·rw[nmj i bi hi]at h1;rw[nmj j bj hj]at h2;exact hS.rep.sep i j bi bj ti tj hi hj hij h1 h2 ho
 ·obtain⟨e,fr,h1⟩:=hS.rep.frz k x hk;exact⟨e,fr,by rw[heap_alloc_old w o (hS.rep.flt hk)];exact h1⟩
 ·rw[nmj j b hb]at ht;exact hS.rep.dis j b t hb ho ht
 ·obtain⟨⟨cl,h1,h2⟩,h3⟩:=hS.rep.frm k es hk;refine⟨⟨cl,by rw[heap_alloc_old w o (A0X.1 h1).1];exact h1,h2⟩,fun j b t hb ho ht=>?_⟩;rw[nmj j b hb]at ht;exact h3 j b t hb ho ht
 ·simp only[Ren.upd,show j≠s.c by omega,if_false];exact hS.fresh j (by omega)
 ·simp only[Ren.upd,show j≠s.c by omega,if_false]
 ·refine⟨hle,rfl,rfl,rfl,by simp,fun k hk _=>heap_alloc_old w o hk,fun j b t hb ht=>?_,fun k r hk=>.inl hk,fun k r hk=>.inl hk⟩;rw[nmj j b hb]at ht;exact .inr ⟨j,b,t,hb,fun h=>h,ht,rfl⟩
 grind
theorem A6z{c:Code}{x y:IC}(h:trC P N c=some (.seq x y)):∃ a b,c=.seq a b/\trC P N a=some x/\trC P N b=some y:=by
 cases c<;>simp only[trC]at h<;>(try (cases h;done))
 case seq a b =>
  grind
 all_goals (repeat' (split at h))<;>(try (cases h;done))
 all_goals simp at h
theorem B6f{c:Code}{i:Nat}{x:IC}(h:trC P N c=some (.blk i x)):∃ b,c=.block i b/\trC P N b=some x:=by
 cases c<;>simp only[trC]at h<;>(try (cases h;done))
 case block j b =>
  simp only[A0R]at h;obtain⟨x',hx,he⟩:=h;cases he;exact⟨b,rfl,hx⟩
 all_goals (repeat' (split at h))<;>(try (cases h;done))
 simp_all
theorem C0b{c:Code}{x:IC}(h:trC P N c=some (.loop x)):∃ b,c=.loop b/\trC P N b=some x:=by
 cases c<;>simp only[trC]at h<;>(try (cases h;done))
 case loop b =>
  simp only[A0R]at h;obtain⟨x',hx,he⟩:=h;cases he;exact⟨b,rfl,hx⟩
 all_goals (repeat' (split at h))<;>(try (cases h;done))
 simp_all
theorem C0c{c:Code}{o:Opd}{x y:IC}(h:trC P N c=some (.cond o x y)):∃ c0 a b,c=.cond c0 a b/\opd c0=some o/\trC P N a=some x/\trC P N b=some y:=by
 cases c<;>simp only[trC]at h<;>(try (cases h;done))
 case cond c0 a b =>
  grind
 all_goals (repeat' (split at h))<;>(try (cases h;done))
 all_goals simp at h
theorem B4b{c:Code}{r:Rg}(h:trC P N c=some (.rg r)):∃ id ops d,c=.region id ops d/\rgT P N ops d=r:=by
 cases c<;>simp only[trC]at h<;>(try (cases h;done))
 case region id ops d =>
  grind
 all_goals (repeat' (split at h))<;>(try (cases h;done))
 all_goals simp at h
theorem B6b{a b:Nat}(h:a.blt b=true):a<b:=by simp_all
theorem B6v{ops:Array Oper}:(∀ {i n io},B8m P N ops≠.r2 i n io)/\∀ {i n io},B8m P N ops≠.r3 i n io:=by
 constructor<;>intro i n io h<;>unfold B8m at h<;>(repeat' (split at h))<;>cases h
theorem C4t{ops:Array Oper}{d:Bool}{io:List IOper}{m it:Nat}(h:rgT P N ops d=.r1 io m it):
  d=false/\∃ pre ty x p f k e,ops.toList=pre++[⟨some it,.range ty (.tmp m),x,p,f,none⟩]/\trL P N ops pre=some io/\P.underlying ty=some (.map k e)/\it<N:=by
 unfold rgT at h;split at h
 ·grind
 ·refine⟨rfl,?_⟩;split at h
  ·grind
  ·grind
  ·unfold B8m at h;split at h
   ·rename_i it' ty m' x p f pre hops;split at h
    ·rename_i k e io' hu hl hb;cases h;refine⟨pre.reverse,ty,x,p,f,k,e,?_,hl,hu,B6b hb⟩;have:=congrArg List.reverse hops;simpa using this
    ·cases h
   grind
theorem C4s{ops:Array Oper}{d:Bool}{io:List IOper}{it n:Nat}(h:rgT P N ops d=.r2 it n io):
  d=false/\∃ rest x p f,ops.toList=⟨some n,.next (.tmp it) false,x,p,f,none⟩ :: rest/\trL P N ops rest=some io/\n<N:=by
 unfold rgT at h;split at h
 ·grind
 ·refine⟨rfl,?_⟩;split at h
  ·rename_i n' it' x p f rest hops;split at h
   ·rename_i io' hl hb;cases h;exact⟨rest,x,p,f,hops,hl,B6b hb⟩
   grind
  ·grind
  ·exact absurd h B6v.1
theorem C4r{ops:Array Oper}{d:Bool}{io:List IOper}{it n:Nat}(h:rgT P N ops d=.r3 it n io):
  d=false/\∃ rest x p f,ops.toList=⟨some n,.entry (.tmp it),x,p,f,none⟩ :: rest/\trL P N ops rest=some io/\n<N:=by
 unfold rgT at h;split at h
 ·grind
 ·refine⟨rfl,?_⟩;split at h
  ·grind
  ·rename_i n' it' x p f rest hops;split at h
   ·rename_i io' hl hb;cases h;exact⟨rest,x,p,f,hops,hl,B6b hb⟩
   grind
  ·exact absurd h B6v.2
end
structure RgI (P:Program) (N:Nat) (ks vs:List DV) (it n e id b1 b2:Nat) (ok:Opd) (io2 io3:List IOper) (Y:IC) (Q:Exit->St->Prop) (I:List Nat->St->Prop):Prop where
 hit:∀ L s,I L s->s.T it=.ptr id 0
 fin:∀ L s,I L s->(∀ i<ks.length,i∈L)->rwp P (fun s3=>ev s3.T ok=.bool false/\Q .normal s3) io2 ⟨s.T.upd n (.tup [.bool false]),s.H,s.c⟩
 rnd:∀ L s i k v,I L s->L.Nodup->(∀ j∈L,j<ks.length)->i ∉ L->ks[i]? = some k->vs[i]? = some v ->
  rwp P (fun s3=>ev s3.T ok=.bool true/\s3.T it=.ptr id 0/\rwp P (fun s4=>IW P N Y s4 (A6p b2 (A1t (fun s5=>I (i :: L) s5) (A6p b1 Q)))) io3 ⟨s3.T.upd e (.tup [k,v]),s3.H,s3.c⟩) io2 ⟨s.T.upd n (.tup [.bool true,k,v]),s.H,s.c⟩
theorem IW.range{P:Program}{N:Nat}{io1 io2 io3:List IOper}{m it n e b1 b2:Nat}{ok:Opd}{Y:IC}{s:St}{Q:Exit->St->Prop}
  (h:rwp P (fun s1 => ∃ kd ks vs,s1.T m=.mp kd ks vs/\∃ I:List Nat->St->Prop,I [] ⟨s1.T.upd it (.ptr s1.c 0),s1.H,s1.c+1⟩/\RgI P N ks vs it n e s1.c b1 b2 ok io2 io3 Y Q I) io1 s) :
  IW P N (.seq (.rg (.r1 io1 m it)) (.blk b1 (.loop (.seq (.rg (.r2 it n io2)) (.seq (.cond ok .skip (.exit b1)) (.blk b2 (.seq (.rg (.r3 it e io3)) Y))))))) s Q:=by
 intro hm c hc;obtain⟨cA,c2,rfl,hA,h2⟩:=A6z hc;obtain⟨c3,rfl,h3⟩:=B6f h2;obtain⟨c4,rfl,h4⟩:=C0b h3;obtain⟨cB,c5,rfl,hB,h5⟩:=A6z h4;obtain⟨c6,c7,rfl,h6,h7⟩:=A6z h5;obtain⟨cc,cs,ce,rfl,hcc,hcs,hce⟩:=C0c h6;obtain⟨c8,rfl,h8⟩:=B6f h7;obtain⟨cC,cY,rfl,hC,hY⟩:=A6z h8;obtain⟨iA,opsA,dA,rfl,eA⟩:=B4b hA;obtain⟨iB,opsB,dB,rfl,eB⟩:=B4b hB;obtain⟨iC,opsC,dC,rfl,eC⟩:=B4b hC;obtain⟨rfl,pre,ty,xA,pA,fA,kt,et,hopsA,hlA,hu,hitN⟩:=C4t eA;obtain⟨rfl,rB,xB,pB,fB,hopsB,hlB,hnN⟩:=C4s eB;obtain⟨rfl,rC,xC,pC,fC,hopsC,hlC,heN⟩:=C4r eC;intro ρ a w hS;refine wp_seq (wp_region_list ?_);rw[hopsA];refine A3o _ pre io1 hlA hS h fun ρ1 s1 a1 w1 hh hS1 hst1=>?_;obtain⟨kd,ks,vs,hTm,I,hI0,hI⟩:=hh;have rm:=hS1.tm m;rw[hTm]at rm;obtain⟨bm,es,hfm,q1,q2,q3,q4,q5⟩:∃ bm es, ρ1.fm bm=some es/\ks.length=es.size/\vs.length=es.size/\(∀ (i:Nat) x (e:MapEntry),ks[i]? = some x->es[i]? = some e->VRel ρ1 x e.key) /\
   (∀ (i:Nat) x (e:MapEntry),vs[i]? = some x->es[i]? = some e->VRel ρ1 x e.val)/\a1.eval (.tmp m)=.map (some bm):=by
  generalize hv:a1.tmps.getD m undef=v at rm;cases rm with
  |mp _ _ _ b es h0 h1 h2 h3 h4 h5=>exact⟨b,es,h0,h2,h3,h4,h5,hv⟩
 obtain⟨⟨cl,hbm,hnd,G0⟩,hown⟩:=hS1.rep.frm bm es hfm;have run1:(execOp a1.eval ⟨some it,.range ty (.tmp m),xA,pA,fA,none⟩).run P w1=.ok (.value (.pointer (some ⟨w1.heap.size,0,none⟩))) (w1.alloc (.mapIter (some bm) cl #[] cl)):=by
  simp only[execOp,Sem.run_bind,q5,run_range_map w1 ty kt et bm es cl hu hbm,Result.andThen_ok,Sem.run_pure]
 refine A6t rfl run1 ?_;obtain⟨d2,hkp2⟩:=hS1.new (.mapIter (some bm) cl #[] cl);obtain⟨hS2,hst2⟩:=hS1.did (d:=some it) (by simp[A0p];omega) d2;unfold wpList;refine wp_block ?_;have hst12:=hst1.trans hst2;have hbmne:bm≠w1.heap.size:=fun e1=>by
  grind
 have hbm2:(w1.alloc (.mapIter (some bm) cl #[] cl)).heap[bm]? = some (.map es cl):=by rw[heap_alloc_old _ _ (A0X.1 hbm).1];omega
 have map_keep:∀ {ρa:Ren} {sa:St} {wa:World} {ρb:Ren} {sb:St} {wb:World},Rep ρa sa.H wa -> ρa.fm bm=some es->wa.heap[bm]? = some (.map es cl)->Step ρa sa wa ρb sb wb->wb.heap[bm]? = some (.map es cl):=by
  intro ρa sa wa ρb sb wb hR hf hb st;rw[st.ext.keep bm (A0X.1 hb).1 fun id b t h1 h2 h3=>(hR.frm bm es hf).2 id b t h1 h2 h3];omega
 refine wp_loop_ghost (fun μ a' w' => ∃ ρ' s' L seen,I L s'/\L.Nodup/\(∀ i∈L,i<ks.length)/\Sim N ρ' s' a' w'/\Step ρ1 s1 w1 ρ' s' w'/\Kp ρ' s' w' w1.heap.size s1.c (.mapIter (some bm) cl seen cl) /\
   w'.heap[bm]? = some (.map es cl)/\(∀ (i:Nat) (e:MapEntry),es[i]? = some e->(seen.contains e.born=true↔i∈L)) /\ μ = (leftOf es seen).size) _
  ⟨_,_,[], #[],hI0,List.nodup_nil,fun i hi=>(by grind),hS2,hst2,hkp2 _,hbm2,fun i e _=>by simp,rfl⟩ ?_
 rintro μ a' w' ⟨ρ',s',L,seen,hIL,hLn,hLb,hS',hst',hkp,hb',hsn,rfl⟩;have hfm' : ρ'.fm bm=some es:=hst'.ext.le.fm _ _ hfm;have rit:=hS'.tm it;rw[hI.hit L s' hIL]at rit;obtain⟨t,ht, -,rit⟩:=rit.ptr_inv;rw[hkp.nm]at ht;cases ht;have eit:a'.eval (.tmp it)=.pointer (some ⟨w1.heap.size,0,none⟩):=rit;refine wp_seq (wp_region_list ?_);rw[hopsB];rcases run_next_at (P:=P) w' xB w1.heap.size bm cl cl seen es cl hkp.obj hb' G0 (A0J _) with ⟨h0,hrun⟩|⟨en,hen,wx,hal,hrun⟩
 ·have run2:(execOp a'.eval ⟨some n,.next (.tmp it) false,xB,pB,fB,none⟩).run P w'=.ok (.value (.tuple #[.bool false])) w':=by
   simp only[execOp,Sem.run_bind,eit,hrun,Result.andThen_ok,Sem.run_pure]
  refine A6t rfl run2 ?_;have d:Did ρ' s'.H s'.c w' (.tuple #[.bool false]) w' (.tup [.bool false]) s'.H s'.c ρ':=⟨.tup _ _ rfl (by
    intro i x y hx hy
    match i with
    |0=>cases hx;cases hy;exact .bool _
    |_+1=>grind),hS'.rep,hS'.fresh,A0J _,fun _ _ h=>h,fun _ _=>rfl,Ext.refl _ _ _⟩
  obtain⟨hS3,hst3⟩:=hS'.did (d:=some n) (by simp[A0p];omega) d;refine W8 rB io2 hlB hS3 (hI.fin L s' hIL fun i hi=>?_) fun ρ4 s4 a4 w4 hq hS4 hst4=>?_
  ·have hi':i<es.size:=q1▸hi;have:=all_seen es seen h0 es[i] (by simp)
   grind
  ·obtain⟨hok,hQ⟩:=hq;have hr:=B7 hS4.tm hcc;rw[hok]at hr;refine wp_seq (wp_cond hr.bool_inv ?_);rw[if_neg A1P];refine wp_mono (IW.of (ic:=.exit b1) (Q:=fun e s=>e=.exit b1/\s=s4) ⟨rfl,rfl⟩ hm ce hce ρ4 a4 w4 hS4) ?_;rintro e5 a5 w5 ⟨ρ5,s5,⟨rfl,rfl⟩,hS5,hst5⟩;show (if b1=b1 then A9d N ρ s w Q .normal a5 w5 else _);rw[if_pos rfl];exact⟨ρ5,s5,hQ,hS5,(((hst1.trans hst').trans hst3).trans hst4).trans hst5⟩
 ·obtain⟨hmem,hfr⟩:=mem_left hen;obtain⟨i,hi⟩:=List.getElem?_of_mem hmem;have hi2:es[i]? = some en:=by grind
  have his:i<es.size:=(A0X.1 hi2).1;have hk:ks[i]? = some ks[i]:=A0B (by omega);have hv:vs[i]? = some vs[i]:=A0B (by omega);have hiL:i ∉ L:=fun hh=>by grind
  have rk:=(q3 i _ en hk hi2).mono hst'.ext.le;have rv:=(q4 i _ en hv hi2).mono hst'.ext.le;have hxh:wx.heap=w'.heap:=by rcases hal with rfl|rfl<;>rfl
  obtain⟨w2,hw2⟩:∃ w2,w2=setBlock wx w1.heap.size (.mapIter (some bm) cl (seen.push en.born) cl):=⟨_,rfl⟩;rw[<- hw2]at hrun;have hrs:w1.heap.size<w'.heap.size:=(A0X.1 hkp.obj).1;have k1:∀ k,k≠w1.heap.size->w2.heap[k]? = w'.heap[k]? := fun k hk=>by
   rw[hw2];simp only[setBlock,hxh];grind
  have k2:w2.heap[w1.heap.size]? = some (.mapIter (some bm) cl (seen.push en.born) cl):=by
   rw[hw2];simp only[setBlock,hxh];grind
  have k3:w2.os=w'.os/\w2.tape=w'.tape/\w2.output=w'.output/\w2.heap.size=w'.heap.size:=by
   rw[hw2];rcases hal with rfl|rfl<;>exact⟨rfl,rfl,rfl,by simp[setBlock]⟩
  have hSx:=hS'.setKp hkp k1;have hkx:=hkp.set k1 k2;have hstx:=hst'.set (A0J _) k1 k3.1 k3.2.1 k3.2.2.1 k3.2.2.2;have hbx:w2.heap[bm]? = some (.map es cl):=(k1 bm hbmne).trans hb';have run2:(execOp a'.eval ⟨some n,.next (.tmp it) false,xB,pB,fB,none⟩).run P w'=.ok (.value (.tuple #[.bool true,en.key,en.val])) w2:=by
   simp only[execOp,Sem.run_bind,eit,hrun,Result.andThen_ok,Sem.run_pure]
  refine A6t rfl run2 ?_;have d:Did ρ' s'.H s'.c w2 (.tuple #[.bool true,en.key,en.val]) w2 (.tup [.bool true,ks[i],vs[i]]) s'.H s'.c ρ':=⟨.tup _ _ rfl (by
    intro j x y hx hy
    match j with
    |0=>cases hx;cases hy;exact .bool _
    |1=>grind
    |2=>grind
    |_+3=>grind),hSx.rep,hSx.fresh,A0J _,fun _ _ h=>h,fun _ _=>rfl,Ext.refl _ _ _⟩
  obtain⟨hS3,hst3⟩:=hSx.did (d:=some n) (by simp[A0p];omega) d;have hk3:=hkx.step hst3;have hb3:=map_keep hSx.rep hfm' hbx hst3;have hf3:=hst3.ext.le.fm _ _ hfm';refine W8 rB io2 hlB hS3 (hI.rnd L s' i _ _ hIL hLn hLb hiL hk hv) fun ρ4 s4 a4 w4 hq hS4 hst4=>?_;obtain⟨hok,hit4,hQ⟩:=hq;have hk4:=hk3.step hst4;have hb4:=map_keep hS3.rep hf3 hb3 hst4;have hf4:=hst4.ext.le.fm _ _ hf3;have hr:=B7 hS4.tm hcc;rw[hok]at hr;refine wp_seq (wp_cond hr.bool_inv ?_);rw[if_pos rfl];refine wp_mono (IW.of (ic:=.skip) (Q:=fun e s=>e=.normal/\s=s4) ⟨rfl,rfl⟩ hm cs hcs ρ4 a4 w4 hS4) ?_;rintro e5 a5 w5 ⟨ρ5,s5,⟨rfl,rfl⟩,hS5,hst5⟩;have hk5:=hk4.step hst5;have hb5:=map_keep hS4.rep hf4 hb4 hst5;have hf5:=hst5.ext.le.fm _ _ hf4;refine wp_block (wp_seq (wp_region_list ?_));rw[hopsC];have rit5:=hS5.tm it;rw[hit4]at rit5;obtain⟨t,ht, -,rit5⟩:=rit5.ptr_inv;rw[hk5.nm]at ht;cases ht;have eit5:a5.eval (.tmp it)=.pointer (some ⟨w1.heap.size,0,none⟩):=rit5;have run3:(execOp a5.eval ⟨some e,.entry (.tmp it),xC,pC,fC,none⟩).run P w5=.ok (.value (.tuple #[en.key,en.val])) w5:=by
   simp only[execOp,Sem.run_bind,eit5,run_entry_at (P:=P) w5 w1.heap.size bm cl seen es cl en hk5.obj hb5 hmem hnd,Result.andThen_ok,Sem.run_pure]
  refine A6t rfl run3 ?_;have hst35:=(hst3.trans hst4).trans hst5;have d:Did ρ5 s5.H s5.c w5 (.tuple #[en.key,en.val]) w5 (.tup [ks[i],vs[i]]) s5.H s5.c ρ5:=⟨.tup _ _ rfl (by
    intro j x y hx hy
    match j with
    |0=>cases hx;cases hy;exact rk.mono hst35.ext.le
    |1=>cases hx;cases hy;exact rv.mono hst35.ext.le
    |_+2=>grind),hS5.rep,hS5.fresh,A0J _,fun _ _ h=>h,fun _ _=>rfl,Ext.refl _ _ _⟩
  obtain⟨hS6,hst6⟩:=hS5.did (d:=some e) (by simp[A0p];omega) d;have hk6:=hk5.step hst6;have hb6:=map_keep hS5.rep hf5 hb5 hst6;have hf6:=hst6.ext.le.fm _ _ hf5;refine W8 rC io3 hlC hS6 hQ fun ρ7 s7 a7 w7 hY7 hS7 hst7=>?_;have hk7:=hk6.step hst7;have hb7:=map_keep hS6.rep hf6 hb6 hst7;have hf7:=hst7.ext.le.fm _ _ hf6;have hst17:=(((hstx.trans hst35).trans hst6).trans hst7);refine wp_mono (hY7 hm cY hY ρ7 a7 w7 hS7) ?_;rintro e8 a8 w8 ⟨ρ8,s8,hq8,hS8,hst8⟩;have hst18:=hst17.trans hst8;have hk8:=hk7.step hst8;have hb8:=map_keep hS7.rep hf7 hb7 hst8;have next:I (i :: L) s8->∃ n',n'<(leftOf es seen).size/\∃ ρ' s' L seen,I L s'/\L.Nodup/\(∀ i∈L,i<ks.length)/\Sim N ρ' s' a8 w8/\Step ρ1 s1 w1 ρ' s' w8/\Kp ρ' s' w8 w1.heap.size s1.c (.mapIter (some bm) cl seen cl) /\
   w8.heap[bm]? = some (.map es cl)/\(∀ (i:Nat) (e:MapEntry),es[i]? = some e->(seen.contains e.born=true↔i∈L))/\n'=(leftOf es seen).size:=fun hI8=>by
   refine⟨_,left_shrinks es seen en hen, ρ8,s8,i :: L,seen.push en.born,hI8,A2G.2 ⟨hiL,hLn⟩,fun j hj=>?_,hS8,hst18,hk8,hb8,fun j e' hj=>?_,rfl⟩
   ·grind
   ·rw[contains_push,A1C,A1E,hsn j e' hj];constructor
    ·rintro (h1|h1)
     ·exact .inr h1
     ·refine .inl ?_;have h2:=A1I.1 h1;have h3:(es.toList.map (·.born))[j]? = some en.born:=by rw[A1A,show es.toList[j]? = some e' by simpa using hj];simp[h2]
      have h4:(es.toList.map (·.born))[i]? = some en.born:=by rw[A1A,hi];rfl
      exact (List.getElem?_inj (A0P.1 h3).1 hnd).1 (h3.trans h4.symm)
    grind
  have hend:Step ρ s w ρ8 s8 w8:=hst1.trans hst18;cases e8 with
  |normal=>exact next hq8
  |exit j =>
   simp only[A6p]at hq8;simp only[Exit.inBlock];split at hq8
   ·rename_i hj;rw[if_pos hj];exact next hq8
   ·rename_i hj;rw[if_neg hj];simp only[A1t,A6p]at hq8;show (if j=b1 then A9d N ρ s w Q .normal a8 w8 else A9d N ρ s w Q (.exit j) a8 w8);split at hq8
    ·rename_i hj1;rw[if_pos hj1];exact⟨ρ8,s8,hq8,hS8,hend⟩
    ·rename_i hj1;rw[if_neg hj1];exact⟨ρ8,s8,hq8,hS8,hend⟩
  |_=>exact⟨ρ8,s8,hq8,hS8,hend⟩
theorem K9{n:Nat}{v:DV}:∀ {l:List (Nat × DV)} {T:Tm},C5 l T->(∀ p∈l,p.1≠n)->C5 l (T.upd n v)
 |[],_,_,_=>trivial
 |(k,x) :: r,T,⟨h1,h2⟩,h=>⟨by simp only[Tm.upd,h (k,x) A0K,if_false];omega,K9 h2 fun p hp=>h p (A0H _ hp)⟩
theorem A9g(T:Tm)(n:Nat)(v:DV):(T.upd n v) n=v:=by simp[Tm.upd]
theorem A0e(T:Tm){n k:Nat}(v:DV)(h:k≠n):(T.upd n v) k=T k:=by simp[Tm.upd,h]
def lpR{σ : Type}(it:Nat)(x:DV)(L : σ -> List (Nat × DV))(h : σ -> Hp)(J:List Nat -> σ -> Nat->Prop)(D:List Nat)(Q:Exit->St->Prop):Exit->St->Prop
 |.normal,⟨T,H,c⟩=>T it=x/\∃ b,C5 (L b) T/\Sub (h b) H/\J D b c
 |e,s=>Q e s
theorem D4k{σ : Type}{it:Nat}{x:DV}{L : σ -> List (Nat × DV)}{h : σ -> Hp}{J:List Nat -> σ -> Nat->Prop}{D:List Nat}{Q:Exit->St->Prop}{T:Tm}{H:Hp}{c:Nat}:
  lpR it x L h J D Q .normal ⟨T,H,c⟩=(T it=x/\∃ b,C5 (L b) T/\Sub (h b) H/\A8u (J D) b c):=propext Iff.rfl
theorem D4j{σ : Type}{it:Nat}{x:DV}{L : σ -> List (Nat × DV)}{h : σ -> Hp}{J:List Nat -> σ -> Nat->Prop}{D:List Nat}{Q:Exit->St->Prop}{s:St}:lpR it x L h J D Q .ret s=Q .ret s:=propext Iff.rfl
attribute [go_sem] D4k D4j
theorem B1i{P:Program}{N f:Nat}{D:(Ps->IC)->TD}[F:FT P f D]{p0 p1 p2 p3 p4 p5:Ps}{g m it n ok e x y k v b1 b2:Nat}{Y z:IC}{L0 L1 L2 L3 L4 L5:List Nat}
  [g0:LkD (D (pz P f)) p0 (.Q (.rg (.r1 [⟨some m,.call g [],none⟩] m it)) (pz P f p1) L0)] [g1:LkD (D (pz P f)) p1 (.J (.loop (pz P f p2)) b1 L1)]
  [g2:LkD (D (pz P f)) p2 (.Q (.rg (.r2 it n [⟨some ok,.pur (.ext (.t n) 0),none⟩])) (pz P f p3) L2)] [g3:LkD (D (pz P f)) p3 (.C .skip (pz P f p4) (.exit b1) (.t ok) L3)]
  [g4:LkD (D (pz P f)) p4 (.J (pz P f p5) b2 L4)]
  [g5:LkD (D (pz P f)) p5 (.Q (.rg (.r3 it e [⟨some x,.pur (.ext (.t e) 0),none⟩,⟨some y,.pur (.ext (.t e) 1),none⟩,⟨some k,.pur (.mv (.t x)),none⟩,⟨some v,.pur (.mv (.t y)),none⟩])) Y L5)]
  {T:Tm} {H:Hp} {c:Nat} {Q0:Exit->St->Prop} {kd:KKey} {ks vs:List DV} (hc:PC P g [] (.mp kd ks vs)) {σ : Type} (L : σ -> List (Nat × DV)) (h : σ -> Hp) (J:List Nat -> σ -> Nat->Prop) (a : σ)
  (hd:[k,v,it,m,n,ok,e,x,y].Nodup) (hA:∀ b,((L b).map Prod.fst).all (fun q => !([k,v,it,m,n,ok,e,x,y].contains q))=true) (h0:C5 (L a) T) (hH:Sub (h a) H) (hJ:J [] a (c+1))
  (fin:∀ D b c,J D b c->(∀ i<ks.length,i∈D)->IW P N z ⟨tm (L b),h b,c⟩ Q0)
  (rnd:∀ it' D b c i kk vv,J D b c->D.Nodup->(∀ j∈D,j<ks.length)->i ∉ D->ks[i]? = some kk->vs[i]? = some vv ->
   IW P N Y ⟨tm ((it,it') :: (k,kk) :: (v,vv) :: L b),h b,c⟩ (bk b2 (lpR it it' L h J (i :: D) (bk b1 (sq P N z Q0))))) :
  IW P N (pz P f p0) ⟨T,H,c⟩ (sq P N z Q0):=by
 rw[wz g0.get,show PD.ic (.Q (.rg (.r1 [⟨some m,.call g [],none⟩] m it)) (pz P f p1) L0)=.seq (.rg (.r1 [⟨some m,.call g [],none⟩] m it)) (pz P f p1) from rfl,wz g1.get,show PD.ic (.J (.loop (pz P f p2)) b1 L1)=.blk b1 (.loop (pz P f p2)) from rfl,wz g2.get];show IW P N (.seq (.rg (.r1 [⟨some m,.call g [],none⟩] m it)) (.blk b1 (.loop (.seq (.rg (.r2 it n [⟨some ok,.pur (.ext (.t n) 0),none⟩])) (pz P f p3))))) _ _;rw[wz g3.get];show IW P N (.seq (.rg (.r1 [⟨some m,.call g [],none⟩] m it)) (.blk b1 (.loop (.seq (.rg (.r2 it n [⟨some ok,.pur (.ext (.t n) 0),none⟩])) (.seq (.cond (.t ok) .skip (.exit b1)) (pz P f p4)))))) _ _;rw[wz g4.get];show IW P N (.seq (.rg (.r1 [⟨some m,.call g [],none⟩] m it)) (.blk b1 (.loop (.seq (.rg (.r2 it n [⟨some ok,.pur (.ext (.t n) 0),none⟩])) (.seq (.cond (.t ok) .skip (.exit b1)) (.blk b2 (pz P f p5))))))) _ _;rw[wz g5.get];have hL:∀ b, ∀ p∈L b,p.1 ∉ [k,v,it,m,n,ok,e,x,y]:=fun b p hp hh=>by
  have h1:=A0Q.1 (hA b) p.1 (A1L.2 ⟨p,hp,rfl⟩)
  grind
 simp only[A2G,A1E,A2F,or_false,not_or]at hd hL;obtain⟨⟨d1,d2,d3,d4,d5,d6,d7,d8⟩,⟨d9,d10,d11,d12,d13,d14,d15⟩,⟨d16,d17,d18,d19,d20,d21⟩,⟨d22,d23,d24,d25,d26⟩,⟨d27,d28,d29,d30⟩,⟨d31,d32,d33⟩,⟨d34,d35⟩,d36, -⟩:=hd;refine IW.range ?_;simp only[rwp,O5,M5,List.map_nil];refine cpc hc ⟨kd,ks,vs,A9g _ _ _,fun D s=>s.T it=.ptr c 0/\∃ b,C5 (L b) s.T/\Sub (h b) s.H/\J D b s.c,⟨A9g _ _ _,a,?_,hH,hJ⟩,fun D s q=>q.1,?_,?_⟩
 ·exact K9 (K9 h0 fun p hp=>(hL a p hp).2.2.2.1) fun p hp=>(hL a p hp).2.2.1
 ·rintro D s ⟨q1,b,q2,q3,q4⟩ hall;simp only[rwp,O5,M5,C7s,ev,A9g,C1e,A2N,F9];refine⟨trivial,?_⟩;exact IW.weaken (U1 (K9 (K9 q2 fun p hp=>(hL b p hp).2.2.2.2.1) fun p hp=>(hL b p hp).2.2.2.2.2.1)) q3 (fin D b _ q4 hall)
 ·rintro D s i kk vv ⟨q1,b,q2,q3,q4⟩ hn hb hi hk hv;simp only[rwp,O5,M5,ev,A9g,C1e,A2N,A2O,F9,fev,A0e _ _ d36,A0e _ _ d34,A0e _ _ (Ne.symm d8),A0e _ _ d18];refine⟨trivial,by rw[A0e _ _ d17];omega,?_⟩;refine IW.weaken (T':=tm ((it,.ptr c 0) :: (k,kk) :: (v,vv) :: L b)) (U1 ⟨?_,?_,?_,?_⟩) q3 ((rnd (.ptr c 0) D b s.c i kk vv q4 hn hb hi hk hv).mono ?_)
  ·rw[A0e _ _ (Ne.symm d9),A0e _ _ (Ne.symm d2),A0e _ _ d21,A0e _ _ d20,A0e _ _ d19,A0e _ _ d18,A0e _ _ d17];omega
  ·rw[A0e _ _ d1,A9g]
  ·exact A9g _ _ _
  ·refine K9 (K9 (K9 (K9 (K9 (K9 (K9 q2 ?_) ?_) ?_) ?_) ?_) ?_) ?_<;>intro p hp<;>have h9:=hL b p hp
   ·exact h9.2.2.2.2.1
   ·exact h9.2.2.2.2.2.1
   ·exact h9.2.2.2.2.2.2.1
   ·exact h9.2.2.2.2.2.2.2.1
   ·exact h9.2.2.2.2.2.2.2.2
   ·exact h9.1
   omega
  ·rintro e5 ⟨T5,H5,c5⟩ q5;have key:∀ e6,lpR it (.ptr c 0) L h J (i :: D) (bk b1 (sq P N z Q0)) e6 ⟨T5,H5,c5⟩->A1t (fun s5=>s5.T it=.ptr c 0/\∃ b,C5 (L b) s5.T/\Sub (h b) s5.H/\J (i :: D) b s5.c) (A6p b1 (sq P N z Q0)) e6 ⟨T5,H5,c5⟩:=by
    intro e6 q6;cases e6<;>exact q6
   cases e5 with
   |exit j =>
    assumption
   |normal=>assumption
   |ret=>assumption
   |goto l=>assumption
   |panic l=>assumption
   |outgrown=>assumption
end Go.Sym
namespace Go.Pb
variable [Go.Sym.Tab]
open Go.Sym
section
variable {L:List Tok} {E:Int}
theorem B7n:∀ (f:Nat) (l:List Hd) (s:Rd) (r:List Hd × Rd),U6 L E f l s=some r->l.length<=32->r.1.length<=32
 |0,l,s,r,h,hl=>by trivial
 |f+1,l,s,r,h,hl=>by
  unfold U6 at h;dsimp only at h;split at h
  ·split at h
   ·cases h;exact hl
   ·split at h
    ·cases h;exact hl
    ·rename_i hk;obtain⟨hok, -, -⟩:=F7 (show 0<=C3 L E (D6 L E (C9 L E s ((l.length:Int)+1) 32 9) [111,110]) D5 by omega);have h1:=(F5 (by decide) (A1k (A8i hok).1).1).2.1;split at h
     ·cases h
     ·exact B7n f _ _ _ h (by rw[A0A,A0G];omega)
  grind
theorem C5o{f:Nat}{s:Rd}{r:Md × Rd}(h:A1a L E f s=some r):r.1.hds.length<=32:=by
 unfold A1a at h;dsimp only at h;split at h
 ·grind
 ·rename_i l s3 hml;cases h;exact B7n _ _ _ _ hml (A0Z _)
theorem B0u:∀ (f:Nat) (l:List Md) (s:Rd) (r:List Md × Rd),P4 L E f l s=some r->(l.length<=16/\∀ m∈l,m.hds.length<=32)->r.1.length<=16/\∀ m∈r.1,m.hds.length<=32
 |0,l,s,r,h,hl=>by trivial
 |f+1,l,s,r,h,hl=>by
  unfold P4 at h;dsimp only at h;split at h
  ·split at h
   ·cases h;exact hl
   ·split at h
    ·rename_i hk;have e0:=(F5 (by decide) hk).2.1;split at h
     ·cases h
     ·rename_i m s2 hmd;refine B0u f _ _ _ h ⟨by rw[A0A,A0G];omega,fun x hx=>?_⟩;rcases A0W.1 hx with hx|hx
      ·exact hl.2 x hx
      ·obtain rfl:=A0O.1 hx;exact C5o hmd
    ·exact B0u f _ _ _ h hl
  grind
end
theorem C0y(L:List Tok)(E:Int):(V6 L E).1.modes.length<=16/\∀ m∈(V6 L E).1.modes,m.hds.length<=32:=by
 obtain⟨f,hf⟩:=(A5h L E).get;generalize V6 L E=R at hf ⊢;unfold A4h at hf;split at hf
 ·grind
 ·rename_i d s1 hd;split at hf
  ·grind
  ·rename_i m s2 hm;cases hf;exact B0u _ _ _ _ hm ⟨A0Z _,fun x hx=>nomatch hx⟩
theorem C1t(s:List UInt8):(A4m s).1.modes.length<=16/\∀ m∈(A4m s).1.modes,m.hds.length<=32:=by
 unfold A4m;dsimp only;split
 ·exact⟨A0Z _,fun x hx=>nomatch hx⟩
 ·split
  ·exact⟨A0Z _,fun x hx=>nomatch hx⟩
  ·exact C0y _ _
section
variable {L:List Tok} {E:Int}
def D0c:List Int:=[12,13,14,15,16,17,18,19,20,21,22,23,24]
def A3f:List Int:=[2,3,4,5,6,7,8,9,10,11,12,13,14,15,16,17,18,19]
end
end Go.Pb
end
