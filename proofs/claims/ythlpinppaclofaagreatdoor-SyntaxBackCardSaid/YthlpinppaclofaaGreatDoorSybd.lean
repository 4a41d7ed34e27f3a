/-
  HELPERS of the claim: part 4 of its texts.
-/
import Derived.Test.YthlpinppaclofaaGreatDoorSybc
import Derived.ReadAgain
import Derived.ChangeBears
import Derived.Deep.Slices
import Derived.Below
import Derived.OpenShut
import Derived.Lib.LaidTab
import Derived.Lib.ItoaNum
import Derived.Lib.Space
import Derived.Test.YthlpinppaclofaaGreatDoorProg
import Derived.Lib.ParseIntB
import Derived.Lib.Bytealg
import Derived.KernelRfl
import Derived.Lib.Join
noncomputable section
set_option linter.unusedVariables false
set_option linter.unusedSectionVars false
set_option linter.unusedSimpArgs false
namespace Go.Sym
variable [Go.Sym.Tab]
open Go.RowKit Go.Pb Go.Deep
section
variable {H:Type} {enc:TypeId × Value->H} {P:Program} {T:TypeId->Prop} {W W':World} {hT:TabOk W}
theorem arg_kept (K:Kids P T) (hz:∀ t e,T t->P.underlying t=some (.slice e)->0<P.cellsOf e) (hb:Below W.heap.size W W') {sp:Nat->Bool} :
  ∀ {ts:List TypeId} {vs:List Value} {ds:List (DataW H)} {ps:List MemPlace},(∀ t∈ts,T t)->DataW.TrodAll enc P W 0 (fun _=>true) true ts vs ds ps->(∀ p∈ps,sp p.block=true)->DataW.TrodAll enc P W' 0 sp true ts vs ds ps
 | [],[],[],_,_,h,_=>h
 | t :: ts,v :: vs,d :: ds,ps,hT,⟨p,q,h1,h2,e⟩,hs=>by
  have hlt:=h1;refine ⟨p,q,?_,arg_kept K hz hb (fun t ht=>hT t (A1D.2 (Or.inr ht))) h2 (fun x hx=>hs x (by rw [e];exact A3M _ hx)),e⟩;have h3:=h1.respare K hz (hT _ (A1D.2 (Or.inl rfl))) (spare':=sp) (fun x hx=>hs x (by rw [e];exact A3A _ hx));obtain ⟨n,hn⟩:=h3;obtain ⟨m,hm⟩:=h1;exact ⟨n,DataW.trod_carry n _ _ _ hn fun x hx=>hb.same (DataW.trod_lt m _ _ _ hm x hx)⟩
theorem u8_of {n:Int} (h:(Lit.int .u8 n).wf=true):n=((UInt8.ofNat n.toNat).toNat:Int):=by
 have:=bounds_u8 h;simp;omega
theorem open_bytes {t e:TypeId} {v:Value} {d:DataW H} {ps:List MemPlace} (ht:P.underlying t=some (.slice e)) (he:P.underlying e=some (.int .u8)) (hc:P.cellsOf e=1)
  (h:DataW.Trod enc P W 0 (fun _=>true) true t v d ps) (hv:v.cells = #[v]):∃ l:List UInt8,l.length<=9223372036854775807/\VRel (topR W hT) (.lst (bytesC l)) v:=by
 obtain ⟨n,hn⟩:=h;rcases open_slice1 ht hc hn with ⟨h1, -⟩|⟨a,len,cap,m,n',V,D,Pl,h1,h2,h3,h4,h5,h6,h7⟩
 ·rw [hv] at h1;have:v=.slice none 0 0:=by simpa using h1
  subst this;exact ⟨[],by simp,.lnil0⟩
 ·rw [hv] at h1;have hva:v=.slice (some a) len cap:=by simpa using h1
  subst hva;simp only [if_true] at h5;have hk:∀ i,i<len->∃ k:Int,V i=.int .u8 k/\(Lit.int .u8 k).wf=true:=by
   intro i hi;obtain ⟨k,q1,q2,q3⟩:=DataW.trod_int he (h7 i (by omega)).2;exact ⟨k,by simpa using q1,q3⟩
  by_cases hl0:len=0
  ·subst hl0;exact ⟨[],by simp,.lnil a cap⟩
  have hcell:=(h7 0 (by omega)).1;have hadd0:a.add 0=a:=by simp [Addr.add]
  rw [hadd0] at hcell;obtain ⟨b,off,spot⟩:=a;have hspot:spot=none:=by
   simp only [World.cell?] at hcell;split at hcell
   ·split at hcell
    ·cases hcell
    ·rename_i h;cases spot with
     | none=>rfl
     | some s=>simp at h
   ·cases hcell
  subst hspot;have hrow:∃ row ty fr,W.heap[b]? = some (.cells row ty fr):=by
   simp only [World.cell?] at hcell;split at hcell
   ·rename_i row ty fr h;exact ⟨row,ty,fr,h⟩
   ·cases hcell
  obtain ⟨row,ty,fr,hb⟩:=hrow;have hget:∀ i,i<len->row[off+i]? = some (V i):=by
   intro i hi;have h8:=(h7 i (by omega)).1;have e1:(⟨b,off,none⟩:Addr).add i=⟨b,off+i,none⟩:=by
    unfold Addr.add;split
    ·rename_i h0;subst h0;rfl
    ·rfl
   rw [e1] at h8;simp only [World.cell?,hb] at h8;exact h8
  obtain ⟨F,hF⟩:∃ F:Nat->UInt8, ∀ i,i<len->V i=.int .u8 ((F i).toNat:Int):=by
   have:∀ i, ∃ f:UInt8,i<len->V i=.int .u8 (f.toNat:Int):=fun i=>by
    by_cases hi:i<len
    ·obtain ⟨k,q1,q2⟩:=hk i hi;exact ⟨UInt8.ofNat k.toNat,fun _=>by rw [q1, <- u8_of q2]⟩
    ·exact ⟨0,fun h=>absurd h hi⟩
   exact ⟨fun i=>Classical.choose (this i),fun i hi=>Classical.choose_spec (this i) hi⟩
  refine ⟨(List.range len).map F,by simp only [A0I,List.length_range];simp only [maxLen] at h4;omega,?_⟩;have hcl:A8 (bytesC ((List.range len).map F))=bytesC ((List.range len).map F):=A1m (fun _=>rfl) _;have hlen:(bytesC ((List.range len).map F)).length=len:=by rw [A3c];simp
  refine .lst _ _ 1 b off cap row (B9s hb) hlen.symm h3 h4 (fun x hx=>by obtain ⟨y, -,rfl⟩:=A1I.1 hx;rfl) ?_ ?_ ?_
  ·rw [hcl,hlen];have:=(A0P.1 (hget (len-1) (by omega))).1;omega
  ·rw [hcl];intro x hx;obtain ⟨y, -,rfl⟩:=A1I.1 hx;rfl
  ·rw [hcl];intro k x y hx hy;have hkl:k<len:=by have:=(A0V.1 hx).1;omega
   rw [hget k hkl,hF k hkl] at hy;cases hy;have hx2:(bytesC ((List.range len).map F))[k]? = some (DV.int .u8 ((F k).toNat:Int)):=by simp [bytesC,hkl]
   rw [hx2] at hx;cases hx;exact .int _ _
end
end Go.Sym
namespace Go.Pb
variable [Go.Sym.Tab]
open Go.Sym
theorem R5 {s t:List UInt8} (h:s.length+t.length<=9223372036854775807):binR .add (.str s) (.str t)=some (.str (s++t)):=B4w (by simpa [maxLen] using h)
end Go.Pb
namespace Go.Pb
variable [Go.Sym.Tab]
open Go.Sym
def W0 (d:Nat):UInt8:=UInt8.ofNat (48+d)
def A5e (n:Nat):List UInt8:=if n<10 then [W0 n] else A5e (n / 10)++[W0 (n % 10)]
termination_by n
decreasing_by omega
theorem A1k {n:Nat} (h:n<10):A5e n=[W0 n]:=by rw [A5e,if_pos h]
theorem A4x {n:Nat} (h:¬n<10):A5e n=A5e (n / 10)++[W0 (n % 10)]:=by rw [A5e,if_neg h]
theorem B8w:∀ (k n:Nat),n<10 ^ (k+1)->(A5e n).length<=k+1
 | 0,n,h=>by rw [A1k (by omega)];simp
 | k+1,n,h=>by
  by_cases h0:n<10
  ·rw [A1k h0];simp
  ·rw [A4x h0,A0C];have:=B8w k (n / 10) (by rw [Nat.pow_succ] at h;omega);simp only [A0K];omega
def G8 (n:Int):List UInt8:=if n<0 then 45 :: A5e n.natAbs else A5e n.natAbs
theorem N8 {n:Int} (h1 : -9223372036854775808<=n) (h2:n<=9223372036854775807):(G8 n).length<=21:=by
 have:=B8w 19 n.natAbs (by omega);unfold G8;split
 ·rw [A0B];omega
 ·omega
theorem E1t {d:Nat} (h:d<10):IntKind.u8.wrap (IntKind.i64.wrap (48+(d:Int)))=((W0 d).toNat:Int):=by
 rw [w6z (by omega),wu8 (by omega) (by omega),W0];simp;omega
def V2 (n:Int):Nat:=n.natAbs % 10
def Z4 (n:Int):Nat:=n.natAbs / 10
theorem C3o (n:Int):V2 n<10:=by unfold V2;omega
theorem C3t {n:Int} (h:n≠0):Z4 n<n.natAbs:=by unfold Z4;omega
theorem D3v {n:Int} (h:n<0):n.tdiv 10 = -((Z4 n:Nat):Int):=by
 unfold Z4;obtain ⟨k,rfl⟩:∃ k:Nat,n = -(k:Int):=⟨n.natAbs,by omega⟩;rw [Int.neg_tdiv];simp [Int.tdiv]
theorem D3u {n:Int} (h:n<0):n.tmod 10 = -((V2 n:Nat):Int):=by
 unfold V2;obtain ⟨k,rfl⟩:∃ k:Nat,n = -(k:Int):=⟨n.natAbs,by omega⟩;rw [Int.neg_tmod];simp [Int.tmod]
theorem D3m {n:Int} (h:0<=n):n.tdiv 10=((Z4 n:Nat):Int):=by
 unfold Z4;obtain ⟨k,rfl⟩:∃ k:Nat,n=(k:Int):=⟨n.natAbs,by omega⟩;simp [Int.tdiv]
theorem D3l {n:Int} (h:0<=n):n.tmod 10=((V2 n:Nat):Int):=by
 unfold V2;obtain ⟨k,rfl⟩:∃ k:Nat,n=(k:Int):=⟨n.natAbs,by omega⟩;simp [Int.tmod]
theorem C5t {n:Int} (h:n<0) (h1:Z4 n=0):G8 n=[45]++[W0 (V2 n)]:=by
 unfold Z4 at h1;have h2:n.natAbs<10:=by omega
 have h3:V2 n=n.natAbs:=by unfold V2;omega
 rw [G8,if_pos h,A1k h2,h3];rfl
theorem D1k {n:Int} (h:n<0) (h1:Z4 n≠0):G8 n=G8 (-(Z4 n:Int))++[W0 (V2 n)]:=by
 have h2:¬n.natAbs<10:=by unfold Z4 at h1;omega
 rw [G8,if_pos h,A4x h2,G8,if_pos (by omega),Int.natAbs_neg,Int.natAbs_natCast];rfl
theorem A9u {n:Int} (h:0<=n) (h1:n<10):G8 n=[W0 (V2 n)]:=by
 have h3:V2 n=n.natAbs:=by unfold V2;omega
 rw [G8,if_neg (by omega),A1k (by omega),h3]
theorem C4a {n:Int} (h:¬n<10):G8 n=G8 (Z4 n:Int)++[W0 (V2 n)]:=by
 rw [G8,if_neg (by omega),A4x (by omega),G8,if_neg (by omega),Int.natAbs_natCast];rfl
abbrev I6 (n:Int):Prop := -9223372036854775808<=n/\n<=9223372036854775807
end Go.Pb
namespace Go.Pb
variable [Go.Sym.Tab]
open Go.Sym
structure Tok where
 kind:Int
 text:List UInt8
 value:Int
 pos:Int
deriving DecidableEq
abbrev Tok.v (t:Tok):DV:=.agg [I64 t.kind,.str t.text,I64 t.value,I64 t.pos]
abbrev S2 (l:List Tok):DV:=.lst (l.map Tok.v)
theorem T1 (l:List Tok):∀ x∈l.map Tok.v,x.cells.length=4:=by
 intro x hx;obtain ⟨y, -,rfl⟩:=A1I.1 hx;rfl
@[simp]theorem B0r (l:List Tok):DV.nlL (l.map Tok.v)=true:=Q5 (fun _=>rfl) l
def ltB (c:UInt8):Bool:=(decide (97<=c.toNat) && decide (c.toNat<=122)) || (decide (65<=c.toNat) && decide (c.toNat<=90))
def dgB (c:UInt8):Bool:=decide (48<=c.toNat) && decide (c.toNat<=57)
def ptB (c:UInt8):Bool:=ltB c || dgB c || decide (c.toNat=95)
def C1 (p:UInt8->Bool):List UInt8->Nat
 | []=>0
 | c :: r=>if p c=true then C1 p r+1 else 0
theorem T6 (p:UInt8->Bool):∀ s:List UInt8,C1 p s<=s.length
 | []=>A0H _
 | c :: r=>by
  have:=T6 p r;simp only [C1,A0B];split<;>omega
theorem B4o {p:UInt8->Bool}:∀ {s:List UInt8} {k:Nat} {c:UInt8},s[k]? = some c->k<=C1 p s->(p c=true->k+1<=C1 p s)/\(p c=false->C1 p s=k)
 | [],k,c,h,_=>by cases h
 | x :: r,0,c,h,_=>by
  cases h;simp only [C1];exact ⟨fun h=>by rw [if_pos h];omega,fun h=>by rw [if_neg (by rw [h];simp)]⟩
 | x :: r,k+1,c,h,hk=>by
  simp only [C1] at hk ⊢;split at hk
  ·rename_i hx;rw [if_pos hx];have:=B4o (p:=p) (s:=r) (k:=k) (c:=c) (by simpa using h) (by omega);exact ⟨fun h=>by have:=this.1 h;omega,fun h=>by have:=this.2 h;omega⟩
  ·omega
theorem B7c {p:UInt8->Bool} {s:List UInt8} {k:Nat} (h:s.length<=k) (hk:k<=C1 p s):C1 p s=k:=by
 have:=T6 p s;omega
def T9 (c:UInt8):Bool:=decide (c.toNat=9) || decide (c.toNat=10) || decide (c.toNat=13) || decide (c.toNat=32)
def skM:Bool->List UInt8->Nat
 | _,[]=>0
 | true,c :: r=>if c.toNat=10 then skM false r+1 else skM true r+1
 | false,c :: r=>if T9 c=true then skM false r+1 else if c.toNat=35 then skM true r+1 else 0
theorem T7:∀ (b:Bool) (s:List UInt8),skM b s<=s.length
 | _,[]=>by simp [skM]
 | true,c :: r=>by
  have h1:=T7 true r;have h2:=T7 false r;simp only [skM,A0B];split<;>omega
 | false,c :: r=>by
  have h1:=T7 true r;have h2:=T7 false r;simp only [skM,A0B];split
  ·omega
  ·split<;>omega
theorem B7g:∀ (s:List UInt8),skM true s=C1 (fun c=>decide (c.toNat≠10)) s+skM false (s.drop (C1 (fun c=>decide (c.toNat≠10)) s))
 | []=>by simp [skM,C1]
 | c :: r=>by
  by_cases h:c.toNat=10
  ·simp [skM,C1,h,T9]
  ·have ih:=B7g r;simp only [skM,C1,h,if_false,ne_eq,not_false_eq_true,decide_true,if_true,List.drop_succ_cons] at ih ⊢;omega
def w8 (l:List Nat):List UInt8:=l.map UInt8.ofNat
def E2:List (List UInt8):=[w8 [115,119,105,116,99,104],w8 [99,111,105,108],w8 [108,97,109,112],w8 [115,111,117,110,100],w8 [115,104,111,119],w8 [118,97,114],w8 [116,105,109,101,114],w8 [101,118,101,110,116],w8 [109,111,100,101],w8 [111,110],w8 [115,116,97,114,116],w8 [115,116,111,112],w8 [99,108,111,115,101],w8 [111,112,101,110],w8 [105,102],w8 [101,108,115,101],w8 [114,101,112,101,97,116],w8 [115,99,111,114,101],w8 [102,105,114,101],w8 [104,111,108,100],w8 [114,101,108,101,97,115,101],w8 [108,105,103,104,116],w8 [98,108,105,110,107],w8 [98,101,103,105,110],w8 [101,110,100],w8 [112,111,115,116],w8 [112,108,97,121],w8 [114,117,110],w8 [104,97,108,116],w8 [116,101,120,116],w8 [99,111,110,115,117,109,101],w8 [99,108,111,115,101,100],w8 [97,99,116,105,118,101],w8 [108,101,102,116],w8 [112,108,97,121,101,114],w8 [98,97,108,108],w8 [116,114,117,101],w8 [102,97,108,115,101]]
def E4 (s:List UInt8):Bool:=E2.contains s
def C2 (s:List UInt8):Bool:=decide (1<=s.length) && decide (s.length<=12) && (match s with|c :: _=>ltB c | []=>false) && decide (C1 ptB s=s.length) && !E4 s
def quM:List UInt8->Option (List UInt8 × Nat)
 | []=>none
 | c :: r =>
  if c.toNat=34 then some ([],1)
  else if c.toNat<32\/126<c.toNat then none
  else if c.toNat=92 then match r with
   | []=>none
   | d :: q=>if d.toNat=34\/d.toNat=92 then (quM q).map fun x=>(d :: x.1,x.2+2) else none
  else (quM r).map fun x=>(c :: x.1,x.2+1)
def J2 (s:List UInt8):Nat:=s.foldl (fun n c=>10 * n+(c.toNat-48)) 0
theorem C4x {s:List UInt8} {k:Nat} {c:UInt8} (h:s[k]? = some c):J2 (s.take (k+1))=10 * J2 (s.take k)+(c.toNat-48):=by
 unfold J2;rw [A2J,h,A4Q];rfl
def A3o (c d:UInt8):Bool:=[(60,61),(62,61),(61,61),(33,61),(38,38),(124,124)].contains (c.toNat,d.toNat)
def A3l (c:UInt8):Bool:=[123,125,40,41,59,44,61,43,45,42,47,37,33,60,62].contains c.toNat
def D7:List UInt8->Nat
 | c :: d :: _=>if A3o c d=true then 2 else if A3l c=true then 1 else 0
 | [c]=>if A3l c=true then 1 else 0
 | []=>0
structure Nx where
 kind:Int
 text:List UInt8
 value:Int
 n:Nat
 err:Int
def nxE (e:Int):Nx:=⟨0,[],0,0,e⟩
def A7:List UInt8->Nx
 | []=>nxE 47
 | c :: r =>
  if ltB c=true then
   if 12<C1 ptB (c :: r) then nxE 9 else ⟨if E4 ((c :: r).take (C1 ptB (c :: r)))=true then 2 else 1,(c :: r).take (C1 ptB (c :: r)),0,C1 ptB (c :: r),0⟩
  else if dgB c=true then
   if 1<C1 dgB (c :: r)/\c.toNat=48 then nxE 47
   else if 2147483647<J2 ((c :: r).take (C1 dgB (c :: r))) then nxE 5
   else ⟨3,[],(J2 ((c :: r).take (C1 dgB (c :: r))):Int),C1 dgB (c :: r),0⟩
  else if c.toNat=34 then match quM r with
   | none=>nxE 48
   | some x=>if 32<x.1.length then nxE 9 else ⟨4,x.1,0,x.2+1,0⟩
  else if D7 (c :: r)=0 then nxE 47 else ⟨5,(c :: r).take (D7 (c :: r)),0,D7 (c :: r),0⟩
def H4:Nat->List UInt8->Nat->List Tok->List Tok × Int × Int
 | 0,_,_,acc=>(acc,0,0)
 | f+1,src,at_,acc =>
  if src.length<=at_ then (acc,0,0)
  else if (A7 (src.drop at_)).err≠0 then ([],(at_:Int),(A7 (src.drop at_)).err)
  else H4 f src (at_+(A7 (src.drop at_)).n+skM false (src.drop (at_+(A7 (src.drop at_)).n)))
   (acc++[⟨(A7 (src.drop at_)).kind,(A7 (src.drop at_)).text,(A7 (src.drop at_)).value,(at_:Int)⟩])
def C0 (s:List UInt8):List Tok × Int × Int:=if 20000<s.length then ([],0,9) else H4 (s.length+1) s (skM false s) []
abbrev C2r (q:List Tok × Int × Int):DV:=.tup [S2 q.1,I64 q.2.1,I64 q.2.2]
theorem C8l:∀ {s t:List UInt8} {n:Nat},quM s=some (t,n)->1<=n/\n<=s.length/\t.length<=n
 | [],t,n,h=>by simp [quM] at h
 | c :: r,t,n,h=>by
  unfold quM at h;split at h
  ·cases h;simp
  ·split at h
   ·cases h
   ·split at h
    ·cases r with
     | nil=>cases h
     | cons d q =>
      simp only at h;split at h
      ·obtain ⟨⟨t',n'⟩,h1,h2⟩:=A0M.1 h;have:=C8l h1;cases h2;simp only [A0B];omega
      ·cases h
    ·obtain ⟨⟨t',n'⟩,h1,h2⟩:=A0M.1 h;have:=C8l h1;cases h2;simp only [A0B];omega
theorem B7h:∀ s:List UInt8,D7 s<=s.length
 | []=>by simp [D7]
 | [c]=>by simp only [D7];split<;>simp
 | c :: d :: r=>by simp only [D7,A0B];split<;>(try split)<;>omega
theorem A1e {s:List UInt8} (h:(A7 s).err=0):1<=(A7 s).n/\(A7 s).n<=s.length:=by
 cases s with
 | nil=>simp [A7,nxE] at h
 | cons c r =>
  have hp:=T6 ptB (c :: r);have hd:=T6 dgB (c :: r);have hs:=B7h (c :: r);simp only [A7] at h ⊢;split
  ·rename_i hc;rw [if_pos hc] at h;split
   ·rename_i h1;rw [if_pos h1] at h;simp [nxE] at h
   ·have:1<=C1 ptB (c :: r):=by simp [C1,ptB,hc]
    exact ⟨this,hp⟩
  ·rename_i hc;rw [if_neg hc] at h;split
   ·rename_i hc2;rw [if_pos hc2] at h;split
    ·rename_i h1;rw [if_pos h1] at h;simp [nxE] at h
    ·rename_i h1;rw [if_neg h1] at h;split
     ·rename_i h2;rw [if_pos h2] at h;simp [nxE] at h
     ·have:1<=C1 dgB (c :: r):=by simp [C1,hc2]
      exact ⟨this,hd⟩
   ·rename_i hc2;rw [if_neg hc2] at h;split
    ·rename_i hc3;rw [if_pos hc3] at h;cases hq:quM r with
     | none=>rw [hq] at h;simp [nxE] at h
     | some x =>
      obtain ⟨t,n⟩:=x;rw [hq] at h;simp only at h ⊢;have:=C8l hq;split
      ·rename_i h1;rw [if_pos h1] at h;simp [nxE] at h
      ·simp only [A0B];omega
    ·rename_i hc3;rw [if_neg hc3] at h;split
     ·rename_i h1;rw [if_pos h1] at h;simp [nxE] at h
     ·simp only;omega
end Go.Pb
namespace Go.Sym
variable [Go.Sym.Tab]
open Go.RowKit Go.Pb Go.Deep Go.ChangeShapes
theorem B6u {P:Program} {w:World} {n:String} {g:Nat} {cs:Array Value} (e1:P.globalNamed n=some g) (e3:w.var? P n=some cs):B6v w g=some cs:=by
 unfold World.var? at e3;rw [e1,Option.bind_some] at e3;unfold B6v;split at e3
 ·rename_i r ty fr hh;cases e3;rw [hh]
 ·cases e3
theorem B0x {P:Program} {w:World} {n:String} {d:DataW Unit}:∀ {l:List (String × DataW Unit)} {ps:List MemPlace},DataW.LaidVars P w l ps->(n,d)∈l ->
  ∃ g t cs fuel p,P.globalNamed n=some g/\(P.globals[g]?).map (·.type)=some t/\w.var? P n=some cs/\DataW.trod (fun _=>()) P w 0 (fun _=>true) false fuel t cs.toList=some (d,p)
 | [],ps,_,hm=>by cases hm
 | (n',d') :: l,ps,h,hm=>by
  obtain ⟨g,t,cs,fuel,p,q,h1,h2,h3,h4,h5, -⟩:=h;rcases A1D.1 hm with e|hm
  ·cases e;exact ⟨g,t,cs,fuel,p,h1,h2,h3,h4⟩
  ·exact B0x h5 hm
theorem laid_tab {P:Program} {w:World} {n:String} {d:DataW Unit} {l:List (String × DataW Unit)} {g t e m:Nat} {k:IntKind} {zs:List Int} (h:laidMet P l w) (hm:(n,d)∈l) (hg:P.globalNamed n=some g)
  (ht:(P.globals[g]?).map (·.type)=some t) (hu:P.underlying t=some (.array m e)) (he:P.underlying e=some (.int k)) (hce:P.cellsOf e=1) (hct:P.cellsOf t=m) (hd:d=Lib.tabData k zs) :
  ∃ r,B6v w g=some r/\r=(zs.map fun z=>Value.int k z).toArray:=by
 obtain ⟨ps,h1, -⟩:=h;obtain ⟨g',t',cs,fuel,p,e1,e2,e3,e4⟩:=B0x h1 hm;rw [hg] at e1;cases e1;rw [ht] at e2;cases e2;rw [hd] at e4;have hc:=Lib.cells_of_tab hu he hce hct e4;exact ⟨cs,B6u hg e3,Array.toList_inj.1 (hc.trans (by simp))⟩
theorem B6r {P:Program} {w:World} {fuel:Nat} {t:TypeId} {ms} {cs:List Value} {nm:String} {d:DataW Unit} {p:List MemPlace} (hu:P.underlying t=some (.interface ms))
  (h:DataW.trod (fun _=>()) P w 0 (fun _=>true) false fuel t cs=some (.iface nm d,p)):∃ te pe,cs=[.iface te pe]:=by
 cases fuel with
 | zero=>simp [DataW.trod] at h
 | succ fuel =>
  simp only [DataW.trod,hu] at h;split at h<;>first|exact ⟨_,_,rfl⟩|(simp_all;done)
theorem laid_err {P:Program} {w:World} {n:String} {nm:String} {d:DataW Unit} {l:List (String × DataW Unit)} {g t:Nat} {ms} (h:laidMet P l w) (hm:(n,DataW.iface nm d)∈l) (hg:P.globalNamed n=some g)
  (ht:(P.globals[g]?).map (·.type)=some t) (hu:P.underlying t=some (.interface ms)):∃ r,B6v w g=some r/\∃ te pe,r = #[.iface te pe]:=by
 obtain ⟨ps,h1, -⟩:=h;obtain ⟨g',t',cs,fuel,p,e1,e2,e3,e4⟩:=B0x h1 hm;rw [hg] at e1;cases e1;rw [ht] at e2;cases e2;obtain ⟨te,pe,e5⟩:=B6r hu e4;exact ⟨cs,B6u hg e3,te,pe,Array.toList_inj.1 e5⟩
section
variable {H:Type} {enc:TypeId × Value->H} {P:Program} {W W':World} {hT:TabOk W}
end
end Go.Sym
namespace Go.Proofs.YthlpinppaclofaaGreatDoor
instance tabI:Go.Sym.Tab:=⟨[(1,fun r=>r=(Lib.pow10Tab.map fun z=>Value.int .u64 z).toArray),(0,fun r=>r=(Lib.asciiSpaceTab.map fun z=>Value.int .u8 z).toArray),(7,fun r => ∃ te pe,r = #[.iface te pe])]⟩
end Go.Proofs.YthlpinppaclofaaGreatDoor
namespace Go.Sym
variable [Go.Sym.Tab]
open Go.Eng (IC)
def X7 (p:Prop):Prop:=p
theorem E3 {p:Prop} (h:X7 p):p:=h
theorem IW.stage {P:Program} {N:Nat} {x:IC} {T:Tm} {H:Hp} {c:Nat} {Q:Exit->St->Prop} {L:List (Nat × DV)} (hT:C6 L T) (h:IW P N x ⟨tm L,H,c⟩ Q):X7 (IW P N x ⟨T,H,c⟩ Q):=IW.weaken (X0 hT) (Sub.refl _) h
end Go.Sym
namespace Go.Sym
variable [Go.Sym.Tab]
open Go.Eng (Opd FOp AOp EOp IOp IOper DReg IC RV IFn trC B0b J0 I2)
def pre:IC->List IC
 | .seq x y=>.seq x y :: (pre x++pre y)
 | .cond o x y=>.cond o x y :: (pre x++pre y)
 | .blk i x=>.blk i x :: pre x
 | .loop x=>.loop x :: pre x
 | x=>[x]
def szC:IC->Nat
 | .seq x y=>szC x+szC y+1
 | .cond o x y=>szC x+szC y+1
 | .blk i x=>szC x+1
 | .loop x=>szC x+1
 | x=>1
theorem C8r (t:IC):(pre t).length=szC t:=by
 induction t<;>simp_all [pre,szC]
def C1g (k:Nat):List Nat->List Nat
 | []=>[k]
 | a :: l=>match Nat.blt k a with
  | true=>k :: a :: l
  | false=>match Nat.beq k a with
   | true=>a :: l
   | false=>a :: C1g k l
def C4k:List Nat->List Nat->List Nat
 | [],m=>m
 | a :: l,m=>C1g a (C4k l m)
def rmS (k:Nat):List Nat->List Nat
 | []=>[]
 | a :: l=>match Nat.beq k a with
  | true=>l
  | false=>a :: rmS k l
def opS:Opd->List Nat
 | .t n=>[n]
 | _=>[]
def B5d:List IOper->List Nat->List Nat
 | [],out=>out
 | o :: r,out=>C4k o.sees (match o.dst with
  | some d=>rmS d (B5d r out)
  | none=>B5d r out)
def slR:List RV->List Nat
 | []=>[]
 | .tmp t :: r=>C1g t (slR r)
 | .cell a _ _ :: r=>C1g a (slR r)
def upE (ex:Nat->List Nat) (i:Nat) (L:List Nat) (j:Nat):List Nat:=match Nat.beq i j with
 | true=>L
 | false=>ex j
def rgS:Eng.Rg->List Nat->List Nat
 | .bad,_=>[]
 | .r1 io m it,out=>B5d io (C1g m (rmS it out))
 | .r2 it n io,out=>C1g it (rmS n (B5d io out))
 | .r3 it e io,out=>C1g it (rmS e (B5d io out))
def lvC (rl:List Nat):IC->List Nat->(Nat->List Nat)->List Nat
 | .skip,out,_=>out
 | .exit i,_,ex=>ex i
 | .ret,_,_=>rl
 | .bad,_,_=>[]
 | .rg r,out,_=>rgS r out
 | .reg r,out,_=>B5d r out
 | .drw _ d,out,_=>B5d d.ops out
 | .seq x y,out,ex=>lvC rl x (lvC rl y out ex) ex
 | .cond o x y,out,ex=>C4k (opS o) (C4k (lvC rl x out ex) (lvC rl y out ex))
 | .blk i x,out,ex=>lvC rl x out (upE ex i out)
 | .loop x,_,ex=>lvC rl x [] ex
def chC (h:Nat->IC) (k:Nat):IC->IC
 | .skip=>.skip
 | .exit i=>.exit i
 | .ret=>.ret
 | .bad=>.bad
 | .rg r=>.rg r
 | .loop _=>.loop (h (k+1))
 | _=>h k
def D3z:Nat->List (Nat × Option (List Nat))->List IOper->Nat
 | k,(_,some []) :: p,⟨_,.pur _,_⟩ :: r=>2 ^ k+D3z (k+1) p r
 | k,_ :: p,_ :: r=>D3z (k+1) p r
 | _,_,_=>0
def eqO:Option (List Nat)->Option (List Nat)->Bool
 | none,none=>true
 | some [],some []=>true
 | _,_=>false
def eqP:List (Nat × Option (List Nat))->List (Nat × Option (List Nat))->Bool
 | [],[]=>true
 | (a,x) :: p,(b,y) :: q=>Nat.beq a b && eqO x y && eqP p q
 | _,_=>false
theorem E1n {x y:Option (List Nat)} (h:eqO x y=true):x=y:=by
 unfold eqO at h;split at h<;>simp_all
theorem D1a:∀ {p q:List (Nat × Option (List Nat))},eqP p q=true->p=q
 | [],[],_=>rfl
 | (a,x) :: p,(b,y) :: q,h=>by
  simp only [eqP,A0D] at h;rw [Nat.eq_of_beq_eq_true h.1.1,E1n h.1.2,D1a h.2]
 | [],_ :: _,h=>by simp [eqP] at h
 | _ :: _,[],h=>by simp [eqP] at h
def asM (r:List IOper) (p:List (Nat × Option (List Nat))) (m:Nat):Option Nat:=match eqP (A8w m 0 r) p with
 | true=>some m
 | false=>none
inductive PD where
 | S (r:List IOper) (y:IC) (L:List Nat)
 | E (r:List IOper) (L:List Nat)
 | P (r:List IOper) (y:IC) (e n:Nat) (L:List Nat)
 | F (r:List IOper) (e n:Nat) (L:List Nat)
 | D (r:List IOper) (y:IC) (p:List (Nat × Option (List Nat))) (n:Nat) (L:List Nat)
 | G (r:List IOper) (p:List (Nat × Option (List Nat))) (n:Nat) (L:List Nat)
 | C (x y z:IC) (o:Opd) (L:List Nat)
 | K (x z:IC) (o:Opd) (L:List Nat)
 | B (x y:IC) (i:Nat) (L:List Nat)
 | J (x:IC) (i:Nat) (L:List Nat)
 | Q (x y:IC) (L:List Nat)
 | X (x:IC)
def PD.ic:PD->IC
 | .S r y _=>.seq (.reg r) y
 | .E r _=>.reg r
 | .P r y e n _=>.seq (.drw n (dQ r e)) y
 | .F r e n _=>.drw n (dQ r e)
 | .D r y p n _=>.seq (.drw n ⟨r,[],p⟩) y
 | .G r p n _=>.drw n ⟨r,[],p⟩
 | .C x y z o _=>.seq (.cond o x z) y
 | .K x z o _=>.cond o x z
 | .B x y i _=>.seq (.blk i x) y
 | .J x i _=>.blk i x
 | .Q x y _=>.seq x y
 | .X x=>x
def fuC (h:Nat->IC) (k:Nat) (x y:IC) (L:List Nat):PD:=match x with
 | .reg r=>.S r y L
 | .drw n ⟨r,[],p⟩=>match asM r p (D3z 0 p r) with
  | some m=>.P r y m n L
  | none=>.D r y p n L
 | .cond o a b=>.C (chC h (k+1) a) y (chC h (k+1+szC a) b) o L
 | .blk i a=>.B (chC h (k+1) a) y i L
 | x=>.Q (chC h k x) y L
def C4v (h:Nat->IC) (k:Nat) (x:IC) (L:List Nat):PD:=match x with
 | .reg r=>.E r L
 | .drw n ⟨r,[],p⟩=>match asM r p (D3z 0 p r) with
  | some m=>.F r m n L
  | none=>.G r p n L
 | .cond o a b=>.K (chC h (k+1) a) (chC h (k+1+szC a) b) o L
 | .blk i a=>.J (chC h (k+1) a) i L
 | x=>.X x
def E8u:IC->Bool
 | .reg _=>true
 | .drw _ _=>true
 | .cond _ _ _=>true
 | .blk _ _=>true
 | _=>false
def tlC (b:Bool) (l:List (Nat × PD)):List (Nat × PD):=match b with
 | true=>l.tail
 | false=>l
def flC (h:Nat->IC) (rl:List Nat):IC->Nat->List Nat->(Nat->List Nat)->List Nat × List (Nat × PD)
 | .skip,_,out,_=>(out,[])
 | .exit i,_,_,ex=>(ex i,[])
 | .ret,_,_,_=>(rl,[])
 | .bad,_,_,_=>([],[])
 | .rg r,_,out,_=>(rgS r out,[])
 | .reg r,k,out,_=>match B5d r out with
  | L=>(L,[(k,C4v h k (.reg r) L)])
 | .drw n d,k,out,_=>match B5d d.ops out with
  | L=>(L,[(k,C4v h k (.drw n d) L)])
 | .seq x y,k,out,ex=>match flC h rl y (k+1+szC x) out ex with
  | (Ly,ly)=>match flC h rl x (k+1) Ly ex with
   | (Lx,lx)=>(Lx,(k,fuC h (k+1) x (chC h (k+1+szC x) y) Lx) :: (tlC (E8u x) lx++ly))
 | .cond o x y,k,out,ex=>match flC h rl x (k+1) out ex with
  | (Lx,lx)=>match flC h rl y (k+1+szC x) out ex with
   | (Ly,ly)=>match C4k (opS o) (C4k Lx Ly) with
    | L=>(L,(k,C4v h k (.cond o x y) L) :: (lx++ly))
 | .blk i x,k,out,ex=>match flC h rl x (k+1) out (upE ex i out) with
  | (L,l)=>(L,(k,C4v h k (.blk i x) L) :: l)
 | .loop x,k,_,ex=>match lvC rl x [] ex with
  | L=>(L,(flC h rl x (k+1) L ex).2)
def Num (h:Nat->IC) (k:Nat) (t:IC):Prop:=∀ j x,(pre t)[j]? = some x->h (k+j)=x
section
variable {h:Nat->IC} {k:Nat} {x y t:IC}
theorem Num.self (n:Num h k t):h k=t:=by
 have:=n 0 t (by cases t<;>simp [pre]);simpa using this
theorem Num.sub {l:List IC} {i:Nat} (n:Num h k t) (e:∀ j x,(pre y)[j]? = some x->(pre t)[i+j]? = some x):Num h (k+i) y:=fun j x hx=>by
 rw [A3W];exact n (i+j) x (e j x hx)
theorem D6g {a:IC} {l r:List IC} (j:Nat) (z:IC) (hz:l[j]? = some z):(a :: (l++r))[1+j]? = some z:=by
 rw [Nat.add_comm,A2V,A2P (A0V.1 hz).1,hz]
theorem D6f {a:IC} {l r:List IC} {n:Nat} (hn:l.length=n) (j:Nat) (z:IC) (hz:r[j]? = some z):(a :: (l++r))[1+n+j]? = some z:=by
 rw [show 1+n+j=(l.length+j)+1 by omega,A2V,A2A (by omega),Nat.add_sub_cancel_left,hz]
theorem Num.s1 (n:Num h k (.seq x y)):Num h (k+1) x:=n.sub (l:=[]) fun j z hz=>by rw [pre];exact D6g j z hz
theorem Num.s2 (n:Num h k (.seq x y)):Num h (k+1+szC x) y:=by
 rw [A3W];exact n.sub (l:=[]) fun j z hz=>by rw [pre];exact D6f (C8r x) j z hz
theorem Num.c1 {o:Opd} (n:Num h k (.cond o x y)):Num h (k+1) x:=n.sub (l:=[]) fun j z hz=>by rw [pre];exact D6g j z hz
theorem Num.c2 {o:Opd} (n:Num h k (.cond o x y)):Num h (k+1+szC x) y:=by
 rw [A3W];exact n.sub (l:=[]) fun j z hz=>by rw [pre];exact D6f (C8r x) j z hz
theorem Num.b1 {i:Nat} (n:Num h k (.blk i x)):Num h (k+1) x:=n.sub (l:=[]) fun j z hz=>by rw [pre,Nat.add_comm,A2V,hz]
theorem Num.l1 (n:Num h k (.loop x)):Num h (k+1) x:=n.sub (l:=[]) fun j z hz=>by rw [pre,Nat.add_comm,A2V,hz]
theorem A7h (n:Num h k t):chC h k t=t:=by
 cases t<;>simp only [chC]<;>first|rfl|exact n.self|rw [n.l1.self]
theorem D1w {r:List IOper} {p:List (Nat × Option (List Nat))} {m m':Nat} (e:asM r p m=some m'):A8w m' 0 r=p:=by
 unfold asM at e;split at e<;>cases e;rename_i q;exact D1a q
theorem B5f {L:List Nat} (n:Num h k x):(C4v h k x L).ic=x:=by
 unfold C4v;split
 ·rfl
 ·split
  ·rename_i m e;simp only [PD.ic,dQ,D1w e]
  ·rfl
 ·simp only [PD.ic,A7h n.c1,A7h n.c2]
 ·simp only [PD.ic,A7h n.b1]
 ·rfl
theorem E5p {L:List Nat} (n:Num h k x):(fuC h k x y L).ic=.seq x y:=by
 unfold fuC;split
 ·rfl
 ·split
  ·rename_i m e;simp only [PD.ic,dQ,D1w e]
  ·rfl
 ·simp only [PD.ic,A7h n.c1,A7h n.c2]
 ·simp only [PD.ic,A7h n.b1]
 ·simp only [PD.ic,A7h n]
theorem D8e {b:Bool} {l:List (Nat × PD)} {e:Nat × PD} (hm:e∈tlC b l):e∈l:=by
 unfold tlC at hm;split at hm
 ·exact List.mem_of_mem_tail hm
 ·exact hm
theorem E5q (rl:List Nat):∀ (t:IC) (k:Nat) (out:List Nat) (ex:Nat->List Nat),Num h k t->∀ e∈(flC h rl t k out ex).2,h e.1=e.2.ic:=by
 intro t
 induction t with
 | skip=>intro k out ex n e he;simp [flC] at he
 | exit i=>intro k out ex n e he;simp [flC] at he
 | ret=>intro k out ex n e he;simp [flC] at he
 | bad=>intro k out ex n e he;simp [flC] at he
 | rg r=>intro k out ex n e he;simp [flC] at he
 | reg r=>intro k out ex n e he;simp only [flC,A0R] at he;subst he;simp only [B5f n];exact n.self
 | drw m d=>intro k out ex n e he;simp only [flC,A0R] at he;subst he;simp only [B5f n];exact n.self
 | seq x y ihx ihy =>
  intro k out ex n e he;simp only [flC,A1D,A1A] at he;rcases he with rfl|he|he
  ·simp only [E5p n.s1,A7h n.s2];exact n.self
  ·exact ihx _ _ _ n.s1 e (D8e he)
  ·exact ihy _ _ _ n.s2 e he
 | cond o x y ihx ihy =>
  intro k out ex n e he;simp only [flC,A1D,A1A] at he;rcases he with rfl|he|he
  ·simp only [B5f n];exact n.self
  ·exact ihx _ _ _ n.c1 e he
  ·exact ihy _ _ _ n.c2 e he
 | blk i x ih =>
  intro k out ex n e he;simp only [flC,A1D] at he;rcases he with rfl|he
  ·simp only [B5f n];exact n.self
  ·exact ih _ _ _ n.b1 e he
 | loop x ih =>
  intro k out ex n e he;simp only [flC] at he;exact ih _ _ _ n.l1 e he
end
inductive Ps where
 | h
 | o (p:Ps)
 | i (p:Ps)
def Ps.n:Ps->Nat
 | .h=>1
 | .o p=>2 * p.n
 | .i p=>2 * p.n+1
def Ps.s:Ps->Ps
 | .h=>.o .h
 | .o p=>.i p
 | .i p=>.o p.s
theorem Ps.s_n:∀ p:Ps,p.s.n=p.n+1
 | .h=>rfl
 | .o p=>rfl
 | .i p=>by simp only [Ps.s,Ps.n,Ps.s_n p];omega
def Ps.of:Nat->Ps
 | 0=>.h
 | k+1=>(Ps.of k).s
theorem Ps.of_n:∀ k:Nat,(Ps.of k).n=k+1
 | 0=>rfl
 | k+1=>by rw [Ps.of,Ps.s_n,Ps.of_n k]
def Ps.frc:Ps->(Ps->IC)->IC
 | .h,K=>K .h
 | .o p,K=>Ps.frc p fun q=>K (.o q)
 | .i p,K=>Ps.frc p fun q=>K (.i q)
theorem Ps.frc_eq:∀ (p:Ps) (K:Ps->IC),p.frc K=K p
 | .h,K=>rfl
 | .o p,K=>by rw [Ps.frc,Ps.frc_eq p]
 | .i p,K=>by rw [Ps.frc,Ps.frc_eq p]
def hk (h:Ps->IC) (k:Nat):IC:=(Ps.of k).frc h
inductive Tr where
 | e
 | d (x:Option PD) (l r:Tr)
def Tr.get:Tr->Ps->Option PD
 | .e,_=>none
 | .d x _ _,.h=>x
 | .d _ l _,.o p=>l.get p
 | .d _ _ r,.i p=>r.get p
def Tr.put (y:PD):Ps->Tr->Tr
 | .h,.e=>.d (some y) .e .e
 | .o p,.e=>.d none (Tr.put y p .e) .e
 | .i p,.e=>.d none .e (Tr.put y p .e)
 | .h,.d _ l r=>.d (some y) l r
 | .o p,.d x l r=>.d x (Tr.put y p l) r
 | .i p,.d x l r=>.d x l (Tr.put y p r)
theorem Tr.get_put (y:PD):∀ (p:Ps) (t:Tr) (q:Ps) (z:PD),(Tr.put y p t).get q=some z->(q=p/\z=y)\/t.get q=some z:=by
 intro p
 induction p with
 | h=>intro t q z h;cases t<;>cases q<;>simp_all [Tr.put,Tr.get]
 | o p ih =>
  intro t q z h;cases t<;>cases q<;>simp only [Tr.put,Tr.get] at h ⊢ <;> first|exact .inr h|(cases h;done)|skip
  ·rcases ih _ _ _ h with ⟨rfl,rfl⟩|h
   ·exact .inl ⟨rfl,rfl⟩
   ·cases h
  ·rcases ih _ _ _ h with ⟨rfl,rfl⟩|h
   ·exact .inl ⟨rfl,rfl⟩
   ·exact .inr h
 | i p ih =>
  intro t q z h;cases t<;>cases q<;>simp only [Tr.put,Tr.get] at h ⊢ <;> first|exact .inr h|(cases h;done)|skip
  ·rcases ih _ _ _ h with ⟨rfl,rfl⟩|h
   ·exact .inl ⟨rfl,rfl⟩
   ·cases h
  ·rcases ih _ _ _ h with ⟨rfl,rfl⟩|h
   ·exact .inl ⟨rfl,rfl⟩
   ·exact .inr h
def E0j:List (Nat × PD)->Tr->Tr
 | [],t=>t
 | e :: l,t=>E0j l (Tr.put e.2 (Ps.of e.1) t)
theorem B8b:∀ (l:List (Nat × PD)) (t:Tr) (q:Ps) (z:PD),(E0j l t).get q=some z->(∃ k,q=Ps.of k/\(k,z)∈l)\/t.get q=some z
 | [],t,q,z,h=>.inr h
 | e :: l,t,q,z,h=>by
  rcases B8b l _ q z h with ⟨k,h1,h2⟩|h
  ·exact .inl ⟨k,h1,A0J _ h2⟩
  ·rcases Tr.get_put _ _ _ _ _ h with ⟨rfl,rfl⟩|h
   ·exact .inl ⟨e.1,rfl,A0L⟩
   ·exact .inr h
def pz (P:Program) (f:Nat) (p:Ps):IC:=match (P.funcs[f]?).bind (B0b P) with
 | some i=>(pre i.body).getD (p.n-1) .bad
 | none=>.bad
theorem C8m {P:Program} {f:Nat} {i:IFn} (h:J0 P f i):Num (hk (pz P f)) 0 i.body:=fun j x hx=>by
 rw [hk,Ps.frc_eq];unfold pz;unfold J0 at h;rw [h];simp only [A1L,A0S,Ps.of_n,Nat.add_sub_cancel,hx,A4A]
inductive TD where
 | mk (n:Nat) (rs:List RV) (top:IC) (l:Tr)
 | no
def TD.l:TD->Tr
 | .mk _ _ _ l=>l
 | .no=>.e
def mkT (h:Ps->IC) (i:IFn):TD:=.mk i.n i.res (chC (hk h) 0 i.body) (E0j (flC (hk h) (slR i.res) i.body 0 (slR i.res) (fun _=>[])).2 .e)
structure XT (P:Program) (f:Nat) where
 d:(Ps->IC)->TD
 i:IFn
 hi:J0 P f i
 hd:∀ h,mkT h i=d h
class FT (P:Program) (f:Nat) (D:outParam ((Ps->IC)->TD)):Prop where
 of:∃ i,J0 P f i/\∀ h,mkT h i=D h
theorem XT.ft {P:Program} {f:Nat} (x:XT P f):FT P f x.d:=⟨⟨x.i,x.hi,x.hd⟩⟩
theorem u8n (n:Nat):UInt8.ofBitVec (BitVec.ofNat 8 n)=UInt8.ofNat n:=rfl
abbrev mkF {P:Program} {f:Nat} {i:IFn} {d:(Ps->IC)->TD} (hi:J0 P f i:=by unfold J0;conv=>lhs;reduce;simp only [seval,u8n]) (hd:∀ h,mkT h i=d h:=by intro h;conv=>lhs;cbv):XT P f:=⟨d,i,hi,hd⟩
class LkI (t:Tr) (p:Ps) (x:outParam PD):Prop where
 get:t.get p=some x
instance lkTh {x:PD} {l r:Tr}:LkI (.d (some x) l r) .h x:=⟨rfl⟩
instance lkTo {x:PD} {y:Option PD} {l r:Tr} {p:Ps} [k:LkI l p x]:LkI (.d y l r) (.o p) x:=⟨k.get⟩
instance lkTi {x:PD} {y:Option PD} {l r:Tr} {p:Ps} [k:LkI r p x]:LkI (.d y l r) (.i p) x:=⟨k.get⟩
class WDp (P:Program) (N:Nat) (u:PD) (r:outParam Rl):Prop where
 out:∀ {Q:Exit->St->Prop} {T:Tm} {H:Hp} {c:Nat},r P N Q T H c->IW P N u.ic ⟨T,H,c⟩ Q
section
variable {P:Program} {N n i e:Nat} {x y z:IC} {r:List IOper} {p:List (Nat × Option (List Nat))} {L:List Nat} {o:Opd}
instance dS:WDp P N (.S r y L) (rS r y L):=⟨mkS⟩
instance dE:WDp P N (.E r L) (rE r L):=⟨mkE⟩
instance dP:WDp P N (.P r y e n L) (rP r y n L):=⟨mkP (d:=dQ r e) (A2l e r 0)⟩
instance dD:WDp P N (.D r y p n L) (rD r p y n L):=⟨mkD (d:=⟨r,[],p⟩)⟩
instance dG:WDp P N (.G r p n L) (rDE r p n L):=⟨E7q (d:=⟨r,[],p⟩)⟩
instance dC:WDp P N (.C x y z o L) (rC o x z y L):=⟨mkC⟩
instance dK:WDp P N (.K x z o L) (rCE o x z L):=⟨E7r⟩
instance dB:WDp P N (.B x y i L) (rB i x y L):=⟨mkB⟩
instance dJ:WDp P N (.J x i L) (rBE i x L):=⟨E7s⟩
instance dQQ:WDp P N (.Q x y L) (rQ x y L):=⟨mkQ⟩
end
class LkD (t:TD) (p:Ps) (x:outParam PD):Prop where
 get:t.l.get p=some x
instance lkTd {n:Nat} {rs:List RV} {top:IC} {x:PD} {l:Tr} {p:Ps} [k:LkI l p x]:LkD (.mk n rs top l) p x:=⟨k.get⟩
section
variable {P:Program} {f:Nat} {D:(Ps->IC)->TD} [F:FT P f D]
theorem wz {p:Ps} {x:PD} (e:(D (pz P f)).l.get p=some x):pz P f p=x.ic:=by
 obtain ⟨i,hi,hd⟩:=F.of;rw [<- hd] at e;simp only [mkT,TD.l] at e;rcases B8b _ _ _ _ e with ⟨k,rfl,h⟩|h
 ·have:=E5q (slR i.res) i.body 0 (slR i.res) (fun _=>[]) (C8m hi) _ h;rw [hk,Ps.frc_eq] at this;exact this
 ·cases h
instance wZ {N:Nat} {p:Ps} {x:PD} {w:Rl} [g:LkD (D (pz P f)) p x] [k:WDp P N x w]:WR P N (pz P f p) w:=⟨fun h=>by rw [wz g.get];exact k.out h⟩
theorem FT.eqs {n:Nat} {rs:List RV} {top:IC} {l:Tr} (e:D (pz P f)=.mk n rs top l):J0 P f ⟨n,top,rs⟩:=by
 obtain ⟨i,hi,hd⟩:=F.of;rw [<- hd] at e;simp only [mkT,A7h (C8m hi),TD.mk.injEq] at e;rw [<- e.1, <- e.2.1, <- e.2.2.1];exact hi
theorem PC.ofT (hm:P.follows .mixedOrders=true) {n:Nat} {rs:List RV} {top:IC} {l:Tr} (e:D (pz P f)=.mk n rs top l) {args:List DV} (hn:args.length<=n) {r:DV} (na:DV.nlL args=true) (nr:r.nl=true)
  (h:IW P n top ⟨B2k args,nil,0⟩ (rt rs fun v H' _ => ∃ H2,GL H' [v] H2 [r])):PC P f args r :=
 PC.of hm (i:=⟨n,top,rs⟩) (FT.eqs e) hn na nr h
theorem AC.bodyT (hm:P.follows .mixedOrders=true) {n:Nat} {rs:List RV} {top:IC} {l:Tr} (e:D (pz P f)=.mk n rs top l) {args:List DV} (hn:args.length<=n) {H:Hp} {c:Nat} {Q:DV->Hp->Nat->Prop}
  (h:(∀ id,c<=id->H id=none)->IW P n top ⟨B2k args,H,c⟩ (rt rs fun v H' c' => ∃ v2 H2,GL H' [v] H2 [v2]/\Q v2 H2 c')):AC P f args H c Q :=
 AC.body hm (i:=⟨n,top,rs⟩) (FT.eqs e) hn h
end
end Go.Sym
set_option maxHeartbeats 4000000
set_option maxRecDepth 100000
namespace Go.Proofs.YthlpinppaclofaaGreatDoor
open Go.Eng (IC IOper DReg IFn J0)
open Go.Sym
theorem B2:Tryz.prog.follows .mixedOrders=true:=by kernel_rfl
abbrev x142:XT Tryz.prog 142:=mkF
instance t142:FT Tryz.prog 142 x142.d:=x142.ft
abbrev x162:XT Tryz.prog 162:=mkF
instance t162:FT Tryz.prog 162 x162.d:=x162.ft
abbrev x144:XT Tryz.prog 144:=mkF
instance t144:FT Tryz.prog 144 x144.d:=x144.ft
abbrev x143:XT Tryz.prog 143:=mkF
instance t143:FT Tryz.prog 143 x143.d:=x143.ft
abbrev x161:XT Tryz.prog 161:=mkF
instance t161:FT Tryz.prog 161 x161.d:=x161.ft
abbrev x121:XT Tryz.prog 121:=mkF
instance t121:FT Tryz.prog 121 x121.d:=x121.ft
abbrev x164:XT Tryz.prog 164:=mkF
instance t164:FT Tryz.prog 164 x164.d:=x164.ft
abbrev x165:XT Tryz.prog 165:=mkF
instance t165:FT Tryz.prog 165 x165.d:=x165.ft
abbrev x163:XT Tryz.prog 163:=mkF
instance t163:FT Tryz.prog 163 x163.d:=x163.ft
abbrev x122:XT Tryz.prog 122:=mkF
instance t122:FT Tryz.prog 122 x122.d:=x122.ft
abbrev x120:XT Tryz.prog 120:=mkF
instance t120:FT Tryz.prog 120 x120.d:=x120.ft
abbrev x145:XT Tryz.prog 145:=mkF
instance t145:FT Tryz.prog 145 x145.d:=x145.ft
abbrev x91:XT Tryz.prog 91:=mkF
instance t91:FT Tryz.prog 91 x91.d:=x91.ft
abbrev x155:XT Tryz.prog 155:=mkF
instance t155:FT Tryz.prog 155 x155.d:=x155.ft
abbrev x68:XT Tryz.prog 68:=mkF
instance t68:FT Tryz.prog 68 x68.d:=x68.ft
abbrev x114:XT Tryz.prog 114:=mkF
instance t114:FT Tryz.prog 114 x114.d:=x114.ft
abbrev x132:XT Tryz.prog 132:=mkF
instance t132:FT Tryz.prog 132 x132.d:=x132.ft
abbrev x134:XT Tryz.prog 134:=mkF
instance t134:FT Tryz.prog 134 x134.d:=x134.ft
abbrev x181:XT Tryz.prog 181:=mkF
instance t181:FT Tryz.prog 181 x181.d:=x181.ft
abbrev x137:XT Tryz.prog 137:=mkF
instance t137:FT Tryz.prog 137 x137.d:=x137.ft
abbrev x149:XT Tryz.prog 149:=mkF
instance t149:FT Tryz.prog 149 x149.d:=x149.ft
abbrev x82:XT Tryz.prog 82:=mkF
instance t82:FT Tryz.prog 82 x82.d:=x82.ft
abbrev x133:XT Tryz.prog 133:=mkF
instance t133:FT Tryz.prog 133 x133.d:=x133.ft
abbrev x135:XT Tryz.prog 135:=mkF
instance t135:FT Tryz.prog 135 x135.d:=x135.ft
abbrev x136:XT Tryz.prog 136:=mkF
instance t136:FT Tryz.prog 136 x136.d:=x136.ft
abbrev x83:XT Tryz.prog 83:=mkF
instance t83:FT Tryz.prog 83 x83.d:=x83.ft
abbrev x44:XT Tryz.prog 44:=mkF
instance t44:FT Tryz.prog 44 x44.d:=x44.ft
abbrev x42:XT Tryz.prog 42:=mkF
instance t42:FT Tryz.prog 42 x42.d:=x42.ft
abbrev x103:XT Tryz.prog 103:=mkF
instance t103:FT Tryz.prog 103 x103.d:=x103.ft
abbrev x61:XT Tryz.prog 61:=mkF
instance t61:FT Tryz.prog 61 x61.d:=x61.ft
abbrev x45:XT Tryz.prog 45:=mkF
instance t45:FT Tryz.prog 45 x45.d:=x45.ft
abbrev x167:XT Tryz.prog 167:=mkF
instance t167:FT Tryz.prog 167 x167.d:=x167.ft
abbrev x124:XT Tryz.prog 124:=mkF
instance t124:FT Tryz.prog 124 x124.d:=x124.ft
abbrev x71:XT Tryz.prog 71:=mkF
instance t71:FT Tryz.prog 71 x71.d:=x71.ft
abbrev x125:XT Tryz.prog 125:=mkF
instance t125:FT Tryz.prog 125 x125.d:=x125.ft
abbrev x171:XT Tryz.prog 171:=mkF
instance t171:FT Tryz.prog 171 x171.d:=x171.ft
abbrev x169:XT Tryz.prog 169:=mkF
instance t169:FT Tryz.prog 169 x169.d:=x169.ft
abbrev x168:XT Tryz.prog 168:=mkF
instance t168:FT Tryz.prog 168 x168.d:=x168.ft
abbrev x170:XT Tryz.prog 170:=mkF
instance t170:FT Tryz.prog 170 x170.d:=x170.ft
abbrev x70:XT Tryz.prog 70:=mkF
instance t70:FT Tryz.prog 70 x70.d:=x70.ft
abbrev x56:XT Tryz.prog 56:=mkF
instance t56:FT Tryz.prog 56 x56.d:=x56.ft
abbrev x58:XT Tryz.prog 58:=mkF
instance t58:FT Tryz.prog 58 x58.d:=x58.ft
abbrev x188:XT Tryz.prog 188:=mkF
instance t188:FT Tryz.prog 188 x188.d:=x188.ft
abbrev x159:XT Tryz.prog 159:=mkF
instance t159:FT Tryz.prog 159 x159.d:=x159.ft
abbrev x115:XT Tryz.prog 115:=mkF
instance t115:FT Tryz.prog 115 x115.d:=x115.ft
abbrev x69:XT Tryz.prog 69:=mkF
instance t69:FT Tryz.prog 69 x69.d:=x69.ft
abbrev x123:XT Tryz.prog 123:=mkF
instance t123:FT Tryz.prog 123 x123.d:=x123.ft
abbrev x166:XT Tryz.prog 166:=mkF
instance t166:FT Tryz.prog 166 x166.d:=x166.ft
abbrev x197:XT Tryz.prog 197:=mkF
instance t197:FT Tryz.prog 197 x197.d:=x197.ft
abbrev x196:XT Tryz.prog 196:=mkF
instance t196:FT Tryz.prog 196 x196.d:=x196.ft
abbrev x210:XT Tryz.prog 210:=mkF
instance t210:FT Tryz.prog 210 x210.d:=x210.ft
abbrev x198:XT Tryz.prog 198:=mkF
instance t198:FT Tryz.prog 198 x198.d:=x198.ft
abbrev x211:XT Tryz.prog 211:=mkF
instance t211:FT Tryz.prog 211 x211.d:=x211.ft
abbrev x222:XT Tryz.prog 222:=mkF
instance t222:FT Tryz.prog 222 x222.d:=x222.ft
abbrev x126:XT Tryz.prog 126:=mkF
instance t126:FT Tryz.prog 126 x126.d:=x126.ft
abbrev x172:XT Tryz.prog 172:=mkF
instance t172:FT Tryz.prog 172 x172.d:=x172.ft
abbrev x127:XT Tryz.prog 127:=mkF
instance t127:FT Tryz.prog 127 x127.d:=x127.ft
abbrev x73:XT Tryz.prog 73:=mkF
instance t73:FT Tryz.prog 73 x73.d:=x73.ft
abbrev x36:XT Tryz.prog 36:=mkF
instance t36:FT Tryz.prog 36 x36.d:=x36.ft
abbrev x33:XT Tryz.prog 33:=mkF
instance t33:FT Tryz.prog 33 x33.d:=x33.ft
end Go.Proofs.YthlpinppaclofaaGreatDoor
namespace Go.Pb
variable [Go.Sym.Tab]
open Go.Sym
def B2e (n:Nat) (s:List UInt8):Nat:=s.foldl (fun n c=>10 * n+(c.toNat-48)) n
theorem B5j:∀ (s:List UInt8) (n:Nat),n<=B2e n s
 | [],n=>A0H _
 | c :: r,n=>by
  have:=B5j r (10 * n+(c.toNat-48));simp only [B2e,A4J] at this ⊢;omega
theorem C4y (c:UInt8) (r:List UInt8) (n:Nat):B2e n (c :: r)=B2e (10 * n+(c.toNat-48)) r:=by simp only [B2e,A4J]
theorem C8n {M acc d v w:Nat} (hM:M=18446744073709551615) (hd:d<=9) (hv:10 * acc+d<=v) (hw:w=1844674407370955162) :
  (w<=acc->M<v)/\(M<acc * 10+d->M<v):=by
 subst hM hw;omega
theorem C8o (M acc:Nat) (c:UInt8) (r:List UInt8) (h:48<=c.toNat/\c.toNat<=57):Lib.parseUintM M acc (c :: r) =
   if 1844674407370955162<=acc then .range
   else if M<acc * 10+(c.toNat-48) then .range
   else Lib.parseUintM M (acc * 10+(c.toNat-48)) r:=by rw [Lib.parseUintM,if_pos h]
theorem pum {M:Nat} (hM:M=18446744073709551615):∀ (l:List UInt8) (acc:Nat),(∀ c∈l,dgB c=true)->acc<=M ->
  Lib.parseUintM M acc l=if B2e acc l<=M then .ok (B2e acc l) else .range:=by
 intro l
 induction l with
 | nil =>
  intro acc h ha;rw [if_pos (show B2e acc []<=M from ha),Lib.parseUintM];rfl
 | cons c r ih =>
  intro acc h ha;have hc:=h c A0L;simp only [dgB,A0D,A0G] at hc;have hg:=B5j r (10 * acc+(c.toNat-48));rw [C8o _ _ _ _ hc,C4y];generalize hK:(1844674407370955162:Nat)=K;obtain ⟨s1,s2⟩:=C8n hM (show c.toNat-48<=9 by omega) hg hK.symm;by_cases h1:K<=acc
  ·rw [if_pos h1,if_neg (Nat.not_le.2 (s1 h1))]
  ·rw [if_neg h1];by_cases h2:M<acc * 10+(c.toNat-48)
   ·rw [if_pos h2,if_neg (Nat.not_le.2 (s2 h2))]
   ·rw [if_neg h2,Nat.mul_comm acc 10];rw [Nat.mul_comm acc 10] at h2;exact ih _ (fun d hd=>h d (A0J _ hd)) (Nat.not_lt.1 h2)
theorem pib {l:List UInt8} (h:∀ c∈l,dgB c=true) (h0:l≠[]) :
  Lib.parseIntB 64 l=if J2 l<=9223372036854775807 then .ok (J2 l:Int) else .range:=by
 cases l with
 | nil=>exact absurd rfl h0
 | cons c r =>
  have hc:=h c A0L;simp only [dgB,A0D,A0G] at hc;have e1:¬ c.toNat=43:=by omega
  have e2:¬ c.toNat=45:=by omega
  have hp:=pum (M:=2 ^ 64-1) (by decide) (c :: r) 0 h (A1H _);have hv:B2e 0 (c :: r)=J2 (c :: r):=rfl;rw [hv] at hp;unfold Lib.parseIntB;simp only [e1,e2,or_self,if_false,not_false_eq_true,true_and,false_and];unfold Lib.parseUintB;rw [if_neg (by simp),hp];by_cases g1:J2 (c :: r)<=2 ^ 64-1
  ·rw [if_pos g1];by_cases g2:J2 (c :: r)<=9223372036854775807
   ·simp only [g2,if_true];rw [if_neg (by omega)]
   ·simp only [g2,if_false];rw [if_pos (by omega)]
  ·rw [if_neg g1];have g2:¬ J2 (c :: r)<=9223372036854775807:=by omega
   simp only [g2,if_false]
theorem B0h {p:UInt8->Bool}:∀ (s:List UInt8), ∀ c∈s.take (C1 p s),p c=true
 | [],c,h=>by simp at h
 | x :: r,c,h=>by
  simp only [C1] at h;split at h
  ·rename_i hx;rw [A0X] at h;rcases A1D.1 h with rfl|h
   ·exact hx
   ·exact B0h r c h
  ·simp at h
theorem D0c (c:UInt8):∀ l:List UInt8, -1<=Lib.indexByte l c
 | []=>by simp [Lib.indexByte]
 | d :: l=>by
  have:=D0c c l;simp only [Lib.indexByte];split
  ·omega
  ·split<;>omega
theorem C3q (c:UInt8):∀ l:List UInt8,0<=Lib.indexByte l c↔l.contains c=true
 | []=>by simp [Lib.indexByte]
 | b :: l=>by
  have ih:=C3q c l;have hge:=D0c c l;simp only [Lib.indexByte,A2Z];by_cases h:b=c
  ·subst h;simp
  ·have e1:(b == c)=false:=by simpa using h
   have e2:(c == b)=false:=by simpa using fun h2=>h h2.symm
   rw [e1,e2,A4H, <- ih];simp only [A2C,if_false];by_cases h2:Lib.indexByte l c = -1
   ·rw [if_pos (by rw [h2];rfl),h2]
   ·rw [if_neg (by simpa using h2)];omega
end Go.Pb
namespace Go.Pb
variable [Go.Sym.Tab]
open Go.Sym
theorem B0i {s:List UInt8} {k:Nat} (h:k<=s.length):slsR s (some (.int .i64 (k:Int))) none=some (.str (s.drop k)):=by
 rw [D6j (l:=k) (h:=s.length) rfl (by simp [boundOf]) (A0H _) h,A0O (by simp)]
theorem B4p {s:List UInt8} {k:Nat} (h:k<=s.length):slsR s none (some (.int .i64 (k:Int)))=some (.str (s.take k)):=by
 rw [D6j (l:=0) (h:=k) (by simp [boundOf]) rfl h (A1H _),A3I,Nat.sub_zero]
theorem C7d (l:List (List UInt8)):(A8 (l.map DV.str)).length=l.length * 1:=by
 rw [B8 (u:=1)]
 ·simp
 ·intro x hx;obtain ⟨y, -,rfl⟩:=A1I.1 hx;rfl
theorem R4 (l:List (List UInt8)):∀ x∈l.map DV.str,x.cells.length=1:=by
 intro x hx;obtain ⟨y, -,rfl⟩:=A1I.1 hx;rfl
end Go.Pb
namespace Go.Pb
variable [Go.Sym.Tab]
open Go.Sym
def A2h (H:Hp):Option Nat->Hp
 | none=>H
 | some i=>H.del i
theorem C4r {o:Option Nat} {n:Nat} (h:o=none->n=0):B2g (C4 o n)=some (I64 (n:Int)):=by
 cases o with
 | none=>rw [h rfl];rfl
 | some i=>rfl
theorem L6 {H:Hp} {c sz bytes n m:Nat} {o:Option Nat} {cs src:List DV} (hn:o=none->n=0/\cs=[]) (hb:∀ i,o=some i->H i=some ⟨sz,true,cs⟩) (hl:cs.length=n * sz) (hm:1<=m) (h2:(n+m) * bytes<=140737488355328) (h3:n+m<=9223372036854775807) :
  A3d H c sz bytes (C4 o n) m src=some (.slc c 0 (n+m),(A2h H o).upd c ⟨sz,true,cs++src⟩,c+1):=by
 cases o with
 | none =>
  obtain ⟨rfl,rfl⟩:=hn rfl;rw [B4j,A6l (by omega) (by simpa using h2) (by omega)];simp [A2h]
 | some i=>rw [B0d,A3r,hb i rfl,E0 hl h2 h3];rfl
theorem N2 {H:Hp} {o:Option Nat} {j:Nat} (h:∀ i,o=some i->¬ j=i):A2h H o j=H j:=by
 cases o with
 | none=>rfl
 | some i=>exact F0 (h i rfl)
theorem F3 {H:Hp} {o:Option Nat} {b:Blk} {j:Nat} (h:∀ i,o=some i->¬ j=i):D4 H o b j=H j:=by
 cases o with
 | none=>rfl
 | some i=>exact A3 (h i rfl)
section
variable {l:List UInt8} {k p:Nat} {S P V:DV} {I:List Ins} {E:List Ent} {o1 o2:Option Nat} {cc:Nat}
end
end Go.Pb
namespace Go.Pb
variable [Go.Sym.Tab]
open Go.Sym
theorem A6d {a b:Nat} (h:((a:Int) == (b:Int))=true):a=b:=by have:=A1G.1 h;omega
theorem A2k {a b:Nat} (h:((a:Int) == (b:Int))=false):a≠b:=fun e=>by rw [e] at h;simp at h
theorem D1q {a b:Nat} (h:((a:Int) != (b:Int))=true):a≠b:=fun e=>by rw [e] at h;simp at h
theorem D1r {a b:Nat} (h:((a:Int) != (b:Int))=false):a=b:=by
 have:(a:Int)=b:=by simpa using h
 omega
theorem A8v {a b:Nat} (h:decide ((a:Int)>(b:Int))=true):b<a:=by have:=of_decide_eq_true h;omega
theorem A3m {a b:Nat} (h:decide ((a:Int)>(b:Int))=false):¬ b<a:=by have:=of_decide_eq_false h;omega
theorem N0 {α : Type} {s:List α} {i:Nat} {c : α} (h:s[i]? = some c):s.drop i=c :: s.drop (i+1):=by
 obtain ⟨hi,rfl⟩:=A0V.1 h;exact A1V hi
theorem C7n {s:List UInt8} {i:Nat} {c:UInt8} (h:s[i]? = some c) (hc:T9 c=true):skM false (s.drop i)=skM false (s.drop (i+1))+1:=by
 rw [N0 h];simp only [skM];rw [if_pos hc]
theorem C7p {s:List UInt8} {i:Nat} {c:UInt8} (h:s[i]? = some c) (hc:c.toNat=35) :
  skM false (s.drop i)=C1 (fun c=>decide (c.toNat≠10)) (s.drop i)+skM false (s.drop (i+C1 (fun c=>decide (c.toNat≠10)) (s.drop i))):=by
 have hs:¬ T9 c=true:=by simp [T9,hc]
 have e1:skM false (s.drop i)=skM true (s.drop i):=by
  rw [N0 h];simp only [skM];rw [if_neg hs,if_pos hc,if_neg (by omega)]
 rw [e1,B7g,A3J]
theorem C2n {s:List UInt8} {i:Nat} {c:UInt8} (h:s[i]? = some c) (h1:¬ T9 c=true) (h2:¬ c.toNat=35):skM false (s.drop i)=0:=by
 rw [N0 h];simp only [skM];rw [if_neg h1,if_neg h2]
theorem C7o {s:List UInt8} {i:Nat} (h:s.length<=i):skM false (s.drop i)=0:=by
 rw [A2L h];rfl
theorem C2o {s:List UInt8} {i:Nat} {c:UInt8} (h:s[i]? = some c) (hc:c.toNat=35):1<=C1 (fun c=>decide (c.toNat≠10)) (s.drop i):=by
 rw [N0 h];simp only [C1];rw [if_pos (by simp [hc])];omega
def quA (acc:List UInt8) (k:Nat) (q:Option (List UInt8 × Nat)):Option (List UInt8 × Nat):=q.map fun x=>(acc++x.1,x.2+k)
theorem J1 (c:UInt8) (r:List UInt8):quM (c :: r)=if c.toNat=34 then some ([],1)
  else if c.toNat<32\/126<c.toNat then none
  else if c.toNat=92 then match r with
   | []=>none
   | d :: q=>if d.toNat=34\/d.toNat=92 then (quM q).map fun x=>(d :: x.1,x.2+2) else none
  else (quM r).map fun x=>(c :: x.1,x.2+1):=by rw [quM.eq_def];try rfl
theorem A2c {s acc:List UInt8} {k:Nat} {c:UInt8} (h:s[k]? = some c) (hc:c.toNat=34):quA acc k (quM (s.drop k))=some (acc,k+1):=by
 rw [N0 h,J1,if_pos hc];simp [quA];omega
theorem A3s {s acc:List UInt8} {k:Nat} {c:UInt8} (h:s[k]? = some c) (h0:c.toNat≠34) (hc:c.toNat<32\/126<c.toNat):quA acc k (quM (s.drop k))=none:=by
 rw [N0 h,J1,if_neg h0,if_pos hc];rfl
theorem C8i {s acc:List UInt8} {k:Nat} (h:s.length<=k):quA acc k (quM (s.drop k))=none:=by
 rw [A2L h,quM];rfl
theorem A9k {s acc:List UInt8} {k:Nat} {c:UInt8} (h:s[k]? = some c) (h0:c.toNat≠34) (h1:32<=c.toNat) (h2:c.toNat<=126) (h3:c.toNat≠92) :
  quA acc k (quM (s.drop k))=quA (acc++[c]) (k+1) (quM (s.drop (k+1))):=by
 rw [N0 h,J1,if_neg h0,if_neg (by omega),if_neg h3];cases quM (s.drop (k+1)) with
 | none=>rfl
 | some x=>simp [quA];omega
theorem B4x {s acc:List UInt8} {k:Nat} {c d:UInt8} (h:s[k]? = some c) (h3:c.toNat=92) (hd:s[k+1]? = some d) (h4:d.toNat=34\/d.toNat=92) :
  quA acc k (quM (s.drop k))=quA (acc++[d]) (k+2) (quM (s.drop (k+2))):=by
 rw [N0 h,N0 hd,J1,if_neg (by omega),if_neg (by omega),if_pos h3];simp only;rw [if_pos h4];cases quM (s.drop (k+1+1)) with
 | none=>rfl
 | some x=>simp [quA];omega
theorem A9j {s acc:List UInt8} {k:Nat} {c:UInt8} (h:s[k]? = some c) (h3:c.toNat=92) (hd:∀ d,s[k+1]? = some d->d.toNat≠34/\d.toNat≠92) :
  quA acc k (quM (s.drop k))=none:=by
 rw [N0 h];cases hq:s.drop (k+1) with
 | nil=>rw [J1,if_neg (by omega),if_neg (by omega),if_pos h3];rfl
 | cons d q =>
  have h5:s[k+1]? = some d:=by
   have:=congrArg List.head? hq
   rwa [List.head?_drop] at this
  have h6:=hd d h5;rw [J1,if_neg (by omega),if_neg (by omega),if_pos h3];simp only;rw [if_neg (by omega)];rfl
def quV:Option (List UInt8 × Nat)->DV
 | none=>.tup [.str [],I64 0]
 | some x=>.tup [.str x.1,I64 x.2]
theorem B7q {H:Hp} {o:Option Nat} {u:Nat} {acc:List UInt8} (hn:o=none->acc=[]) (hb:∀ i,o=some i->H i=some ⟨u,true,bytesC acc⟩):A1l H (C4 o acc.length)=some (.str acc):=by
 cases o with
 | none=>rw [hn rfl];rfl
 | some i=>exact A6b (hb i rfl) rfl rfl
theorem O4 {X:Hp} {id:Nat} {b b':Blk} (h:b=b'):Sub (D4 Sym.nil (some id) b) (X.upd id b'):=by
 intro j q hj;simp only [D4] at hj;by_cases e:j=id
 ·subst e;rw [A0] at hj ⊢;rw [<- h];exact hj
 ·rw [A3 e] at hj;cases hj
theorem C4s {X:Hp} {o:Option Nat} {c sz bytes n m:Nat} {cs src:List DV} {b2:Blk} (hn:o=none->n=0/\cs=[]) (ho:∀ i,o=some i->i<c) (hl:cs.length=n * sz) (hm:1<=m)
  (h2:(n+m) * bytes<=140737488355328) (h3:n+m<=9223372036854775807) :
  A3d ((D4 X o ⟨sz,true,cs⟩).upd c b2) (c+1) sz bytes (C4 o n) m src=some (.slc (c+1) 0 (n+m),(A2h ((D4 X o ⟨sz,true,cs⟩).upd c b2) o).upd (c+1) ⟨sz,true,cs++src⟩,c+1+1) :=
 L6 hn (fun i hi=>by have:=ho i hi;rw [A3 (by omega)];subst hi;exact A0) hl hm h2 h3
theorem A6m {X:Hp} {o:Option Nat} {c:Nat} {acc:List UInt8} (hn:o=none->acc=[]) (ho:∀ i,o=some i->i<c) (hl:acc.length<=10000000) (b2:Blk) (x:UInt8) :
  A3d ((D4 X o ⟨1,true,bytesC acc⟩).upd c b2) (c+1) 1 1 (C4 o acc.length) 1 [.int .u8 (x.toNat:Int)]=some (.slc (c+1) 0 (acc.length+1),(A2h ((D4 X o ⟨1,true,bytesC acc⟩).upd c b2) o).upd (c+1) ⟨1,true,bytesC (acc++[x])⟩,c+1+1):=by
 rw [B1o];exact C4s (fun e=>by rw [hn e];exact ⟨rfl,rfl⟩) ho (B9a acc) (by omega) (by omega) (by omega)
theorem E0y (c:UInt8):decide (Lib.indexByte [123,125,40,41,59,44,61,43,45,42,47,37,33,60,62] c≥0)=A3l c:=by
 rw [A2O,decide_eq_true_iff];refine (C3q c _).trans ?_;have key:∀ n:Nat,n<256->([123,125,40,41,59,44,61,43,45,42,47,37,33,60,62]:List UInt8).contains (UInt8.ofNat n)=A3l (UInt8.ofNat n):=by decide +kernel
 have:=key c.toNat c.toNat_lt;rw [UInt8.ofNat_toNat] at this;rw [this]
def quB (c:UInt8):List UInt8:=if c.toNat=34\/c.toNat=92 then [92,c] else [c]
def A2t (s:List UInt8):List UInt8:=[34]++s.flatMap quB
def V7 (s:List UInt8):List UInt8:=A2t s++[34]
theorem B3b {s:List UInt8} {k:Nat} {c:UInt8} (h:s[k]? = some c):A2t (s.take (k+1))=A2t (s.take k)++quB c:=by
 unfold A2t;rw [A2J,h,A4M,A0U];simp
theorem C2z:∀ s:List UInt8,(s.flatMap quB).length<=2 * s.length
 | []=>by simp
 | c :: r=>by
  have:=C2z r;rw [A1F,A0C,A0B];have:(quB c).length<=2:=by unfold quB;split<;>simp
  omega
theorem B0l (s:List UInt8):(A2t s).length<=2 * s.length+1:=by
 have:=C2z s;unfold A2t;rw [A0C,A0K];omega
theorem B9b {H:Hp} {c id n:Nat} {acc:List UInt8} {x:UInt8} (hn:n=acc.length) (hl:n<=10000000) :
  apB H c id 1 1 n 1 [.int .u8 (x.toNat:Int)] (some ⟨1,true,bytesC acc⟩)=some (.slc c 0 (n+1),(H.del id).upd c ⟨1,true,bytesC (acc++[x])⟩,c+1):=by
 rw [B1o];exact E0 (by rw [A3c,hn];omega) (by omega) (by omega)
theorem B7j (q:List Tok × Int × Int):(C2r q).nl=true:=by
 simp only [DV.nl,DV.nlL,B0r,A1T]
theorem B7u {H:Hp} {a b:DV}:∃ H2,GL H [.tup [.snil,a,b]] H2 [.tup [.lst [],a,b]] :=
 ⟨H,GL.view fun ρ vs hA=>⟨hA.1,fun i x y hx hy=>by
  match i with
  | 0 =>
   cases hx;have:=hA.2 0 _ y rfl hy;obtain ⟨b',rfl,k1,k2⟩:=this.tup_inv;refine .tup _ _ k1 fun j x' y' hx' hy'=>?_
   match j with
   | 0=>cases hx';exact (k2 0 _ y' rfl hy').snil_lst
   | 1=>cases hx';exact k2 1 _ y' rfl hy'
   | 2=>cases hx';exact k2 2 _ y' rfl hy'
   | _+3=>cases hx'
  | _+1=>cases hx⟩⟩
theorem A6h {H:Hp} {a b:Int}:∃ H2,GL H [.tup [.snil,I64 a,I64 b]] H2 [C2r ([],a,b)]:=B7u
theorem B7t {o:Option Nat} {xs:List DV} {u n:Nat} {a b:DV} (hno:o=none->xs=[]) (hl:xs.length=n) (hu:∀ x∈xs,x.cells.length=u) :
  ∃ H2,GL (D4 Sym.nil o ⟨u,true,A8 xs⟩) [.tup [C4 o n,a,b]] H2 [.tup [.lst xs,a,b]]:=by
 cases o with
 | none=>rw [hno rfl];exact B7u
 | some i=>exact ⟨nil,GL.one (id:=i) A0 rfl (.cons _ _ _ _ (.tup _ _ (.cons _ _ _ _ (M9 hl hu ⟨[],by simp⟩) (.cons _ _ _ _ (.same _) (.cons _ _ _ _ (.same _) .nil)))) .nil)⟩
theorem B5c {X:Hp} {o:Option Nat} {b:Blk} {i:Nat} (hi:o=some i):D4 X o b i=some b:=by subst hi;exact A0
def nxV (x:Nx):DV:=.tup [.agg [I64 x.kind,.str x.text,I64 x.value,I64 0],I64 x.n,I64 x.err]
theorem C9c (x:Nx):(nxV x).nl=true:=rfl
theorem u8_eq (c:UInt8) (n:Nat) (h:n<256):(c == UInt8.ofNat n)=decide (c.toNat=n):=by
 rw [A2O,A1G,decide_eq_true_iff, <- UInt8.toNat_inj];simp;omega
theorem C2e (c d:UInt8):A3o c d=([c,d] == [60,61] || [c,d] == [62,61] || [c,d] == [61,61] || [c,d] == [33,61] || [c,d] == [38,38] || [c,d] == [124,124]):=by
 have hk:∀ a b:UInt8,([c,d] == [a,b])=(c == a && d == b):=fun a b=>by simp [A4C]
 rw [hk,hk,hk,hk,hk,hk];have hu:∀ (x:UInt8) (n:Nat),n<256->(x == UInt8.ofNat n)=(x.toNat == n):=fun x n h=>by rw [u8_eq x n h];rfl
 have e:∀ n:Nat,(OfNat.ofNat n:UInt8)=UInt8.ofNat n:=fun _=>rfl;show ([(60,61),(62,61),(61,61),(33,61),(38,38),(124,124)]:List (Nat × Nat)).contains (c.toNat,d.toNat)=(c == UInt8.ofNat 60 && d == UInt8.ofNat 61 || c == UInt8.ofNat 62 && d == UInt8.ofNat 61 || c == UInt8.ofNat 61 && d == UInt8.ofNat 61 || c == UInt8.ofNat 33 && d == UInt8.ofNat 61 || c == UInt8.ofNat 38 && d == UInt8.ofNat 38 || c == UInt8.ofNat 124 && d == UInt8.ofNat 124);rw [hu c 60 (by omega),hu c 61 (by omega),hu c 62 (by omega),hu c 33 (by omega),hu c 38 (by omega),hu c 124 (by omega),hu d 61 (by omega),hu d 38 (by omega),hu d 124 (by omega)];rw [A2O];simp;omega
end Go.Pb
namespace Go.Pb
variable [Go.Sym.Tab]
open Go.Sym
inductive Ex where
 | mk (kind value:Int) (name:List UInt8) (args:List Ex) (pos:Int)
def Ex.kind:Ex->Int | .mk k _ _ _ _=>k
def Ex.value:Ex->Int | .mk _ v _ _ _=>v
def Ex.name:Ex->List UInt8 | .mk _ _ n _ _=>n
def Ex.args:Ex->List Ex | .mk _ _ _ a _=>a
def Ex.pos:Ex->Int | .mk _ _ _ _ p=>p
mutual
def Ex.v:Ex->DV
 | .mk k v n a p=>.agg [I64 k,I64 v,.str n,.lst (Ex.vs a),I64 p]
def Ex.vs:List Ex->List DV
 | []=>[]
 | e :: l=>Ex.v e :: Ex.vs l
end
theorem Ex.vs_map:∀ l:List Ex,Ex.vs l=l.map Ex.v
 | []=>rfl
 | e :: l=>by rw [Ex.vs,Ex.vs_map l];rfl
abbrev H9 (l:List Ex):DV:=.lst (l.map Ex.v)
abbrev Ex.w (e:Ex):DV:=.agg [I64 e.kind,I64 e.value,.str e.name,H9 e.args,I64 e.pos]
theorem Ex.v_w (e:Ex):e.v=e.w:=by
 cases e with|mk k v n a p=>rw [Ex.v,Ex.vs_map];rfl
theorem A3b (l:List Ex):∀ x∈l.map Ex.v,x.cells.length=5:=fun x hx=>by
 obtain ⟨y, -,rfl⟩:=A1I.1 hx;rw [Ex.v_w];rfl
mutual
@[simp]theorem Ex.nl:∀ e:Ex,e.v.nl=true
 | .mk k v n a p=>by
  have:=Ex.nls a;rw [Ex.v];simp only [DV.nl,DV.nlL,this,A1T]
theorem Ex.nls:∀ l:List Ex,DV.nlL (Ex.vs l)=true
 | []=>rfl
 | e :: l=>by rw [Ex.vs,DV.nlL,Ex.nl e,Ex.nls l];rfl
end
@[simp]theorem Z0 (l:List Ex):DV.nlL (l.map Ex.v)=true:=by rw [<- Ex.vs_map];exact Ex.nls l
def Ex0:Ex:=.mk 0 0 [] [] 0
inductive St where
 | mk (kind:Int) (name text:List UInt8) (args:List Ex) (thn els:List St) (pos:Int)
def St.kind:St->Int | .mk k _ _ _ _ _ _=>k
def St.name:St->List UInt8 | .mk _ n _ _ _ _ _=>n
def St.text:St->List UInt8 | .mk _ _ t _ _ _ _=>t
def St.args:St->List Ex | .mk _ _ _ a _ _ _=>a
def St.thn:St->List St | .mk _ _ _ _ t _ _=>t
def St.els:St->List St | .mk _ _ _ _ _ e _=>e
def St.pos:St->Int | .mk _ _ _ _ _ _ p=>p
mutual
def St.v:St->DV
 | .mk k n t a x y p=>.agg [I64 k,.str n,.str t,H9 a,.lst (St.vs x),.lst (St.vs y),I64 p]
def St.vs:List St->List DV
 | []=>[]
 | e :: l=>St.v e :: St.vs l
end
theorem St.vs_map:∀ l:List St,St.vs l=l.map St.v
 | []=>rfl
 | e :: l=>by rw [St.vs,St.vs_map l];rfl
abbrev G1 (l:List St):DV:=.lst (l.map St.v)
abbrev St.w (s:St):DV:=.agg [I64 s.kind,.str s.name,.str s.text,H9 s.args,G1 s.thn,G1 s.els,I64 s.pos]
theorem St.v_w (s:St):s.v=s.w:=by
 cases s with|mk k n t a x y p=>rw [St.v,St.vs_map,St.vs_map];rfl
theorem A4i (l:List St):∀ x∈l.map St.v,x.cells.length=7:=fun x hx=>by
 obtain ⟨y, -,rfl⟩:=A1I.1 hx;rw [St.v_w];rfl
mutual
@[simp]theorem St.nl:∀ e:St,e.v.nl=true
 | .mk k n t a x y p=>by
  have h1:=Z0 a;have h2:=St.nls x;have h3:=St.nls y;rw [St.v];simp only [DV.nl,DV.nlL,h1,h2,h3,A1T]
theorem St.nls:∀ l:List St,DV.nlL (St.vs l)=true
 | []=>rfl
 | e :: l=>by rw [St.vs,DV.nlL,St.nl e,St.nls l];rfl
end
@[simp]theorem U0 (l:List St):DV.nlL (l.map St.v)=true:=by rw [<- St.vs_map];exact St.nls l
def St0:St:=.mk 0 [] [] [] [] [] 0
structure Dc where
 kind:Int
 name:List UInt8
 value:Int
 pos:Int
deriving DecidableEq
abbrev Dc.v (d:Dc):DV:=.agg [I64 d.kind,.str d.name,I64 d.value,I64 d.pos]
abbrev O1 (l:List Dc):DV:=.lst (l.map Dc.v)
structure Hd where
 trig:Int
 name:List UInt8
 body:List St
 pos:Int
abbrev Hd.v (h:Hd):DV:=.agg [I64 h.trig,.str h.name,G1 h.body,I64 h.pos]
abbrev A0z (l:List Hd):DV:=.lst (l.map Hd.v)
structure Md where
 name:List UInt8
 prio:Int
 hds:List Hd
 pos:Int
abbrev Md.v (m:Md):DV:=.agg [.str m.name,I64 m.prio,A0z m.hds,I64 m.pos]
abbrev U2 (l:List Md):DV:=.lst (l.map Md.v)
structure Ru where
 decls:List Dc
 modes:List Md
abbrev Ru.v (r:Ru):DV:=.agg [O1 r.decls,U2 r.modes]
theorem A4y (l:List Dc):∀ x∈l.map Dc.v,x.cells.length=4:=fun x hx=>by obtain ⟨y, -,rfl⟩:=A1I.1 hx;rfl
theorem A4r (l:List Hd):∀ x∈l.map Hd.v,x.cells.length=4:=fun x hx=>by obtain ⟨y, -,rfl⟩:=A1I.1 hx;rfl
theorem A4o (l:List Md):∀ x∈l.map Md.v,x.cells.length=4:=fun x hx=>by obtain ⟨y, -,rfl⟩:=A1I.1 hx;rfl
@[simp]theorem W4 (l:List Dc):DV.nlL (l.map Dc.v)=true:=Q5 (fun _=>rfl) l
@[simp]theorem A9m (l:List Hd):DV.nlL (l.map Hd.v)=true:=Q5 (fun h=>by simp [DV.nl,DV.nlL,U0]) l
@[simp]theorem W3 (l:List Md):DV.nlL (l.map Md.v)=true:=Q5 (fun h=>by simp [DV.nl,DV.nlL,A9m]) l
theorem Ru.nl (r:Ru):r.v.nl=true:=by simp [DV.nl,DV.nlL,W4,W3]
structure Rd where
 i:Nat
 e:Int
 pos:Int
 ops:Int
 par:Int
section
variable (L:List Tok) (E:Int)
def okR (s:Rd):Bool:=s.e == 0
def M0 (s:Rd) (p e:Int):Rd:=if okR s=true then { s with e:=e,pos:=p } else s
def A4 (s:Rd):Tok:=L.getD s.i ⟨0,[],0,E⟩
def isR (s:Rd) (t:List UInt8):Bool:=okR s && ((A4 L E s).kind == 5 || (A4 L E s).kind == 2) && (A4 L E s).text == t
def F9 (s:Rd) (k:Int):Bool:=okR s && (A4 L E s).kind == k
def P2 (s:Rd):Rd:=M0 s (A4 L E s).pos 4
def B9 (s:Rd) (n most e:Int):Rd:=if most<n then M0 s (A4 L E s).pos e else s
def A6 (s:Rd):Rd:={ s with i:=s.i+1 }
def C5 (s:Rd) (t:List UInt8):Rd:=if isR L E s t=false then P2 L E s else A6 s
def Y7:Tok:=⟨0,[],0,0⟩
def B1 (s:Rd) (k:Int):Tok × Rd:=if F9 L E s k=false then (Y7,P2 L E s) else (A4 L E s,A6 s)
def U9 (s:Rd):Nat->List (List UInt8)->Int
 | _,[] => -1
 | k,t :: l=>if isR L E s t=true then (k:Int) else U9 s (k+1) l
def B6 (s:Rd) (l:List (List UInt8)):Int:=U9 L E s 0 l
end
def C3:List (List UInt8):=[[115,119,105,116,99,104],[99,111,105,108],[108,97,109,112],[115,111,117,110,100],[115,104,111,119],[118,97,114],[116,105,109,101,114],[101,118,101,110,116]]
def C8:List (List UInt8):=[[115,116,97,114,116],[115,116,111,112],[99,108,111,115,101],[111,112,101,110],[116,105,109,101,114],[101,118,101,110,116]]
def B3:List (List UInt8):=[[105,102],[114,101,112,101,97,116],[115,99,111,114,101],[102,105,114,101],[104,111,108,100],[114,101,108,101,97,115,101],[108,105,103,104,116],[98,108,105,110,107],[115,116,97,114,116],[115,116,111,112],[98,101,103,105,110],[101,110,100],[112,111,115,116],[112,108,97,121],[114,117,110],[104,97,108,116],[116,101,120,116],[99,111,110,115,117,109,101]]
def B7:List (List UInt8):=[[42],[47],[37],[43],[45],[60],[60,61],[62],[62,61],[61,61],[33,61],[38,38],[124,124]]
def B4 (k:Int):Int:=if k=24 then 1 else if k=23 then 2 else if 17<=k/\k<=22 then 3 else if k=15\/k=16 then 4 else if 12<=k/\k<=14 then 5 else if k=10\/k=11 then 6 else 7
section
variable (L:List Tok) (E:Int)
def F8:List Int:=[3,4,8,9,5,6,7]
def C9:List (List UInt8):=[[116,114,117,101],[102,97,108,115,101],[112,108,97,121,101,114],[98,97,108,108],[99,108,111,115,101,100],[97,99,116,105,118,101],[108,101,102,116]]
def K0:List (List UInt8):=[[45],[33],[40]]
def G0 (s:Rd):Ex × Rd :=
 let t:=A4 L E s
 let k:=B6 L E s C9
 if k<0/\F9 L E s 3=false/\F9 L E s 1=false then (Ex0,P2 L E s)
 else
  let s1:Rd:={ s with ops:=s.ops+1 }
  let s2:=B9 L E s1 s1.ops 32 9
  if okR s2=false then (Ex0,s2)
  else
   let s3:=A6 s2
   if 0<=k then
    if 4<=k then (.mk (F8.getD k.toNat 0) 0 (B1 L E s3 1).1.text [] t.pos,(B1 L E s3 1).2)
    else (.mk (F8.getD k.toNat 0) 0 [] [] t.pos,s3)
   else if t.kind=3 then (.mk 1 t.value [] [] t.pos,s3)
   else (.mk 2 0 t.text [] t.pos,s3)
mutual
def F1:Nat->Int->Rd->Option (Ex × Rd)
 | 0,_,_=>none
 | f+1,n,s=>if 5<n then K9 f s else
  match F1 f (n+1) s with
  | none=>none
  | some (e,s)=>I5 f n e s
def I5:Nat->Int->Ex->Rd->Option (Ex × Rd)
 | 0,_,_,_=>none
 | f+1,n,e,s =>
  let k:=B6 L E s B7
  if k<0\/B4 (12+k)≠n then some (e,s) else
  match F1 f (n+1) (A6 s) with
  | none=>none
  | some (x,s1) =>
   let y:=Ex.mk (12+k) 0 [] [e,x] (A4 L E s).pos
   if n=3 then some (y,s1) else I5 f n y s1
def K9:Nat->Rd->Option (Ex × Rd)
 | 0,_=>none
 | f+1,s =>
  let t:=A4 L E s
  let k:=B6 L E s K0
  if k<0 then some (G0 L E s) else
  let s1:=B9 L E s (s.par+1) 16 50
  if okR s1=false then some (Ex0,s1) else
  let s2:Rd:={ s1 with i:=s1.i+1,par:=s1.par+1 }
  if k=2 then
   match F1 f 1 s2 with
   | none=>none
   | some (e,s3)=>let s4:=C5 L E s3 [41];some (e, { s4 with par:=s4.par-1 })
  else
   match K9 f s2 with
   | none=>none
   | some (e,s3)=>some (.mk (10+k) 0 [] [e] t.pos, { s3 with par:=s3.par-1 })
end
def H7 (f:Nat) (s:Rd):Option (Ex × Rd):=F1 L E f 1 { s with ops:=0,par:=0 }
def G9 (f:Nat) (k p:Int) (s:Rd):Option (St × Rd) :=
 if k=4 then
  match H7 L E f s with
  | none=>none
  | some (e,s1)=>some (.mk k [] [] [e] [] [] p,C5 L E s1 [59])
 else if k=18 then
  match H7 L E f (C5 L E (B1 L E s 4).2 [44]) with
  | none=>none
  | some (e,s1)=>some (.mk k [] (B1 L E s 4).1.text [e] [] [] p,C5 L E s1 [59])
 else if k=19 then some (.mk k [] [] [] [] [] p,C5 L E s [59])
 else
  let n:=(B1 L E s 1).1.text
  let s0:=(B1 L E s 1).2
  if k=8\/k=9\/k=10 then
   match H7 L E f s0 with
   | none=>none
   | some (e,s1) =>
    if k=9 then
     match H7 L E f (C5 L E s1 [44]) with
     | none=>none
     | some (e2,s2)=>some (.mk k n [] [e,e2] [] [] p,C5 L E s2 [59])
    else some (.mk k n [] [e] [] [] p,C5 L E s1 [59])
  else some (.mk k n [] [] [] [] p,C5 L E s0 [59])
mutual
def F6:Nat->Int->Rd->Option (List St × Rd)
 | 0,_,_=>none
 | f+1,d,s=>J3 f d [] (C5 L E s [123])
def J3:Nat->Int->List St->Rd->Option (List St × Rd)
 | 0,_,_,_=>none
 | f+1,d,l,s =>
  if okR s=true/\isR L E s [125]=false then
   if B6 L E s B3<0/\F9 L E s 1=false then some ([],P2 L E s) else
   match K7 f d (B9 L E s ((l.length:Int)+1) 64 9) with
   | none=>none
   | some (x,s1)=>J3 f d (l++[x]) s1
  else some (l,C5 L E s [125])
def K7:Nat->Int->Rd->Option (St × Rd)
 | 0,_,_=>none
 | f+1,d,s0 =>
  let s:=B9 L E s0 d 8 50
  if okR s=false then some (St0,s) else
  let p:=(A4 L E s).pos
  let k:=B6 L E s B3
  if k<0 then
   match H7 L E f (C5 L E (B1 L E s 1).2 [61]) with
   | none=>none
   | some (e,s1)=>some (.mk 1 (B1 L E s 1).1.text [] [e] [] [] p,C5 L E s1 [59])
  else
   let s1:=A6 s
   if k=0\/k=1 then
    match H7 L E f s1 with
    | none=>none
    | some (e,s2) =>
     match F6 f (d+1) s2 with
     | none=>none
     | some (t,s3) =>
      if k=0/\isR L E s3 [101,108,115,101]=true then
       match N5 f d (A6 s3) with
       | none=>none
       | some (o,s4)=>some (.mk 2 [] [] [e] t o p,s4)
      else some (.mk (2+k) [] [] [e] t [] p,s3)
   else G9 L E f (2+k) p s1
def N5:Nat->Int->Rd->Option (List St × Rd)
 | 0,_,_=>none
 | f+1,d,s =>
  if isR L E s [105,102]=true then
   match K7 f (d+1) s with
   | none=>none
   | some (x,s1)=>some ([x],s1)
  else F6 f (d+1) s
end
def Q7 (k:Int) (s:Rd):Dc × Rd :=
 let p:=(A4 L E s).pos
 let s1:=A6 s
 let n:=(B1 L E s1 1).1.text
 let s2:=(B1 L E s1 1).2
 if k+1<=6 then
  let m:=k+1 == 6 && isR L E s2 [45]
  let s3:=if m=true then A6 s2 else s2
  let v:=(B1 L E s3 3).1.value
  (⟨1+k,n,if m=true then -v else v,p⟩,C5 L E (B1 L E s3 3).2 [59])
 else (⟨1+k,n,0,p⟩,C5 L E s2 [59])
def K5:Nat->List Hd->Rd->Option (List Hd × Rd)
 | 0,_,_=>none
 | f+1,l,s =>
  if okR s=true/\isR L E s [125]=false then
   if isR L E s [111,110]=false then some (l,P2 L E s) else
   let s1:=B9 L E s ((l.length:Int)+1) 32 9
   let p:=(A4 L E s1).pos
   let s2:=C5 L E s1 [111,110]
   let k:=B6 L E s2 C8
   if k<0 then some (l,P2 L E s2) else
   let s3:=A6 s2
   let n:=if 2<=k then (B1 L E s3 1).1.text else []
   let s4:=if 2<=k then (B1 L E s3 1).2 else s3
   match F6 L E f 1 s4 with
   | none=>none
   | some (b,s5)=>K5 f (l++[⟨1+k,n,b,p⟩]) s5
  else some (l,C5 L E s [125])
def A0l (f:Nat) (s:Rd):Option (Md × Rd) :=
 let p:=(A4 L E s).pos
 let s1:=C5 L E s [109,111,100,101]
 let n:=(B1 L E s1 1).1.text
 let s2:=(B1 L E s1 1).2
 let v:=(B1 L E s2 3).1.value
 match K5 L E f [] (C5 L E (B1 L E s2 3).2 [123]) with
 | none=>none
 | some (l,s3)=>some (⟨n,v,l,p⟩,s3)
def J9:Nat->List Dc->Rd->Option (List Dc × Rd)
 | 0,_,_=>none
 | f+1,l,s =>
  let k:=B6 L E s C3
  if k<0 then some (l,s) else
  let s1:=B9 L E s ((l.length:Int)+1) 128 9
  if okR s1=true then J9 f (l++[(Q7 L E k s1).1]) (Q7 L E k s1).2 else J9 f l s1
def I9:Nat->List Md->Rd->Option (List Md × Rd)
 | 0,_,_=>none
 | f+1,l,s =>
  if okR s=true/\s.i<L.length then
   if isR L E s [109,111,100,101]=false then some (l,P2 L E s) else
   let s1:=B9 L E s ((l.length:Int)+1) 16 9
   if okR s1=true then
    match A0l L E f s1 with
    | none=>none
    | some (m,s2)=>I9 f (l++[m]) s2
   else I9 f l s1
  else some (l,s)
def Y8 (f:Nat) (s:Rd):Option (Ru × Rd) :=
 match J9 L E f [] s with
 | none=>none
 | some (d,s1) =>
  match I9 L E f [] s1 with
  | none=>none
  | some (m,s2)=>some (⟨d,m⟩,s2)
end
end Go.Pb
namespace Go.Pb
variable [Go.Sym.Tab]
open Go.Sym
section
variable {L:List Tok} {E:Int}
theorem O7 {s:Rd} {p e:Int} (he:e≠0):okR (M0 s p e)=false:=by
 unfold M0;split
 ·simp [okR,he]
 ·rename_i h;simpa using h
theorem V5 {s:Rd}:okR (P2 L E s)=false:=O7 (by decide)
theorem J7 {s:Rd} {n m e:Int} (he:e≠0) (h:okR (B9 L E s n m e)=true):okR s=true/\n<=m/\B9 L E s n m e=s:=by
 unfold B9 at h ⊢;split at h
 ·rw [O7 he] at h;cases h
 ·rename_i hn;rw [if_neg hn];exact ⟨h,by omega,rfl⟩
theorem A1g {s:Rd} {t:List UInt8} (h:isR L E s t=true):okR s=true/\s.i<L.length:=by
 unfold isR at h;simp only [A0D,A0W,A1G] at h;refine ⟨h.1.1,?_⟩;by_cases hi:s.i<L.length
 ·exact hi
 ·have e:A4 L E s=⟨0,[],0,E⟩:=by unfold A4;rw [A0S,A1Q (by omega)];rfl
  rw [e] at h;simp at h
theorem G4 {s:Rd} {k:Int} (h:F9 L E s k=true):okR s=true/\(A4 L E s).kind=k:=by
 unfold F9 at h;simp only [A0D,A1G] at h;exact h
theorem G2 {s:Rd} {k:Int} (hk:k≠0) (h:(A4 L E s).kind=k):A4 L E s∈L/\s.i<L.length:=by
 by_cases hi:s.i<L.length
 ·refine ⟨?_,hi⟩;unfold A4;rw [A0S,A0E hi];exact A1B hi
 ·exfalso;have e:A4 L E s=⟨0,[],0,E⟩:=by unfold A4;rw [A0S,A1Q (by omega)];rfl
  rw [e] at h;exact hk h.symm
theorem A5z {s:Rd} {t:List UInt8} (h:okR (C5 L E s t)=true):isR L E s t=true/\C5 L E s t=A6 s:=by
 unfold C5 at h ⊢;cases hi:isR L E s t with
 | false=>rw [hi] at h;simp only [if_true] at h;rw [V5] at h;cases h
 | true=>simp
theorem A2q {s:Rd} {k:Int} (h:okR (B1 L E s k).2=true):F9 L E s k=true/\B1 L E s k=(A4 L E s,A6 s):=by
 unfold B1 at h ⊢;cases hi:F9 L E s k with
 | false=>rw [hi] at h;simp only [if_true] at h;rw [V5] at h;cases h
 | true=>simp
theorem I4 {s:Rd}:∀ {l:List (List UInt8)} {k:Nat},0<=U9 L E s k l->okR s=true/\s.i<L.length/\(k:Int)<=U9 L E s k l/\U9 L E s k l<(k+l.length:Nat)
 | [],k,h=>by simp [U9] at h
 | t :: l,k,h=>by
  unfold U9 at h ⊢;cases hi:isR L E s t with
  | true =>
   rw [if_pos rfl];obtain ⟨h1,h2⟩:=A1g hi;exact ⟨h1,h2,A3G _,by simp only [A0B];omega⟩
  | false =>
   rw [hi] at h;simp only [A2C,if_false] at h ⊢;obtain ⟨h1,h2,h3,h4⟩:=I4 h;exact ⟨h1,h2,by omega,by simp only [A0B];omega⟩
end
structure RI (L:List Tok) (s:Rd):Prop where
 i:s.i<=L.length
 o0:0<=s.ops
 o1:s.ops<=33
 o2:okR s=true->s.ops<=32
 p0:0<=s.par
 p1:s.par<=16
section
variable {L:List Tok} {E:Int}
theorem RI.fail {s:Rd} {p e:Int} (he:e≠0) (h:RI L s):RI L (M0 s p e)/\(M0 s p e).par=s.par:=by
 have hk:=O7 (s:=s) (p:=p) he;have e1:(M0 s p e).i=s.i:=by unfold M0;split<;>rfl
 have e2:(M0 s p e).ops=s.ops:=by unfold M0;split<;>rfl
 have e3:(M0 s p e).par=s.par:=by unfold M0;split<;>rfl
 exact ⟨⟨by rw [e1];exact h.i,by rw [e2];exact h.o0,by rw [e2];exact h.o1,(fun k=>by rw [hk] at k;cases k),by rw [e3];exact h.p0,by rw [e3];exact h.p1⟩,e3⟩
theorem RI.syn {s:Rd} (h:RI L s):RI L (P2 L E s)/\(P2 L E s).par=s.par:=h.fail (by decide)
theorem RI.lim {s:Rd} {n m e:Int} (he:e≠0) (h:RI L s):RI L (B9 L E s n m e)/\(B9 L E s n m e).par=s.par:=by
 unfold B9;split
 ·exact h.fail he
 ·exact ⟨h,rfl⟩
theorem RI.nxt {s:Rd} (h:RI L s) (hi:s.i<L.length):RI L (A6 s):=⟨hi,h.o0,h.o1,h.o2,h.p0,h.p1⟩
theorem RI.exp {s:Rd} {x:List UInt8} (h:RI L s):RI L (C5 L E s x)/\(C5 L E s x).par=s.par:=by
 unfold C5;cases k:isR L E s x with
 | false=>rw [if_pos rfl];exact h.syn
 | true=>rw [if_neg (by simp)];exact ⟨h.nxt (A1g k).2,rfl⟩
theorem RI.take {s:Rd} {x:Int} (hx:x≠0) (h:RI L s):RI L (B1 L E s x).2/\(B1 L E s x).2.par=s.par:=by
 unfold B1;cases k:F9 L E s x with
 | false=>rw [if_pos rfl];exact h.syn
 | true=>rw [if_neg (by simp)];exact ⟨h.nxt (G2 hx (G4 k).2).2,rfl⟩
theorem RI.prim {s:Rd} (h:RI L s):RI L (G0 L E s).2/\(G0 L E s).2.par=s.par:=by
 unfold G0;dsimp only;split
 ·exact h.syn
 ·rename_i hc;have hok:okR s=true/\s.i<L.length:=by
   by_cases hk:0<=B6 L E s C9
   ·obtain ⟨h1,h2, -⟩:=I4 hk;exact ⟨h1,h2⟩
   ·cases h3:F9 L E s 3 with
    | true=>exact ⟨(G4 h3).1,(G2 (by decide) (G4 h3).2).2⟩
    | false =>
     cases h1:F9 L E s 1 with
     | true=>exact ⟨(G4 h1).1,(G2 (by decide) (G4 h1).2).2⟩
     | false=>exact absurd ⟨by omega,h3,h1⟩ hc
  have h32:=h.o2 hok.1;have ho:=h.o0;obtain ⟨s2,hs2⟩:∃ s2,s2=B9 L E { s with ops:=s.ops+1 } (s.ops+1) 32 9:=⟨_,rfl⟩;rw [<- hs2];cases h2:okR s2 with
  | false =>
   rw [if_pos rfl];have e1:s2.i=s.i:=by rw [hs2];unfold B9 M0;split<;>(try split)<;>rfl
   have e2:s2.ops=s.ops+1:=by rw [hs2];unfold B9 M0;split<;>(try split)<;>rfl
   have e3:s2.par=s.par:=by rw [hs2];unfold B9 M0;split<;>(try split)<;>rfl
   refine ⟨⟨?_,?_,?_,(fun k=>by rw [h2] at k;cases k),?_,?_⟩,e3⟩<;>dsimp only
   ·rw [e1];exact h.i
   ·omega
   ·omega
   ·rw [e3];exact h.p0
   ·rw [e3];exact h.p1
  | true =>
   rw [if_neg (by simp)];rw [hs2] at h2;obtain ⟨-,h4,h5⟩:=J7 (by decide) h2;rw [h5] at hs2;have h3:RI L (A6 s2):=by
    rw [hs2];exact ⟨hok.2,by show 0<=s.ops+1;omega,by show s.ops+1<=33;omega,fun _=>h4,h.p0,h.p1⟩
   have hp:(A6 s2).par=s.par:=by rw [hs2];rfl
   repeat' split
   ·exact ⟨(h3.take (by decide)).1,(h3.take (by decide)).2.trans hp⟩
   all_goals exact ⟨h3,hp⟩
theorem RI.all:∀ f:Nat,(∀ n s r,F1 L E f n s=some r->RI L s->RI L r.2/\r.2.par=s.par)/\(∀ n e s r,I5 L E f n e s=some r->RI L s->RI L r.2/\r.2.par=s.par)/\(∀ s r,K9 L E f s=some r->RI L s->RI L r.2/\r.2.par=s.par)
 | 0=>⟨fun n s r h=>by simp [F1] at h,fun n e s r h=>by simp [I5] at h,fun s r h=>by simp [K9] at h⟩
 | f+1=>by
  obtain ⟨i1,i2,i3⟩:=RI.all f;refine ⟨fun n s r h k=>?_,fun n e s r h k=>?_,fun s r h k=>?_⟩
  ·unfold F1 at h;split at h
   ·exact i3 _ _ h k
   ·cases hb:F1 L E f (n+1) s with
    | none=>rw [hb] at h;cases h
    | some q =>
     obtain ⟨e,s1⟩:=q;rw [hb] at h;obtain ⟨a1,a2⟩:=i1 _ _ _ hb k;obtain ⟨b1,b2⟩:=i2 _ _ _ _ h a1;exact ⟨b1,b2.trans a2⟩
  ·unfold I5 at h;dsimp only at h;split at h
   ·cases h;exact ⟨k,rfl⟩
   ·rename_i hk;have hk0:0<=B6 L E s B7:=Classical.byContradiction fun g=>hk (.inl (by omega));obtain ⟨-,hi, -⟩:=I4 hk0;cases hb:F1 L E f (n+1) (A6 s) with
    | none=>rw [hb] at h;cases h
    | some q =>
     obtain ⟨x,s1⟩:=q;rw [hb] at h;obtain ⟨a1,a2⟩:=i1 _ _ _ hb (k.nxt hi);dsimp only at h;split at h
     ·cases h;exact ⟨a1,a2⟩
     ·obtain ⟨b1,b2⟩:=i2 _ _ _ _ h a1;exact ⟨b1,b2.trans a2⟩
  ·unfold K9 at h;dsimp only at h;split at h
   ·cases h;exact k.prim
   ·rename_i hk;have hk0:0<=B6 L E s K0:=by omega
    obtain ⟨-,hi, -⟩:=I4 hk0;split at h
    ·cases h;exact k.lim (by decide)
    ·rename_i hl;have hl:okR (B9 L E s (s.par+1) 16 50)=true:=by simpa using hl
     obtain ⟨h1,h2,h3⟩:=J7 (by decide) hl;rw [h3] at h;have k2:RI L { s with i:=s.i+1,par:=s.par+1 }:=⟨hi,k.o0,k.o1,k.o2,by have:=k.p0;show 0<=s.par+1;omega,h2⟩;have fin:∀ z:Rd,RI L z->z.par=s.par+1->RI L { z with par:=z.par-1 }/\z.par-1=s.par:=fun z hz hp =>
      ⟨⟨hz.i,hz.o0,hz.o1,hz.o2,by have:=k.p0;show 0<=z.par-1;omega,by have:=k.p1;show z.par-1<=16;omega⟩,by omega⟩
     split at h
     ·cases hb:F1 L E f 1 { s with i:=s.i+1,par:=s.par+1 } with
      | none=>rw [hb] at h;cases h
      | some q =>
       obtain ⟨e,s3⟩:=q;rw [hb] at h;cases h;obtain ⟨a1,a2⟩:=i1 _ _ _ hb k2;obtain ⟨b1,b2⟩:=a1.exp (E:=E) (x:=[41]);exact fin _ b1 (b2.trans a2)
     ·cases hb:K9 L E f { s with i:=s.i+1,par:=s.par+1 } with
      | none=>rw [hb] at h;cases h
      | some q =>
       obtain ⟨e,s3⟩:=q;rw [hb] at h;cases h;obtain ⟨a1,a2⟩:=i3 _ _ hb k2;exact fin _ a1 a2
theorem D0r {s:Rd} {p e:Int}:(M0 s p e).i=s.i:=by unfold M0;split<;>rfl
theorem X1 {s:Rd}:(P2 L E s).i=s.i:=D0r
theorem H8 {s:Rd} {n m e:Int}:(B9 L E s n m e).i=s.i:=by unfold B9;split;exact D0r;rfl
theorem V4 {s:Rd} {x:List UInt8} (h:s.i<=L.length):(C5 L E s x).i<=L.length:=by
 unfold C5;cases k:isR L E s x with
 | false=>rw [if_pos rfl,X1];exact h
 | true=>rw [if_neg (by simp)];exact (A1g k).2
theorem Y0 {s:Rd} {x:Int} (hx:x≠0) (h:s.i<=L.length):(B1 L E s x).2.i<=L.length:=by
 unfold B1;cases k:F9 L E s x with
 | false=>rw [if_pos rfl,X1];exact h
 | true=>rw [if_neg (by simp)];exact (G2 hx (G4 k).2).2
theorem A5y {f:Nat} {s:Rd} {r:Ex × Rd} (h:H7 L E f s=some r) (hi:s.i<=L.length):r.2.i<=L.length :=
 ((RI.all f).1 1 { s with ops:=0,par:=0 } r h ⟨hi,A3G 0,(by decide:(0:Int)<=33),fun _=>(by decide:(0:Int)<=32),A3G 0,(by decide:(0:Int)<=16)⟩).1.i
theorem D8f {f:Nat} {k p:Int} {s:Rd} {r:St × Rd} (h:G9 L E f k p s=some r) (hi:s.i<=L.length):r.2.i<=L.length:=by
 unfold G9 at h;dsimp only at h;split at h
 ·split at h
  ·cases h
  ·rename_i he;cases h;exact V4 (A5y he hi)
 split at h
 ·split at h
  ·cases h
  ·rename_i he;cases h;exact V4 (A5y he (V4 (Y0 (by decide) hi)))
 split at h
 ·cases h;exact V4 hi
 have h0:=Y0 (E:=E) (x:=1) (by decide) hi;split at h
 ·split at h
  ·cases h
  ·rename_i he;split at h
   ·split at h
    ·cases h
    ·rename_i he2;cases h;exact V4 (A5y he2 (V4 (A5y he h0)))
   ·cases h;exact V4 (A5y he h0)
 ·cases h;exact V4 h0
theorem II.all:∀ f:Nat,(∀ d s r,F6 L E f d s=some r->s.i<=L.length->r.2.i<=L.length)/\(∀ d l s r,J3 L E f d l s=some r->s.i<=L.length->r.2.i<=L.length)/\(∀ d s r,K7 L E f d s=some r->s.i<=L.length->r.2.i<=L.length)/\(∀ d s r,N5 L E f d s=some r->s.i<=L.length->r.2.i<=L.length)
 | 0=>⟨fun d s r h=>by simp [F6] at h,fun d l s r h=>by simp [J3] at h,fun d s r h=>by simp [K7] at h,fun d s r h=>by simp [N5] at h⟩
 | f+1=>by
  obtain ⟨i1,i2,i3,i4⟩:=II.all f;refine ⟨fun d s r h k=>?_,fun d l s r h k=>?_,fun d s r h k=>?_,fun d s r h k=>?_⟩
  ·unfold F6 at h;exact i2 _ _ _ _ h (V4 k)
  ·unfold J3 at h;split at h
   ·split at h
    ·cases h;rw [X1];exact k
    ·split at h
     ·cases h
     ·rename_i he;exact i2 _ _ _ _ h (i3 _ _ _ he (by rw [H8];exact k))
   ·cases h;exact V4 k
  ·unfold K7 at h;dsimp only at h;split at h
   ·cases h;rw [H8];exact k
   ·split at h
    ·split at h
     ·cases h
     ·rename_i he;cases h;exact V4 (A5y he (V4 (Y0 (by decide) (by rw [H8];exact k))))
    ·rename_i hk;have hn:(A6 (B9 L E s d 8 50)).i<=L.length:=(I4 (show 0<=B6 L E (B9 L E s d 8 50) B3 by omega)).2.1;split at h
     ·split at h
      ·cases h
      ·rename_i he;split at h
       ·cases h
       ·rename_i hb;have h3:=i1 _ _ _ hb (A5y he hn);split at h
        ·rename_i hc;split at h
         ·cases h
         ·rename_i ho;cases h;exact i4 _ _ _ ho (A1g hc.2).2
        ·cases h;exact h3
     ·exact D8f h hn
  ·unfold N5 at h;split at h
   ·split at h
    ·cases h
    ·rename_i he;cases h;exact i3 _ _ _ he k
   ·exact i1 _ _ _ h k
end
end Go.Pb
namespace Go.Pb
variable [Go.Sym.Tab]
open Go.Sym
section
variable {L:List Tok} {E:Int}
theorem E6g {k:Int} {s:Rd} (hi:s.i<L.length):(Q7 L E k s).2.i<=L.length:=by
 have hn:(A6 s).i<=L.length:=hi;have h2:=Y0 (E:=E) (x:=1) (by decide) hn;unfold Q7;dsimp only;split
 ·refine V4 (Y0 (by decide) ?_);split
  ·rename_i hm;rw [A0D] at hm;exact (A1g hm.2).2
  ·exact h2
 ·exact V4 h2
theorem D6u:∀ (f:Nat) (l:List Hd) (s:Rd) (r:List Hd × Rd),K5 L E f l s=some r->s.i<=L.length->r.2.i<=L.length
 | 0,l,s,r,h,hi=>by simp [K5] at h
 | f+1,l,s,r,h,hi=>by
  unfold K5 at h;dsimp only at h;split at h
  ·split at h
   ·cases h;rw [X1];exact hi
   ·have h1:(B9 L E s ((l.length:Int)+1) 32 9).i<=L.length:=by rw [H8];exact hi
    have h2:=V4 (E:=E) (x:=[111,110]) h1;split at h
    ·cases h;rw [X1];exact h2
    ·rename_i hk;have h3:(A6 (C5 L E (B9 L E s ((l.length:Int)+1) 32 9) [111,110])).i<=L.length:=(I4 (show 0<=B6 L E (C5 L E (B9 L E s ((l.length:Int)+1) 32 9) [111,110]) C8 by omega)).2.1;split at h
     ·cases h
     ·rename_i hb;refine D6u f _ _ _ h ((II.all f).1 _ _ _ hb ?_);split
      ·exact Y0 (by decide) h3
      ·exact h3
  ·cases h;exact V4 hi
theorem E4f {f:Nat} {s:Rd} {r:Md × Rd} (h:A0l L E f s=some r) (hi:s.i<=L.length):r.2.i<=L.length:=by
 unfold A0l at h;dsimp only at h;split at h
 ·cases h
 ·rename_i hm;cases h;exact D6u f _ _ _ hm (V4 (Y0 (by decide) (Y0 (by decide) (V4 hi))))
theorem C8d:∀ (f:Nat) (l:List Dc) (s:Rd) (r:List Dc × Rd),J9 L E f l s=some r->s.i<=L.length->r.2.i<=L.length
 | 0,l,s,r,h,hi=>by simp [J9] at h
 | f+1,l,s,r,h,hi=>by
  unfold J9 at h;dsimp only at h;split at h
  ·cases h;exact hi
  ·rename_i hk;have hlt:=(I4 (show 0<=B6 L E s C3 by omega)).2.1;split at h
   ·exact C8d f _ _ _ h (E6g (by rw [H8];exact hlt))
   ·exact C8d f _ _ _ h (by rw [H8];exact hi)
theorem C8b:∀ (f:Nat) (l:List Md) (s:Rd) (r:List Md × Rd),I9 L E f l s=some r->s.i<=L.length->r.2.i<=L.length
 | 0,l,s,r,h,hi=>by simp [I9] at h
 | f+1,l,s,r,h,hi=>by
  unfold I9 at h;dsimp only at h;split at h
  ·split at h
   ·cases h;rw [X1];exact hi
   ·split at h
    ·split at h
     ·cases h
     ·rename_i hm;exact C8b f _ _ _ h (E4f hm (by rw [H8];exact hi))
    ·exact C8b f _ _ _ h (by rw [H8];exact hi)
  ·cases h;exact hi
end
end Go.Pb
namespace Go.Pb
variable [Go.Sym.Tab]
open Go.Sym
def Evt {α : Type} (g:Nat->Option α) (r : α):Prop:=∃ N, ∀ f,N<=f->g f=some r
theorem Evt.one {α : Type} {g:Nat->Option α} {r : α} (h:∀ f,g (f+1)=some r):Evt g r :=
 ⟨1,fun f hf=>by obtain ⟨k,rfl⟩:∃ k,f=k+1:=⟨f-1,by omega⟩;exact h k⟩
theorem Evt.ext {α β : Type} {g:Nat->Option α} {h:Nat->Option β} {r : α} {q : β} (hg:Evt g r) (e:∀ f,g f=some r->h (f+1)=some q):Evt h q:=by
 obtain ⟨N,hg⟩:=hg;exact ⟨N+1,fun f hf=>by obtain ⟨k,rfl⟩:∃ k,f=k+1:=⟨f-1,by omega⟩;exact e k (hg k (by omega))⟩
theorem Evt.map {α β : Type} {g:Nat->Option α} {h:Nat->Option β} {r : α} {q : β} (hg:Evt g r) (e:∀ f,g f=some r->h f=some q):Evt h q:=by
 obtain ⟨N,hg⟩:=hg;exact ⟨N,fun f hf=>e f (hg f hf)⟩
theorem Evt.and {α β : Type} {g:Nat->Option α} {h:Nat->Option β} {r : α} {q : β} (hg:Evt g r) (hh:Evt h q):Evt (fun f=>match g f,h f with|some a,some b=>some (a,b)|_,_=>none) (r,q):=by
 obtain ⟨N,hg⟩:=hg;obtain ⟨M,hh⟩:=hh;exact ⟨max N M,fun f hf=>by dsimp only;rw [hg f (by omega),hh f (by omega)]⟩
theorem Evt.ext2 {α β γ : Type} {g:Nat->Option α} {h:Nat->Option β} {k:Nat->Option γ} {r : α} {q : β} {w : γ} (hg:Evt g r) (hh:Evt h q) (e:∀ f,g f=some r->h f=some q->k (f+1)=some w):Evt k w:=by
 obtain ⟨N,hg⟩:=hg;obtain ⟨M,hh⟩:=hh;exact ⟨max N M+1,fun f hf=>by obtain ⟨j,rfl⟩:∃ j,f=j+1:=⟨f-1,by omega⟩;exact e j (hg j (by omega)) (hh j (by omega))⟩
theorem Evt.map2 {α β γ : Type} {g:Nat->Option α} {h:Nat->Option β} {k:Nat->Option γ} {r : α} {q : β} {w : γ} (hg:Evt g r) (hh:Evt h q) (e:∀ f,g f=some r->h f=some q->k f=some w):Evt k w:=by
 obtain ⟨N,hg⟩:=hg;obtain ⟨M,hh⟩:=hh;exact ⟨max N M,fun f hf=>e f (hg f (by omega)) (hh f (by omega))⟩
theorem Evt.uniq {α : Type} {g:Nat->Option α} {r q : α} (h1:Evt g r) (h2:Evt g q):r=q:=by
 obtain ⟨N,h1⟩:=h1;obtain ⟨M,h2⟩:=h2;exact Option.some.inj ((h1 (max N M) (by omega)).symm.trans (h2 (max N M) (by omega)))
theorem Evt.get {α : Type} {g:Nat->Option α} {r : α} (h:Evt g r):∃ f,g f=some r:=by
 obtain ⟨N,h⟩:=h;exact ⟨N,h N (A0H _)⟩
section
variable {L:List Tok} {E:Int}
abbrev Bin (L:List Tok) (E n:Int) (s:Rd) (r:Ex × Rd):Prop:=Evt (fun f=>F1 L E f n s) r
abbrev Lop (L:List Tok) (E n:Int) (e:Ex) (s:Rd) (r:Ex × Rd):Prop:=Evt (fun f=>I5 L E f n e s) r
abbrev Un (L:List Tok) (E:Int) (s:Rd) (r:Ex × Rd):Prop:=Evt (fun f=>K9 L E f s) r
theorem Bin.un {n:Int} {s:Rd} {r:Ex × Rd} (hn:5<n) (h:Un L E s r):Bin L E n s r :=
 h.ext fun f h=>by rw [F1,if_pos hn];exact h
theorem Bin.go {n:Int} {s s1:Rd} {e:Ex} {r:Ex × Rd} (hn:n<=5) (h:Bin L E (n+1) s (e,s1)) (h2:Lop L E n e s1 r):Bin L E n s r :=
 h.ext2 h2 fun f h h2=>by rw [F1,if_neg (by omega),h];exact h2
theorem Lop.stop {n:Int} {e:Ex} {s:Rd} (h:B6 L E s B7<0\/B4 (12+B6 L E s B7)≠n):Lop L E n e s (e,s) :=
 Evt.one fun f=>by rw [I5];dsimp only;rw [if_pos h]
theorem Lop.three {n:Int} {e x:Ex} {s s1:Rd} (h0:0<=B6 L E s B7) (h1:B4 (12+B6 L E s B7)=n) (hn:n=3) (hb:Bin L E (n+1) (A6 s) (x,s1)):Lop L E n e s (.mk (12+B6 L E s B7) 0 [] [e,x] (A4 L E s).pos,s1) :=
 hb.ext fun f h=>by rw [I5];dsimp only;rw [if_neg (by omega),h];dsimp only;rw [if_pos hn]
theorem Lop.more {n:Int} {e x:Ex} {s s1:Rd} {r:Ex × Rd} (h0:0<=B6 L E s B7) (h1:B4 (12+B6 L E s B7)=n) (hn:n≠3) (hb:Bin L E (n+1) (A6 s) (x,s1)) (hl:Lop L E n (.mk (12+B6 L E s B7) 0 [] [e,x] (A4 L E s).pos) s1 r):Lop L E n e s r :=
 hb.ext2 hl fun f h h2=>by rw [I5];dsimp only;rw [if_neg (by omega),h];dsimp only;rw [if_neg hn];exact h2
theorem Un.prim {s:Rd} (h:B6 L E s K0<0):Un L E s (G0 L E s) :=
 Evt.one fun f=>by rw [K9];dsimp only;rw [if_pos h]
theorem Un.bad {s:Rd} (h:0<=B6 L E s K0) (hl:okR (B9 L E s (s.par+1) 16 50)=false):Un L E s (Ex0,B9 L E s (s.par+1) 16 50) :=
 Evt.one fun f=>by rw [K9];dsimp only;rw [if_neg (by omega),if_pos hl]
theorem Un.par {s s3:Rd} {e:Ex} (h:B6 L E s K0=2) (hl:okR (B9 L E s (s.par+1) 16 50)=true) (hb:Bin L E 1 { s with i:=s.i+1,par:=s.par+1 } (e,s3)):Un L E s (e, { C5 L E s3 [41] with par:=(C5 L E s3 [41]).par-1 }) :=
 hb.ext fun f hf=>by
  have e0:=(J7 (by decide) hl).2.2;rw [K9];dsimp only;rw [if_neg (by omega),if_neg (by rw [hl];decide),e0,if_pos h,hf]
theorem Un.pre {s s3:Rd} {e:Ex} (h0:0<=B6 L E s K0) (h:B6 L E s K0≠2) (hl:okR (B9 L E s (s.par+1) 16 50)=true) (hb:Un L E { s with i:=s.i+1,par:=s.par+1 } (e,s3)):Un L E s (.mk (10+B6 L E s K0) 0 [] [e] (A4 L E s).pos, { s3 with par:=s3.par-1 }) :=
 hb.ext fun f hf=>by
  have e0:=(J7 (by decide) hl).2.2;rw [K9];dsimp only;rw [if_neg (by omega),if_neg (by rw [hl];decide),e0,if_neg h,hf]
theorem E5 {s:Rd} {x:List UInt8}:s.i<=(C5 L E s x).i:=by
 unfold C5;cases k:isR L E s x with
 | false=>rw [if_pos rfl,X1];exact A0H _
 | true=>rw [if_neg (by simp)];exact A3F _
theorem J4 {s:Rd} {x:Int}:s.i<=(B1 L E s x).2.i:=by
 unfold B1;cases k:F9 L E s x with
 | false=>rw [if_pos rfl];show s.i<=(P2 L E s).i;rw [X1];exact A0H _
 | true=>rw [if_neg (by simp)];exact A3F _
theorem C3b {s:Rd}:s.i<=(G0 L E s).2.i:=by
 unfold G0;dsimp only;have h2:(B9 L E { s with ops:=s.ops+1 } (s.ops+1) 32 9).i=s.i:=H8;have h3:(A6 (B9 L E { s with ops:=s.ops+1 } (s.ops+1) 32 9)).i=s.i+1:=by show (B9 L E { s with ops:=s.ops+1 } (s.ops+1) 32 9).i+1=_;rw [h2]
 split
 ·show s.i<=(P2 L E s).i;rw [X1];exact A0H _
 ·split
  ·show s.i<=(B9 L E { s with ops:=s.ops+1 } (s.ops+1) 32 9).i;rw [h2];exact A0H _
  ·have:=J4 (L:=L) (E:=E) (s:=A6 (B9 L E { s with ops:=s.ops+1 } (s.ops+1) 32 9)) (x:=1);repeat' split
   all_goals (first|(show s.i<=(B1 L E _ 1).2.i;omega)|(show s.i<=(A6 _).i;omega))
theorem ET.all:∀ (m:Nat),(∀ s:Rd,L.length-s.i<=m->∃ r,Un L E s r/\s.i<=r.2.i)/\(∀ (n:Int) e (s:Rd),n<=5->1<=n->L.length-s.i<=m->∃ r,Lop L E n e s r/\s.i<=r.2.i)/\(∀ (n:Int) (s:Rd),1<=n->L.length-s.i<=m->∃ r,Bin L E n s r/\s.i<=r.2.i):=by
 intro m
 induction m using Nat.strongRecOn with
 | _ m ih =>
  have A:∀ s:Rd,L.length-s.i<=m->∃ r,Un L E s r/\s.i<=r.2.i:=by
   intro s hs;by_cases hk:B6 L E s K0<0
   ·exact ⟨_,Un.prim hk,C3b⟩
   ·obtain ⟨-,hi, -⟩:=I4 (show 0<=B6 L E s K0 by omega);cases hl:okR (B9 L E s (s.par+1) 16 50) with
    | false=>exact ⟨_,Un.bad (by omega) hl,by show s.i<=(B9 L E s (s.par+1) 16 50).i;rw [H8];exact A0H _⟩
    | true =>
     by_cases h2:B6 L E s K0=2
     ·obtain ⟨⟨e,s3⟩,hb,hge⟩:=(ih (m-1) (by omega)).2.2 1 { s with i:=s.i+1,par:=s.par+1 } (by decide) (by show L.length-(s.i+1)<=m-1;omega);refine ⟨_,Un.par h2 hl hb,?_⟩;have h4:=E5 (L:=L) (E:=E) (s:=s3) (x:=[41]);have h5:s.i+1<=s3.i:=hge;show s.i<=(C5 L E s3 [41]).i;omega
     ·obtain ⟨⟨e,s3⟩,hb,hge⟩:=(ih (m-1) (by omega)).1 { s with i:=s.i+1,par:=s.par+1 } (by show L.length-(s.i+1)<=m-1;omega);refine ⟨_,Un.pre (by omega) h2 hl hb,?_⟩;have h5:s.i+1<=s3.i:=hge;show s.i<=s3.i;omega
  have B:∀ (n:Int) e (s:Rd),n<=5->1<=n->L.length-s.i<=m->∃ r,Lop L E n e s r/\s.i<=r.2.i:=by
   intro n e s h5 h1 hs;by_cases hk:B6 L E s B7<0\/B4 (12+B6 L E s B7)≠n
   ·exact ⟨_,Lop.stop hk,A0H _⟩
   ·have h0:0<=B6 L E s B7:=by omega
    obtain ⟨-,hi, -⟩:=I4 h0;obtain ⟨⟨x,s1⟩,hb,hge⟩:=(ih (m-1) (by omega)).2.2 (n+1) (A6 s) (by omega) (by show L.length-(s.i+1)<=m-1;omega);have hge:s.i+1<=s1.i:=hge;by_cases h3:n=3
    ·exact ⟨_,Lop.three h0 (by omega) h3 hb,by show s.i<=s1.i;omega⟩
    ·obtain ⟨r,hl,hg2⟩:=(ih (m-1) (by omega)).2.1 n (.mk (12+B6 L E s B7) 0 [] [e,x] (A4 L E s).pos) s1 h5 h1 (by omega);exact ⟨_,Lop.more h0 (by omega) h3 hb hl,by omega⟩
  refine ⟨A,B,?_⟩;have C:∀ (j:Nat) (n:Int) (s:Rd),6-n<=j->1<=n->L.length-s.i<=m->∃ r,Bin L E n s r/\s.i<=r.2.i:=by
   intro j
   induction j with
   | zero =>
    intro n s hj h1 hs;obtain ⟨r,h,hg⟩:=A s hs;exact ⟨r,Bin.un (by omega) h,hg⟩
   | succ j ihj =>
    intro n s hj h1 hs;by_cases h5:5<n
    ·obtain ⟨r,h,hg⟩:=A s hs;exact ⟨r,Bin.un h5 h,hg⟩
    ·obtain ⟨⟨e,s1⟩,h,hg⟩:=ihj (n+1) s (by omega) (by omega) hs;have hg:s.i<=s1.i:=hg;obtain ⟨r,h2,hg2⟩:=B n e s1 (by omega) h1 (by omega);exact ⟨r,Bin.go (by omega) h h2,by omega⟩
  exact fun n s h1 hs=>C (6-n).toNat n s (by omega) h1 hs
abbrev Xpn (L:List Tok) (E:Int) (s:Rd) (r:Ex × Rd):Prop:=Evt (fun f=>H7 L E f s) r
theorem A1a (s:Rd):∃ r,Xpn L E s r/\s.i<=r.2.i:=by
 obtain ⟨r,h,hg⟩:=(ET.all (L:=L) (E:=E) (L.length-s.i)).2.2 1 { s with ops:=0,par:=0 } (by decide) (A0H _);exact ⟨r,h,hg⟩
theorem C7c (k p:Int) (s:Rd):∃ r,Evt (fun f=>G9 L E f k p s) r/\s.i<=r.2.i:=by
 by_cases h4:k=4
 ·obtain ⟨⟨e,s1⟩,h,hg⟩:=A1a (L:=L) (E:=E) s;exact ⟨_,h.map fun f h=>by unfold G9;rw [if_pos h4,h],A1U hg E5⟩
 by_cases h18:k=18
 ·obtain ⟨⟨e,s1⟩,h,hg⟩:=A1a (L:=L) (E:=E) (C5 L E (B1 L E s 4).2 [44]);exact ⟨_,h.map fun f h=>by unfold G9;rw [if_neg h4,if_pos h18,h],A1U (A1U J4 (A1U E5 hg)) E5⟩
 by_cases h19:k=19
 ·exact ⟨_,Evt.one fun f=>by unfold G9;rw [if_neg h4,if_neg h18,if_pos h19],E5⟩
 by_cases h8:k=8\/k=9\/k=10
 ·obtain ⟨⟨e,s1⟩,h,hg⟩:=A1a (L:=L) (E:=E) (B1 L E s 1).2;by_cases h9:k=9
  ·obtain ⟨⟨e2,s2⟩,h2,hg2⟩:=A1a (L:=L) (E:=E) (C5 L E s1 [44]);exact ⟨_,h.map2 h2 fun f h h2=>by unfold G9;rw [if_neg h4,if_neg h18,if_neg h19];dsimp only;rw [if_pos h8,h];dsimp only;rw [if_pos h9,h2],A1U (A1U J4 (A1U hg (A1U E5 hg2))) E5⟩
  ·exact ⟨_,h.map fun f h=>by unfold G9;rw [if_neg h4,if_neg h18,if_neg h19];dsimp only;rw [if_pos h8,h];dsimp only;rw [if_neg h9],A1U (A1U J4 hg) E5⟩
 ·exact ⟨_,Evt.one fun f=>by unfold G9;rw [if_neg h4,if_neg h18,if_neg h19];dsimp only;rw [if_neg h8],A1U J4 E5⟩
abbrev A7m (L:List Tok) (E d:Int) (s:Rd) (r:List St × Rd):Prop:=Evt (fun f=>F6 L E f d s) r
abbrev Z6 (L:List Tok) (E d:Int) (l:List St) (s:Rd) (r:List St × Rd):Prop:=Evt (fun f=>J3 L E f d l s) r
abbrev O2 (L:List Tok) (E d:Int) (s:Rd) (r:St × Rd):Prop:=Evt (fun f=>K7 L E f d s) r
abbrev A7k (L:List Tok) (E d:Int) (s:Rd) (r:List St × Rd):Prop:=Evt (fun f=>N5 L E f d s) r
theorem A7m.mk {d:Int} {s:Rd} {r:List St × Rd} (h:Z6 L E d [] (C5 L E s [123]) r):A7m L E d s r :=
 h.ext fun f h=>by rw [F6];exact h
theorem Z6.stop {d:Int} {l:List St} {s:Rd} (h:¬ (okR s=true/\isR L E s [125]=false)):Z6 L E d l s (l,C5 L E s [125]) :=
 Evt.one fun f=>by rw [J3,if_neg h]
theorem Z6.bad {d:Int} {l:List St} {s:Rd} (h:okR s=true/\isR L E s [125]=false) (h2:B6 L E s B3<0/\F9 L E s 1=false):Z6 L E d l s ([],P2 L E s) :=
 Evt.one fun f=>by rw [J3,if_pos h,if_pos h2]
theorem Z6.more {d:Int} {l:List St} {s s1:Rd} {x:St} {r:List St × Rd} (h:okR s=true/\isR L E s [125]=false) (h2:¬ (B6 L E s B3<0/\F9 L E s 1=false)) (hx:O2 L E d (B9 L E s ((l.length:Int)+1) 64 9) (x,s1)) (hl:Z6 L E d (l++[x]) s1 r):Z6 L E d l s r :=
 hx.ext2 hl fun f hx hl=>by rw [J3,if_pos h,if_neg h2,hx];exact hl
theorem O2.bad {d:Int} {s:Rd} (h:okR (B9 L E s d 8 50)=false):O2 L E d s (St0,B9 L E s d 8 50) :=
 Evt.one fun f=>by rw [K7];dsimp only;rw [if_pos h]
theorem O2.set {d:Int} {s s1:Rd} {e:Ex} (h:okR (B9 L E s d 8 50)=true) (hk:B6 L E s B3<0) (he:Xpn L E (C5 L E (B1 L E s 1).2 [61]) (e,s1)):O2 L E d s (.mk 1 (B1 L E s 1).1.text [] [e] [] [] (A4 L E s).pos,C5 L E s1 [59]) :=
 he.ext fun f hf=>by
  have e0:=(J7 (by decide) h).2.2;rw [K7];dsimp only;rw [if_neg (by rw [h];decide),e0,if_pos hk,hf]
theorem O2.els {d:Int} {s s2 s3 s4:Rd} {e:Ex} {t o:List St} (h:okR (B9 L E s d 8 50)=true) (hk:B6 L E s B3=0) (he:Xpn L E (A6 s) (e,s2)) (ht:A7m L E (d+1) s2 (t,s3)) (hi:isR L E s3 [101,108,115,101]=true) (ho:A7k L E d (A6 s3) (o,s4)):O2 L E d s (.mk 2 [] [] [e] t o (A4 L E s).pos,s4) :=
 (he.and ht).ext2 ho fun f hf h2=>by
  have e0:=(J7 (by decide) h).2.2;cases h3:H7 L E f (A6 s) with
  | none=>rw [h3] at hf;cases hf
  | some q =>
   cases h4:F6 L E f (d+1) s2 with
   | none=>rw [h3,h4] at hf;cases hf
   | some w =>
    rw [h3,h4] at hf;obtain ⟨rfl,rfl⟩:=Prod.mk.inj (Option.some.inj hf);rw [K7];dsimp only;rw [if_neg (by rw [h];decide),e0,if_neg (by omega),if_pos (.inl hk),h3];dsimp only;rw [h4];dsimp only;rw [if_pos ⟨hk,hi⟩,h2]
theorem O2.blk {d:Int} {s s2 s3:Rd} {e:Ex} {t:List St} (h:okR (B9 L E s d 8 50)=true) (hk:B6 L E s B3=0\/B6 L E s B3=1) (he:Xpn L E (A6 s) (e,s2)) (ht:A7m L E (d+1) s2 (t,s3)) (hi:¬ (B6 L E s B3=0/\isR L E s3 [101,108,115,101]=true)):O2 L E d s (.mk (2+B6 L E s B3) [] [] [e] t [] (A4 L E s).pos,s3) :=
 he.ext2 ht fun f h3 h4=>by
  have e0:=(J7 (by decide) h).2.2;rw [K7];dsimp only;rw [if_neg (by rw [h];decide),e0,if_neg (by omega),if_pos hk,h3];dsimp only;rw [h4];dsimp only;rw [if_neg hi]
theorem O2.tail {d:Int} {s:Rd} {r:St × Rd} (h:okR (B9 L E s d 8 50)=true) (hk:2<=B6 L E s B3) (he:Evt (fun f=>G9 L E f (2+B6 L E s B3) (A4 L E s).pos (A6 s)) r):O2 L E d s r :=
 he.ext fun f h3=>by
  have e0:=(J7 (by decide) h).2.2;rw [K7];dsimp only;rw [if_neg (by rw [h];decide),e0,if_neg (by omega),if_neg (by omega)];exact h3
theorem A7k.iff {d:Int} {s s1:Rd} {x:St} (h:isR L E s [105,102]=true) (hs:O2 L E (d+1) s (x,s1)):A7k L E d s ([x],s1) :=
 hs.ext fun f hf=>by rw [N5,if_pos h,hf]
theorem A7k.blk {d:Int} {s:Rd} {r:List St × Rd} (h:isR L E s [105,102]=false) (hs:A7m L E (d+1) s r):A7k L E d s r :=
 hs.ext fun f hf=>by rw [N5,if_neg (by rw [h];decide)];exact hf
theorem ST.all:∀ (m:Nat),(∀ d (s:Rd),L.length-s.i<=m->∃ r,O2 L E d s r/\s.i<=r.2.i/\(okR (B9 L E s d 8 50)=true->(0<=B6 L E s B3\/F9 L E s 1=true)->s.i<r.2.i)) /\
  (∀ d l (s:Rd),L.length-s.i<=m->∃ r,Z6 L E d l s r/\s.i<=r.2.i):=by
 intro m
 induction m using Nat.strongRecOn with
 | _ m ih =>
  have blk:∀ d (s:Rd),L.length-s.i<m->∃ r,A7m L E d s r/\s.i<=r.2.i:=by
   intro d s hs;have h0:=E5 (L:=L) (E:=E) (s:=s) (x:=[123]);obtain ⟨r,h,hg⟩:=(ih _ hs).2 d [] (C5 L E s [123]) (by omega);exact ⟨r,A7m.mk h,by omega⟩
  have oth:∀ d (s:Rd),L.length-s.i<m->∃ r,A7k L E d s r/\s.i<=r.2.i:=by
   intro d s hs;cases hi:isR L E s [105,102] with
   | true =>
    obtain ⟨⟨x,s1⟩,h,hg, -⟩:=(ih _ hs).1 (d+1) s (A0H _);exact ⟨_,A7k.iff hi h,hg⟩
   | false =>
    obtain ⟨r,h,hg⟩:=blk (d+1) s hs;exact ⟨r,A7k.blk hi h,hg⟩
  have A:∀ d (s:Rd),L.length-s.i<=m->∃ r,O2 L E d s r/\s.i<=r.2.i/\(okR (B9 L E s d 8 50)=true->(0<=B6 L E s B3\/F9 L E s 1=true)->s.i<r.2.i):=by
   intro d s hs;cases hl:okR (B9 L E s d 8 50) with
   | false=>exact ⟨_,O2.bad hl,by show s.i<=(B9 L E s d 8 50).i;rw [H8];exact A0H _,fun h=>by cases h⟩
   | true =>
    by_cases hk:B6 L E s B3<0
    ·obtain ⟨⟨e,s1⟩,he,hg⟩:=A1a (L:=L) (E:=E) (C5 L E (B1 L E s 1).2 [61]);have hg:(C5 L E (B1 L E s 1).2 [61]).i<=s1.i:=hg;have h1:=E5 (L:=L) (E:=E) (s:=s1) (x:=[59]);have h2:=E5 (L:=L) (E:=E) (s:=(B1 L E s 1).2) (x:=[61]);have h3:=J4 (L:=L) (E:=E) (s:=s) (x:=1);refine ⟨_,O2.set hl hk he,by show s.i<=(C5 L E s1 [59]).i;omega,fun _ hc=>?_⟩;have h4:F9 L E s 1=true:=hc.resolve_left (by omega);have h5:(B1 L E s 1).2.i=s.i+1:=by unfold B1;rw [if_neg (by rw [h4];decide)];rfl
     show s.i<(C5 L E s1 [59]).i;omega
    ·obtain ⟨-,hi, -,hk18⟩:=I4 (show 0<=B6 L E s B3 by omega);by_cases h01:B6 L E s B3=0\/B6 L E s B3=1
     ·obtain ⟨⟨e,s2⟩,he,hg⟩:=A1a (L:=L) (E:=E) (A6 s);have hg:s.i+1<=s2.i:=hg;obtain ⟨⟨t,s3⟩,ht,hg3⟩:=blk (d+1) s2 (by omega);have hg3:s2.i<=s3.i:=hg3;by_cases hc:B6 L E s B3=0/\isR L E s3 [101,108,115,101]=true
      ·have hi3:=(A1g hc.2).2;obtain ⟨⟨o,s4⟩,ho,hg4⟩:=oth d (A6 s3) (by show L.length-(s3.i+1)<m;omega);have hg4:s3.i+1<=s4.i:=hg4;exact ⟨_,O2.els hl hc.1 he ht hc.2 ho,by show s.i<=s4.i;omega,fun _ _=>by show s.i<s4.i;omega⟩
      ·exact ⟨_,O2.blk hl h01 he ht hc,by show s.i<=s3.i;omega,fun _ _=>by show s.i<s3.i;omega⟩
     ·obtain ⟨r,hr,hg⟩:=C7c (L:=L) (E:=E) (2+B6 L E s B3) (A4 L E s).pos (A6 s);have hg:s.i+1<=r.2.i:=hg;exact ⟨_,O2.tail hl (by omega) hr,by omega,fun _ _=>by omega⟩
  refine ⟨A,fun d l s hs=>?_⟩;by_cases hc:okR s=true/\isR L E s [125]=false
  ·by_cases h2:B6 L E s B3<0/\F9 L E s 1=false
   ·exact ⟨_,Z6.bad hc h2,by show s.i<=(P2 L E s).i;rw [X1];exact A0H _⟩
   ·have hlt:s.i<L.length:=by
     by_cases hk:0<=B6 L E s B3
     ·exact (I4 hk).2.1
     ·cases h1:F9 L E s 1 with
      | false=>exact absurd ⟨by omega,h1⟩ h2
      | true=>exact (G2 (by decide) (G4 h1).2).2
    cases hl:okR (B9 L E s ((l.length:Int)+1) 64 9) with
    | false =>
     have hb:okR (B9 L E (B9 L E s ((l.length:Int)+1) 64 9) d 8 50)=false:=by
      cases hz:okR (B9 L E (B9 L E s ((l.length:Int)+1) 64 9) d 8 50) with
      | false=>rfl
      | true=>rw [(J7 (by decide) hz).1] at hl;cases hl
     have hx:=O2.bad hb;refine ⟨_,Z6.more hc h2 hx (Z6.stop (by rw [hb];simp)),?_⟩;have h1:=E5 (L:=L) (E:=E) (s:=B9 L E (B9 L E s ((l.length:Int)+1) 64 9) d 8 50) (x:=[125]);rw [H8,H8] at h1;exact h1
    | true =>
     have e0:=(J7 (by decide) hl).2.2;obtain ⟨⟨x,s1⟩,hx,hg,hprog⟩:=A d s hs;have hg:s.i<=s1.i:=hg;cases hd:okR (B9 L E s d 8 50) with
     | false =>
      have hx:=O2.bad hd;refine ⟨_,Z6.more hc h2 (by rw [e0];exact hx) (Z6.stop (by rw [hd];simp)),?_⟩;have h1:=E5 (L:=L) (E:=E) (s:=B9 L E s d 8 50) (x:=[125]);rw [H8] at h1;exact h1
     | true =>
      have hlt2:s.i<s1.i:=hprog hd (by
       by_cases hk:0<=B6 L E s B3
       ·exact .inl hk
       ·cases h1:F9 L E s 1 with
        | false=>exact absurd ⟨by omega,h1⟩ h2
        | true=>exact .inr rfl)
      obtain ⟨r,hr,hg2⟩:=(ih (L.length-s1.i) (by omega)).2 d (l++[x]) s1 (A0H _);exact ⟨r,Z6.more hc h2 (by rw [e0];exact hx) hr,by omega⟩
  ·exact ⟨_,Z6.stop hc,E5⟩
theorem D5w (d:Int) (s:Rd):∃ r,A7m L E d s r/\s.i<=r.2.i:=by
 obtain ⟨r,h,hg⟩:=(ST.all (L:=L) (E:=E) _).2 d [] (C5 L E s [123]) (A0H _);exact ⟨r,A7m.mk h,A1U E5 hg⟩
theorem D4d:∀ (m:Nat) (l:List Hd) (s:Rd),L.length-s.i<=m->∃ r,Evt (fun f=>K5 L E f l s) r/\s.i<=r.2.i:=by
 intro m
 induction m using Nat.strongRecOn with
 | _ m ih =>
  intro l s hs;by_cases hc:okR s=true/\isR L E s [125]=false
  ·cases hon:isR L E s [111,110] with
   | false=>exact ⟨_,Evt.one fun f=>by rw [K5,if_pos hc,if_pos hon],by show s.i<=(P2 L E s).i;rw [X1];exact A0H _⟩
   | true =>
    have hi:=(A1g hon).2;have h1:(B9 L E s ((l.length:Int)+1) 32 9).i=s.i:=H8;generalize hl:B9 L E s ((l.length:Int)+1) 32 9=s1 at h1;have h2:=E5 (L:=L) (E:=E) (s:=s1) (x:=[111,110]);generalize he:C5 L E s1 [111,110]=s2 at h2;by_cases hk:B6 L E s2 C8<0
    ·exact ⟨_,Evt.one fun f=>by rw [K5,if_pos hc,if_neg (by rw [hon];decide),hl];dsimp only;rw [he,if_pos hk],by show s.i<=(P2 L E s2).i;rw [X1];omega⟩
    ·have hi2:=(I4 (show 0<=B6 L E s2 C8 by omega)).2.1;have h4:s2.i+1<=(if 2<=B6 L E s2 C8 then (B1 L E (A6 s2) 1).2 else A6 s2).i:=by
      split
      ·exact J4 (L:=L) (E:=E) (s:=A6 s2) (x:=1)
      ·exact A0H _
     obtain ⟨⟨b,s5⟩,hb,hg⟩:=D5w (L:=L) (E:=E) 1 (if 2<=B6 L E s2 C8 then (B1 L E (A6 s2) 1).2 else A6 s2);have hg:(if 2<=B6 L E s2 C8 then (B1 L E (A6 s2) 1).2 else A6 s2).i<=s5.i:=hg;obtain ⟨r,hr,hg2⟩:=ih (L.length-s5.i) (by omega) (l++[⟨1+B6 L E s2 C8,if 2<=B6 L E s2 C8 then (B1 L E (A6 s2) 1).1.text else [],b,(A4 L E s1).pos⟩]) s5 (A0H _);exact ⟨r,hb.ext2 hr fun f hb hr=>by rw [K5,if_pos hc,if_neg (by rw [hon];decide),hl];dsimp only;rw [he,if_neg hk,hb];exact hr,by omega⟩
  ·exact ⟨_,Evt.one fun f=>by rw [K5,if_neg hc],E5⟩
theorem D4b (s:Rd):∃ r,Evt (fun f=>A0l L E f s) r/\s.i<=r.2.i/\(isR L E s [109,111,100,101]=true->s.i<r.2.i):=by
 obtain ⟨⟨l,s3⟩,h,hg⟩:=D4d (L:=L) (E:=E) _ [] (C5 L E (B1 L E (B1 L E (C5 L E s [109,111,100,101]) 1).2 3).2 [123]) (A0H _);have hg:(C5 L E (B1 L E (B1 L E (C5 L E s [109,111,100,101]) 1).2 3).2 [123]).i<=s3.i:=hg;have h1:=E5 (L:=L) (E:=E) (s:=(B1 L E (B1 L E (C5 L E s [109,111,100,101]) 1).2 3).2) (x:=[123]);have h2:=J4 (L:=L) (E:=E) (s:=(B1 L E (C5 L E s [109,111,100,101]) 1).2) (x:=3);have h3:=J4 (L:=L) (E:=E) (s:=C5 L E s [109,111,100,101]) (x:=1);have h4:=E5 (L:=L) (E:=E) (s:=s) (x:=[109,111,100,101]);refine ⟨_,h.map fun f h=>by unfold A0l;dsimp only;rw [h],by show s.i<=s3.i;omega,fun hi=>?_⟩;have h5:(C5 L E s [109,111,100,101]).i=s.i+1:=by unfold C5;rw [if_neg (by rw [hi];decide)];rfl
 show s.i<s3.i;omega
theorem D1l {k:Int} {s:Rd}:s.i+1<=(Q7 L E k s).2.i:=by
 unfold Q7;dsimp only;have h1:=J4 (L:=L) (E:=E) (s:=A6 s) (x:=1);have h0:(A6 s).i=s.i+1:=rfl;split
 ·generalize (B1 L E (A6 s) 1).2=s2 at h1 ⊢;have h3:s2.i<=(if (k+1 == 6 && isR L E s2 [45])=true then A6 s2 else s2).i:=by
   split
   ·exact A3F _
   ·exact A0H _
  generalize (if (k+1 == 6 && isR L E s2 [45])=true then A6 s2 else s2)=s3 at h3 ⊢;have h4:=J4 (L:=L) (E:=E) (s:=s3) (x:=3);have h5:=E5 (L:=L) (E:=E) (s:=(B1 L E s3 3).2) (x:=[59]);show s.i+1<=(C5 L E (B1 L E s3 3).2 [59]).i;omega
 ·have h5:=E5 (L:=L) (E:=E) (s:=(B1 L E (A6 s) 1).2) (x:=[59]);show s.i+1<=(C5 L E (B1 L E (A6 s) 1).2 [59]).i;omega
theorem A3e {s:Rd} (h:okR s=false):∀ (l:List (List UInt8)) (k:Nat),U9 L E s k l = -1
 | [],k=>rfl
 | t :: l,k=>by rw [U9,show isR L E s t=false by unfold isR;rw [h];rfl,if_neg (by decide),A3e h l]
theorem D3e:∀ (m:Nat) (l:List Dc) (s:Rd),L.length-s.i<=m->∃ r,Evt (fun f=>J9 L E f l s) r/\s.i<=r.2.i:=by
 intro m
 induction m using Nat.strongRecOn with
 | _ m ih =>
  intro l s hs;by_cases hk:B6 L E s C3<0
  ·exact ⟨_,Evt.one fun f=>by rw [J9];dsimp only;rw [if_pos hk],A0H _⟩
  ·have hi:=(I4 (show 0<=B6 L E s C3 by omega)).2.1;have h1:(B9 L E s ((l.length:Int)+1) 128 9).i=s.i:=H8;cases hl:okR (B9 L E s ((l.length:Int)+1) 128 9) with
   | false =>
    have hz:B6 L E (B9 L E s ((l.length:Int)+1) 128 9) C3<0:=by
     show U9 L E _ 0 C3<0;rw [A3e hl];decide
    have h2:Evt (fun f=>J9 L E f l (B9 L E s ((l.length:Int)+1) 128 9)) (l,B9 L E s ((l.length:Int)+1) 128 9):=Evt.one fun f=>by rw [J9];dsimp only;rw [if_pos hz]
    exact ⟨_,h2.ext fun f h=>by rw [J9];dsimp only;rw [if_neg hk,if_neg (by rw [hl];decide)];exact h,by show s.i<=(B9 L E s ((l.length:Int)+1) 128 9).i;omega⟩
   | true =>
    have h3:=D1l (L:=L) (E:=E) (k:=B6 L E s C3) (s:=B9 L E s ((l.length:Int)+1) 128 9);obtain ⟨r,hr,hg⟩:=ih (L.length-(Q7 L E (B6 L E s C3) (B9 L E s ((l.length:Int)+1) 128 9)).2.i) (by omega) (l++[(Q7 L E (B6 L E s C3) (B9 L E s ((l.length:Int)+1) 128 9)).1]) _ (A0H _);exact ⟨r,hr.ext fun f h=>by rw [J9];dsimp only;rw [if_neg hk,if_pos hl];exact h,by omega⟩
theorem D3d:∀ (m:Nat) (l:List Md) (s:Rd),L.length-s.i<=m->∃ r,Evt (fun f=>I9 L E f l s) r/\s.i<=r.2.i:=by
 intro m
 induction m using Nat.strongRecOn with
 | _ m ih =>
  intro l s hs;by_cases hc:okR s=true/\s.i<L.length
  ·cases hm:isR L E s [109,111,100,101] with
   | false=>exact ⟨_,Evt.one fun f=>by rw [I9,if_pos hc,if_pos hm],by show s.i<=(P2 L E s).i;rw [X1];exact A0H _⟩
   | true =>
    have h1:(B9 L E s ((l.length:Int)+1) 16 9).i=s.i:=H8;cases hl:okR (B9 L E s ((l.length:Int)+1) 16 9) with
    | false =>
     have h2:Evt (fun f=>I9 L E f l (B9 L E s ((l.length:Int)+1) 16 9)) (l,B9 L E s ((l.length:Int)+1) 16 9):=Evt.one fun f=>by rw [I9,if_neg (by rw [hl];simp)]
     exact ⟨_,h2.ext fun f h=>by rw [I9,if_pos hc,if_neg (by rw [hm];decide)];dsimp only;rw [if_neg (by rw [hl];decide)];exact h,by show s.i<=(B9 L E s ((l.length:Int)+1) 16 9).i;omega⟩
    | true =>
     have e0:=(J7 (by decide) hl).2.2;obtain ⟨⟨md,s2⟩,h2,hg,hlt⟩:=D4b (L:=L) (E:=E) s;have hlt:s.i<s2.i:=hlt hm;obtain ⟨r,hr,hg2⟩:=ih (L.length-s2.i) (by omega) (l++[md]) s2 (A0H _);exact ⟨r,h2.ext2 hr fun f h2 hr=>by rw [I9,if_pos hc,if_neg (by rw [hm];decide)];dsimp only;rw [if_pos hl,e0,h2];exact hr,by omega⟩
  ·exact ⟨_,Evt.one fun f=>by rw [I9,if_neg hc],A0H _⟩
theorem C2s (s:Rd):∃ r,Evt (fun f=>Y8 L E f s) r:=by
 obtain ⟨⟨d,s1⟩,h1, -⟩:=D3e (L:=L) (E:=E) _ [] s (A0H _);obtain ⟨⟨m,s2⟩,h2, -⟩:=D3d (L:=L) (E:=E) _ [] s1 (A0H _);exact ⟨_,h1.map2 h2 fun f h1 h2=>by unfold Y8;rw [h1];dsimp only;rw [h2]⟩
end
end Go.Pb
namespace Go.Pb
variable [Go.Sym.Tab]
open Go.Sym
def A5 (s:List UInt8):Tok:=⟨if E4 s=true then 2 else if C2 s=true then 1 else 5,s,0,0⟩
def D1 (s:List UInt8):List Tok:=if C2 s=false then [Y7] else [⟨1,s,0,0⟩]
def X2 (n:Int):List Tok:=if n<0\/2147483647<n then [Y7] else [⟨3,[],n,0⟩]
def txB (c:UInt8):Bool:=decide (32<=c.toNat) && decide (c.toNat<=126)
def A1c (s:List UInt8):List Tok:=if s.all txB=false\/32<s.length then [Y7] else [⟨4,s,0,0⟩]
def E1 (q:Int × List Tok) (least:Int):List Tok:=if B4 q.1<least then [A5 [40]]++q.2++[A5 [41]] else q.2
def F4 (k v:Int) (n:List UInt8) (as1:List (Int × List Tok)):List Tok :=
 let lv:=B4 k
 if k=1 then X2 v
 else if k=2 then D1 n
 else if k=3 then [A5 [116,114,117,101]]
 else if k=4 then [A5 [102,97,108,115,101]]
 else if k=8 then [A5 [112,108,97,121,101,114]]
 else if k=9 then [A5 [98,97,108,108]]
 else if k=5 then [A5 [99,108,111,115,101,100]]++D1 n
 else if k=6 then [A5 [97,99,116,105,118,101]]++D1 n
 else if k=7 then [A5 [108,101,102,116]]++D1 n
 else match as1 with
  | [q]=>if lv=6 then [A5 (if k=10 then [45] else [33])]++E1 q 6 else [Y7]
  | [q,r]=>if lv<6 then E1 q (if lv=3 then 4 else lv)++[A5 (B7.getD (k-12).toNat [])]++E1 r (lv+1) else [Y7]
  | _=>[Y7]
mutual
def exT:Ex->List Tok
 | .mk k v n a p=>F4 k v n (A5d a)
def A5d:List Ex->List (Int × List Tok)
 | []=>[]
 | e :: l=>(e.kind,exT e) :: A5d l
end
def agT (l:List Ex) (i:Nat):List Tok:=match l[i]? with
 | some e=>exT e
 | none=>[Y7]
mutual
def stT:St->List Tok
 | .mk k n t a x y p =>
  if k=1 then D1 n++[A5 [61]]++agT a 0++[A5 [59]]
  else if k<2\/19<k then [Y7]
  else
   let w:=A5 (B3.getD (k-2).toNat [])
   if k=2\/k=3 then
    let o:=[w]++agT a 0++([A5 [123]]++O9 x++[A5 [125]])
    match y with
    | []=>o
    | [s]=>if s.kind=2 then o++[A5 [101,108,115,101]]++stT s else o++[A5 [101,108,115,101]]++([A5 [123]]++stT s++[A5 [125]])
    | s :: s2 :: r=>o++[A5 [101,108,115,101]]++([A5 [123]]++O9 (s :: s2 :: r)++[A5 [125]])
   else if k=4 then [w]++agT a 0++[A5 [59]]
   else if k=18 then [w]++A1c t++[A5 [44]]++agT a 0++[A5 [59]]
   else if k=8\/k=10 then [w]++D1 n++agT a 0++[A5 [59]]
   else if k=9 then [w]++D1 n++agT a 0++[A5 [44]]++agT a 1++[A5 [59]]
   else if k=19 then [w]++[A5 [59]]
   else [w]++D1 n++[A5 [59]]
def O9:List St->List Tok
 | []=>[]
 | s :: l=>stT s++O9 l
end
def blT (l:List St):List Tok:=[A5 [123]]++O9 l++[A5 [125]]
def dcT (d:Dc):List Tok :=
 if d.kind<1\/8<d.kind then [Y7]
 else
  let o:=[A5 (C3.getD (d.kind-1).toNat [])]++D1 d.name
  (if 6<d.kind then o
  else if d.value<0 /\ -2147483647<=d.value/\d.kind=6 then o++[A5 [45]]++X2 (-d.value)
  else o++X2 d.value)++[A5 [59]]
def hdT (h:Hd):List Tok:=[A5 [111,110],A5 (C8.getD (h.trig-1).toNat [])]++(if 2<h.trig then D1 h.name else [])++blT h.body
def A7a (h:Hd):Bool:=decide (h.trig<1) || decide (6<h.trig)
def mdT (m:Md):List Tok:=[A5 [109,111,100,101]]++D1 m.name++X2 m.prio++[A5 [123]]++m.hds.flatMap hdT++[A5 [125]]
def ruT (r:Ru):List Tok:=if (r.modes.any fun m=>m.hds.any A7a)=true then [Y7] else r.decls.flatMap dcT++r.modes.flatMap mdT
mutual
def Ex.plain:Ex->Ex
 | .mk k v n a p=>.mk k v n (Ex.plains a) 0
def Ex.plains:List Ex->List Ex
 | []=>[]
 | e :: l=>e.plain :: Ex.plains l
end
mutual
def St.plain:St->St
 | .mk k n t a x y p=>.mk k n t (Ex.plains a) (St.plains x) (St.plains y) 0
def St.plains:List St->List St
 | []=>[]
 | e :: l=>e.plain :: St.plains l
end
def Dc.plain (d:Dc):Dc:={ d with pos:=0 }
def Hd.plain (h:Hd):Hd:=⟨h.trig,h.name,St.plains h.body,0⟩
def Md.plain (m:Md):Md:=⟨m.name,m.prio,m.hds.map Hd.plain,0⟩
def Ru.plain (r:Ru):Ru:=⟨r.decls.map Dc.plain,r.modes.map Md.plain⟩
theorem Ex.plains_map:∀ l:List Ex,Ex.plains l=l.map Ex.plain
 | []=>rfl
 | e :: l=>by rw [Ex.plains,Ex.plains_map l];rfl
theorem St.plains_map:∀ l:List St,St.plains l=l.map St.plain
 | []=>rfl
 | e :: l=>by rw [St.plains,St.plains_map l];rfl
mutual
def B2i (p:Bool):Ex->Ex->Bool
 | .mk k v n a q,.mk k' v' n' a' q'=>k == k' && (v == v' && (n == n' && ((p || q == q') && P8 p a a')))
def P8 (p:Bool):List Ex->List Ex->Bool
 | [],[]=>true
 | e :: l,e' :: l'=>B2i p e e' && P8 p l l'
 | _,_=>false
end
mutual
def B9y:St->St->Bool
 | .mk k n t a x y q,.mk k' n' t' a' x' y' q'=>k == k' && (n == n' && (t == t' && (q == q' && (P8 false a a' && (N4 x x' && N4 y y')))))
def N4:List St->List St->Bool
 | [],[]=>true
 | e :: l,e' :: l'=>B9y e e' && N4 l l'
 | _,_=>false
end
mutual
theorem D0w:∀ a b:Ex,B2i false a b=true↔a=b
 | .mk k v n a q,.mk k' v' n' a' q'=>by
  have:=A8b a a';simp only [B2i,A0D,A1G,A4H,this,Ex.mk.injEq];constructor
  ·rintro ⟨h1,h2,h3,h4,h5⟩;exact ⟨h1,h2,h3,h5,h4⟩
  ·rintro ⟨h1,h2,h3,h4,h5⟩;exact ⟨h1,h2,h3,h5,h4⟩
theorem A8b:∀ a b:List Ex,P8 false a b=true↔a=b
 | [],[]=>by simp [P8]
 | [],_ :: _=>by simp [P8]
 | _ :: _,[]=>by simp [P8]
 | e :: l,e' :: l'=>by
  have h1:=D0w e e';have h2:=A8b l l';simp only [P8,A0D,h1,h2,List.cons.injEq]
end
mutual
theorem C7i:∀ a b:St,B9y a b=true↔a=b
 | .mk k n t a x y q,.mk k' n' t' a' x' y' q'=>by
  have h1:=A8b a a';have h2:=A2b x x';have h3:=A2b y y';simp only [B9y,A0D,A1G,h1,h2,h3,St.mk.injEq];constructor
  ·rintro ⟨e1,e2,e3,e4,e5,e6,e7⟩;exact ⟨e1,e2,e3,e5,e6,e7,e4⟩
  ·rintro ⟨e1,e2,e3,e4,e5,e6,e7⟩;exact ⟨e1,e2,e3,e7,e4,e5,e6⟩
theorem A2b:∀ a b:List St,N4 a b=true↔a=b
 | [],[]=>by simp [N4]
 | [],_ :: _=>by simp [N4]
 | _ :: _,[]=>by simp [N4]
 | e :: l,e' :: l'=>by
  have h1:=C7i e e';have h2:=A2b l l';simp only [N4,A0D,h1,h2,List.cons.injEq]
end
end Go.Pb
namespace Go.Pb
variable [Go.Sym.Tab]
open Go.Sym
def I0 (k:Int):Nat:=if B4 k=6 then 1 else if B4 k<6 then 2 else 0
def A1t (k:Int):Bool:=k == 5 || (k == 6 || k == 7)
def kOk (k:Int):Bool:=decide (B4 k<7) || (decide (1<=k) && decide (k<=24))
def A0j (k:Int) (n:List UInt8):Bool:=if k=2\/A1t k=true then C2 n else n == []
def A0w (k v:Int):Bool:=v == 0 || (k == 1 && (decide (0<v) && decide (v<=2147483647)))
def R1 (k q:Int) (i:Nat):Bool:=decide (B4 q<B4 k) || (B4 q == B4 k && (i == 1 || B4 k == 3))
mutual
def msM:Ex->Option (Nat × Nat)
 | .mk k v n a p =>
  if kOk k=false\/a.length≠I0 k\/A0j k n=false\/A0w k v=false then none
  else if I0 k=0 then some (1,0)
  else match msL k 0 a with
   | none=>none
   | some (o,d)=>some (o,if I0 k=1 then d+1 else d)
def msL (k:Int):Nat->List Ex->Option (Nat × Nat)
 | _,[]=>some (0,0)
 | i,e :: l=>match msM e with
  | none=>none
  | some (o,d)=>match msL k (i+1) l with
   | none=>none
   | some (o2,d2)=>some (o+o2,max (if R1 k e.kind i=true then d+1 else d) d2)
end
def V1 (e:Ex):Bool:=match msM e with
 | some (o,d)=>decide (o<=32) && decide (d<=16)
 | none=>false
structure Shp where
 name:Bool
 text:Bool
 args:Nat
 thn:Bool
 els:Bool
def G7 (k:Int):Shp :=
 if k=1\/k=8\/k=10 then ⟨true,false,1,false,false⟩
 else if k=9 then ⟨true,false,2,false,false⟩
 else if k=2 then ⟨false,false,1,true,true⟩
 else if k=3 then ⟨false,false,1,true,false⟩
 else if k=4 then ⟨false,false,1,false,false⟩
 else if k=18 then ⟨false,true,1,false,false⟩
 else if k=19 then ⟨false,false,0,false,false⟩
 else ⟨true,false,0,false,false⟩
def N7 (s:List UInt8):Bool:=s.all txB && decide (s.length<=32)
mutual
def R2:Nat->St->Bool
 | d,.mk k n t a x y p =>
  (decide (1<=k) && decide (k<=19)) && (a.length == (G7 k).args && a.all V1) &&
   ((if (G7 k).name=true then C2 n else n == []) && (if (G7 k).text=true then N7 t else t == [])) &&
   (((G7 k).thn || x.isEmpty) && ((G7 k).els || y.isEmpty)) &&
   ((decide (x.length<=64) && (x.isEmpty || decide (d+1<=8)) && J5 (d+1) x) && (decide (y.length<=64) && (y.isEmpty || decide (d+1<=8)) && J5 (d+1) y))
def J5:Nat->List St->Bool
 | _,[]=>true
 | d,s :: l=>R2 d s && J5 d l
end
def O8 (l:List St) (d:Nat):Bool:=decide (l.length<=64) && (l.isEmpty || decide (d<=8)) && J5 d l
def A1q (d:Dc):Bool:=decide (1<=d.kind) && decide (d.kind<=8) && C2 d.name && decide ((if d.kind=6 then -2147483647 else 0)<=d.value) && decide (d.value<=(if d.kind=7\/d.kind=8 then 0 else 2147483647))
def X9 (h:Hd):Bool:=decide (1<=h.trig) && decide (h.trig<=6) && (if 3<=h.trig then C2 h.name else h.name == []) && O8 h.body 1
def S7 (m:Md):Bool:=C2 m.name && decide (0<=m.prio) && decide (m.prio<=2147483647) && decide (m.hds.length<=32) && m.hds.all X9
def A1x (r:Ru):Bool:=decide (r.decls.length<=128) && decide (r.modes.length<=16) && r.decls.all A1q && r.modes.all S7
def I7 (t:Tok):Prop:=(t.kind=1->C2 t.text=true)/\(t.kind=3->0<=t.value/\t.value<=2147483647)/\(t.kind=4->N7 t.text=true)
def SE (n:Int) (s:Rd) (e:Ex) (s':Rd):Prop :=
 okR s=true/\s'.par=s.par/\∃ o d,msM e=some (o,d)/\s'.ops=s.ops+(o:Int)/\s'.ops<=32/\((n<=B4 e.kind/\s.par+(d:Int)<=16)\/s.par+(d:Int)+1<=16)
theorem Z9 (k:Int):1<=B4 k/\B4 k<=7:=by
 unfold B4;repeat' split
 all_goals omega
theorem B5s {k:Int} (h:B4 k<7):10<=k/\k<=24:=by
 unfold B4 at h;repeat' split at h
 all_goals omega
theorem D4m {k:Int} (h0:0<=k) (h1:k<13):B4 (12+k)<6:=by
 unfold B4;repeat' split
 all_goals omega
theorem Z3 {k:Int} (h:k=10\/k=11):B4 k=6:=by
 rcases h with rfl|rfl<;>rfl
theorem E0d {k:Int} {a b:Ex} {o1 d1 o2 d2:Nat} {p:Int} (hk:B4 k<6) (ha:msM a=some (o1,d1)) (hb:msM b=some (o2,d2)) :
  msM (.mk k 0 [] [a,b] p)=some (o1+o2,max (if R1 k a.kind 0=true then d1+1 else d1) (if R1 k b.kind 1=true then d2+1 else d2)):=by
 have hl:=B5s (k:=k) (by omega);have h1:kOk k=true:=by simp [kOk];left;omega
 have h2:I0 k=2:=by unfold I0;rw [if_neg (by omega),if_pos hk]
 have h3:A0j k []=true:=by
  unfold A0j;rw [if_neg]
  ·rfl
  ·simp only [A1t,A0W,A1G];omega
 have h4:A0w k 0=true:=by simp [A0w]
 unfold msM;rw [if_neg (by simp [h1,h2,h3,h4]),h2,if_neg (by omega)];simp only [msL,ha,hb,A3E,A1L,Nat.max_zero,if_neg (show ¬ 2=1 by omega)]
theorem E4e {k:Int} {a:Ex} {o d:Nat} {p:Int} (hk:k=10\/k=11) (ha:msM a=some (o,d)) :
  msM (.mk k 0 [] [a] p)=some (o,(if R1 k a.kind 0=true then d+1 else d)+1):=by
 have hl:=Z3 hk;have h1:kOk k=true:=by simp [kOk];left;omega
 have h2:I0 k=1:=by unfold I0;rw [if_pos hl]
 have h3:A0j k []=true:=by
  unfold A0j;rw [if_neg]
  ·rfl
  ·simp only [A1t,A0W,A1G];omega
 have h4:A0w k 0=true:=by simp [A0w]
 unfold msM;rw [if_neg (by simp [h1,h2,h3,h4]),h2,if_neg (by omega)];simp only [msL,ha,A3E,Nat.max_zero,if_true]
theorem D4a {k v:Int} {n:List UInt8} {p:Int} (hk:B4 k=7) (h1:kOk k=true) (h3:A0j k n=true) (h4:A0w k v=true):msM (.mk k v n [] p)=some (1,0):=by
 have h2:I0 k=0:=by unfold I0;rw [if_neg (by omega),if_neg (by omega)]
 unfold msM;rw [if_neg (by simp [h1,h2,h3,h4]),if_pos h2]
section
variable {L:List Tok} {E:Int}
theorem I3 {s:Rd} {t:List UInt8} (h:okR (C5 L E s t)=true):okR s=true:=(A1g (A5z h).1).1
theorem A0i {s:Rd} {k:Int} (h:okR (B1 L E s k).2=true):okR s=true:=(G4 (A2q h).1).1
theorem C3a {s:Rd} (h:okR (G0 L E s).2=true):okR s=true:=by
 unfold G0 at h;dsimp only at h;split at h
 ·rw [V5] at h;cases h
 ·split at h
  ·rename_i h1;rw [h1] at h;cases h
  ·rename_i h1;have h2:okR (B9 L E { s with ops:=s.ops+1 } (s.ops+1) 32 9)=true:=by simpa using h1
   exact (J7 (by decide) h2).1
theorem C0m (hG:∀ t∈L,I7 t) {s s':Rd} {e:Ex} (h:G0 L E s=(e,s')) (hok:okR s'=true) (hp:s.par<=16):SE 7 s e s':=by
 have hs:okR s=true:=C3a (L:=L) (E:=E) (by rw [h];exact hok);have leaf:∀ (k v:Int) (n:List UInt8) (p:Int),B4 k=7->kOk k=true->A0j k n=true->A0w k v=true->s.ops+1<=32->∀ s2:Rd,s2.par=s.par->s2.ops=s.ops+1->SE 7 s (.mk k v n [] p) s2:=by
  intro k v n p q1 q2 q3 q4 q6 s2 q7 q8;refine ⟨hs,q7,1,0,D4a q1 q2 q3 q4,by rw [q8];rfl,by omega,.inl ⟨?_,by simpa using hp⟩⟩;show 7<=B4 k;omega
 unfold G0 at h;dsimp only at h;split at h
 ·cases h;rw [V5] at hok;cases hok
 rename_i hc;split at h
 ·rename_i h1;cases h;rw [h1] at hok;cases hok
 rename_i h1;have h2:okR (B9 L E { s with ops:=s.ops+1 } (s.ops+1) 32 9)=true:=by simpa using h1
 obtain ⟨-,h3,h4⟩:=J7 (by decide) h2;rw [h4] at h;split at h
 ·rename_i hk;obtain ⟨-, -, -,hk7⟩:=I4 hk;have hk7:B6 L E s C9<7:=hk7;generalize B6 L E s C9=k at h hk hk7;split at h
  ·rename_i hk4;cases h;obtain ⟨t1,t2⟩:=A2q hok;obtain ⟨t3,t4⟩:=G4 t1;have hn:=(hG _ (G2 (by decide) t4).1).1 t4;rw [t2];have:k=4\/k=5\/k=6:=by omega
   rcases this with rfl|rfl|rfl
   ·exact leaf 5 _ _ _ (by decide) (by decide) hn (by decide) h3 _ rfl rfl
   ·exact leaf 6 _ _ _ (by decide) (by decide) hn (by decide) h3 _ rfl rfl
   ·exact leaf 7 _ _ _ (by decide) (by decide) hn (by decide) h3 _ rfl rfl
  ·rename_i hk4;cases h;have:k=0\/k=1\/k=2\/k=3:=by omega
   rcases this with rfl|rfl|rfl|rfl
   all_goals exact leaf _ _ _ _ (by decide) (by decide) (by decide) (by decide) h3 _ rfl rfl
 ·rename_i hk;split at h
  ·rename_i hk3;cases h;have hn:=(hG _ (G2 (by decide) hk3).1).2.1 hk3;refine leaf 1 _ _ _ (by decide) (by decide) (by decide) ?_ h3 _ rfl rfl;simp only [A0w,A0W,A0D,A1G,A0G];by_cases h0:(A4 L E s).value=0
   ·exact .inl h0
   ·exact .inr ⟨trivial,by omega,hn.2⟩
  ·rename_i hk3;cases h;have h1k:F9 L E s 1=true:=by
    cases hz:F9 L E s 1 with
    | true=>rfl
    | false =>
     refine absurd ⟨by omega,?_,hz⟩ hc;cases hy:F9 L E s 3 with
     | false=>rfl
     | true=>exact absurd (G4 hy).2 hk3
   have hn:=(hG _ (G2 (by decide) (G4 h1k).2).1).1 (G4 h1k).2;exact leaf 2 _ _ _ (by decide) (by decide) hn (by decide) h3 _ rfl rfl
theorem OB.all:∀ f:Nat,(∀ n s r,F1 L E f n s=some r->okR r.2=true->okR s=true)/\(∀ n e s r,I5 L E f n e s=some r->okR r.2=true->okR s=true)/\(∀ s r,K9 L E f s=some r->okR r.2=true->okR s=true)
 | 0=>⟨fun n s r h=>by simp [F1] at h,fun n e s r h=>by simp [I5] at h,fun s r h=>by simp [K9] at h⟩
 | f+1=>by
  obtain ⟨i1,i2,i3⟩:=OB.all f;refine ⟨fun n s r h k=>?_,fun n e s r h k=>?_,fun s r h k=>?_⟩
  ·unfold F1 at h;split at h
   ·exact i3 _ _ h k
   ·split at h
    ·cases h
    ·rename_i hb;exact i1 _ _ _ hb (i2 _ _ _ _ h k)
  ·unfold I5 at h;dsimp only at h;split at h
   ·cases h;exact k
   ·rename_i hk;exact (I4 (show 0<=B6 L E s B7 from Classical.byContradiction fun g=>hk (.inl (by omega)))).1
  ·unfold K9 at h;dsimp only at h;split at h
   ·cases h;exact C3a k
   ·rename_i hk;exact (I4 (show 0<=B6 L E s K0 by omega)).1
theorem SE.weak {m n:Int} {s s':Rd} {e:Ex} (hmn:n<=m) (h:SE m s e s'):SE n s e s':=by
 obtain ⟨h1,h2,o,d,h3,h4,h5,h6⟩:=h;exact ⟨h1,h2,o,d,h3,h4,h5,h6.imp (fun h=>⟨by omega,h.2⟩) id⟩
theorem SE.all (hG:∀ t∈L,I7 t):∀ f:Nat,(∀ n s r,1<=n->n<=6->F1 L E f n s=some r->okR r.2=true->s.par<=16->SE n s r.1 r.2) /\
  (∀ n m e s s0 r,1<=n->n<=5->(m=n+1\/m=n/\n≠3)->I5 L E f n e s=some r->okR r.2=true->SE m s0 e s->s0.par<=16->SE n s0 r.1 r.2) /\
  (∀ s r,K9 L E f s=some r->okR r.2=true->s.par<=16->SE 6 s r.1 r.2)
 | 0=>⟨fun n s r _ _ h=>by simp [F1] at h,fun n m e s s0 r _ _ _ h=>by simp [I5] at h,fun s r h=>by simp [K9] at h⟩
 | f+1=>by
  obtain ⟨i1,i2,i3⟩:=SE.all hG f;refine ⟨fun n s r n1 n6 h k hp=>?_,fun n m e s s0 r n1 n5 hm h k he hp=>?_,fun s r h k hp=>?_⟩
  ·unfold F1 at h;split at h
   ·have:=i3 _ _ h k hp;exact this.weak n6
   ·rename_i hn;split at h
    ·cases h
    ·rename_i e s1 hb;have k1:=(OB.all f).2.1 _ _ _ _ h k;have h1:=i1 _ _ _ (by omega) (by omega) hb k1 hp;exact i2 n (n+1) _ _ s _ n1 (by omega) (.inl rfl) h k h1 hp
  ·unfold I5 at h;dsimp only at h;split at h
   ·cases h;exact he.weak (by omega)
   ·rename_i hk;have hk0:0<=B6 L E s B7:=Classical.byContradiction fun g=>hk (.inl (by omega));have hlv:B4 (12+B6 L E s B7)=n:=Classical.byContradiction fun g=>hk (.inr g);split at h
    ·cases h
    ·rename_i x s1 hb;obtain ⟨e1,e2,o1,d1,e3,e4,e5,e6⟩:=he;have step:okR s1=true->SE n s0 (.mk (12+B6 L E s B7) 0 [] [e,x] (A4 L E s).pos) s1:=by
      intro k1;obtain ⟨x1,x2,o2,d2,x3,x4,x5,x6⟩:=i1 _ _ _ (by omega) (by omega) hb k1 (by show s.par<=16;omega);have x2':s1.par=s.par:=x2;have x4':s1.ops=s.ops+(o2:Int):=x4;have x6':((n+1<=B4 x.kind/\s.par+(d2:Int)<=16)\/s.par+(d2:Int)+1<=16):=x6;refine ⟨e1,by omega,_,_,E0d (by omega) e3 x3,by rw [x4',e4];omega,x5,.inl ⟨?_,?_⟩⟩
      ·show n<=B4 (12+B6 L E s B7);omega
      ·have w1:s0.par+((if R1 (12+B6 L E s B7) e.kind 0=true then d1+1 else d1:Nat):Int)<=16:=by
        split
        ·rename_i hw;simp only [R1,A0W,A0D,A0G,A1G,hlv] at hw;omega
        ·omega
       have w2:s0.par+((if R1 (12+B6 L E s B7) x.kind 1=true then d2+1 else d2:Nat):Int)<=16:=by
        split
        ·rename_i hw;simp only [R1,A0W,A0D,A0G,A1G,hlv] at hw;omega
        ·omega
       omega
     split at h
     ·cases h;exact step k
     ·rename_i hn3;have k1:=(OB.all f).2.1 _ _ _ _ h k;exact i2 n n _ _ s0 _ n1 n5 (.inr ⟨rfl,hn3⟩) h k (step k1) hp
  ·unfold K9 at h;dsimp only at h;split at h
   ·cases h;exact (C0m hG rfl k hp).weak (by decide)
   ·rename_i hk;obtain ⟨hs,hi, -,hk3⟩:=I4 (show 0<=B6 L E s K0 by omega);have hk3:B6 L E s K0<3:=hk3;split at h
    ·rename_i hl;cases h;rw [hl] at k;cases k
    rename_i hl;have hl:okR (B9 L E s (s.par+1) 16 50)=true:=by simpa using hl
    obtain ⟨-,h2,h3⟩:=J7 (by decide) hl;rw [h3] at h;split at h
    ·split at h
     ·cases h
     ·rename_i e s3 hb;cases h;have k3:okR (C5 L E s3 [41])=true:=k;obtain ⟨-,x2⟩:=A5z k3;obtain ⟨e1,e2,o,d,e3,e4,e5,e6⟩:=i1 1 _ _ (by decide) (by decide) hb (I3 k3) (show s.par+1<=16 from h2);have e2':s3.par=s.par+1:=e2;have e4':s3.ops=s.ops+(o:Int):=e4;have e6':((1<=B4 e.kind/\s.par+1+(d:Int)<=16)\/s.par+1+(d:Int)+1<=16):=e6;rw [x2];refine ⟨hs,by show s3.par-1=s.par;omega,o,d,e3,e4',e5,.inr (by omega)⟩
    ·rename_i hk2;split at h
     ·cases h
     ·rename_i e s3 hb;cases h;have k3:okR s3=true:=k;obtain ⟨e1,e2,o,d,e3,e4,e5,e6⟩:=i3 _ _ hb k3 (show s.par+1<=16 from h2);have e2':s3.par=s.par+1:=e2;have e4':s3.ops=s.ops+(o:Int):=e4;have e6':((6<=B4 e.kind/\s.par+1+(d:Int)<=16)\/s.par+1+(d:Int)+1<=16):=e6;have hk10:10+B6 L E s K0=10\/10+B6 L E s K0=11:=by omega
      refine ⟨hs,by show s3.par-1=s.par;omega,o,_,E4e hk10 e3,e4',e5,.inl ⟨?_,?_⟩⟩
      ·show 6<=B4 (10+B6 L E s K0);rw [Z3 hk10];decide
      ·split
       ·rename_i hw;simp only [R1,A0W,A0D,A0G,A1G,Z3 hk10] at hw;omega
       ·omega
theorem P9 (hG:∀ t∈L,I7 t) {f:Nat} {s:Rd} {r:Ex × Rd} (h:H7 L E f s=some r) (hok:okR r.2=true):okR s=true/\V1 r.1=true:=by
 obtain ⟨h1,h2,o,d,h3,h4,h5,h6⟩:=(SE.all hG f).1 1 _ _ (by decide) (by decide) h hok (by decide:(0:Int)<=16);refine ⟨h1,?_⟩;have h4':r.2.ops=0+(o:Int):=h4;have h6':((1<=B4 r.1.kind/\0+(d:Int)<=16)\/0+(d:Int)+1<=16):=h6;unfold V1;rw [h3];simp only [A0D,A0G];omega
end
end Go.Pb
namespace Go.Pb
variable [Go.Sym.Tab]
open Go.Sym
section
variable {L:List Tok} {E:Int}
theorem S3 (hG:∀ t∈L,I7 t) {s:Rd} (h:okR (B1 L E s 1).2=true):C2 (B1 L E s 1).1.text=true:=by
 obtain ⟨h1,h2⟩:=A2q h;rw [h2];exact (hG _ (G2 (by decide) (G4 h1).2).1).1 (G4 h1).2
theorem B6x (hG:∀ t∈L,I7 t) {s:Rd} (h:okR (B1 L E s 3).2=true):0<=(B1 L E s 3).1.value/\(B1 L E s 3).1.value<=2147483647:=by
 obtain ⟨h1,h2⟩:=A2q h;rw [h2];exact (hG _ (G2 (by decide) (G4 h1).2).1).2.1 (G4 h1).2
theorem C7a (hG:∀ t∈L,I7 t) {s:Rd} (h:okR (B1 L E s 4).2=true):N7 (B1 L E s 4).1.text=true:=by
 obtain ⟨h1,h2⟩:=A2q h;rw [h2];exact (hG _ (G2 (by decide) (G4 h1).2).1).2.2 (G4 h1).2
theorem A2o {d:Nat} {k p:Int} {n t:List UInt8} {a:List Ex} (h1:1<=k) (h2:k<=19) (h3:a.length=(G7 k).args) (h4:a.all V1=true)
  (h5:(if (G7 k).name=true then C2 n else n == [])=true) (h6:(if (G7 k).text=true then N7 t else t == [])=true):R2 d (.mk k n t a [] [] p)=true:=by
 unfold R2;simp only [A0D,A0G,A1G];exact ⟨⟨⟨⟨⟨h1,h2⟩,h3,h4⟩,h5,h6⟩,by simp⟩,by simp [J5]⟩
theorem B9t (hG:∀ t∈L,I7 t) {f:Nat} {k p:Int} {s:Rd} {r:St × Rd} (d:Nat) (hk4:4<=k) (hk:k<=19) (h:G9 L E f k p s=some r) (hok:okR r.2=true):okR s=true/\R2 d r.1=true:=by
 unfold G9 at h;dsimp only at h;split at h
 ·rename_i hk;subst hk;split at h
  ·cases h
  ·rename_i e s1 he;cases h;obtain ⟨h1,h2⟩:=P9 hG he (I3 hok);exact ⟨h1,A2o (by decide) (by decide) rfl (by simp [h2]) rfl rfl⟩
 split at h
 ·rename_i hk;subst hk;split at h
  ·cases h
  ·rename_i e s1 he;cases h;obtain ⟨h1,h2⟩:=P9 hG he (I3 hok);have h3:=I3 h1;exact ⟨A0i h3,A2o (by decide) (by decide) rfl (by simp [h2]) rfl (C7a hG h3)⟩
 split at h
 ·rename_i hk;subst hk;cases h;exact ⟨I3 hok,A2o (by decide) (by decide) rfl rfl rfl rfl⟩
 rename_i n4 n18 n19;split at h
 ·rename_i hk;split at h
  ·cases h
  ·rename_i e s1 he;split at h
   ·rename_i hk9;subst hk9;split at h
    ·cases h
    ·rename_i e2 s2 he2;cases h;obtain ⟨h1,h2⟩:=P9 hG he2 (I3 hok);obtain ⟨h3,h4⟩:=P9 hG he (I3 h1);exact ⟨A0i h3,A2o (by decide) (by decide) rfl (by simp [h2,h4]) (S3 hG h3) rfl⟩
   ·rename_i hk9;cases h;obtain ⟨h1,h2⟩:=P9 hG he (I3 hok);have:k=8\/k=10:=by omega
    rcases this with rfl|rfl
    all_goals exact ⟨A0i h1,A2o (by decide) (by decide) rfl (by simp [h2]) (S3 hG h1) rfl⟩
 ·rename_i hk8;cases h;have h1:=I3 hok;have hs:G7 k=⟨true,false,0,false,false⟩:=by
   unfold G7;rw [if_neg (by omega),if_neg (by omega),if_neg (by omega),if_neg (by omega),if_neg (by omega),if_neg (by omega),if_neg (by omega)]
  exact ⟨A0i h1,A2o (by omega) hk (by rw [hs];rfl) rfl (by rw [hs];exact S3 hG h1) (by rw [hs];rfl)⟩
theorem A9y {d:Nat}:∀ {l:List St} {x:St},J5 d (l++[x])=(J5 d l && R2 d x)
 | [],x=>by simp [J5]
 | a :: l,x=>by rw [A1N,J5,J5,A9y,Bool.and_assoc]
theorem B6o {d:Nat} {k p:Int} {e:Ex} {t o:List St} (hk:k=2\/k=3) (he:V1 e=true) (ht:O8 t (d+1)=true) (ho:O8 o (d+1)=true) (h3:k=3->o=[]):R2 d (.mk k [] [] [e] t o p)=true:=by
 unfold O8 at ht ho;unfold R2;rcases hk with rfl|rfl
 ·simp only [G7];simp [he,ht,ho];simpa using And.intro ht ho
 ·obtain rfl:=h3 rfl;simp only [G7];simp [he,J5];simpa using ht
theorem SS.all (hG:∀ t∈L,I7 t):∀ f:Nat,(∀ (d:Nat) s r,F6 L E f d s=some r->okR r.2=true->okR s=true/\O8 r.1 d=true) /\
  (∀ (d:Nat) l s r,J3 L E f d l s=some r->okR r.2=true->okR s=true/\(J5 d l=true->l.length<=64->(l=[]\/d<=8)->O8 r.1 d=true)) /\
  (∀ (d:Nat) s r,K7 L E f d s=some r->okR r.2=true->okR s=true/\d<=8/\R2 d r.1=true) /\
  (∀ (d:Nat) s r,N5 L E f d s=some r->okR r.2=true->okR s=true/\O8 r.1 (d+1)=true)
 | 0=>⟨fun d s r h=>by simp [F6] at h,fun d l s r h=>by simp [J3] at h,fun d s r h=>by simp [K7] at h,fun d s r h=>by simp [N5] at h⟩
 | f+1=>by
  obtain ⟨i1,i2,i3,i4⟩:=SS.all hG f;have hd1:∀ d:Nat,(d:Int)+1=((d+1:Nat):Int):=fun d=>by omega
  refine ⟨fun d s r h k=>?_,fun d l s r h k=>?_,fun d s r h k=>?_,fun d s r h k=>?_⟩
  ·unfold F6 at h;obtain ⟨h1,h2⟩:=i2 _ _ _ _ h k;exact ⟨I3 h1,h2 rfl (by simp) (.inl rfl)⟩
  ·unfold J3 at h;split at h
   ·rename_i hc;refine ⟨hc.1,fun h1 h2 h3=>?_⟩;split at h
    ·cases h;rw [V5] at k;cases k
    ·split at h
     ·cases h
     ·rename_i x s1 he;obtain ⟨h4,h5⟩:=i2 _ _ _ _ h k;obtain ⟨h6,h7,h8⟩:=i3 _ _ _ he h4;obtain ⟨-,h9, -⟩:=J7 (by decide) h6;exact h5 (by rw [A9y,h1,h8];rfl) (by simp only [A0C,A0K];omega) (.inr h7)
   ·cases h;refine ⟨I3 k,fun h1 h2 h3=>?_⟩;unfold O8;simp only [A0D,A0W,A0G];exact ⟨⟨h2,h3.imp (fun h=>by rw [h];rfl) id⟩,h1⟩
  ·unfold K7 at h;dsimp only at h;split at h
   ·rename_i hl;cases h;rw [hl] at k;cases k
   rename_i hl;have hl:okR (B9 L E s d 8 50)=true:=by simpa using hl
   obtain ⟨hs,hd,hle⟩:=J7 (by decide) hl;rw [hle] at h;refine ⟨hs,by omega,?_⟩;split at h
   ·split at h
    ·cases h
    ·rename_i e s1 he;cases h;obtain ⟨h1,h2⟩:=P9 hG he (I3 k);exact A2o (by decide) (by decide) rfl (by simp [h2]) (S3 hG (I3 h1)) rfl
   ·rename_i hk;obtain ⟨-,hi, -,hk18⟩:=I4 (show 0<=B6 L E s B3 by omega);have hk18:B6 L E s B3<18:=hk18;generalize B6 L E s B3=q at h hk hk18;split at h
    ·rename_i hq;split at h
     ·cases h
     ·rename_i e s2 he;split at h
      ·cases h
      ·rename_i t s3 ht;rw [hd1] at ht;split at h
       ·rename_i hc;split at h
        ·cases h
        ·rename_i o s4 ho;cases h;obtain ⟨o1,o2⟩:=i4 _ _ _ ho k;obtain ⟨t1,t2⟩:=i1 _ _ _ ht (show okR s3=true from o1);obtain ⟨e1,e2⟩:=P9 hG he t1;exact B6o (.inl rfl) e2 t2 o2 (fun h=>absurd h (by decide))
       ·cases h;obtain ⟨t1,t2⟩:=i1 _ _ _ ht k;obtain ⟨e1,e2⟩:=P9 hG he t1;exact B6o (by omega) e2 t2 (by simp [O8,J5]) (fun _=>rfl)
    ·rename_i hq;exact (B9t hG d (by omega) (by omega) h k).2
  ·unfold N5 at h;rw [hd1] at h;split at h
   ·split at h
    ·cases h
    ·rename_i x s1 he;cases h;obtain ⟨h1,h2,h3⟩:=i3 _ _ _ he k;refine ⟨h1,?_⟩;unfold O8;simp only [A0D,A0W,A0G];exact ⟨⟨by simp,.inr h2⟩,by rw [J5,J5,h3];rfl⟩
   ·exact i1 _ _ _ h k
theorem C5u (hG:∀ t∈L,I7 t) {k:Int} {s:Rd} (h0:0<=k) (h8:k<8) (h:okR (Q7 L E k s).2=true):A1q (Q7 L E k s).1=true:=by
 have key:∀ d:Dc,1<=d.kind->d.kind<=8->C2 d.name=true->(if d.kind=6 then -2147483647 else 0)<=d.value->d.value<=(if d.kind=7\/d.kind=8 then 0 else 2147483647)->A1q d=true:=by
  intro d a1 a2 a3 a4 a5;simp only [A1q,A0D,A0G];exact ⟨⟨⟨⟨a1,a2⟩,a3⟩,a4⟩,a5⟩
 unfold Q7 at h ⊢;dsimp only at h ⊢;split at h
 ·rename_i hk;rw [if_pos hk];have h1:=I3 h;obtain ⟨n0,n1⟩:=B6x hG h1;have h2:=A0i h1;have h3:okR (B1 L E (A6 s) 1).2=true:=by
   split at h2
   ·exact h2
   ·exact h2
  refine key _ (by dsimp only;omega) (by dsimp only;omega) (S3 hG h3) ?_ ?_
  ·dsimp only;generalize (B1 L E (if (k+1 == 6 && isR L E (B1 L E (A6 s) 1).2 [45])=true then A6 (B1 L E (A6 s) 1).2 else (B1 L E (A6 s) 1).2) 3).1.value=w at n0 n1 ⊢;by_cases h6:k+1=6
   ·rw [if_pos (by omega)];split<;>omega
   ·rw [if_neg (by omega),if_neg (by simp [h6])];exact n0
  ·dsimp only;generalize (B1 L E (if (k+1 == 6 && isR L E (B1 L E (A6 s) 1).2 [45])=true then A6 (B1 L E (A6 s) 1).2 else (B1 L E (A6 s) 1).2) 3).1.value=w at n0 n1 ⊢;rw [if_neg (by omega:¬ (1+k=7\/1+k=8))];split<;>omega
 ·rename_i hk;rw [if_neg hk];have h3:=I3 h;refine key _ (by dsimp only;omega) (by dsimp only;omega) (S3 hG h3) ?_ ?_
  ·dsimp only;rw [if_neg (by omega)];decide
  ·dsimp only;split<;>decide
theorem B3j (hG:∀ t∈L,I7 t):∀ (f:Nat) (l:List Hd) (s:Rd) (r:List Hd × Rd),K5 L E f l s=some r->okR r.2=true->okR s=true/\(l.length<=32->l.all X9=true->r.1.length<=32/\r.1.all X9=true)
 | 0,l,s,r,h,_=>by simp [K5] at h
 | f+1,l,s,r,h,k=>by
  unfold K5 at h;dsimp only at h;split at h
  ·rename_i hc;refine ⟨hc.1,fun h1 h2=>?_⟩;split at h
   ·cases h;rw [V5] at k;cases k
   split at h
   ·cases h;rw [V5] at k;cases k
   rename_i hk;obtain ⟨hok2,hi2, -,hk6⟩:=I4 (show 0<=B6 L E (C5 L E (B9 L E s ((l.length:Int)+1) 32 9) [111,110]) C8 by omega);have hk6:B6 L E (C5 L E (B9 L E s ((l.length:Int)+1) 32 9) [111,110]) C8<6:=hk6;obtain ⟨-,hll, -⟩:=J7 (by decide) (I3 hok2);generalize B6 L E (C5 L E (B9 L E s ((l.length:Int)+1) 32 9) [111,110]) C8=q at h hk hk6;split at h
   ·cases h
   ·rename_i b s5 hb;obtain ⟨m1,m2⟩:=B3j hG f _ _ _ h k;obtain ⟨b1,b2⟩:=(SS.all hG f).1 1 _ _ hb m1;refine m2 (by simp only [A0C,A0K];omega) ?_;rw [A4K,h2,A1J];simp only [A2N,List.all_nil,A1T,X9,A0D,A0G];refine ⟨⟨⟨by omega,by omega⟩,?_⟩,b2⟩;by_cases hq:2<=q
    ·rw [if_pos (by omega),if_pos hq];rw [if_pos hq] at b1;exact S3 hG b1
    ·rw [if_neg (by omega),if_neg hq];rfl
  ·cases h;exact ⟨I3 k,fun h1 h2=>⟨h1,h2⟩⟩
theorem C5a (hG:∀ t∈L,I7 t) {f:Nat} {s:Rd} {r:Md × Rd} (h:A0l L E f s=some r) (k:okR r.2=true):okR s=true/\S7 r.1=true:=by
 unfold A0l at h;dsimp only at h;split at h
 ·cases h
 ·rename_i l s3 hm;cases h;obtain ⟨m1,m2⟩:=B3j hG _ _ _ _ hm k;obtain ⟨m3,m4⟩:=m2 (by simp) rfl;have h1:=I3 m1;have h2:=A0i h1;obtain ⟨n0,n1⟩:=B6x hG h1;refine ⟨I3 (A0i h2),?_⟩;simp only [S7,A0D,A0G];exact ⟨⟨⟨⟨S3 hG h2,n0⟩,n1⟩,m3⟩,m4⟩
theorem A7s (hG:∀ t∈L,I7 t):∀ (f:Nat) (l:List Dc) (s:Rd) (r:List Dc × Rd),J9 L E f l s=some r->okR r.2=true->okR s=true/\(l.length<=128->l.all A1q=true->r.1.length<=128/\r.1.all A1q=true)
 | 0,l,s,r,h,_=>by simp [J9] at h
 | f+1,l,s,r,h,k=>by
  unfold J9 at h;dsimp only at h;split at h
  ·cases h;exact ⟨k,fun h1 h2=>⟨h1,h2⟩⟩
  ·rename_i hk;obtain ⟨hs,hi, -,hk8⟩:=I4 (show 0<=B6 L E s C3 by omega);have hk8:B6 L E s C3<8:=hk8;refine ⟨hs,fun h1 h2=>?_⟩;split at h
   ·rename_i hl;obtain ⟨-,hll,hle⟩:=J7 (by decide) hl;obtain ⟨m1,m2⟩:=A7s hG f _ _ _ h k;exact m2 (by simp only [A0C,A0K];omega) (by rw [A4K,h2,A1J,A2N,C5u hG (by omega) hk8 m1];rfl)
   ·rename_i hl;obtain ⟨m1,m2⟩:=A7s hG f _ _ _ h k;exact absurd m1 hl
theorem A7r (hG:∀ t∈L,I7 t):∀ (f:Nat) (l:List Md) (s:Rd) (r:List Md × Rd),I9 L E f l s=some r->okR r.2=true->okR s=true/\(l.length<=16->l.all S7=true->r.1.length<=16/\r.1.all S7=true)
 | 0,l,s,r,h,_=>by simp [I9] at h
 | f+1,l,s,r,h,k=>by
  unfold I9 at h;dsimp only at h;split at h
  ·rename_i hc;refine ⟨hc.1,fun h1 h2=>?_⟩;split at h
   ·cases h;rw [V5] at k;cases k
   split at h
   ·rename_i hl;split at h
    ·cases h
    ·rename_i m s2 hm;obtain ⟨m1,m2⟩:=A7r hG f _ _ _ h k;obtain ⟨q1,q2⟩:=C5a hG hm m1;obtain ⟨-,hll,hle⟩:=J7 (by decide) hl;exact m2 (by simp only [A0C,A0K];omega) (by rw [A4K,h2,A1J,A2N,q2];rfl)
   ·rename_i hl;obtain ⟨m1,m2⟩:=A7r hG f _ _ _ h k;exact absurd m1 hl
  ·cases h;exact ⟨k,fun h1 h2=>⟨h1,h2⟩⟩
theorem C4o (hG:∀ t∈L,I7 t) {f:Nat} {s:Rd} {r:Ru × Rd} (h:Y8 L E f s=some r) (k:okR r.2=true):A1x r.1=true:=by
 unfold Y8 at h;split at h
 ·cases h
 ·rename_i d s1 hd;split at h
  ·cases h
  ·rename_i m s2 hm;cases h;obtain ⟨m1,m2⟩:=A7r hG _ _ _ _ hm k;obtain ⟨m3,m4⟩:=m2 (by simp) rfl;obtain ⟨d1,d2⟩:=A7s hG _ _ _ _ hd m1;obtain ⟨d3,d4⟩:=d2 (by simp) rfl;simp only [A1x,A0D,A0G];exact ⟨⟨⟨d3,m3⟩,d4⟩,m4⟩
end
end Go.Pb
namespace Go.Pb
variable [Go.Sym.Tab]
open Go.Sym
def okN (kind:Int) (text:List UInt8) (value:Int) (i n:Nat):DV:=.tup [.agg [I64 kind,.str text,I64 value,I64 i],I64 ((i+n:Nat):Int),I64 0]
def X5 (e:Int) (i:Nat):DV:=.tup [.agg [I64 0,.str [],I64 0,I64 0],I64 i,I64 e]
def nxR (x:Nx) (i:Nat):DV:=if x.err=0 then okN x.kind x.text x.value i x.n else X5 x.err i
theorem C0s (x:Nx) (i:Nat):(nxR x i).nl=true:=by unfold nxR;split<;>rfl
theorem B0q {k:Int} {t:List UInt8} {v:Int} {n i:Nat}:nxR ⟨k,t,v,n,0⟩ i=okN k t v i n:=if_pos rfl
theorem A6s {e:Int} {i:Nat} (h:e≠0):nxR (nxE e) i=X5 e i:=if_neg h
def B6i (s:List UInt8):Bool:=decide (2147483647<J2 s)
def smV (s:List UInt8):Nat:=if 2147483647<J2 s then 0 else J2 s
theorem C7k (s:List UInt8):smV s<=2147483647:=by unfold smV;split<;>omega
theorem C7l {s:List UInt8} (h:¬ 2147483647<J2 s):smV s=J2 s:=if_neg h
theorem D6i {s:List UInt8} (h:2147483647<J2 s):smV s=0:=if_pos h
theorem B0g {p:UInt8->Bool} {s:List UInt8} {i j:Nat} {c:UInt8} (h:s[i+j]? = some c) (hj:j<=C1 p (s.drop i)):(p c=true->j+1<=C1 p (s.drop i))/\(p c=false->C1 p (s.drop i)=j) :=
 B4o (by rw [A1W];exact h) hj
theorem A7q {p:UInt8->Bool} {s:List UInt8} {i j:Nat} (h:s.length<=i+j) (hj:j<=C1 p (s.drop i)):C1 p (s.drop i)=j :=
 B7c (by rw [A1E];omega) hj
theorem B7d {s:List UInt8} {i n:Nat} (h:i+n<=s.length):slsR s (some (.int .i64 (i:Int))) (some (.int .i64 ((i+n:Nat):Int)))=some (.str ((s.drop i).take n)):=by
 have b1:∀ k:Nat,boundOf s.length (some (.int .i64 (k:Int)))=some k:=fun k=>by simp [boundOf]
 have b2:∀ k:Nat,boundOf 0 (some (.int .i64 (k:Int)))=some k:=fun k=>by simp [boundOf]
 simp only [slsR,b1,b2];rw [if_pos ⟨h,by omega⟩,show i+n-i=n by omega]
theorem C4w (x:Nx) (i:Nat):∃ (k:Int) (t:List UInt8) (v p n e:Int),nxR x i=.tup [.agg [I64 k,.str t,I64 v,I64 p],I64 n,I64 e]:=by
 unfold nxR;split
 ·exact ⟨_,_,_,_,_,_,rfl⟩
 ·exact ⟨_,_,_,_,_,_,rfl⟩
def D1p:Blk:=⟨0,true,[I64 0,.str [],I64 0,I64 0]⟩
def quR (i:Nat):Option (List UInt8 × Nat)->DV
 | none=>X5 48 i
 | some x=>if 32<x.1.length then X5 9 i else .tup [.agg [I64 4,.str x.1,I64 0,I64 i],I64 (x.2:Int),I64 0]
theorem D9l (i:Nat) (q:Option (List UInt8 × Nat)):(quR i q).nl=true:=by
 cases q with
 | none=>rfl
 | some x=>simp only [quR];split<;>rfl
theorem C8k {s:List UInt8} {i:Nat} {c:UInt8} (h:s[i]? = some c) (h1:ltB c=false) (h2:dgB c=false) (h3:c.toNat=34):quR i (quA [] (i+1) (quM (s.drop (i+1))))=nxR (A7 (s.drop i)) i:=by
 rw [N0 h,A7,if_neg (by rw [h1];simp),if_neg (by rw [h2];simp),if_pos h3];cases hq:quM (s.drop (i+1)) with
 | none=>rfl
 | some x =>
  simp only [quA,A3V,A1K,quR];split
  ·rw [A6s (by decide)]
  ·rw [B0q,okN];have:x.2+(i+1)=i+(x.2+1):=by omega
   rw [this]
theorem A9f {X:Hp} {o:Option Nat} {c:Nat} {b b2 b3 b3':Blk} (hX:∀ j q,X j=some q->j<c) (ho:∀ i,o=some i->X i=none) (h:b3=b3') :
  Sub (D4 X (some (c+1)) b3) ((A2h ((D4 X o b).upd c b2) o).upd (c+1) b3'):=by
 subst h;intro j q hj;simp only [D4] at hj;by_cases e:j=c+1
 ·subst e;rw [A0] at hj ⊢;exact hj
 ·rw [A3 e] at hj ⊢;have h1:=hX j q hj;have h2:∀ i,o=some i->¬ j=i:=fun i hi e2=>by rw [e2,ho i hi] at hj;cases hj
  rw [N2 h2,A3 (by omega),F3 h2];exact hj
theorem A9a {b:Blk} {c j:Nat} {q:Blk} (hc:1<=c) (h:(Sym.nil.upd 0 b) j=some q):j<c:=by
 by_cases e:j=0
 ·omega
 ·rw [A3 e] at h;cases h
theorem A8z {b:Blk} {i:Nat} (h:¬ i=0):(Sym.nil.upd 0 b) i=none:=by rw [A3 h];rfl
def T8:List (List UInt8):=[[60,61],[62,61],[61,61],[33,61],[38,38],[124,124],[123],[125],[40],[41],[59],[44],[61],[43],[45],[42],[47],[37],[33],[60],[62]]
theorem C7s:∀ k:Nat,k<6->∃ a b,T8.getD k []=[a,b]/\A3o a b=true:=by
 intro k hk;have:∀ k:Nat,k<6->(match T8.getD k [] with | [a,b]=>A3o a b|_=>false)=true:=by decide
 have:=this k hk;split at this
 ·rename_i a b e;exact ⟨a,b,e,this⟩
 ·cases this
theorem C7t:∀ k:Nat,6<=k->k<21->∃ a,T8.getD k []=[a]/\A3l a=true:=by
 intro k h6 hk;have:∀ k:Nat,k<21->6<=k->(match T8.getD k [] with | [a]=>A3l a|_=>false)=true:=by decide
 have:=this k hk h6;split at this
 ·rename_i a e;exact ⟨a,e,this⟩
 ·cases this
theorem C6q {c d:UInt8} (h:A3o c d=true):∃ k,k<6/\T8.getD k []=[c,d]:=by
 rw [C2e] at h;simp only [A0W,A1G] at h;rcases h with ((((h|h)|h)|h)|h)|h
 ·exact ⟨0,by omega,h.symm⟩
 ·exact ⟨1,by omega,h.symm⟩
 ·exact ⟨2,by omega,h.symm⟩
 ·exact ⟨3,by omega,h.symm⟩
 ·exact ⟨4,by omega,h.symm⟩
 ·exact ⟨5,by omega,h.symm⟩
theorem D9w {c:UInt8} (h:A3l c=true):∃ k,6<=k/\k<21/\T8.getD k []=[c]:=by
 have key:∀ n:Nat,n<256->A3l (UInt8.ofNat n)=true->∃ k,k<21/\6<=k/\T8.getD k []=[UInt8.ofNat n]:=by decide +kernel
 obtain ⟨k,h1,h2,h3⟩:=key c.toNat c.toNat_lt (by rw [UInt8.ofNat_toNat];exact h);rw [UInt8.ofNat_toNat] at h3;exact ⟨k,h2,h1,h3⟩
def A7v (l s:List UInt8):Bool:=decide (l.length<=s.length) && (s.take l.length == l)
theorem C4n {s:List UInt8} {k:Nat} (hk:k<21) (hno:∀ j,j<k->A7v (T8.getD j []) s=false) (h:A7v (T8.getD k []) s=true):D7 s=(T8.getD k []).length/\(T8.getD k [])=s.take (T8.getD k []).length:=by
 simp only [A7v,A0D,A0G,A1G] at h;refine ⟨?_,h.2.symm⟩;by_cases h6:k<6
 ·obtain ⟨a,b,e,ht⟩:=C7s k h6;rw [e] at h ⊢
  match s,h with
  | [],h=>simp at h
  | [x],h=>simp at h
  | x :: y :: r,h =>
   simp at h;obtain ⟨rfl,rfl⟩:=h;simp [D7,ht]
 ·obtain ⟨a,e,ho⟩:=C7t k (by omega) hk;rw [e] at h ⊢
  match s,h with
  | [],h=>simp at h
  | [x],h =>
   simp at h;subst h;simp [D7,ho]
  | x :: y :: r,h =>
   simp at h;subst h;have h2:A3o x y=false:=by
    cases ht:A3o x y with
    | false=>rfl
    | true =>
     obtain ⟨j,hj,e2⟩:=C6q ht;have:=hno j (by omega);rw [e2] at this;simp [A7v] at this
   simp [D7,h2,ho]
theorem C7r {s:List UInt8} (hno:∀ j,j<21->A7v (T8.getD j []) s=false):D7 s=0:=by
 have h1:∀ x r,s=x :: r->A3l x=false:=by
  intro x r e;cases ho:A3l x with
  | false=>rfl
  | true =>
   obtain ⟨j, -,hj,e2⟩:=D9w ho;have:=hno j hj;rw [e2,e] at this;simp [A7v] at this
 match s,hno,h1 with
 | [],_,_=>rfl
 | [x],_,h1=>simp [D7,h1 x [] rfl]
 | x :: y :: r,hno,h1 =>
  have h2:A3o x y=false:=by
   cases ht:A3o x y with
   | false=>rfl
   | true =>
    obtain ⟨j,hj,e2⟩:=C6q ht;have:=hno j (by omega);rw [e2] at this;simp [A7v] at this
  simp [D7,h2,h1 x _ rfl]
end Go.Pb
namespace Go.Pb
variable [Go.Sym.Tab]
open Go.Sym
def T0:Tok:=⟨0,[],0,0⟩
theorem D7c {g:Bool} {a b d a' b' d':Int} {s t:List UInt8}:C5o g [0,2,0,0] (.agg [I64 a,.str s,I64 b,I64 d]) (.agg [I64 a',.str t,I64 b',I64 d'])=some (.bool (g != (a == a' && (s == t && (b == b' && d == d'))))):=by
 simp only [C5o,U7,A8g,if_true];cases h1:a == a'<;>cases h2:s == t<;>cases h3:b == b'<;>cases h4:d == d'<;>simp
theorem B2w:∀ (f:Nat) (s:List UInt8) (k:Nat) (acc:List Tok),acc.length<=k->k<=s.length->(H4 f s k acc).1.length<=s.length
 | 0,s,k,acc,h1,h2=>by simp only [H4];omega
 | f+1,s,k,acc,h1,h2=>by
  rw [H4];split
  ·simp only;omega
  ·split
   ·simp
   ·rename_i h3 h4;have h4:(A7 (s.drop k)).err=0:=by simpa using h4
    have hn:=A1e h4;rw [A1E] at hn;have hk:=T7 false (s.drop (k+(A7 (s.drop k)).n));rw [A1E] at hk;exact B2w f s _ _ (by rw [A0C,A0K];omega) (by omega)
theorem B2x (s:List UInt8):(C0 s).1.length<=s.length:=by
 unfold C0;split
 ·simp
 ·have:=T7 false s;exact B2w _ _ _ _ (by simp) this
end Go.Pb
namespace Go.Pb
variable [Go.Sym.Tab]
open Go.Sym
def B6a (c:UInt8):Bool:=T9 c || decide (c.toNat=35)
theorem A0p {c:UInt8} (h:B6a c=true):c.toNat=9\/c.toNat=10\/c.toNat=13\/c.toNat=32\/c.toNat=35:=by
 simp only [B6a,T9,A0W,A0G] at h;omega
theorem E1o {c:UInt8} (h:B6a c=true):ltB c=false:=by
 have:=A0p h;simp only [ltB];simp;omega
theorem E1p {c:UInt8} (h:B6a c=true):dgB c=false:=by
 have:=A0p h;simp only [dgB];simp;omega
theorem D1c {c d:UInt8} (h:B6a c=true):A3o c d=false:=by
 have:=A0p h;unfold A3o;rw [A3Z];intro h2;simp at h2;omega
theorem C3x {c:UInt8} (h:B6a c=true):A3l c=false:=by
 have:=A0p h;unfold A3l;rw [A3Z];intro h2;simp at h2;omega
theorem E1q {c:UInt8} (h:B6a c=true):¬ c.toNat=34:=by
 have:=A0p h;omega
theorem C0j (r:List UInt8):∀ {s t:List UInt8} {n:Nat},quM s=some (t,n)->quM (s.take n++r)=some (t,n)
 | [],t,n,h=>by simp [quM] at h
 | c :: q,t,n,h=>by
  rw [J1] at h;by_cases h1:c.toNat=34
  ·rw [if_pos h1] at h;cases h;rw [A0X,A1N,J1,if_pos h1]
  ·rw [if_neg h1] at h;by_cases h2:c.toNat<32\/126<c.toNat
   ·rw [if_pos h2] at h;cases h
   ·rw [if_neg h2] at h;by_cases h3:c.toNat=92
    ·rw [if_pos h3] at h;cases q with
     | nil=>cases h
     | cons d q =>
      simp only at h;by_cases h4:d.toNat=34\/d.toNat=92
      ·rw [if_pos h4] at h;obtain ⟨⟨t',n'⟩,g1,g2⟩:=A0M.1 h;have ih:=C0j r g1;cases g2;rw [A0X,A0X,A1N,A1N,J1,if_neg h1,if_neg h2,if_pos h3];simp only;rw [if_pos h4,ih];rfl
      ·rw [if_neg h4] at h;cases h
    ·rw [if_neg h3] at h;obtain ⟨⟨t',n'⟩,g1,g2⟩:=A0M.1 h;have ih:=C0j r g1;cases g2;rw [A0X,A1N,J1,if_neg h1,if_neg h2,if_neg h3,ih];rfl
theorem C7b {α : Type} {s r:List α} {n:Nat} (h:n<=s.length):(s.take n++r).take n=s.take n:=by
 have hl:(s.take n).length=n:=by rw [A0T];omega
 exact List.take_left' hl
theorem C3g {s:List UInt8} (h:(A7 s).err=0):skM false s=0:=by
 cases s with
 | nil=>rfl
 | cons c q =>
  by_cases he:B6a c=true
  ·have hs:D7 (c :: q)=0:=by
    cases q with
    | nil=>simp only [D7];rw [if_neg (by rw [C3x he];simp)]
    | cons d q=>simp only [D7];rw [if_neg (by rw [D1c he];simp),if_neg (by rw [C3x he];simp)]
   rw [A7,if_neg (by rw [E1o he];simp),if_neg (by rw [E1p he];simp),if_neg (E1q he),if_pos hs] at h;simp [nxE] at h
  ·have he:T9 c=false/\¬ c.toNat=35:=by simpa [B6a] using he
   simp only [skM];rw [if_neg (by rw [he.1];simp),if_neg he.2]
def K4 (t:Tok):List UInt8:=if t.kind=1\/t.kind=2\/t.kind=5 then t.text else if t.kind=3 then G8 t.value else if t.kind=4 then V7 t.text else []
def nxT (x:Nx) (p:Int):Tok:=⟨x.kind,x.text,x.value,p⟩
theorem B7z (s:List UInt8) (c:UInt8):J2 (s++[c])=10 * J2 s+(c.toNat-48):=by
 unfold J2;rw [A4Q];rfl
theorem D1g {c:UInt8} (h:dgB c=true):W0 (c.toNat-48)=c:=by
 simp only [dgB,A0D,A0G] at h;rw [<- UInt8.toNat_inj];unfold W0;simp;omega
theorem D5p:∀ (m:Nat) (d:List UInt8),d.length=m->d≠[]->(∀ c∈d,dgB c=true)->(1<d.length->∀ c,d.head? = some c->c.toNat≠48)->A5e (J2 d)=d:=by
 intro m
 induction m with
 | zero=>intro d h h0;exact absurd (A1S h) h0
 | succ m ih =>
  intro d h h0 hd h1;obtain ⟨e,c,rfl⟩:∃ e c,d=e++[c]:=⟨d.dropLast,d.getLast h0,(List.dropLast_concat_getLast h0).symm⟩;have hc:=hd c (by simp);have hb:=D1g hc;simp only [dgB,A0D,A0G] at hc;rw [B7z];cases e with
  | nil =>
   show A5e (10 * 0+(c.toNat-48))=[c];rw [A1k (by omega),show 10 * 0+(c.toNat-48)=c.toNat-48 by omega,hb]
  | cons x e =>
   have hx:=hd x (by simp);simp only [dgB,A0D,A0G] at hx;have hx48:x.toNat≠48:=h1 (by simp) x rfl;have hpos:1<=J2 (x :: e):=by
    have h2:J2 (x :: e)=B2e (10 * 0+(x.toNat-48)) e:=rfl;have:=B5j e (10 * 0+(x.toNat-48));rw [h2];omega
   rw [A4x (by omega),show (10 * J2 (x :: e)+(c.toNat-48)) / 10=J2 (x :: e) by omega,show (10 * J2 (x :: e)+(c.toNat-48)) % 10=c.toNat-48 by omega,hb];rw [ih (x :: e) (by simp at h ⊢;omega) (by simp) (fun y hy=>hd y (A3A _ hy)) (fun _ y hy=>by cases hy;exact hx48)]
theorem B4y:∀ {s t:List UInt8} {n:Nat},quM s=some (t,n)->t.flatMap quB++[34]=s.take n
 | [],t,n,h=>by simp [quM] at h
 | c :: q,t,n,h=>by
  have h8:∀ x:UInt8,x.toNat=34->x=34:=fun x hx=>by rw [<- UInt8.toNat_inj,hx];rfl
  have h9:∀ x:UInt8,x.toNat=92->x=92:=fun x hx=>by rw [<- UInt8.toNat_inj,hx];rfl
  rw [J1] at h;by_cases h1:c.toNat=34
  ·rw [if_pos h1] at h;cases h;rw [h8 c h1];rfl
  ·rw [if_neg h1] at h;by_cases h2:c.toNat<32\/126<c.toNat
   ·rw [if_pos h2] at h;cases h
   ·rw [if_neg h2] at h;by_cases h3:c.toNat=92
    ·rw [if_pos h3] at h;cases q with
     | nil=>cases h
     | cons d q =>
      simp only at h;by_cases h4:d.toNat=34\/d.toNat=92
      ·rw [if_pos h4] at h;obtain ⟨⟨t',n'⟩,g1,g2⟩:=A0M.1 h;have ih:=B4y g1;cases g2;rw [A0X,A0X,A1F,quB,if_pos h4,h9 c h3];simp only [A1N,A1K];rw [ih]
      ·rw [if_neg h4] at h;cases h
    ·rw [if_neg h3] at h;obtain ⟨⟨t',n'⟩,g1,g2⟩:=A0M.1 h;have ih:=B4y g1;cases g2;rw [A0X,A1F,quB,if_neg (by omega)];simp only [A1N,A1K];rw [ih]
theorem B7x {s:List UInt8} (h:(A7 s).err=0) (p:Int):K4 (nxT (A7 s) p)=s.take (A7 s).n:=by
 cases s with
 | nil=>simp [A7,nxE] at h
 | cons c q =>
  by_cases hl:ltB c=true
  ·by_cases h12:12<C1 ptB (c :: q)
   ·rw [A7,if_pos hl,if_pos h12] at h;simp [nxE] at h
   ·rw [A7,if_pos hl,if_neg h12,nxT,K4];simp only;rw [if_pos (by split<;>simp)]
  ·by_cases hd:dgB c=true
   ·by_cases h1:1<C1 dgB (c :: q)/\c.toNat=48
    ·rw [A7,if_neg hl,if_pos hd,if_pos h1] at h;simp [nxE] at h
    ·by_cases h2:2147483647<J2 ((c :: q).take (C1 dgB (c :: q)))
     ·rw [A7,if_neg hl,if_pos hd,if_neg h1,if_pos h2] at h;simp [nxE] at h
     ·rw [A7,if_neg hl,if_pos hd,if_neg h1,if_neg h2,nxT,K4];simp only;rw [if_neg (by omega),if_pos trivial,G8,if_neg (by omega),Int.natAbs_natCast];have hle:=T6 dgB (c :: q);have hn1:1<=C1 dgB (c :: q):=by simp [C1,hd]
      refine D5p _ _ rfl (fun e=>?_) (B0h (c :: q)) (fun hlen x hx=>?_)
      ·have:=congrArg List.length e;rw [A0T,A0F] at this;omega
      ·rw [A0T] at hlen;obtain ⟨k,hk⟩:∃ k,C1 dgB (c :: q)=k+1:=⟨C1 dgB (c :: q)-1,by omega⟩;rw [hk,A0X] at hx;cases hx;exact fun e=>h1 ⟨by omega,e⟩
   ·by_cases h34:c.toNat=34
    ·cases hq:quM q with
     | none=>rw [A7,if_neg hl,if_neg hd,if_pos h34,hq] at h;simp [nxE] at h
     | some x =>
      obtain ⟨t,m⟩:=x;by_cases h32:32<t.length
      ·rw [A7,if_neg hl,if_neg hd,if_pos h34,hq] at h;simp only at h;rw [if_pos h32] at h;simp [nxE] at h
      ·rw [A7,if_neg hl,if_neg hd,if_pos h34,hq];simp only;rw [if_neg h32,nxT,K4];simp only;rw [if_neg (by omega),if_neg (by omega),if_pos trivial,V7,A2t,A0U,B4y hq,A0X];have:c=34:=by rw [<- UInt8.toNat_inj,h34];rfl
       rw [this];rfl
    ·by_cases hs:D7 (c :: q)=0
     ·rw [A7,if_neg hl,if_neg hd,if_neg h34,if_pos hs] at h;simp [nxE] at h
     ·rw [A7,if_neg hl,if_neg hd,if_neg h34,if_neg hs,nxT,K4];exact if_pos (.inr (.inr rfl))
def A0u (s:List UInt8):Nat->List Tok->Prop
 | k,[]=>s.length<=k
 | k,t :: l=>k<s.length/\(A7 (s.drop k)).err=0/\t=nxT (A7 (s.drop k)) (k:Int)/\A0u s (k+(A7 (s.drop k)).n+skM false (s.drop (k+(A7 (s.drop k)).n))) l
theorem A8o:∀ (f:Nat) (s:List UInt8) (k:Nat) (acc:List Tok),s.length+1<=k+f->(H4 f s k acc).2.2=0->∃ l,(H4 f s k acc).1=acc++l/\A0u s k l
 | 0,s,k,acc,hf,h=>⟨[],by simp [H4],by show s.length<=k;omega⟩
 | f+1,s,k,acc,hf,h=>by
  rw [H4] at h ⊢;by_cases h1:s.length<=k
  ·rw [if_pos h1];exact ⟨[],by simp,h1⟩
  ·rw [if_neg h1] at h ⊢;by_cases h2:(A7 (s.drop k)).err=0
   ·rw [if_neg (by simpa using h2)] at h ⊢;have hn:=A1e h2;obtain ⟨l,e,hr⟩:=A8o f s _ _ (by omega) h;exact ⟨_ :: l,by rw [e,A0U];rfl,by omega,h2,rfl,hr⟩
   ·rw [if_pos h2] at h;exact absurd h h2
theorem A8p:∀ (f:Nat) (s:List UInt8) (k:Nat) (acc l:List Tok),s.length+1<=k+f->A0u s k l->H4 f s k acc=(acc++l,0,0)
 | 0,s,k,acc,l,hf,h=>by
  cases l with
  | nil=>simp [H4]
  | cons t l=>have:=h.1;omega
 | f+1,s,k,acc,[],hf,h=>by
  rw [H4,if_pos (show s.length<=k from h)];simp
 | f+1,s,k,acc,t :: l,hf,h=>by
  obtain ⟨h1,h2,h3,h4⟩:=h;have hn:=A1e h2;rw [H4,if_neg (by omega),if_neg (by simpa using h2),A8p f s _ _ l (by omega) h4,h3,A0U];rfl
theorem S5 {s:List UInt8} (h:(C0 s).2.2=0):s.length<=20000/\A0u s (skM false s) (C0 s).1:=by
 unfold C0 at h ⊢;by_cases h1:20000<s.length
 ·rw [if_pos h1] at h;cases h
 ·rw [if_neg h1] at h ⊢;have:=T7 false s;obtain ⟨l,e,hr⟩:=A8o _ s _ [] (by omega) h;rw [e];exact ⟨by omega,hr⟩
theorem B7o {s:List UInt8} {l:List Tok} (h1:s.length<=20000) (h:A0u s (skM false s) l):C0 s=(l,0,0):=by
 unfold C0;rw [if_neg (by omega),A8p _ s _ [] l (by omega) h];rfl
def TOk (t:Tok):Prop:=∃ s p,(A7 s).err=0/\t=nxT (A7 s) p
theorem A0u.ok {s:List UInt8}:∀ {k:Nat} {l:List Tok},A0u s k l->∀ t∈l,TOk t
 | k,[],_,t,h=>by cases h
 | k,x :: l,h,t,ht=>by
  rcases A1D.1 ht with rfl|ht
  ·exact ⟨_,_,h.2.1,h.2.2.1⟩
  ·exact A0u.ok h.2.2.2 t ht
def A3p (l:List Tok):Nat:=(l.map fun t=>(K4 t).length).sum
theorem A0u.len {s:List UInt8}:∀ {k:Nat} {l:List Tok},A0u s k l->k<=s.length->k+l.length<=s.length/\k+A3p l<=s.length
 | k,[],h,hk=>⟨hk,hk⟩
 | k,x :: l,h,hk=>by
  obtain ⟨h1,h2,h3,h4⟩:=h;have hn:=A1e h2;rw [A1E] at hn;have hz:=T7 false (s.drop (k+(A7 (s.drop k)).n));rw [A1E] at hz;have ih:=h4.len (by omega);have ho:(K4 x).length=(A7 (s.drop k)).n:=by rw [h3,B7x h2,A0T,A1E];omega
  simp only [A3p,A0N,A3R,A0B] at ih ⊢;omega
def Q8 (sp:Nat->List UInt8):Nat->List Tok->List UInt8
 | _,[]=>[]
 | i,t :: l=>sp i++K4 t++Q8 sp (i+1) l
theorem B8l (sp:Nat->List UInt8) (t:Tok):∀ (l:List Tok) (i:Nat),Q8 sp i (l++[t])=Q8 sp i l++sp (i+l.length)++K4 t
 | [],i=>by simp [Q8]
 | x :: l,i=>by
  simp only [A1N,Q8];rw [B8l sp t l (i+1),show i+1+l.length=i+(x :: l).length by simp;omega];simp only [A0U]
theorem C5j {sp:Nat->List UInt8} {l:List Tok} {k:Nat} {t:Tok} (h:l[k]? = some t):Q8 sp 0 (l.take (k+1))=Q8 sp 0 (l.take k)++sp k++K4 t:=by
 have hk:=(A0V.1 h).1;rw [A2J,h,A4N,B8l,A0T,show 0+min k l.length=k by omega]
theorem B1e {sp:Nat->List UInt8} {m:Nat} (h:∀ i,(sp i).length<=m):∀ (l:List Tok) (i:Nat),(Q8 sp i l).length<=m * l.length+A3p l
 | [],i=>by simp [Q8]
 | t :: l,i=>by
  have ih:=B1e h l (i+1);have hi:=h i;simp only [Q8,A0C,A3p,A0N,A3R,A0B,Nat.mul_succ] at ih ⊢;omega
end Go.Pb
namespace Go.Pb
variable [Go.Sym.Tab]
open Go.Sym
def spB (i:Nat):List UInt8:=if i=0 then [] else [32]
def T4 (l:List Tok):List UInt8:=Q8 spB 0 l
theorem C2m (i:Nat):(spB i).length<=1:=by unfold spB;split<;>simp
theorem B3a (s:List UInt8):(V7 s).length<=2 * s.length+2:=by
 have:=B0l s;unfold V7;rw [A0C,A0K];omega
def Fit (t:Tok):Prop:=t.text.length<=100000/\I6 t.value
theorem B7y {t:Tok} (h:Fit t):(K4 t).length<=200024:=by
 have h1:=B3a t.text;have h2:=N8 h.2.1 h.2.2;have h3:=h.1;unfold K4;split
 ·omega
 ·split
  ·omega
  ·split
   ·omega
   ·simp
theorem C2i:∀ {l:List Tok},(∀ t∈l,Fit t)->A3p l<=200024 * l.length
 | [],_=>by simp [A3p]
 | t :: l,h=>by
  have h1:=B7y (h t A0L);have h2:=C2i (l:=l) fun x hx=>h x (A0J _ hx);simp only [A3p,A0N,A3R,A0B] at h2 ⊢;omega
theorem A7p {l:List Tok} (h:∀ t∈l,Fit t):(T4 l).length<=200025 * l.length:=by
 have h1:=B1e C2m l 0;have h2:=C2i h;unfold T4;omega
theorem B3p:∀ (l:List Tok) (i:Nat),1<=i->Q8 spB i l=Lib.joinTail [32] (l.map K4)
 | [],i,_=>rfl
 | t :: l,i,h=>by
  have ih:=B3p l (i+1) (by omega);simp only [Q8,ih,Lib.joinTail,A0N,A2W];rw [spB,if_neg (by omega)]
theorem A4f (l:List Tok):Lib.join (l.map K4) [32]=T4 l:=by
 cases l with
 | nil=>rfl
 | cons t l =>
  rw [A0N,Lib.join_cons,T4,Q8,B3p l 1 (by omega),spB,if_pos rfl];simp
theorem TOk.fit {t:Tok} (h:TOk t):Fit t:=by
 obtain ⟨s,p,h1,rfl⟩:=h;unfold Fit I6;cases s with
 | nil=>simp [A7,nxE] at h1
 | cons c q =>
  by_cases hl:ltB c=true
  ·by_cases h12:12<C1 ptB (c :: q)
   ·rw [A7,if_pos hl,if_pos h12] at h1;simp [nxE] at h1
   ·rw [A7,if_pos hl,if_neg h12,nxT];refine ⟨?_,by simp only;omega,by simp only;omega⟩;simp only [A0T];omega
  ·by_cases hd:dgB c=true
   ·by_cases h3:1<C1 dgB (c :: q)/\c.toNat=48
    ·rw [A7,if_neg hl,if_pos hd,if_pos h3] at h1;simp [nxE] at h1
    ·by_cases h2:2147483647<J2 ((c :: q).take (C1 dgB (c :: q)))
     ·rw [A7,if_neg hl,if_pos hd,if_neg h3,if_pos h2] at h1;simp [nxE] at h1
     ·rw [A7,if_neg hl,if_pos hd,if_neg h3,if_neg h2,nxT];exact ⟨by simp,by simp only;omega,by simp only;omega⟩
   ·by_cases h34:c.toNat=34
    ·cases hq:quM q with
     | none=>rw [A7,if_neg hl,if_neg hd,if_pos h34,hq] at h1;simp [nxE] at h1
     | some x =>
      obtain ⟨t,m⟩:=x;by_cases h32:32<t.length
      ·rw [A7,if_neg hl,if_neg hd,if_pos h34,hq] at h1;simp only at h1;rw [if_pos h32] at h1;simp [nxE] at h1
      ·rw [A7,if_neg hl,if_neg hd,if_pos h34,hq];simp only;rw [if_neg h32,nxT];exact ⟨by simp only;omega,by simp only;omega,by simp only;omega⟩
    ·by_cases hs:D7 (c :: q)=0
     ·rw [A7,if_neg hl,if_neg hd,if_neg h34,if_pos hs] at h1;simp [nxE] at h1
     ·rw [A7,if_neg hl,if_neg hd,if_neg h34,if_neg hs,nxT];have h2:D7 (c :: q)<=2:=by
       cases q with
       | nil=>simp only [D7];split<;>omega
       | cons d q=>simp only [D7];split<;>(try split)<;>omega
      refine ⟨?_,by simp only;omega,by simp only;omega⟩;simp only [A0T];omega
theorem A4j {s:List UInt8} (h:(C0 s).2.2=0):∀ t∈(C0 s).1,TOk t:=(S5 h).2.ok
end Go.Pb
namespace Go.Pb
variable [Go.Sym.Tab]
open Go.Sym
theorem B2s {p:UInt8->Bool}:∀ (s:List UInt8),C1 p (s.take (C1 p s))=C1 p s
 | []=>rfl
 | c :: r=>by
  have ih:=B2s (p:=p) r;by_cases h:p c=true
  ·simp only [C1,h,if_true,A0X];rw [ih]
  ·simp only [C1,h,if_false,A3T,A2C]
theorem B4z:∀ {s t:List UInt8} {n:Nat},quM s=some (t,n)->t.all txB=true
 | [],t,n,h=>by simp [quM] at h
 | c :: r,t,n,h=>by
  rw [J1] at h;split at h
  ·cases h;rfl
  ·split at h
   ·cases h
   ·rename_i h34 hr;split at h
    ·cases r with
     | nil=>cases h
     | cons d q =>
      simp only at h;split at h
      ·rename_i hd;obtain ⟨⟨t',n'⟩,h1,h2⟩:=A0M.1 h;have:=B4z h1;cases h2;simp only [A2N,this,A1T,txB,A0D,A0G];omega
      ·cases h
    ·obtain ⟨⟨t',n'⟩,h1,h2⟩:=A0M.1 h;have:=B4z h1;cases h2;simp only [A2N,this,A1T,txB,A0D,A0G];omega
theorem C0u {s:List UInt8} {p:Int} (h:(A7 s).err=0):I7 (nxT (A7 s) p)/\0<=(A7 s).value/\(A7 s).value<=2147483647:=by
 unfold I7;cases s with
 | nil=>simp [A7,nxE] at h
 | cons c q =>
  by_cases hl:ltB c=true
  ·by_cases h12:12<C1 ptB (c :: q)
   ·rw [A7,if_pos hl,if_pos h12] at h;simp [nxE] at h
   ·rw [A7,if_pos hl,if_neg h12,nxT];refine ⟨⟨fun hk=>?_,fun hk=>?_,fun hk=>?_⟩,by simp,by simp⟩
    ·simp only at hk ⊢;have hw:E4 ((c :: q).take (C1 ptB (c :: q)))=false:=by
      cases hz:E4 ((c :: q).take (C1 ptB (c :: q))) with
      | false=>rfl
      | true=>rw [hz] at hk;simp at hk
     have hp:ptB c=true:=by unfold ptB;rw [hl];rfl
     have h1:1<=C1 ptB (c :: q):=by simp only [C1,hp,if_true];omega
     have hle:=T6 ptB (c :: q);have hlen:((c :: q).take (C1 ptB (c :: q))).length=C1 ptB (c :: q):=by rw [A0T];omega
     have hhd:∃ r,(c :: q).take (C1 ptB (c :: q))=c :: r:=by
      obtain ⟨k,hk⟩:∃ k,C1 ptB (c :: q)=k+1:=⟨C1 ptB (c :: q)-1,by omega⟩;rw [hk];exact ⟨_,rfl⟩
     unfold C2;rw [hlen,hw,B2s];obtain ⟨r,hr⟩:=hhd;rw [hr];simp only [hl,A1T,Bool.not_false,A0D,A0G];exact ⟨⟨h1,by omega⟩,trivial⟩
    ·simp only at hk;split at hk<;>simp at hk
    ·simp only at hk;split at hk<;>simp at hk
  ·by_cases hd:dgB c=true
   ·by_cases h3:1<C1 dgB (c :: q)/\c.toNat=48
    ·rw [A7,if_neg hl,if_pos hd,if_pos h3] at h;simp [nxE] at h
    ·by_cases h2:2147483647<J2 ((c :: q).take (C1 dgB (c :: q)))
     ·rw [A7,if_neg hl,if_pos hd,if_neg h3,if_pos h2] at h;simp [nxE] at h
     ·rw [A7,if_neg hl,if_pos hd,if_neg h3,if_neg h2,nxT];refine ⟨⟨fun hk=>by simp at hk,fun hk=>?_,fun hk=>by simp at hk⟩,?_⟩
      ·simp only;omega
      ·simp only;omega
   ·by_cases h34:c.toNat=34
    ·cases hq:quM q with
     | none=>rw [A7,if_neg hl,if_neg hd,if_pos h34,hq] at h;simp [nxE] at h
     | some x =>
      obtain ⟨t,m⟩:=x;by_cases h32:32<t.length
      ·rw [A7,if_neg hl,if_neg hd,if_pos h34,hq] at h;simp only at h;rw [if_pos h32] at h;simp [nxE] at h
      ·rw [A7,if_neg hl,if_neg hd,if_pos h34,hq];simp only;rw [if_neg h32,nxT];refine ⟨⟨fun hk=>by simp at hk,fun hk=>by simp at hk,fun hk=>?_⟩,by simp,by simp⟩;simp only [N7,B4z hq,A1J,A0G];omega
    ·by_cases hs:D7 (c :: q)=0
     ·rw [A7,if_neg hl,if_neg hd,if_neg h34,if_pos hs] at h;simp [nxE] at h
     ·rw [A7,if_neg hl,if_neg hd,if_neg h34,if_neg hs,nxT];exact ⟨⟨fun hk=>by simp at hk,fun hk=>by simp at hk,fun hk=>by simp at hk⟩,by simp,by simp⟩
theorem TOk.good {t:Tok} (h:TOk t):I7 t/\0<=t.value/\t.value<=2147483647:=by
 obtain ⟨s,p,h1,rfl⟩:=h;obtain ⟨h2,h3⟩:=C0u (p:=p) h1;exact ⟨h2,h3⟩
theorem B0j {s:List UInt8} (h:(C0 s).2.2=0):∀ t∈(C0 s).1,I7 t:=fun t ht=>(A4j h t ht).good.1
theorem C7v {s:List UInt8} (h:(C0 s).2.2=0):∀ t∈(C0 s).1,0<=t.value/\t.value<=9223372036854775807:=fun t ht=>by
 have:=(A4j h t ht).good.2;omega
theorem B4q {s:List UInt8} (h:(C0 s).2.2=0):(C0 s).1.length<=20000:=A1U (B2x s) (S5 h).1
def rd0:Rd:=⟨0,0,0,0,0⟩
def A0y (L:List Tok) (E:Int):Ru × Rd:=Classical.choose (C2s (L:=L) (E:=E) rd0)
theorem A2s (L:List Tok) (E:Int):Evt (fun f=>Y8 L E f rd0) (A0y L E):=Classical.choose_spec (C2s (L:=L) (E:=E) rd0)
def D2d (L:List Tok) (E:Int):Ex × Rd:=Classical.choose (A1a (L:=L) (E:=E) rd0)
theorem C6g (L:List Tok) (E:Int):Xpn L E rd0 (D2d L E):=(Classical.choose_spec (A1a (L:=L) (E:=E) rd0)).1
def Ru0:Ru:=⟨[],[]⟩
def P0 (s:List UInt8):Ru × Int × Int :=
 let q:=C0 s
 if q.2.2≠0 then (Ru0,q.2.1,q.2.2)
 else if okR (A0y q.1 s.length).2=false then (Ru0,(A0y q.1 s.length).2.pos,(A0y q.1 s.length).2.e)
 else ((A0y q.1 s.length).1,0,0)
abbrev C4t (q:Ru × Int × Int):DV:=.tup [q.1.v,I64 q.2.1,I64 q.2.2]
def B5b (s:List UInt8):Ex × Int × Int :=
 let q:=C0 s
 if q.2.2≠0 then (Ex0,q.2.1,q.2.2)
 else
  let w:=D2d q.1 s.length
  let z:=if okR w.2=true/\w.2.i<q.1.length then P2 q.1 s.length w.2 else w.2
  if okR z=false then (Ex0,z.pos,z.e) else (w.1,0,0)
abbrev C8z (q:Ex × Int × Int):DV:=.tup [q.1.v,I64 q.2.1,I64 q.2.2]
theorem D3o (q:Ru × Int × Int):(C4t q).nl=true:=by
 simp only [DV.nl,DV.nlL,Ru.nl,W4,W3,A1T]
theorem C8y (q:Ex × Int × Int):(C8z q).nl=true:=by
 simp only [DV.nl,DV.nlL,Ex.nl,A1T]
theorem C0o (s:List UInt8):A1x (P0 s).1=true:=by
 unfold P0;dsimp only;split
 ·rfl
 ·rename_i h;split
  ·rfl
  ·rename_i h2;obtain ⟨f,hf⟩:=(A2s (C0 s).1 s.length).get;exact C4o (B0j (by simpa using h)) hf (by simpa using h2)
end Go.Pb
namespace Go.Pb
variable [Go.Sym.Tab]
open Go.Sym
def I1 (t:Tok):Prop:=(t.kind=2->E4 t.text=true)/\(t.kind=5->E4 t.text=false)
theorem D2e {s:List UInt8} (h:E4 s=true):∃ c r,s=c :: r/\ltB c=true:=by
 have key:∀ w∈E2,(match w with|c :: _=>ltB c | []=>false)=true:=by decide +kernel
 have hm:s∈E2:=by simpa [E4] using h
 have:=key s hm;cases s with
 | nil=>simp at this
 | cons c r=>exact ⟨c,r,rfl,this⟩
theorem C0t {s:List UInt8} {p:Int} (h:(A7 s).err=0):I1 (nxT (A7 s) p):=by
 unfold I1;cases s with
 | nil=>simp [A7,nxE] at h
 | cons c q =>
  by_cases hl:ltB c=true
  ·by_cases h12:12<C1 ptB (c :: q)
   ·rw [A7,if_pos hl,if_pos h12] at h;simp [nxE] at h
   ·rw [A7,if_pos hl,if_neg h12,nxT];cases hz:E4 ((c :: q).take (C1 ptB (c :: q))) with
    | true=>exact ⟨fun _=>rfl,fun hk=>by simp at hk⟩
    | false=>exact ⟨fun hk=>by simp at hk,fun _=>rfl⟩
  ·by_cases hd:dgB c=true
   ·by_cases h3:1<C1 dgB (c :: q)/\c.toNat=48
    ·rw [A7,if_neg hl,if_pos hd,if_pos h3] at h;simp [nxE] at h
    ·by_cases h2:2147483647<J2 ((c :: q).take (C1 dgB (c :: q)))
     ·rw [A7,if_neg hl,if_pos hd,if_neg h3,if_pos h2] at h;simp [nxE] at h
     ·rw [A7,if_neg hl,if_pos hd,if_neg h3,if_neg h2,nxT];exact ⟨fun hk=>by simp at hk,fun hk=>by simp at hk⟩
   ·by_cases h34:c.toNat=34
    ·cases hq:quM q with
     | none=>rw [A7,if_neg hl,if_neg hd,if_pos h34,hq] at h;simp [nxE] at h
     | some x =>
      obtain ⟨t,m⟩:=x;by_cases h32:32<t.length
      ·rw [A7,if_neg hl,if_neg hd,if_pos h34,hq] at h;simp only at h;rw [if_pos h32] at h;simp [nxE] at h
      ·rw [A7,if_neg hl,if_neg hd,if_pos h34,hq];simp only;rw [if_neg h32,nxT];exact ⟨fun hk=>by simp at hk,fun hk=>by simp at hk⟩
    ·by_cases hs:D7 (c :: q)=0
     ·rw [A7,if_neg hl,if_neg hd,if_neg h34,if_pos hs] at h;simp [nxE] at h
     ·rw [A7,if_neg hl,if_neg hd,if_neg h34,if_neg hs,nxT];refine ⟨fun hk=>by simp at hk,fun _=>?_⟩;simp only;cases hz:E4 ((c :: q).take (D7 (c :: q))) with
      | false=>rfl
      | true =>
       obtain ⟨d,r,h1,h2⟩:=D2e hz;obtain ⟨k,hk⟩:∃ k,D7 (c :: q)=k+1:=⟨D7 (c :: q)-1,by omega⟩;rw [hk] at h1;simp only [A0X,List.cons.injEq] at h1;rw [<- h1.1] at h2;exact absurd h2 hl
theorem B2v {s:List UInt8} (h:(C0 s).2.2=0):∀ t∈(C0 s).1,I1 t:=fun t ht=>by
 obtain ⟨s,p,h1,rfl⟩:=A4j h t ht;exact C0t h1
def Q9 (x:List UInt8):Nat->List (List UInt8)->Int
 | _,[] => -1
 | k,w :: l=>if (x == w)=true then (k:Int) else Q9 x (k+1) l
theorem B1b (x:List UInt8):∀ (l:List (List UInt8)) (k:Nat),(Q9 x k l = -1/\l.contains x=false)\/((k:Int)<=Q9 x k l/\Q9 x k l<((k+l.length:Nat):Int)/\l.contains x=true)
 | [],k=>.inl ⟨rfl,rfl⟩
 | w :: l,k=>by
  have:=B1b x l (k+1);unfold Q9;cases h:(x == w) with
  | true=>exact .inr ⟨by simp,by simp only [if_true,A0B];omega,by simp at h;simp [h]⟩
  | false =>
   simp only [A2C,if_false,A0B,A2Z,h,A4H];rcases this with ⟨h1,h2⟩|⟨h1,h2,h3⟩
   ·exact .inl ⟨h1,h2⟩
   ·exact .inr ⟨by omega,by omega,h3⟩
section
variable {L:List Tok} {E:Int}
def isP (L:List Tok) (E:Int) (s:Rd) (k:Int) (l:List (List UInt8)):Bool:=okR s && (A4 L E s).kind == k && l.contains (A4 L E s).text
theorem B3d (hK:∀ t∈L,I1 t) (s:Rd):I1 (A4 L E s):=by
 by_cases h:(A4 L E s).kind=0
 ·unfold I1;rw [h];exact ⟨fun h=>(by cases h),fun h=>(by cases h)⟩
 ·exact hK _ (G2 h rfl).1
theorem X4 (hK:∀ t∈L,I1 t) {s:Rd} {w:List UInt8} (hw:E4 w=true):isR L E s w=isP L E s 2 [w]:=by
 have:=B3d (E:=E) hK s;unfold isR isP;generalize A4 L E s=t at *;cases okR s<;>simp only [A1J,A3K];by_cases ht:t.text=w
 ·subst ht;have h5:t.kind≠5:=fun h=>by rw [this.2 h] at hw;cases hw
  simp [h5]
 ·simp [ht]
theorem F5 (hK:∀ t∈L,I1 t) {s:Rd} {w:List UInt8} (hw:E4 w=false):isR L E s w=isP L E s 5 [w]:=by
 have:=B3d (E:=E) hK s;unfold isR isP;generalize A4 L E s=t at *;cases okR s<;>simp only [A1J,A3K];by_cases ht:t.text=w
 ·subst ht;have h5:t.kind≠2:=fun h=>by rw [this.1 h] at hw;cases hw
  simp [h5]
 ·simp [ht]
theorem B1t {s:Rd} {k:Int}:∀ {l:List (List UInt8)},(∀ w∈l,isR L E s w=isP L E s k [w])->(okR s && (A4 L E s).kind == k)=false->∀ j,U9 L E s j l = -1
 | [],_,_,_=>rfl
 | w :: l,h,h0,j=>by
  have h1:=h w (A0L);have:isP L E s k [w]=false:=by unfold isP;rw [h0];rfl
  rw [U9,h1,this,if_neg (by decide)];exact B1t (fun w hw=>h w (A0J _ hw)) h0 (j+1)
theorem A1o {s:Rd} {k:Int}:∀ {l:List (List UInt8)},(∀ w∈l,isR L E s w=isP L E s k [w])->(okR s && (A4 L E s).kind == k)=true->∀ j,U9 L E s j l=Q9 (A4 L E s).text j l
 | [],_,_,_=>rfl
 | w :: l,h,h0,j=>by
  have h1:=h w (A0L);have:isP L E s k [w]=((A4 L E s).text == w):=by unfold isP;rw [h0];simp only [A2Z,A4D,Bool.or_false,A1J]
  rw [U9,Q9,h1,this,A1o (fun w hw=>h w (A0J _ hw)) h0 (j+1)]
theorem A9r {s:Rd} {k:Int} {l:List (List UInt8)} (h:∀ w∈l,isR L E s w=isP L E s k [w]):isP L E s k l=decide (0<=B6 L E s l):=by
 unfold B6 isP;cases h0:(okR s && (A4 L E s).kind == k) with
 | false=>rw [B1t h h0];rfl
 | true =>
  rw [A1o h h0];rcases B1b (A4 L E s).text l 0 with ⟨h1,h2⟩|⟨h1,h2,h3⟩
  ·rw [h1,h2];rfl
  ·rw [h3];simp only [A1T];exact (decide_eq_true (by simpa using h1)).symm
theorem A5l (hK:∀ t∈L,I1 t) (s:Rd) {l:List (List UInt8)} (h:l.all E4=true):∀ w∈l,isR L E s w=isP L E s 2 [w]:=fun w hw=>X4 hK (A0Q.1 h w hw)
theorem C0a (hK:∀ t∈L,I1 t) (s:Rd) {l:List (List UInt8)} (h:l.all (fun w => !E4 w)=true):∀ w∈l,isR L E s w=isP L E s 5 [w]:=fun w hw=>F5 hK (by simpa using A0Q.1 h w hw)
def pfl (L:List Tok) (E:Int) (s:Rd) (e:Int):Rd:=M0 s (A4 L E s).pos e
theorem Z2 {s:Rd} {n m e:Int}:B9 L E s n m e=if m<n then pfl L E s e else s:=rfl
def E8 (L:List Tok) (E:Int) (s:Rd) (k:Int) (w:List UInt8):Rd:=if isP L E s k [w]=false then pfl L E s 4 else A6 s
structure Eqv (s m:Rd):Prop where
 e:s.e=m.e
 p:s.pos=m.pos
 s:okR m=true->s=m
theorem Eqv.refl (s:Rd):Eqv s s:=⟨rfl,rfl,fun _=>rfl⟩
theorem Eqv.ok {s m:Rd} (h:Eqv s m):okR s=okR m:=by unfold okR;rw [h.e]
theorem Eqv.cas {s m:Rd} (h:Eqv s m):(s=m/\okR m=true)\/(okR s=false/\okR m=false):=by
 cases k:okR m with
 | true=>exact .inl ⟨h.s k,rfl⟩
 | false=>exact .inr ⟨by rw [h.ok,k],rfl⟩
theorem Y9 {s:Rd} {e:Int} (h:okR s=false):pfl L E s e=s:=by unfold pfl M0;rw [h];rfl
theorem B5v {s:Rd} {k:Int} {l:List (List UInt8)} (h:okR s=false):isP L E s k l=false:=by unfold isP;rw [h];rfl
theorem D4z {s:Rd} {w:List UInt8} (h:okR s=false):isR L E s w=false:=by unfold isR;rw [h];rfl
theorem B5w {s:Rd} {k:Int} (h:okR s=false):F9 L E s k=false:=by unfold F9;rw [h];rfl
theorem A9w {s:Rd} {k:Int} {w:List UInt8} (h:okR s=false):E8 L E s k w=s:=by unfold E8;rw [B5v h,if_pos rfl,Y9 h]
theorem A9e {s:Rd} (h:okR s=false):P2 L E s=s:=Y9 h
theorem D4l {s:Rd} {n m e:Int} (h:okR s=false):B9 L E s n m e=s:=by rw [Z2,Y9 h];split<;>rfl
theorem A7e {s:Rd} {w:List UInt8} (h:okR s=false):C5 L E s w=s:=by unfold C5;rw [D4z h,if_pos rfl,A9e h]
theorem B6y {s:Rd} {k:Int} (h:okR s=false):B1 L E s k=(Y7,s):=by unfold B1;rw [B5w h,if_pos rfl,A9e h]
theorem Eqv.want {s m:Rd} {k:Int} {w:List UInt8} (h:Eqv s m) (hw:∀ s:Rd,isR L E s w=isP L E s k [w]):Eqv (E8 L E s k w) (C5 L E m w):=by
 rcases h.cas with ⟨rfl,_⟩|⟨h1,h2⟩
 ·unfold E8 C5;rw [hw];exact .refl _
 ·rw [A9w h1,A7e h2];exact h
theorem Eqv.take {s m:Rd} {k:Int} (h:Eqv s m):Eqv (B1 L E s k).2 (B1 L E m k).2/\(B1 L E s k).1=(B1 L E m k).1:=by
 rcases h.cas with ⟨rfl,_⟩|⟨h1,h2⟩
 ·exact ⟨.refl _,rfl⟩
 ·rw [B6y h1,B6y h2];exact ⟨h,rfl⟩
theorem Eqv.bad {s m:Rd} (e:s.e=m.e) (p:s.pos=m.pos) (h:okR m=false):Eqv s m:=⟨e,p,fun k=>by rw [h] at k;cases k⟩
structure PI (L:List Tok) (s:Rd):Prop where
 i:s.i<=L.length
 o0:0<=s.ops
 o1:s.ops<=32
 p0:0<=s.par
 p1:s.par<=16
theorem B0n {s:Rd} {e:Int}:(pfl L E s e).i=s.i/\(pfl L E s e).ops=s.ops/\(pfl L E s e).par=s.par:=by unfold pfl M0;split<;>exact ⟨rfl,rfl,rfl⟩
theorem PI.fl {s:Rd} {e:Int} (h:PI L s):PI L (pfl L E s e):=by
 obtain ⟨h1,h2,h3⟩:=B0n (L:=L) (E:=E) (s:=s) (e:=e);exact ⟨by rw [h1];exact h.i,by rw [h2];exact h.o0,by rw [h2];exact h.o1,by rw [h3];exact h.p0,by rw [h3];exact h.p1⟩
theorem U5 {s:Rd} {k:Int} {l:List (List UInt8)} (hk:k≠0) (h:isP L E s k l=true):okR s=true/\s.i<L.length/\(A4 L E s).kind=k:=by
 unfold isP at h;simp only [A0D,A1G] at h;exact ⟨h.1.1,(G2 hk h.1.2).2,h.1.2⟩
theorem PI.nxt {s:Rd} (h:PI L s) (hi:s.i<L.length):PI L (A6 s):=⟨hi,h.o0,h.o1,h.p0,h.p1⟩
theorem PI.want {s:Rd} {k:Int} {w:List UInt8} (hk:k≠0) (h:PI L s):PI L (E8 L E s k w)/\(E8 L E s k w).par=s.par:=by
 unfold E8;cases q:isP L E s k [w] with
 | false=>rw [if_pos rfl];exact ⟨h.fl,B0n.2.2⟩
 | true=>rw [if_neg (by decide)];exact ⟨h.nxt (U5 hk q).2.1,rfl⟩
theorem PI.take {s:Rd} {x:Int} (hx:x≠0) (h:PI L s):PI L (B1 L E s x).2/\(B1 L E s x).2.par=s.par:=by
 unfold B1;cases k:F9 L E s x with
 | false=>rw [if_pos rfl];exact ⟨h.fl,B0n.2.2⟩
 | true=>rw [if_neg (by simp)];exact ⟨h.nxt (G2 hx (G4 k).2).2,rfl⟩
theorem B0m {s:Rd} (h:okR s=false):G0 L E s=(Ex0,s):=by
 unfold G0;dsimp only;rw [B6,A3e h,B5w h,B5w h,A9e h,if_pos ⟨by decide,rfl,rfl⟩]
theorem EN.all:∀ f:Nat,(∀ n s r,F1 L E f n s=some r->okR s=false->r=(Ex0,s))/\(∀ n e s r,I5 L E f n e s=some r->okR s=false->r=(e,s))/\(∀ s r,K9 L E f s=some r->okR s=false->r=(Ex0,s))
 | 0=>⟨fun n s r h=>(by simp [F1] at h),fun n e s r h=>(by simp [I5] at h),fun s r h=>(by simp [K9] at h)⟩
 | f+1=>by
  obtain ⟨ib,il,iu⟩:=EN.all f;refine ⟨fun n s r h ho=>?_,fun n e s r h ho=>?_,fun s r h ho=>?_⟩
  ·unfold F1 at h;split at h
   ·exact iu _ _ h ho
   ·cases hb:F1 L E f (n+1) s with
    | none=>rw [hb] at h;cases h
    | some q =>
     obtain rfl:=ib _ _ _ hb ho;rw [hb] at h;exact il _ _ _ _ h ho
  ·unfold I5 at h;dsimp only at h;rw [B6,A3e ho,if_pos (.inl (by decide))] at h;cases h;rfl
  ·unfold K9 at h;dsimp only at h;rw [B6,A3e ho,if_pos (by decide),B0m ho] at h;cases h;rfl
theorem D0t {f:Nat} {s:Rd} {r:Ex × Rd} (h:H7 L E f s=some r) (ho:okR s=false):r=(Ex0, { s with ops:=0,par:=0 }):=(EN.all f).1 _ _ _ h ho
theorem D2s {f:Nat} {d:Int} {s:Rd} {r:St × Rd} (h:K7 L E f d s=some r) (ho:okR s=false):r=(St0,s):=by
 cases f with
 | zero=>simp [K7] at h
 | succ f =>
  unfold K7 at h;simp only [D4l ho,ho] at h;cases h;rfl
theorem D5v {f:Nat} {d:Int} {l:List St} {s:Rd} {r:List St × Rd} (h:J3 L E f d l s=some r) (ho:okR s=false):r=(l,s):=by
 cases f with
 | zero=>simp [J3] at h
 | succ f =>
  unfold J3 at h;rw [ho,if_neg (by simp),A7e ho] at h;cases h;rfl
theorem D5x {f:Nat} {d:Int} {s:Rd} {r:List St × Rd} (h:F6 L E f d s=some r) (ho:okR s=false):r=([],s):=by
 cases f with
 | zero=>simp [F6] at h
 | succ f =>
  unfold F6 at h;rw [A7e ho] at h;exact D5v h ho
theorem Eqv.isP {s m:Rd} {k:Int} {l:List (List UInt8)} (h:Eqv s m):isP L E s k l=isP L E m k l:=by
 rcases h.cas with ⟨rfl,_⟩|⟨h1,h2⟩
 ·rfl
 ·rw [B5v h1,B5v h2]
theorem Eqv.par {s m:Rd} {a b:Int} (h:Eqv s m) (hab:okR m=true->a=b):Eqv { s with par:=a } { m with par:=b }:=by
 refine ⟨h.e,h.p,fun k=>?_⟩;have:=h.s k;subst this;rw [hab k]
theorem C2a (hK:∀ t∈L,I1 t) {m:Rd} {w:List UInt8} (hp:isP L E m 5 [w]=true) (l:List (List UInt8)) (hl:l.all (fun w => !E4 w)=true):B6 L E m l=Q9 w 0 l:=by
 have ho:(okR m && (A4 L E m).kind == 5)=true:=by unfold Go.Pb.isP at hp;simp only [A0D] at hp ⊢;exact hp.1
 have ht:(A4 L E m).text=w:=by
  unfold Go.Pb.isP at hp;simp only [A0D,A2Z,A4D,Bool.or_false,A1G] at hp;exact hp.2
 rw [B6,A1o (C0a hK m hl) ho,ht]
theorem D9o (hK:∀ t∈L,I1 t) {m:Rd} (h1:isP L E m 5 [[45],[33]]=false) (h2:isP L E m 5 [[40]]=false):B6 L E m K0<0:=by
 have:=A9r (E:=E) (C0a hK m (l:=K0) (by decide +kernel));have h3:isP L E m 5 K0=false:=by
  unfold Go.Pb.isP at h1 h2 ⊢;unfold K0;cases ho:(okR m && (A4 L E m).kind == 5) with
  | false=>rfl
  | true=>rw [ho] at h1 h2;simp only [A2Z,A4D,A1J,Bool.or_false,A4I] at h1 h2 ⊢;exact ⟨h1.1,h1.2,h2⟩
 rw [h3] at this;have:=of_decide_eq_false this.symm;omega
theorem D5a {m:Rd} {a b:List UInt8} (h:isP L E m 5 [a,b]=true):isP L E m 5 [a]=true\/isP L E m 5 [b]=true:=by
 unfold Go.Pb.isP at h ⊢;simp only [A0D,A2Z,A4D,Bool.or_false,A0W] at h ⊢;rcases h with ⟨h1,h2|h2⟩
 ·exact .inl ⟨h1,h2⟩
 ·exact .inr ⟨h1,h2⟩
theorem C1f {m:Rd} {k:Int} {w:List UInt8} (hp:isP L E m k [w]=true):(A4 L E m).text=w:=by
 unfold Go.Pb.isP at hp;simp only [A0D,A2Z,A4D,Bool.or_false,A1G] at hp;exact hp.2
def lkI (ks:List (List UInt8)) (vs:List Int) (x:List UInt8):Int:=if Q9 x 0 ks = -1 then 0 else vs.getD (Q9 x 0 ks).toNat 0
def C4z (k:Int):Bool:=k == 5 || k == 6 || k == 7
def lfK (t:Tok):Int × Int × List UInt8:=if t.kind=3 then (1,t.value,[]) else if t.kind=1 then (2,0,t.text) else if t.kind=2 then (lkI C9 F8 t.text,0,[]) else (0,0,[])
def B8f (L:List Tok) (E:Int) (s:Rd):Ex × Rd :=
 let q:=lfK (A4 L E s)
 if q.1=0 then (Ex0,pfl L E s 4)
 else if 32<s.ops+1 then (Ex0,B9 L E { s with ops:=s.ops+1 } (s.ops+1) 32 9)
 else
  let s3:Rd:={ s with i:=s.i+1,ops:=s.ops+1 }
  if C4z q.1=true then (.mk q.1 0 (B1 L E s3 1).1.text [] (A4 L E s).pos,(B1 L E s3 1).2) else (.mk q.1 q.2.1 q.2.2 [] (A4 L E s).pos,s3)
theorem A1u {s:Rd} {n m e:Int} (h:¬ m<n):B9 L E s n m e=s:=by unfold B9;rw [if_neg h]
theorem A9p {s:Rd} {n m e:Int} (h:m<n) (he:e≠0):okR (B9 L E s n m e)=false:=by unfold B9;rw [if_pos h];exact O7 he
theorem C9x {s:Rd} {b n m e:Int} (h:m<n) (ho:okR s=true):B9 L E ({ s with ops:=b }:Rd) n m e=({ s with ops:=b,e:=e,pos:=(A4 L E s).pos }:Rd):=by
 unfold B9 M0;rw [if_pos h,if_pos (show okR ({ s with ops:=b }:Rd)=true from ho)];rfl
theorem C8u {s:Rd} {e:Int} (ho:okR s=true):pfl L E s e=({ s with e:=e,pos:=(A4 L E s).pos }:Rd):=by unfold pfl M0;rw [if_pos ho]
theorem B3c (hK:∀ t∈L,I1 t) {s:Rd} (ho:okR s=true):G0 L E s=B8f L E s:=by
 have hw:=A5l (E:=E) hK s (l:=C9) (by decide +kernel);have hki:∀ k,F9 L E s k=((A4 L E s).kind == k):=fun k=>by unfold F9;rw [ho];rfl
 unfold G0 B8f lfK;dsimp only;have hok2:okR ({ s with ops:=s.ops+1 }:Rd)=true:=ho;have pos2:∀ b:Int,A4 L E ({ s with ops:=b }:Rd)=A4 L E s:=fun _=>rfl;by_cases h2:(A4 L E s).kind=2
 ·have ha:B6 L E s C9=Q9 (A4 L E s).text 0 C9:=A1o hw (by rw [ho,h2];rfl) 0;rw [ha,hki,hki,h2];have hl:=B1b (A4 L E s).text C9 0;generalize (A4 L E s).text=x at *;simp only [show ((2:Int) == 3)=false from rfl,show ((2:Int) == 1)=false from rfl,show ¬ (2:Int)=3 by decide,show ¬ (2:Int)=1 by decide,if_false,if_true,and_true];unfold lkI;rcases hl with ⟨h3, -⟩|⟨h3,h4, -⟩
  ·rw [h3];rfl
  ·have h5:Q9 x 0 C9<7:=by have:C9.length=7:=rfl;omega
   have h6:(0:Int)<=Q9 x 0 C9:=h3;generalize Q9 x 0 C9=k at *;have hv:F8.getD k.toNat 0≠0/\(C4z (F8.getD k.toNat 0)=true↔4<=k):=by
    have:k=0\/k=1\/k=2\/k=3\/k=4\/k=5\/k=6:=by omega
    rcases this with rfl|rfl|rfl|rfl|rfl|rfl|rfl<;>decide
   have g1:¬ k<0:=by omega
   have g2:¬ k = -1:=by omega
   simp only [g1,g2,h6,hv.1,false_and,if_false,if_true];by_cases ho:32<s.ops+1
   ·rw [if_pos ho,if_pos (A9p ho (by decide))]
   ·simp only [ho,if_false,A1u ho,hok2,reduceCtorEq];by_cases h4:4<=k
    ·simp only [h4,hv.2.2 h4,if_true];rfl
    ·have h7:¬ C4z (F8.getD k.toNat 0)=true:=fun h=>h4 (hv.2.1 h);simp only [h4,h7,if_false];rfl
 ·have ha:B6 L E s C9 = -1:=B1t hw (by simp [h2]) 0;rw [ha,hki,hki];by_cases h3:(A4 L E s).kind=3
  ·simp only [h3,if_true,show ((3:Int) == 3)=true from rfl,reduceCtorEq,false_and,and_false,if_false,show ¬ (0:Int) <= -1 by decide,show ¬ (1:Int)=0 by decide];by_cases ho:32<s.ops+1
   ·rw [if_pos ho,if_pos (A9p ho (by decide))]
   ·rw [if_neg ho,A1u ho,if_neg (by rw [hok2];decide)];rfl
  ·by_cases h1:(A4 L E s).kind=1
   ·simp only [h1,show ¬ (1:Int)=3 by decide,if_true,show ((1:Int) == 1)=true from rfl,reduceCtorEq,and_false,if_false,show ¬ (0:Int) <= -1 by decide,show ¬ (2:Int)=0 by decide];by_cases ho:32<s.ops+1
    ·rw [if_pos ho,if_pos (A9p ho (by decide))]
    ·rw [if_neg ho,A1u ho,if_neg (by rw [hok2];decide)];rfl
   ·have e3:((A4 L E s).kind == 3)=false:=by simpa using h3
    have e1:((A4 L E s).kind == 1)=false:=by simpa using h1
    rw [e3,e1,if_pos ⟨by decide,rfl,rfl⟩,if_neg h3,if_neg h1,if_neg h2,if_pos rfl];rfl
def B2d:List Int:=[12,13,14,15,16,17,18,19,20,21,22,23,24]
def A0x:List Int:=[2,3,4,5,6,7,8,9,10,11,12,13,14,15,16,17,18,19]
theorem C9t {ks:List (List UInt8)} {vs:List Int} {b:Int} (hv:∀ j:Nat,j<ks.length->vs.getD j 0=b+j) (x:List UInt8):(Q9 x 0 ks = -1/\lkI ks vs x=0)\/(0<=Q9 x 0 ks/\Q9 x 0 ks<ks.length/\lkI ks vs x=b+Q9 x 0 ks):=by
 unfold lkI;rcases B1b x ks 0 with ⟨h1, -⟩|⟨h1,h2, -⟩
 ·rw [h1];exact .inl ⟨rfl,rfl⟩
 ·have h3:(0:Int)<=Q9 x 0 ks:=h1;have h4:=hv (Q9 x 0 ks).toNat (by omega);rw [if_neg (by omega),h4];exact .inr ⟨h3,by omega,by omega⟩
theorem E0m (hK:∀ t∈L,I1 t) {s:Rd} {n:Int} (ho:okR s=true) (h1:1<=n) (h5:n<=5) :
  ((B6 L E s B7<0\/B4 (12+B6 L E s B7)≠n)↔((A4 L E s).kind≠5\/B4 (lkI B7 B2d (A4 L E s).text)≠n)) /\
  (0<=B6 L E s B7->lkI B7 B2d (A4 L E s).text=12+B6 L E s B7/\(A4 L E s).kind=5/\B6 L E s B7<13):=by
 have hs:=C0a (E:=E) hK s (l:=B7) (by decide +kernel);by_cases hk:(A4 L E s).kind=5
 ·have ha:B6 L E s B7=Q9 (A4 L E s).text 0 B7:=A1o hs (by rw [ho,hk];rfl) 0;rw [ha];have h7:B4 0=7:=rfl;have hlen:B7.length=13:=rfl;rcases C9t (vs:=B2d) (b:=12) (by decide +kernel) (ks:=B7) (A4 L E s).text with ⟨h2,h3⟩|⟨h2,h3,h4⟩
  ·rw [h2,h3,h7];exact ⟨⟨fun _=>.inr (by omega),fun _=>.inl (by decide)⟩,fun h=>absurd h (by decide)⟩
  ·rw [h4];refine ⟨⟨fun h=>?_,fun h=>?_⟩,fun _=>⟨rfl,hk,by omega⟩⟩
   ·rcases h with h|h
    ·omega
    ·exact .inr h
   ·rcases h with h|h
    ·exact absurd hk h
    ·exact .inr h
 ·have ha:B6 L E s B7 = -1:=B1t hs (by simp [hk]) 0;rw [ha];exact ⟨⟨fun _=>.inl hk,fun _=>.inl (by decide)⟩,fun h=>absurd h (by decide)⟩
def B1r (L:List Tok) (E:Int) (s:Rd):Bool:=okR s && ((A4 L E s).kind == 1 || ((A4 L E s).kind == 2 && lkI B3 A0x (A4 L E s).text != 0))
theorem B9w (hK:∀ t∈L,I1 t) {s:Rd} (ho:okR s=true) :
  (0<=B6 L E s B3->(A4 L E s).kind=2/\lkI B3 A0x (A4 L E s).text=2+B6 L E s B3/\B6 L E s B3<18) /\
  (B6 L E s B3<0->(A4 L E s).kind=2->lkI B3 A0x (A4 L E s).text=0):=by
 have hs:=A5l (E:=E) hK s (l:=B3) (by decide +kernel);by_cases hk:(A4 L E s).kind=2
 ·have ha:B6 L E s B3=Q9 (A4 L E s).text 0 B3:=A1o hs (by rw [ho,hk];rfl) 0;rw [ha];have hlen:B3.length=18:=rfl;rcases C9t (vs:=A0x) (b:=2) (by decide +kernel) (ks:=B3) (A4 L E s).text with ⟨h2,h3⟩|⟨h2,h3,h4⟩
  ·rw [h2,h3];exact ⟨fun h=>absurd h (by decide),fun _ _=>rfl⟩
  ·exact ⟨fun _=>⟨hk,h4,by omega⟩,fun h=>absurd h (by omega)⟩
 ·have ha:B6 L E s B3 = -1:=B1t hs (by simp [hk]) 0;rw [ha];exact ⟨fun h=>absurd h (by decide),fun _ h=>absurd h hk⟩
theorem C4c (hK:∀ t∈L,I1 t) {s:Rd}:B1r L E s=true↔okR s=true/\(0<=B6 L E s B3\/F9 L E s 1=true):=by
 unfold B1r F9;cases ho:okR s with
 | false=>simp
 | true =>
  obtain ⟨h1,h2⟩:=B9w (E:=E) hK ho;simp only [A1J,A0W,A0D,A1G,bne_iff_ne,ne_eq,true_and];constructor
  ·rintro (h|⟨h,h'⟩)
   ·exact .inr h
   ·by_cases hk:0<=B6 L E s B3
    ·exact .inl hk
    ·exact absurd (h2 (by omega) h) h'
  ·rintro (h|h)
   ·obtain ⟨g1,g2, -⟩:=h1 h;exact .inr ⟨g1,by omega⟩
   ·exact .inl h
end
end Go.Pb
namespace Go.Sym
variable [Go.Sym.Tab]
open Go.Eng (KKey)
inductive Mz (id:Nat) (r:DV):DV->DV->Prop where
 | same (d:DV):Mz id r d d
 | mid:Mz id r (.mid id) r
 | agg (a a':List DV) (hl:a.length=a'.length) (h:∀ (i:Nat) x y,a[i]? = some x->a'[i]? = some y->Mz id r x y):Mz id r (.agg a) (.agg a')
 | tup (a a':List DV) (hl:a.length=a'.length) (h:∀ (i:Nat) x y,a[i]? = some x->a'[i]? = some y->Mz id r x y):Mz id r (.tup a) (.tup a')
theorem Mz.rel {ρ ρ':Ren} {id:Nat} {r:DV} (hl : ρ.le ρ') (hr:∀ v,VRel ρ (.mid id) v->VRel ρ' r v) {d d':DV} (h:Mz id r d d'):∀ v,VRel ρ d v->VRel ρ' d' v:=by
 induction h with
 | same d=>exact fun v hv=>hv.mono hl
 | mid=>exact hr
 | agg a a' hl' _ ih =>
  intro v hv;obtain ⟨b,rfl,h1,h2⟩:=hv.agg_inv;refine .agg _ _ (hl'▸h1) fun i x y hx hy=>?_;have hi:i<a.length:=by have:=(A0V.1 hx).1;omega
  exact ih i a[i] x (A0E hi) hx y (h2 i _ y (A0E hi) hy)
 | tup a a' hl' _ ih =>
  intro v hv;obtain ⟨b,rfl,h1,h2⟩:=hv.tup_inv;refine .tup _ _ (hl'▸h1) fun i x y hx hy=>?_;have hi:i<a.length:=by have:=(A0V.1 hx).1;omega
  exact ih i a[i] x (A0E hi) hx y (h2 i _ y (A0E hi) hy)
theorem GL.frzm {H H':Hp} {ds ds':List DV} {id u:Nat} {kd:KKey} {ks vs:List DV} (hb:H id=some ⟨u,true,[.mpc kd ks vs]⟩) (hH:∀ j,H' j=none\/(j≠id/\H' j=H j))
  (hl:ds.length=ds'.length) (hd:∀ (i:Nat) x y,ds[i]? = some x->ds'[i]? = some y->Mz id (.mp kd ks vs) x y):GL H ds H' ds':=by
 refine ⟨fun j hj=>?_,fun ρ w a2 hR hA=>?_⟩
 ·rcases hH j with h0|⟨-,h0⟩
  ·exact absurd h0 hj
  ·rw [<- h0];exact hj
 have back:∀ j bj,H' j=some bj->j≠id/\H j=some bj:=by
  intro j bj hj;rcases hH j with h0|⟨hne,h0⟩
  ·rw [h0] at hj;cases hj
  ·exact ⟨hne,by rw [<- h0];exact hj⟩
 obtain ⟨t,ht,hB⟩:=hR.blk id _ hb;rcases hB with ⟨hm,c,e,fr, -, -, -, -,g5, -⟩|⟨hm, -,hs,es,cl,kd',ks',vs',g1,g2,g3,g6⟩
 ·have:=(g5 0 _ rfl).1;simp [DV.one] at this
 cases g2;have hnone : ρ.fm t.block=none:=by
  cases hf : ρ.fm t.block with
  | none=>rfl
  | some es'=>exact absurd rfl ((hR.frm _ _ hf).2 id _ t hb rfl ht)
 obtain ⟨ρ2,hρ⟩:∃ ρ2:Ren, ρ2=⟨ρ.nm, ρ.fz, ρ.tab,fun k=>if k=t.block then some es else ρ.fm k⟩:=⟨_,rfl⟩;have n1 : ρ2.nm = ρ.nm:=by rw [hρ]
 have n2 : ρ2.fz = ρ.fz:=by rw [hρ]
 have n3:∀ k r, ρ2.fm k=some r->(k=t.block/\r=es) \/ ρ.fm k=some r:=by
  intro k r hk;rw [hρ] at hk;simp only at hk;split at hk
  ·rename_i h;cases hk;exact .inl ⟨h,rfl⟩
  ·exact .inr hk
 have n4 : ρ2.fm t.block=some es:=by rw [hρ];simp
 have hle : ρ.le ρ2:=⟨fun i x h=>by rw [n1];exact h,fun b r h=>by rw [n2];exact h,fun b r h=>by
  rw [hρ];simp only;rw [if_neg (fun e=>by rw [e,hnone] at h;cases h)];exact h⟩
 have hval:∀ v,VRel ρ (.mid id) v->VRel ρ2 (.mp kd ks vs) v:=by
  intro v hv;obtain ⟨t',ht', -,rfl⟩:=hv.mid_inv;rw [ht] at ht';cases ht';obtain ⟨a1,a2,a3,a4,a5⟩:=g3;exact .mp kd ks vs t.block es n4 a1 a2 a3 (fun i x e hx he=>(a4 i x e hx he).mono hle) (fun i x e hx he=>(a5 i x e hx he).mono hle)
 refine ⟨ρ2,n1,⟨fun j bj hj=>?_,fun i j bi bj ti tj hi hj hij h1 h2 ho=>?_,fun k r hk=>?_,fun j bj tj hj ho hjt=>?_,fun k r hk=>?_⟩,⟨hl▸hA.1,fun i x y hx hy=>?_⟩,?_⟩
 ·rw [n1];obtain ⟨-,h1⟩:=back j bj hj;obtain ⟨tj,q1,q2⟩:=hR.blk j bj h1;exact ⟨tj,q1,q2.mono hle⟩
 ·rw [n1] at h1 h2;exact hR.sep i j bi bj ti tj (back i bi hi).2 (back j bj hj).2 hij h1 h2 ho
 ·rw [n2] at hk;exact hR.frz k r hk
 ·rw [n1] at hjt;rw [n2];exact hR.dis j bj tj (back j bj hj).2 ho hjt
 ·rcases n3 k r hk with ⟨rfl,rfl⟩|h1
  ·refine ⟨⟨cl,g1,g6⟩,fun j bj tj hj ho hjt=>?_⟩;rw [n1] at hjt;obtain ⟨hne,h2⟩:=back j bj hj;exact hR.sep j id bj _ tj t h2 hb hne hjt ht ho
  ·refine ⟨(hR.frm k r h1).1,fun j bj tj hj ho hjt=>?_⟩;rw [n1] at hjt;exact (hR.frm k r h1).2 j bj tj (back j bj hj).2 ho hjt
 ·have hi:i<ds.length:=by have:=(A0V.1 hx).1;omega
  exact (hd i ds[i] x (A0E hi) hx).rel hle hval y (hA.2 i _ y (A0E hi) hy)
 ·refine ⟨hle,rfl,rfl,rfl,A0H _,fun _ _ _=>rfl,fun j bj tj hj hjt=>?_,fun k r hk=>.inl (by rw [<- n2];exact hk),fun k r hk=>?_⟩
  ·rw [n1] at hjt;exact .inr ⟨j,bj,tj,(back j bj hj).2,fun h=>h,hjt,rfl⟩
  ·rcases n3 k r hk with ⟨rfl,rfl⟩|h1
   ·exact .inr (.inr ⟨id,_,t,hb,rfl,ht,rfl⟩)
   ·exact .inl h1
theorem B5a {H:Hp} {id u:Nat} {kd:KKey} {ks vs:List DV} (hb:H id=some ⟨u,true,[.mpc kd ks vs]⟩):∃ H2,GL H [.mid id] H2 [.mp kd ks vs] :=
 ⟨nil,GL.frzm hb (fun j=>.inl rfl) rfl (fun i x y hx hy=>by
  match i with
  | 0=>cases hx;cases hy;exact .mid
  | _+1=>cases hx)⟩
theorem A2e {a b:List UInt8}:B0y (.str a) (.str b)=(a == b):=id rfl
theorem A7z {s:List UInt8}:∀ (l:List (List UInt8)) (i:Nat),(L9 (.str s) (l.map DV.str) i).isSome=l.contains s
 | [],i=>rfl
 | x :: r,i=>by
  simp only [A0N,L9,A2e,A2Z];cases h:s == x with
  | true=>simp
  | false=>simp [A7z r (i+1)]
theorem B0t {s:List UInt8} {l:List (List UInt8)} (h:l.contains s=false) (i:Nat):L9 (.str s) (l.map DV.str) i=none:=by
 have:=A7z (s:=s) l i;rw [h] at this;cases hm:L9 (.str s) (l.map DV.str) i with
 | none=>rfl
 | some j=>rw [hm] at this;cases this
theorem C1a {s:List UInt8} {l:List (List UInt8)} (h:l.contains s=true) (i:Nat):∃ j,L9 (.str s) (l.map DV.str) i=some j:=by
 have:=A7z (s:=s) l i;rw [h] at this;cases hm:L9 (.str s) (l.map DV.str) i with
 | none=>rw [hm] at this;cases this
 | some j=>exact ⟨j,rfl⟩
theorem B8c {k:DV}:∀ {ks:List DV} {i j:Nat},L9 k ks i=some j->i<=j/\j<i+ks.length
 | [],i,j,h=>by cases h
 | x :: r,i,j,h=>by
  simp only [L9] at h;split at h
  ·cases h;simp
  ·have:=B8c h;simp only [A0B];omega
end Go.Sym
namespace Go.Sym
variable [Go.Sym.Tab]
open Go.Eng (I2)
open Go.RowKit
variable {P:Program}
theorem PC.of_callsF {f:Nat} {args:List DV} {r:DV} (hc:I2 P f=true) (na:DV.nlL args=true) (nr:r.nl=true)
  (h:∀ (ρ : Ren) (w:World) (vs:Array Value),(∀ b r, ρ.fz b=some r->∃ e fr,w.heap[b]? = some (.cells r e fr))->F2 ρ args vs ->
   Calls P f vs w fun e w' => ∃ v' b row ty fr,e=.returned v'/\w.heap.size<=b/\w'.heap[b]? = some (.cells row ty fr)/\(∀ ρ':Ren, ρ'.fz b=some row->VRel ρ' r v')/\Below w.heap.size w w'):PC P f args r:=by
 refine ⟨na,nr,hc,fun ρ w vs hR hf hA=>?_⟩;refine (h ρ w vs hR.frz hA).mono ?_;rintro e w' ⟨v',b,row,ty,fr,rfl,hb,hrow,hv,b1,b2,b3,b4,b5⟩;have hnone : ρ.fz b=none:=by
  cases hz : ρ.fz b with
  | none=>rfl
  | some r=>have:=hR.flt hz;omega
 have hfz:(ρ.frz b row hnone).fz b=some row:=by simp [Ren.frz]
 refine ⟨r,v',nil,0, ρ.frz b row hnone,rfl,rfl,hv _ hfz,⟨fun id b h=>(by cases h),fun i j bi bj ti tj h=>(by cases h),fun k r' hk=>?_,fun id b t h=>(by cases h),fun k r' hk=>⟨?_,fun id b t h=>(by cases h)⟩⟩,hf,A0H _,fun id hid h=>absurd rfl h,fun _ _=>rfl,
  ⟨Ren.le_frz hnone,b1,b2,b3,b4,fun k hk _=>b5 k hk,fun id b t h1=>(by cases h1),fun k r' hk=>?_,fun k r h=>.inl h⟩⟩
 ·simp only [Ren.frz] at hk;split at hk
  ·rename_i hkb;cases hk;rw [hkb];exact ⟨ty,fr,hrow⟩
  ·obtain ⟨e,fr,h1⟩:=hR.frz k r' hk;exact ⟨e,fr,by rw [b5 k (hR.flt hk)];exact h1⟩
 ·obtain ⟨⟨cl,h1,hst⟩, -⟩:=hR.frm k r' hk;exact ⟨cl,by rw [b5 k (A0P.1 h1).1];exact h1,hst⟩
 ·simp only [Ren.frz] at hk;split at hk
  ·rename_i hkb;subst hkb;exact .inr (.inl hb)
  ·exact .inl hk
theorem VRel.strs {ρ : Ren} {l:List (List UInt8)} {b n c:Nat} (h : ρ.fz b=some ((l.map fun s=>Value.string ⟨s.toArray⟩).toArray)) (hn:n=l.length) (hc:n<=c) (hm:c<=maxLen) :
  VRel ρ (.lst (l.map DV.str)) (.slice (some ⟨b,0,none⟩) n c):=by
 have hcl:A8 (l.map DV.str)=l.map DV.str:=by
  clear h hn
  induction l with
  | nil=>rfl
  | cons x r ih =>
   have:A8 ((x :: r).map DV.str)=[DV.str x]++A8 (r.map DV.str):=rfl;rw [this,ih];rfl
 refine .lst _ n 1 b 0 c _ h (by simpa using hn) hc hm (fun x hx=>by obtain ⟨y, -,rfl⟩:=A1I.1 hx;rfl) ?_ ?_ ?_
 ·rw [hcl];simp
 ·rw [hcl];intro d hd;obtain ⟨y, -,rfl⟩:=A1I.1 hd;rfl
 ·rw [hcl];intro k d v hd hv;rw [A1C] at hd;obtain ⟨s,hs,rfl⟩:=A0M.1 hd;simp only [A1L,A1P,A1C,hs,A3V,Option.some.injEq] at hv;subst hv;exact .mkStr
end Go.Sym
namespace Go.Proofs.YthlpinppaclofaaGreatDoor
open Go.Eng (IC IOper DReg IFn J0)
open Go.Sym Go.Pb
theorem E0b {H:Hp} {cc j:Nat} {b:Blk} (hfr:∀ i,cc<=i->H i=none) (h:H j=some b):j≠cc:=by
 rintro rfl;rw [hfr _ (A0H _)] at h;cases h
theorem A5w {H:Hp} {cc:Nat} {b:Blk} {ds:List DV} (hfr:∀ i,cc<=i->H i=none):GL (H.upd cc b) ds H ds:=GL.less' fun j b hj=>by rw [A3 (E0b hfr hj)];exact hj
theorem P6 {K H':Hp} {cc:Nat} {ds:List DV} (hK:∀ i,cc<=i->K i=none) (h:∀ j,j<cc->H' j=K j):GL H' ds K ds:=GL.less fun j=>by
 by_cases hj:j<cc
 ·exact .inr (h j hj).symm
 ·exact .inl (hK j (by omega))
theorem D5 {H:Hp} {cc t:Nat} {b:Blk} (hfr:∀ i,cc<=i->H i=none) (htc:t<cc):∀ i,cc<=i->H.upd t b i=none:=fun i hi=>by rw [A3 (by omega)];exact hfr i hi
theorem rv4 {s:Sym.St} {x i u:Nat} {a b c d:DV} {o:Bool} (h:s.T x=.ptr i 0) (hb:s.H i=some ⟨u,o,[a,b,c,d]⟩):A3j s [.cell x 4 true]=some (.agg [a,b,c,d]):=by
 simp only [A3j,A5r,h,ldv,ldB,hb];rfl
theorem upd_same {H:Hp} {t:Nat} {b:Blk} (h:H t=some b):H.upd t b=H:=by
 funext j
 by_cases ej:j=t
 ·subst ej;rw [A0,h]
 ·rw [A3 ej]
abbrev A8m (l:List (List UInt8)):DV:=.lst (l.map DV.str)
theorem C1t (l:List (List UInt8)):A8 (l.map DV.str)=l.map DV.str:=A1m (fun _=>rfl) l
theorem E2s {ρ : Ren} {v:Value} {a b c e:DV} (h:VRel ρ (.agg [a,b,c,.snil,e]) v):VRel ρ (.agg [a,b,c,.lst [],e]) v:=by
 obtain ⟨bb,rfl,k1,k2⟩:=h.agg_inv;refine .agg _ _ k1 fun j x y hx hy=>?_
 match j with
 | 0=>cases hx;exact k2 0 _ y rfl hy
 | 1=>cases hx;exact k2 1 _ y rfl hy
 | 2=>cases hx;exact k2 2 _ y rfl hy
 | 3=>cases hx;exact (k2 3 _ y rfl hy).snil_lst
 | 4=>cases hx;exact k2 4 _ y rfl hy
 | _+5=>cases hx
theorem B8m {K H':Hp} {cc:Nat} {a b c e:DV} (hK:∀ i,cc<=i->K i=none) (h:∀ j,j<cc->H' j=K j):GL H' [.agg [a,b,c,.snil,e]] K [.agg [a,b,c,.lst [],e]] :=
 (P6 hK h).trans (GL.view fun ρ vs hA=>N9 (fun v h=>E2s h) vs hA)
theorem rv5 {s:Sym.St} {x i u:Nat} {a b c d e:DV} {o:Bool} (h:s.T x=.ptr i 0) (hb:s.H i=some ⟨u,o,[a,b,c,d,e]⟩):A3j s [.cell x 5 true]=some (.agg [a,b,c,d,e]):=by
 simp only [A3j,A5r,h,ldv,hb];rfl
theorem C2b (L:List Tok) (E:Int) (s:Rd):∀ (l:List (List UInt8)) (k:Nat), -1<=U9 L E s k l/\U9 L E s k l<((k+l.length:Nat):Int)
 | [],k=>by simp [U9];omega
 | x :: l,k=>by
  have:=C2b L E s l (k+1);unfold U9;split
  ·simp only [A0B];omega
  ·simp only [A0B];omega
abbrev tkB (a:Tok):Blk:=⟨0,true,[I64 a.kind,.str a.text,I64 a.value,I64 a.pos]⟩
abbrev B2j:Blk:=⟨0,true,[I64 0,I64 0,.str [],.snil,I64 0]⟩
abbrev paB (L:List Tok) (E:Int) (s:Rd):Blk:=⟨0,true,[S2 L,I64 s.i,I64 E,I64 s.e,I64 s.pos,I64 s.ops,I64 s.par]⟩
theorem c_here (L:List Tok) (E:Int) (s:Rd) (H:Hp) (cc t:Nat) (ht:H t=some (paB L E s)) (htc:t<cc):AC Tryz.prog 167 [.ptr t 0] H cc (fun v H' c'=>v=(A4 L E s).v/\H'=H):=by
 refine AC.bodyT B2 rfl (A0A rfl) fun hfr=>?_;have ne0:=X3 t cc (by omega);by_cases hlt:s.i<L.length
 ·have hd:decide ((s.i:Int)<L.length)=true:=by simpa using hlt
  have hg:=A0E hlt;have e:A4 L E s=L[s.i]:=by unfold A4;rw [A0S,hg];rfl
  rw [e];generalize L[s.i]=a at hg;repeat' ((with_reducible first|refine wr ?_|refine A2 ?_ ?_|fail)<;>try simp only [go_sem,seval,ht,hd,hg,ne0,A0,A1])
  rw [D6 (v:=a.v) (rv4 rfl A0)];exact ⟨_,_,A5w hfr,rfl,rfl⟩
 ·have hd:decide ((s.i:Int)<L.length)=false:=by simpa using hlt
  have e:A4 L E s=⟨0,[],0,E⟩:=by unfold A4;rw [A0S,A1Q (by omega)];rfl
  rw [e];repeat' ((with_reducible first|refine wr ?_|refine A2 ?_ ?_|fail)<;>try simp only [go_sem,seval,ht,hd,ne0,A0,A1])
  rw [D6 (v:=Tok.v ⟨0,[],0,E⟩) (rv4 rfl A0)];exact ⟨_,_,A5w hfr,rfl,rfl⟩
theorem c_pok (L:List Tok) (E:Int) (s:Rd) (H:Hp) (cc t:Nat) (ht:H t=some (paB L E s)) (htc:t<cc):AC Tryz.prog 71 [.ptr t 0] H cc (fun v H' c'=>v=.bool (okR s)/\H'=H):=by
 refine AC.bodyT B2 rfl (A0A rfl) fun hfr=>?_;repeat' ((with_reducible first|refine wr ?_|refine A2 ?_ ?_|fail)<;>try simp only [go_sem,seval,ht])
 exact ⟨_,_,GL.refl _ _,rfl,rfl⟩
theorem c_pfail (L:List Tok) (E:Int) (s:Rd) (H:Hp) (cc t:Nat) (ht:H t=some (paB L E s)) (htc:t<cc) (e:Int):AC Tryz.prog 124 [.ptr t 0,I64 e] H cc (fun v H' c'=>v=.tup []/\H'=H.upd t (paB L E (pfl L E s e))):=by
 refine AC.bodyT B2 rfl (A0A rfl) fun hfr=>?_;cases h:okR s with
 | true =>
  have e0:pfl L E s e = { s with e:=e,pos:=(A4 L E s).pos }:=by rw [pfl,M0,if_pos h]
  have h':(s.e == 0)=true:=h;rw [e0];repeat' ((with_reducible first|refine wr ?_|refine A2 ?_ ?_|fail)<;>try simp only [go_sem,seval,ht,h',h,A0,A1])
  refine AC.call (c_here L E s _ _ t ht (by omega)) ?_;rintro v H' c1 ⟨rfl,rfl⟩ hc;simp only [go_sem,seval,ht,A0,A1];repeat' ((with_reducible first|refine wr ?_|refine A2 ?_ ?_|fail)<;>try simp only [go_sem,seval,ht,A0,A1])
  exact ⟨_,_,GL.refl _ _,rfl,rfl⟩
 | false =>
  have e0:pfl L E s e=s:=Y9 h;have h':(s.e == 0)=false:=h;rw [e0];repeat' ((with_reducible first|refine wr ?_|refine A2 ?_ ?_|fail)<;>try simp only [go_sem,seval,ht,h',h,A0,A1])
  exact ⟨_,_,GL.refl _ _,rfl,(upd_same ht).symm⟩
theorem c_Idx (x:List UInt8) (l:List (List UInt8)) (hl:l.length<=1000000):PC Tryz.prog 170 [A8m l,.str x] (I64 (Q9 x 0 l)):=by
 refine PC.ofT B2 rfl (A0A rfl) (by simp [DV.nlL,DV.nl]) (by simp [DV.nlL,DV.nl]) ?_;repeat' ((with_reducible first|refine wr ?_|refine A2 ?_ ?_|fail)<;>try simp only [go_sem,seval])
 refine D2 (fun k:Nat=>[(0,A8m l),(1,.str x),(7,I64 l.length),(8,I64 k)]) (fun _=>Sym.nil) (fun k c=>k<=l.length/\Q9 x 0 l=Q9 x k (l.drop k)) (fun k=>l.length-k) 0 (by simp [C6,tm,Tm.upd]) (Sub.refl _) ⟨by omega,rfl⟩ ?_;rintro k c ⟨hk,hv⟩;by_cases hlt:k<l.length
 ·have hd:decide ((k:Int)<l.length)=true:=by simpa using hlt
  have hg:=A0E hlt;have hw:IntKind.i64.wrap ((k:Int)+1)=((k+1:Nat):Int):=by rw [w6z (by omega)];omega
  rw [A1V hlt,Q9] at hv;generalize l[k]=a at hg hv;cases h:(x == a) with
  | true =>
   rw [if_pos h] at hv;rw [hv];repeat' ((with_reducible first|refine wr ?_|refine A2 ?_ ?_|fail)<;>try simp only [go_sem,seval,hd,hg,h])
   exact A9 rfl
  | false =>
   rw [if_neg (by simp [h])] at hv;repeat' ((with_reducible first|refine wr ?_|refine A2 ?_ ?_|fail)<;>try simp only [go_sem,seval,hd,hg,h,hw])
   exact ⟨k+1,rfl,Sub.refl _,inv ⟨hlt,hv⟩,by omega⟩
 ·have hd:decide ((k:Int)<l.length)=false:=by simpa using hlt
  have hk:k=l.length:=by omega
  rw [hk,List.drop_length,Q9] at hv;rw [hv];repeat' ((with_reducible first|refine wr ?_|refine A2 ?_ ?_|fail)<;>try simp only [go_sem,seval,hd])
  exact A9 rfl
theorem c_Cont (x:List UInt8) (l:List (List UInt8)) (hl:l.length<=1000000):PC Tryz.prog 168 [A8m l,.str x] (.bool (l.contains x)):=by
 have e:decide (Q9 x 0 l≥0)=l.contains x:=by
  rcases B1b x l 0 with ⟨h1,h2⟩|⟨h1,h2,h3⟩
  ·rw [h1,h2];rfl
  ·rw [h3];exact decide_eq_true (by simpa using h1)
 refine PC.ofT B2 rfl (A0A rfl) (by simp [DV.nlL,DV.nl]) (by simp [DV.nlL,DV.nl]) ?_;repeat' ((with_reducible first|refine wr ?_|refine cpc (c_Idx x l hl) ?_|refine A2 ?_ ?_|fail)<;>try simp only [go_sem,seval,e])
 exact A9 rfl
theorem c_pis (L:List Tok) (E:Int) (s:Rd) (H:Hp) (cc t:Nat) (ht:H t=some (paB L E s)) (htc:t<cc) (k:Int) (l:List (List UInt8)) (hl:l.length<=1000000):AC Tryz.prog 125 [.ptr t 0,I64 k,A8m l] H cc (fun v H' c'=>v=.bool (isP L E s k l)/\H'=H):=by
 refine AC.bodyT B2 rfl (A0A rfl) fun hfr=>?_;repeat' ((with_reducible first|refine wr ?_|refine A2 ?_ ?_|fail)<;>try simp only [go_sem,seval])
 refine AC.call (c_here L E s _ _ t ht (by omega)) ?_;rintro v H' c1 ⟨rfl,rfl⟩ hc;have ne0:=X3 t c1 (by omega);simp only [go_sem,seval,ne0,A0,A1];repeat' ((with_reducible first|refine wr ?_|refine A2 ?_ ?_|fail)<;>try simp only [go_sem,seval,ne0,A0,A1])
 refine AC.call (c_pok L E s _ _ t (by rw [A3 (by omega)];exact ht) (by omega)) ?_;rintro v H' c2 ⟨rfl,rfl⟩ hc2;simp only [go_sem,seval,ne0,A0,A1];repeat' ((with_reducible first|refine wr ?_|refine cpc (c_Cont _ l hl) ?_|refine A2 ?_ ?_|refine wb2 ?_ ?_<;>(intro hb;try simp only [hb])|fail)<;>try simp only [go_sem,seval,ne0,A0,A1])
 all_goals exact ⟨_,_,A5w (fun i hi=>hfr i (by omega)),by simp_all [isP],rfl⟩
theorem c_pisO (L:List Tok) (E:Int) (s:Rd) (K:Hp) (cc t b:Nat) (hK:K b=none) (ht:K t=some (paB L E s)) (htc:t<cc) (k:Int) (l:List (List UInt8)) (hl:l.length<=1000000) :
  AC Tryz.prog 125 [.ptr t 0,I64 k,.slc b 0 l.length] (K.upd b ⟨1,true,l.map DV.str⟩) cc (fun v H' c'=>v=.bool (isP L E s k l)/\H'=K) :=
 AC.ghost (GL.frzS (id:=b) A0 rfl (fun j=>by
  by_cases e:j=b
  ·subst e;exact .inl hK
  ·exact .inr ⟨e,(A3 e).symm⟩) (.cons _ _ _ _ (.same _) (.cons _ _ _ _ (.same _) (.cons _ _ _ _ (M9 (u:=1) (by simp) (R4 _) ⟨[],by rw [A1M,C1t]⟩) .nil)))) (c_pis L E s K cc t ht htc k l hl)
theorem c_want (L:List Tok) (E:Int) (s:Rd) (H:Hp) (cc t:Nat) (ht:H t=some (paB L E s)) (htc:t<cc) (hi:s.i<=10000000000) (k:Int) (w:List UInt8):AC Tryz.prog 171 [.ptr t 0,I64 k,.str w] H cc (fun v H' c'=>v=.tup []/\H'=H.upd t (paB L E (E8 L E s k w))):=by
 refine AC.bodyT B2 rfl (A0A rfl) fun hfr=>?_;have hio:=c_pisO L E s H (cc+1) t cc (hfr _ (A0H _)) ht (by omega) k [w] (by simp);repeat' ((with_reducible first|refine wr ?_|refine A2 ?_ ?_|fail)<;>try simp only [go_sem,seval])
 refine AC.call hio ?_;rintro v H' c1 ⟨rfl,rfl⟩ hc;cases h:isP L E s k [w] with
 | false =>
  have e0:E8 L E s k w=pfl L E s 4:=by rw [E8,if_pos h]
  rw [e0];simp only [go_sem,seval,h];repeat' ((with_reducible first|refine wr ?_|refine A2 ?_ ?_|fail)<;>try simp only [go_sem,seval,h])
  refine AC.call (c_pfail L E s _ _ t ht (by omega) 4) ?_;rintro v H' c2 ⟨rfl,rfl⟩ hc2;simp only [go_sem,seval];repeat' ((with_reducible first|refine wr ?_|refine A2 ?_ ?_|fail)<;>try simp only [go_sem,seval])
  exact ⟨_,_,GL.refl _ _,rfl,rfl⟩
 | true =>
  have hw:IntKind.i64.wrap ((s.i:Int)+1)=((s.i+1:Nat):Int):=by rw [w6z (by omega)];omega
  have e0:E8 L E s k w=A6 s:=by rw [E8,if_neg (by simp [h])]
  rw [e0];simp only [go_sem,seval,h];repeat' ((with_reducible first|refine wr ?_|refine A2 ?_ ?_|fail)<;>try simp only [go_sem,seval,h,ht,hw,A0,A1])
  exact ⟨_,_,GL.refl _ _,rfl,rfl⟩
theorem c_ptake (L:List Tok) (E:Int) (s:Rd) (H:Hp) (cc t:Nat) (ht:H t=some (paB L E s)) (htc:t<cc) (hi:s.i<=10000000000) (k:Int):AC Tryz.prog 169 [.ptr t 0,I64 k] H cc (fun v H' c'=>v=(B1 L E s k).1.v/\H'=H.upd t (paB L E (B1 L E s k).2)):=by
 refine AC.bodyT B2 rfl (A0A rfl) fun hfr=>?_;repeat' ((with_reducible first|refine wr ?_|refine A2 ?_ ?_|fail)<;>try simp only [go_sem,seval])
 refine AC.call (c_here L E s _ _ t (by rw [A3 (by omega)];exact ht) (by omega)) ?_;rintro v H' c1 ⟨rfl,rfl⟩ hc;have ne0:=V8 t cc c1 (by omega);have hGt:((H.upd cc ⟨0,true,[I64 0,.str [],I64 0,I64 0]⟩).upd c1 (tkB (A4 L E s))) t=some (paB L E s):=by rw [A3 (by omega),A3 (by omega)];exact ht
 simp only [go_sem,seval,ne0,A0,A1];repeat' ((with_reducible first|refine wr ?_|refine A2 ?_ ?_|fail)<;>try simp only [go_sem,seval,ne0,A0,A1])
 refine AC.call (c_pok L E s _ _ t hGt (by omega)) ?_;rintro v H' c2 ⟨rfl,rfl⟩ hc2;have hks:F9 L E s k=(okR s && (A4 L E s).kind == k):=rfl;cases h1:okR s with
 | false =>
  have e0:B1 L E s k=(Y7,pfl L E s 4):=by rw [B1,hks,h1];rfl
  rw [e0];simp only [go_sem,seval,ne0,h1,A0,A1];repeat' ((with_reducible first|refine wr ?_|refine A2 ?_ ?_|fail)<;>try simp only [go_sem,seval,ne0,h1,A0,A1])
  refine AC.call (c_pfail L E s _ _ t hGt (by omega) 4) ?_;rintro v H' c3 ⟨rfl,rfl⟩ hc3;simp only [go_sem,seval,ne0,A0,A1];repeat' ((with_reducible first|refine wr ?_|refine A2 ?_ ?_|fail)<;>try simp only [go_sem,seval,ne0,A0,A1])
  rw [D6 (v:=Y7.v) (rv4 rfl A0)];exact ⟨_,_,P6 (D5 hfr htc) (fun j hj=>by simp [Hp.upd,show ¬j=cc by omega,show ¬j=c1 by omega]),rfl,rfl⟩
 | true =>
  cases h2:((A4 L E s).kind == k) with
  | false =>
   have h3:((A4 L E s).kind != k)=true:=by rw [bne,h2];rfl
   have e0:B1 L E s k=(Y7,pfl L E s 4):=by rw [B1,hks,h1,h2];rfl
   rw [e0];simp only [go_sem,seval,ne0,h1,A0,A1];repeat' ((with_reducible first|refine wr ?_|refine A2 ?_ ?_|fail)<;>try simp only [go_sem,seval,ne0,h1,h3,A0,A1])
   refine AC.call (c_pfail L E s _ _ t hGt (by omega) 4) ?_;rintro v H' c3 ⟨rfl,rfl⟩ hc3;simp only [go_sem,seval,ne0,A0,A1];repeat' ((with_reducible first|refine wr ?_|refine A2 ?_ ?_|fail)<;>try simp only [go_sem,seval,ne0,A0,A1])
   rw [D6 (v:=Y7.v) (rv4 rfl A0)];exact ⟨_,_,P6 (D5 hfr htc) (fun j hj=>by simp [Hp.upd,show ¬j=cc by omega,show ¬j=c1 by omega]),rfl,rfl⟩
  | true =>
   have h3:((A4 L E s).kind != k)=false:=by rw [bne,h2];rfl
   have hw:IntKind.i64.wrap ((s.i:Int)+1)=((s.i+1:Nat):Int):=by rw [w6z (by omega)];omega
   have e0:B1 L E s k=(A4 L E s,A6 s):=by rw [B1,hks,h1,h2];rfl
   rw [e0];simp only [go_sem,seval,ne0,h1,A0,A1];repeat' ((with_reducible first|refine wr ?_|refine A2 ?_ ?_|fail)<;>try simp only [go_sem,seval,ne0,h1,h3,hGt,ht,hw,A0,A1])
   rw [D6 (v:=(A4 L E s).v) (rv4 rfl A0)];exact ⟨_,_,P6 (D5 hfr htc) (fun j hj=>by simp [Hp.upd,show ¬j=cc by omega,show ¬j=c1 by omega];rfl),rfl,rfl⟩
theorem c_pend (L:List Tok) (E:Int) (s:Rd) (H:Hp) (cc t:Nat) (ht:H t=some (paB L E s)) (htc:t<cc):AC Tryz.prog 70 [.ptr t 0] H cc (fun v H' c'=>v=.tup []/\H'=H.upd t (paB L E (if s.i<L.length then pfl L E s 4 else s))):=by
 refine AC.bodyT B2 rfl (A0A rfl) fun hfr=>?_;by_cases h:s.i<L.length
 ·have hd:decide ((s.i:Int)<L.length)=true:=by simpa using h
  rw [if_pos h];repeat' ((with_reducible first|refine wr ?_|refine A2 ?_ ?_|fail)<;>try simp only [go_sem,seval,ht,hd])
  refine AC.call (c_pfail L E s _ _ t ht (by omega) 4) ?_;rintro v H' c1 ⟨rfl,rfl⟩ hc;simp only [go_sem,seval];repeat' ((with_reducible first|refine wr ?_|refine A2 ?_ ?_|fail)<;>try simp only [go_sem,seval])
  exact ⟨_,_,GL.refl _ _,rfl,rfl⟩
 ·have hd:decide ((s.i:Int)<L.length)=false:=by simpa using h
  rw [if_neg h];repeat' ((with_reducible first|refine wr ?_|refine A2 ?_ ?_|fail)<;>try simp only [go_sem,seval,ht,hd])
  exact ⟨_,_,GL.refl _ _,rfl,(upd_same ht).symm⟩
open Go.Sym
abbrev x34:XT Tryz.prog 34:=mkF
instance t34:FT Tryz.prog 34 x34.d:=x34.ft
abbrev x72:XT Tryz.prog 72:=mkF
instance t72:FT Tryz.prog 72 x72.d:=x72.ft
abbrev x74:XT Tryz.prog 74:=mkF
instance t74:FT Tryz.prog 74 x74.d:=x74.ft
abbrev x37:XT Tryz.prog 37:=mkF (i:=⟨135,.seq (.reg [oX 2 0,oX 3 1,oV 4 (.bool false)]) (.seq (.seq (.reg [oF 12 2 0,oL 13 12,oH 14 13,oF 15 3 0,oL 16 15,oH 17 16,oB 18 14 17 .neq,oM 19 18,hF 20 2 1 19,hL 21 20 19,oR 22 (.len (.t 21)) 19,hF 23 3 1 19,hL 24 23 19,oR 25 (.len (.t 24)) 19,oR 26 (.bin .neq (.t 22) (.t 25)) 19,oO 27 19 26]) (.cond (.t 27) (.seq (.reg [oV 4 (.bool false)]) .ret) .skip)) (.seq (.seq (.reg [oI 5 0]) (.blk 0 (.loop (.seq (.seq (.reg [oM 28 5,oF 29 2 0,oL 30 29,oH 31 30,oB 32 28 31 .lss]) (.cond (.t 32) .skip (.exit 0))) (.seq (.blk 1 (.seq (.drw 11 (dQ [oF 35 2 0,oL 36 35,oM 37 5,oA 38 36 37 4,oD 39 38 4,oF 40 3 0,oL 41 40,oM 42 5,oA 43 41 42 4,oD 44 43 4,oP 45 (.eqa true [0,2,0,0] (.t 39) (.t 44))] 0)) (.cond (.t 45) (.seq (.reg [oV 4 (.bool false)]) .ret) .skip))) (.reg [oM 33 5,oK 34 33 .add 1,oM 5 34])))))) (.seq (.seq (.reg [oI 6 0]) (.blk 2 (.loop (.seq (.seq (.reg [oM 46 6,oF 47 2 1,oL 48 47,oH 49 48,oB 50 46 49 .lss]) (.cond (.t 50) .skip (.exit 2))) (.seq (.blk 3 (.seq (.drw 14 ⟨[oF 53 2 1,oL 54 53,oM 55 6,oA 56 54 55 4,oD 57 56 4,oF 58 3 1,oL 59 58,oM 60 6,oA 61 59 60 4,oD 62 61 4,oW 7 (.agg #[.string ⟨#[]⟩,.int .i64 0,.slice none 0 0,.int .i64 0]),oW 8 (.agg #[.string ⟨#[]⟩,.int .i64 0,.slice none 0 0,.int .i64 0]),oS 7 57 4,oS 8 62 4],[],[(0,none),(1,none),(2,none),(3,none),(4,none),(5,none),(6,none),(7,none),(8,none),(9,none),(10,none),(11,none),(12,some [5,6,7,8,9]),(13,some [])]⟩) (.seq (.seq (.reg [oF 63 7 0,oL 64 63,oF 65 8 0,oL 66 65,oB 67 64 66 .neq,oM 68 67,hF 69 7 1 68,hL 70 69 68,hF 71 8 1 68,hL 72 71 68,oR 73 (.bin .neq (.t 70) (.t 72)) 68,oO 74 68 73,oM 75 74,hF 76 7 3 75,hL 77 76 75,hF 78 8 3 75,hL 79 78 75,oR 80 (.bin .neq (.t 77) (.t 79)) 75,oO 81 75 80,oM 82 81,hF 83 7 2 82,hL 84 83 82,oR 85 (.len (.t 84)) 82,hF 86 8 2 82,hL 87 86 82,oR 88 (.len (.t 87)) 82,oR 89 (.bin .neq (.t 85) (.t 88)) 82,oO 90 82 89]) (.cond (.t 90) (.seq (.reg [oV 4 (.bool false)]) .ret) .skip)) (.seq (.reg [oI 9 0]) (.blk 4 (.loop (.seq (.seq (.reg [oM 91 9,oF 92 7 2,oL 93 92,oH 94 93,oB 95 91 94 .lss]) (.cond (.t 95) .skip (.exit 4))) (.seq (.blk 5 (.seq (.drw 14 ⟨[oF 98 7 2,oL 99 98,oM 100 9,oA 101 99 100 4,oD 102 101 4,oF 103 8 2,oL 104 103,oM 105 9,oA 106 104 105 4,oD 107 106 4,oW 10 (.agg #[.int .i64 0,.string ⟨#[]⟩,.slice none 0 0,.int .i64 0]),oW 11 (.agg #[.int .i64 0,.string ⟨#[]⟩,.slice none 0 0,.int .i64 0]),oS 10 102 4,oS 11 107 4],[],[(0,none),(1,none),(2,none),(3,none),(4,none),(5,none),(6,none),(7,none),(8,none),(9,none),(10,none),(11,none),(12,some [5,6,7,8,9]),(13,some [])]⟩) (.seq (.reg [oF 108 10 0,oL 109 108,oF 110 11 0,oL 111 110,oB 112 109 111 .neq,oM 113 112,hF 114 10 1 113,hL 115 114 113,hF 116 11 1 113,hL 117 116 113,oR 118 (.bin .neq (.t 115) (.t 117)) 113,oO 119 113 118,oM 120 119,hF 121 10 3 120,hL 122 121 120,hF 123 11 3 120,hL 124 123 120,oR 125 (.bin .neq (.t 122) (.t 124)) 120,oO 126 120 125,oM 127 126,hF 128 10 2 127,hL 129 128 127,hF 130 11 2 127,hL 131 130 127,⟨some 132,.call 74 [.t 129,.t 131],some (127,false)⟩,oR 133 (.un .not (.t 132)) 127,oO 134 127 133]) (.cond (.t 134) (.seq (.reg [oV 4 (.bool false)]) .ret) .skip)))) (.reg [oM 96 9,oK 97 96 .add 1,oM 9 97]))))))))) (.reg [oM 51 6,oK 52 51 .add 1,oM 6 52])))))) (.seq (.reg [oV 4 (.bool true)]) .ret)))),[.tmp 4]⟩) (by unfold J0;kernel_rfl) (fun h=>by conv=>lhs;cbv)
instance t37:FT Tryz.prog 37 x37.d:=x37.ft
abbrev x66:XT Tryz.prog 66:=mkF
instance t66:FT Tryz.prog 66 x66.d:=x66.ft
abbrev x30:XT Tryz.prog 30:=mkF
instance t30:FT Tryz.prog 30 x30.d:=x30.ft
abbrev x116:XT Tryz.prog 116:=mkF
instance t116:FT Tryz.prog 116 x116.d:=x116.ft
abbrev x112:XT Tryz.prog 112:=mkF
instance t112:FT Tryz.prog 112 x112.d:=x112.ft
abbrev x111:XT Tryz.prog 111:=mkF
instance t111:FT Tryz.prog 111 x111.d:=x111.ft
abbrev x153:XT Tryz.prog 153:=mkF
instance t153:FT Tryz.prog 153 x153.d:=x153.ft
abbrev x180:XT Tryz.prog 180:=mkF
instance t180:FT Tryz.prog 180 x180.d:=x180.ft
abbrev x93:XT Tryz.prog 93:=mkF
instance t93:FT Tryz.prog 93 x93.d:=x93.ft
abbrev x147:XT Tryz.prog 147:=mkF
instance t147:FT Tryz.prog 147 x147.d:=x147.ft
abbrev x148:XT Tryz.prog 148:=mkF
instance t148:FT Tryz.prog 148 x148.d:=x148.ft
abbrev x179:XT Tryz.prog 179:=mkF
instance t179:FT Tryz.prog 179 x179.d:=x179.ft
abbrev x51:XT Tryz.prog 51:=mkF
instance t51:FT Tryz.prog 51 x51.d:=x51.ft
abbrev x54:XT Tryz.prog 54:=mkF
instance t54:FT Tryz.prog 54 x54.d:=x54.ft
abbrev x23:XT Tryz.prog 23:=mkF
instance t23:FT Tryz.prog 23 x23.d:=x23.ft
abbrev x50:XT Tryz.prog 50:=mkF
instance t50:FT Tryz.prog 50 x50.d:=x50.ft
abbrev x53:XT Tryz.prog 53:=mkF
instance t53:FT Tryz.prog 53 x53.d:=x53.ft
abbrev x49:XT Tryz.prog 49:=mkF
instance t49:FT Tryz.prog 49 x49.d:=x49.ft
abbrev x90:XT Tryz.prog 90:=mkF
instance t90:FT Tryz.prog 90 x90.d:=x90.ft
abbrev x52:XT Tryz.prog 52:=mkF
instance t52:FT Tryz.prog 52 x52.d:=x52.ft
abbrev x92:XT Tryz.prog 92:=mkF
instance t92:FT Tryz.prog 92 x92.d:=x92.ft
abbrev x146:XT Tryz.prog 146:=mkF
instance t146:FT Tryz.prog 146 x146.d:=x146.ft
abbrev x177:XT Tryz.prog 177:=mkF
instance t177:FT Tryz.prog 177 x177.d:=x177.ft
abbrev x178:XT Tryz.prog 178:=mkF
instance t178:FT Tryz.prog 178 x178.d:=x178.ft
abbrev x200:XT Tryz.prog 200:=mkF
instance t200:FT Tryz.prog 200 x200.d:=x200.ft
end Go.Proofs.YthlpinppaclofaaGreatDoor
namespace Go.Sym
variable [Go.Sym.Tab]
variable {P:Program}
theorem AC.own {f:Nat} {args:List DV} {V:Nat->DV} {u:Nat} {cs:List DV} (h:AC P f args nil 0 (fun v H' _ => ∃ id,v=V id/\H'=nil.upd id ⟨u,true,cs⟩)) (hn:DV.nlL args=true) (hcs:∀ d∈cs,d.nl=true)
  (hV:∀ (ρ ρ':Ren) (id id':Nat) (v:Value), ρ.nm id = ρ'.nm id'->((∀ b r, ρ.fz b=some r -> ρ'.fz b=some r)/\∀ b r, ρ.fm b=some r -> ρ'.fm b=some r)->VRel ρ (V id) v->VRel ρ' (V id') v) (H:Hp) (c:Nat) :
  AC P f args H c (fun v H' c'=>v=V c/\H'=H.upd c ⟨u,true,cs⟩/\c'=c+1):=by
 refine ⟨h.1,fun ρ w vs hR hf hA=>?_⟩;refine (h.2 ⟨fun _=>none, ρ.fz, ρ.tab, ρ.fm⟩ w vs hR.nil (fun _ _=>rfl) (hA.nl (ρ := ρ) (ρ':=⟨fun _=>none, ρ.fz, ρ.tab, ρ.fm⟩) (fun _ _ h=>h) (fun _ _ h=>h) hn)).mono ?_;rintro e w' ⟨v,v',H1,c1, ρ1,rfl,⟨id,rfl,rfl⟩,d⟩;have hb:=d.ext.below (fun id b hb=>by cases hb);obtain ⟨b1,b2,b3,b4,b5⟩:=hb;obtain ⟨t,ht,hbr⟩:=d.rep.blk id _ A0;have hsz:w.heap.size<=t.block:=by
  rcases d.ext.mine id _ t A0 ht with h1|⟨i,b0,t0,e1, -⟩
  ·exact h1
  ·cases e1
 obtain ⟨ρ2,hρ⟩:∃ ρ2:Ren, ρ2=⟨fun j=>if j=c then some t else ρ.nm j, ρ1.fz, ρ1.tab, ρ1.fm⟩:=⟨_,rfl⟩;have n1 : ρ2.nm c=some t:=by rw [hρ];simp
 have n2:∀ {j},¬ j=c -> ρ2.nm j = ρ.nm j:=fun {j} hj=>by rw [hρ];simp [hj]
 have n3 : ρ2.fz = ρ1.fz:=by rw [hρ]
 have n4 : ρ2.fm = ρ1.fm:=by rw [hρ]
 have hle : ρ.le ρ2:=⟨fun j x hj=>by
  rw [n2 (fun e=>by subst e;rw [hf j (A0H _)] at hj;cases hj)];exact hj,fun b r hb=>by rw [n3];exact d.ext.le.fz b r hb,fun b r hb=>by rw [n4];exact d.ext.le.fm b r hb⟩
 refine ⟨V c,v',_,_, ρ2,rfl,⟨rfl,rfl,rfl⟩,hV ρ1 ρ2 id c v' (by rw [ht,n1]) ⟨fun b r hb=>by rw [n3];exact hb,fun b r hb=>by rw [n4];exact hb⟩ d.val,?_,fun j hj=>by rw [n2 (by omega)];exact hf j (by omega),by omega,
  fun j hj hne=>by rw [A3 (by omega)] at hne;exact hne,fun j hj=>n2 (by omega),?_⟩
 ·refine ⟨fun j b hb=>?_,fun i j bi bj ti tj hi hj hij h1 h2 ho=>?_,by rw [n3];exact d.rep.frz,fun j b t2 hb ho ht2=>?_,fun k es hk=>?_⟩
  ·by_cases e:j=c
   ·subst e;rw [A0] at hb;cases hb;refine ⟨t,n1,?_⟩;rcases hbr with ⟨gm,c0,e0,fr,g1,g2,g3,g4,g5,g6⟩|⟨-, -, -,es,cl,kd,ks,vs', -,g2, -⟩
    case inr =>
     simp only at g2;subst g2;have:=hcs _ A0L;simp [DV.nl] at this
    refine .inl ⟨gm,c0,e0,fr,g1,g2,g3,g4,fun i x hx=>?_,g6⟩;obtain ⟨q1,x',q2,q3⟩:=g5 i x hx;exact ⟨q1,x',q2,q3.nl (ρ := ρ1) (ρ' := ρ2) (fun b r hb=>by rw [n3];exact hb) (fun b r hb=>by rw [n4];exact hb) (hcs x (A0Y hx))⟩
   ·rw [A3 e] at hb;obtain ⟨t2,ht2,hb2⟩:=hR.blk j b hb;exact ⟨t2,by rw [n2 e];exact ht2,(hb2.mono hle).world (b5 _ hb2.lt)⟩
  ·by_cases e1:i=c
   ·subst e1;have e2:¬ j=i:=fun e=>hij e.symm;rw [A3 e2] at hj;rw [n1] at h1;cases h1;rw [n2 e2] at h2;have:=(hR.blk j bj hj);obtain ⟨t2,ht2,hb2⟩:=this;rw [h2] at ht2;cases ht2;have:=hb2.lt;omega
   ·rw [A3 e1] at hi;rw [n2 e1] at h1;by_cases e2:j=c
    ·subst e2;rw [n1] at h2;cases h2;obtain ⟨t2,ht2,hb2⟩:=hR.blk i bi hi;rw [h1] at ht2;cases ht2;have:=hb2.lt;omega
    ·rw [A3 e2] at hj;rw [n2 e2] at h2;exact hR.sep i j bi bj ti tj hi hj hij h1 h2 ho
  ·rw [n3];by_cases e:j=c
   ·subst e;rw [A0] at hb;cases hb;rw [n1] at ht2;cases ht2;exact d.rep.dis id _ t A0 rfl ht
   ·rw [A3 e] at hb;rw [n2 e] at ht2;cases hf1 : ρ1.fz t2.block with
    | none=>rfl
    | some r =>
     rcases d.ext.fzn _ _ hf1 with h1|h1|⟨i,b0,t0,e1, -⟩
     ·rw [hR.dis j b t2 hb ho ht2] at h1;cases h1
     ·have:=(hR.lookb hb ht2).lt;omega
     ·cases e1
  ·rw [n4] at hk;refine ⟨(d.rep.frm k es hk).1,fun j b t2 hb ho ht2=>?_⟩;by_cases e:j=c
   ·subst e;rw [A0] at hb;cases hb;rw [n1] at ht2;cases ht2;exact (d.rep.frm k es hk).2 id _ t A0 rfl ht
   ·rw [A3 e] at hb;rw [n2 e] at ht2;rcases d.ext.fmn _ _ hk with h1|h1|⟨i,b0,t0,e1, -⟩
    ·exact (hR.frm k es h1).2 j b t2 hb ho ht2
    ·have:=(hR.lookb hb ht2).lt;omega
    ·cases e1
 ·refine ⟨hle,b1,b2,b3,b4,fun k hk _=>b5 k hk,fun j b t2 h1 h2=>?_,fun k r hk=>?_,fun k r hk=>?_⟩
  ·by_cases e:j=c
   ·subst e;rw [n1] at h2;cases h2;exact .inl hsz
   ·rw [A3 e] at h1;rw [n2 e] at h2;exact .inr ⟨j,b,t2,h1,fun h=>h,h2,rfl⟩
  ·rw [n3] at hk;rcases d.ext.fzn k r hk with h1|h1|⟨i,b0,t0,e1, -⟩
   ·exact .inl h1
   ·exact .inr (.inl h1)
   ·cases e1
  ·rw [n4] at hk;rcases d.ext.fmn k r hk with h1|h1|⟨i,b0,t0,e1, -⟩
   ·exact .inl h1
   ·exact .inr (.inl h1)
   ·cases e1
section
open Go.Eng (IC)
variable {N:Nat} {x:IC} {T:Tm} {H:Hp} {c:Nat} {Q:Exit->St->Prop}
theorem IW.gl {s:St} (h:IW P N x s (fun e s'=>Q e s'\/∃ (ks:List Nat) (ds':List DV) (H2:Hp),GL s'.H (ks.map s'.T) H2 ds'/\Q e ⟨tm (ks.zip ds'),H2,s'.c⟩)):IW P N x s Q:=by
 intro hm cd hc ρ a w hS;refine wp_mono (h hm cd hc ρ a w hS) fun e a' w' hq=>?_;obtain ⟨ρ2,s2,q,hS2,hst⟩:=hq;rcases q with q|⟨ks,ds',H2,g,q⟩
 ·exact ⟨ρ2,s2,q,hS2,hst⟩
 have hA:F2 ρ2 (ks.map s2.T) ((ks.map fun k=>a'.tmps.getD k undef)).toArray:=by
  refine ⟨by simp,fun i x y hx hy=>?_⟩;simp only [A1C,A0M,A1P] at hx hy;obtain ⟨k,hk,rfl⟩:=hx;obtain ⟨k',hk',rfl⟩:=hy;rw [hk] at hk';cases hk';exact hS2.tm k
 obtain ⟨ρ1,e1,r1,a1,x1⟩:=g.2 ρ2 w' _ hS2.rep hA;refine ⟨ρ1,⟨tm (ks.zip ds'),H2,s2.c⟩,q,⟨C6y fun i k d hk hd=>a1.2 i d _ hd (by simp [hk]),r1,by rw [e1];exact hS2.fresh,hS2.size,hS2.dfr⟩,?_⟩;exact ⟨hst.up,fun id hid hne=>hst.dom id hid (g.1 id hne),fun id hid=>by rw [e1];exact hst.same id hid,hst.ext.trans x1⟩
theorem B6w:∀ {L:List (Nat × DV)} {T:Tm},C6 L T->(L.map Prod.fst).map T=L.map Prod.snd
 | [],_,_=>rfl
 | (k,v) :: r,T,⟨h1,h2⟩=>by simp only [A0N,h1,B6w h2]
theorem D7l (L:List (Nat × DV)):(L.map Prod.fst).zip (L.map Prod.snd)=L:=by
 induction L with
 | nil=>rfl
 | cons a r ih=>simp [ih]
def lpG {σ : Type} (L : σ -> List (Nat × DV)) (h : σ -> Hp) (I : σ -> Nat->Prop) (μ : σ -> Nat) (m:Nat) (Q:Exit->St->Prop):Exit->St->Prop
 | .normal,⟨T,H,c⟩ => ∃ b,C6 (L b) T/\GL H ((L b).map Prod.snd) (h b) ((L b).map Prod.snd)/\I b c /\ μ b<m
 | e,s=>Q e s
theorem A4q {σ : Type} (L : σ -> List (Nat × DV)) (h : σ -> Hp) (I : σ -> Nat->Prop) (μ : σ -> Nat) (a : σ) (hL:∀ b,C6 (L b) (tm (L b))) (h0:C6 (L a) T) (hH:Sub (h a) H) (hI:I a c)
  (step:∀ a c,I a c->IW P N x ⟨tm (L a),h a,c⟩ (lpG L h I μ (μ a) Q)):IW P N (.loop x) ⟨T,H,c⟩ Q:=by
 refine D2 L h I μ a h0 hH hI fun a c hI=>IW.gl ((step a c hI).mono fun e s' q=>?_);obtain ⟨T',H',c'⟩:=s';cases e with
 | normal =>
  obtain ⟨b,q1,q2,q3,q4⟩:=q;refine .inr ⟨(L b).map Prod.fst,(L b).map Prod.snd,h b,by rw [B6w q1];exact q2,?_⟩;rw [D7l];exact ⟨b,hL b,Sub.refl _,q3,q4⟩
 | _=>exact .inl q
theorem E4k {σ : Type} {L : σ -> List (Nat × DV)} {h : σ -> Hp} {I : σ -> Nat->Prop} {μ : σ -> Nat} {m:Nat}:lpG L h I μ m Q .normal ⟨T,H,c⟩ = ∃ b,C6 (L b) T/\GL H ((L b).map Prod.snd) (h b) ((L b).map Prod.snd)/\B1y I b c /\ μ b<m:=propext Iff.rfl
theorem E4l {σ : Type} {L : σ -> List (Nat × DV)} {h : σ -> Hp} {I : σ -> Nat->Prop} {μ : σ -> Nat} {m i:Nat}:lpG L h I μ m Q (.exit i) ⟨T,H,c⟩=Q (.exit i) ⟨T,H,c⟩:=propext Iff.rfl
end
section
open Go.Eng (AOp)
variable {c0:Nat} {T:Tm} {H:Hp}
def agN (T:Tm) (H:Hp) (d n:Nat):Option (Option Nat × Blk)->Prop
 | some (k,b)=>T d=mkv n k/\H n=some b
 | none=>False
theorem E6v {j d:Nat} {f:AOp}:agK c0 j T H (some d) (.new f) (some true)=agN T H d (c0+j) (aev (ev T) f):=by
 simp only [agK,agN];cases aev (ev T) f with
 | none=>simp
 | some x=>obtain ⟨k,b⟩:=x;simp
theorem E6w {d n:Nat} {k:Option Nat} {b:Blk}:agN T H d n (some (k,b))=(T d=mkv n k/\H n=some b):=propext Iff.rfl
end
attribute [go_sem] E6v E6w
attribute [go_sem] E4k E4l
end Go.Sym
namespace Go.Proofs.YthlpinppaclofaaGreatDoor
open Go.Eng (IC IOper DReg IFn J0)
open Go.Sym Go.Pb
theorem D0l {K H':Hp} {cc b:Nat} {a b' c e:DV} (l:List Ex) (hK:∀ i,cc<=i->K i=none) (hb0:cc<=b) (hb:H' b=some ⟨5,true,A8 (l.map Ex.v)⟩) (h:∀ j,j<cc->H' j=K j) :
  GL H' [.agg [a,b',c,.slc b 0 l.length,e]] K [.agg [a,b',c,H9 l,e]] :=
 GL.frzS (id:=b) hb rfl (fun j=>by
  by_cases hj:j<cc
  ·exact .inr ⟨by omega,(h j hj).symm⟩
  ·exact .inl (hK j (by omega))) (.cons _ _ _ _ (.agg _ _ (.cons _ _ _ _ (.same _) (.cons _ _ _ _ (.same _) (.cons _ _ _ _ (.same _) (.cons _ _ _ _ (M9 (u:=5) (by simp) (A3b l) ⟨[],by simp⟩) (.cons _ _ _ _ (.same _) .nil)))))) .nil)
theorem A7f (e:Ex):A8 ([e].map Ex.v)=[I64 e.kind,I64 e.value,.str e.name,H9 e.args,I64 e.pos]:=by
 rw [A0N,Ex.v_w];rfl
theorem D0v (e x:Ex):A8 ([e,x].map Ex.v)=[I64 e.kind,I64 e.value,.str e.name,H9 e.args,I64 e.pos,I64 x.kind,I64 x.value,.str x.name,H9 x.args,I64 x.pos]:=by
 rw [A0N,A0N,Ex.v_w,Ex.v_w];rfl
abbrev exB (e:Ex):Blk:=⟨0,true,[I64 e.kind,I64 e.value,.str e.name,H9 e.args,I64 e.pos]⟩
theorem D3t:∀ l:List Int,DV.nlL (l.map fun k=>I64 k)=true:=fun l=>Q5 (fun _=>rfl) l
abbrev D2p (ks:List (List UInt8)) (vs:List Int):DV:=.mp .s (ks.map DV.str) (vs.map fun k=>I64 k)
theorem B9u (ks:List (List UInt8)) (vs:List Int):(D2p ks vs).nl=true:=by simp only [DV.nl,R7,D3t,A1T]
theorem B3k (x:List UInt8):∀ (l:List (List UInt8)) (k:Nat),(Q9 x k l = -1/\L9 (.str x) (l.map DV.str) k=none)\/∃ j:Nat,Q9 x k l=j/\L9 (.str x) (l.map DV.str) k=some j/\j<k+l.length
 | [],k=>.inl ⟨rfl,rfl⟩
 | w :: l,k=>by
  simp only [A0N,L9,A2e,Q9];cases h:(x == w) with
  | true=>exact .inr ⟨k,by simp,by simp,by simp⟩
  | false =>
   simp only [A2C,if_false];rcases B3k x l (k+1) with h|⟨j,h1,h2,h3⟩
   ·exact .inl h
   ·exact .inr ⟨j,h1,h2,by simp only [A0B];omega⟩
theorem B5p (ks:List (List UInt8)) (vs:List Int) (hl:ks.length=vs.length) (x:List UInt8):lkV (I64 0) false (vs.map fun k=>I64 k) (L9 (.str x) (ks.map DV.str) 0)=some (I64 (lkI ks vs x)):=by
 unfold lkI;rcases B3k x ks 0 with ⟨h1,h2⟩|⟨j,h1,h2,h3⟩
 ·rw [h1,h2,if_pos rfl];rfl
 ·have hj:j<vs.length:=by omega
  rw [h1,h2,if_neg (by omega),C1d,A1C,A0E hj,A2X,A0S,A0E hj];rfl
theorem c_ops:PC Tryz.prog 159 [] (D2p B7 B2d):=by
 refine PC.ofT B2 rfl (A0A rfl) rfl (B9u _ _) ?_;repeat' ((with_reducible first|refine wr ?_|refine A2 ?_ ?_|fail)<;>try simp only [go_sem,seval,L9,A2e,A4C,List.nil_beq_eq,List.beq_nil_eq,List.isEmpty_cons,List.isEmpty_nil,A3K,A1J,A1T,A3U,A1])
 exact B5a A0
theorem c_stms:PC Tryz.prog 188 [] (D2p B3 A0x):=by
 refine PC.ofT B2 rfl (A0A rfl) rfl (B9u _ _) ?_;repeat' ((with_reducible first|refine wr ?_|refine A2 ?_ ?_|fail)<;>try simp only [go_sem,seval,L9,A2e,A4C,List.nil_beq_eq,List.beq_nil_eq,List.isEmpty_cons,List.isEmpty_nil,A3K,A1J,A1T,A3U,A1])
 exact B5a A0
theorem c_lvs:PC Tryz.prog 115 [] (D2p C9 F8):=by
 refine PC.ofT B2 rfl (A0A rfl) rfl (B9u _ _) ?_;repeat' ((with_reducible first|refine wr ?_|refine A2 ?_ ?_|fail)<;>try simp only [go_sem,seval,L9,A2e,A4C,List.nil_beq_eq,List.beq_nil_eq,List.isEmpty_cons,List.isEmpty_nil,A3K,A1J,A1T,A3U,A1])
 exact B5a A0
theorem c_pdecls:PC Tryz.prog 56 [] (A8m C3):=by
 refine PC.ofT B2 rfl (A0A rfl) rfl (R7 _) ?_;repeat' ((with_reducible first|refine wr ?_|refine A2 ?_ ?_|fail)<;>try simp only [go_sem,seval])
 exact A0g (xs:=C3.map DV.str) (u:=1) A0 rfl rfl (R4 _) ⟨[],rfl⟩
theorem c_ptrigs:PC Tryz.prog 58 [] (A8m C8):=by
 refine PC.ofT B2 rfl (A0A rfl) rfl (R7 _) ?_;repeat' ((with_reducible first|refine wr ?_|refine A2 ?_ ?_|fail)<;>try simp only [go_sem,seval])
 exact A0g (xs:=C8.map DV.str) (u:=1) A0 rfl rfl (R4 _) ⟨[],rfl⟩
theorem c_levP (k:Int):PC Tryz.prog 112 [I64 k] (I64 (B4 k)):=by
 refine PC.ofT B2 rfl (A0A rfl) (by simp [DV.nlL,DV.nl]) (by simp [DV.nlL,DV.nl]) ?_;repeat' ((with_reducible first|refine wr ?_|refine A2 ?_ ?_|refine wb2 ?_ ?_<;>(intro hb;try simp only [hb])|fail)<;>try simp only [go_sem,seval])
 all_goals
  refine A9 (congrArg I64 ?_);simp only [A1G,beq_eq_false_iff_ne,A0G,A2G,A0D,A0W,Bool.and_eq_false_iff,A4I] at *;unfold B4;repeat' split
  all_goals omega
theorem c_nmdP (k:Int):PC Tryz.prog 116 [I64 k] (.bool (C4z k)):=by
 refine PC.ofT B2 rfl (A0A rfl) (by simp [DV.nlL,DV.nl]) (by simp [DV.nlL,DV.nl]) ?_;repeat' ((with_reducible first|refine wr ?_|refine A2 ?_ ?_|refine wb2 ?_ ?_<;>(intro hb;try simp only [hb])|fail)<;>try simp only [go_sem,seval])
 all_goals exact A9 (by simp_all [C4z])
theorem c_deeper (L:List Tok) (E:Int) (s:Rd) (H:Hp) (cc t:Nat) (ht:H t=some (paB L E s)) (htc:t<cc) (hi:s.i<=10000000000) (h0:0<=s.par) (h1:s.par<=16):AC Tryz.prog 197 [.ptr t 0] H cc (fun v H' c'=>v=.bool (!(s.par == 16))/\H'=H.upd t (paB L E (if s.par=16 then pfl L E s 50 else { s with i:=s.i+1,par:=s.par+1 }))):=by
 refine AC.bodyT B2 rfl (A0A rfl) fun hfr=>?_;by_cases h:s.par=16
 ·have hd:(s.par == 16)=true:=by simpa using h
  rw [if_pos h,hd];repeat' ((with_reducible first|refine wr ?_|refine A2 ?_ ?_|fail)<;>try simp only [go_sem,seval,ht,hd])
  refine AC.call (c_pfail L E s _ _ t ht (by omega) 50) ?_;rintro v H' c1 ⟨rfl,rfl⟩ hc;simp only [go_sem,seval];repeat' ((with_reducible first|refine wr ?_|refine A2 ?_ ?_|fail)<;>try simp only [go_sem,seval])
  exact ⟨_,_,GL.refl _ _,rfl,rfl⟩
 ·have hd:(s.par == 16)=false:=by simpa using h
  have hw:IntKind.i64.wrap ((s.i:Int)+1)=((s.i+1:Nat):Int):=by rw [w6z (by omega)];omega
  have hw2:IntKind.i64.wrap (s.par+1)=s.par+1:=w6z (by omega);rw [if_neg h,hd];repeat' ((with_reducible first|refine wr ?_|refine A2 ?_ ?_|fail)<;>try simp only [go_sem,seval,ht,hd,hw,hw2,A0,A1])
  exact ⟨_,_,GL.refl _ _,rfl,rfl⟩
end Go.Proofs.YthlpinppaclofaaGreatDoor
end
