/-
  HELPERS of the claim: part 4 of its texts.
-/
import Derived.ReadAgain
import Derived.ChangeBears
import Derived.Deep.Slices
import Derived.Below
import Derived.OpenShut
import Derived.Lib.LaidTab
import Derived.Lib.Space
import Derived.Test.YtnmkkggfgdfmeaaGreatDoorProg
import Derived.Test.YtnmkkggfgdfmeaaGreatDoorChdc
noncomputable section
set_option linter.unusedVariables false
set_option linter.unusedSectionVars false
set_option linter.unusedSimpArgs false
namespace Go.Sym
variable [Go.Sym.Tab]
open Go.RowKit Go.Pb Go.Deep
section
variable {H:Type} {enc:TypeId × Value->H} {P:Program} {T:TypeId->Prop} {W W':World} {hT:TabOk W}
theorem arg_kept (K:Kids P T) (hz:∀ t e,T t->P.underlying t=some (.slice e)->0<P.cellsOf e) (hb:Below W.heap.size W W') {sp:Nat->Bool} :
  ∀ {ts:List TypeId} {vs:List Value} {ds:List (DataW H)} {ps:List MemPlace},(∀ t∈ts,T t)->DataW.TrodAll enc P W 0 (fun _=>true) true ts vs ds ps->(∀ p∈ps,sp p.block=true)->DataW.TrodAll enc P W' 0 sp true ts vs ds ps
 | [],[],[],_,_,h,_=>h
 | t :: ts,v :: vs,d :: ds,ps,hT,⟨p,q,h1,h2,e⟩,hs=>by
  have hlt:=h1;refine ⟨p,q,?_,arg_kept K hz hb (fun t ht=>hT t (A1D.2 (Or.inr ht))) h2 (fun x hx=>hs x (by rw [e];exact A3Z _ hx)),e⟩;have h3:=h1.respare K hz (hT _ (A1D.2 (Or.inl rfl))) (spare':=sp) (fun x hx=>hs x (by rw [e];exact A4E _ hx));obtain ⟨n,hn⟩:=h3;obtain ⟨m,hm⟩:=h1;exact ⟨n,DataW.trod_carry n _ _ _ hn fun x hx=>hb.same (DataW.trod_lt m _ _ _ hm x hx)⟩
theorem u8_of {n:Int} (h:(Lit.int .u8 n).wf=true):n=((UInt8.ofNat n.toNat).toNat:Int):=by
 have:=bounds_u8 h;simp;omega
theorem open_bytes {t e:TypeId} {v:Value} {d:DataW H} {ps:List MemPlace} (ht:P.underlying t=some (.slice e)) (he:P.underlying e=some (.int .u8)) (hc:P.cellsOf e=1)
  (h:DataW.Trod enc P W 0 (fun _=>true) true t v d ps) (hv:v.cells = #[v]):∃ l:List UInt8,l.length<=9223372036854775807/\VRel (topR W hT) (.lst (bytesC l)) v:=by
 obtain ⟨n,hn⟩:=h;rcases open_slice1 ht hc hn with ⟨h1, -⟩|⟨a,len,cap,m,n',V,D,Pl,h1,h2,h3,h4,h5,h6,h7⟩
 ·rw [hv] at h1;have:v=.slice none 0 0:=by simpa using h1
  subst this;exact ⟨[],by simp,.lnil0⟩
 ·rw [hv] at h1;have hva:v=.slice (some a) len cap:=by simpa using h1
  subst hva;simp only [if_true] at h5;have hk:∀ i,i<len->∃ k:Int,V i=.int .u8 k/\(Lit.int .u8 k).wf=true:=by
   intro i hi;obtain ⟨k,q1,q2,q3⟩:=DataW.trod_int he (h7 i (by omega)).2;exact ⟨k,by simpa using q1,q3⟩
  by_cases hl0:len=0
  ·subst hl0;exact ⟨[],by simp,.lnil a cap⟩
  have hcell:=(h7 0 (by omega)).1;have hadd0:a.add 0=a:=by simp [Addr.add]
  rw [hadd0] at hcell;obtain ⟨b,off,spot⟩:=a;have hspot:spot=none:=by
   simp only [World.cell?] at hcell;split at hcell
   ·split at hcell
    ·cases hcell
    ·rename_i h;cases spot with
     | none=>rfl
     | some s=>simp at h
   ·cases hcell
  subst hspot;have hrow:∃ row ty fr,W.heap[b]? = some (.cells row ty fr):=by
   simp only [World.cell?] at hcell;split at hcell
   ·rename_i row ty fr h;exact ⟨row,ty,fr,h⟩
   ·cases hcell
  obtain ⟨row,ty,fr,hb⟩:=hrow;have hget:∀ i,i<len->row[off+i]? = some (V i):=by
   intro i hi;have h8:=(h7 i (by omega)).1;have e1:(⟨b,off,none⟩:Addr).add i=⟨b,off+i,none⟩:=by
    unfold Addr.add;split
    ·rename_i h0;subst h0;rfl
    ·rfl
   rw [e1] at h8;simp only [World.cell?,hb] at h8;exact h8
  obtain ⟨F,hF⟩:∃ F:Nat->UInt8, ∀ i,i<len->V i=.int .u8 ((F i).toNat:Int):=by
   have:∀ i, ∃ f:UInt8,i<len->V i=.int .u8 (f.toNat:Int):=fun i=>by
    by_cases hi:i<len
    ·obtain ⟨k,q1,q2⟩:=hk i hi;exact ⟨UInt8.ofNat k.toNat,fun _=>by rw [q1, <- u8_of q2]⟩
    ·exact ⟨0,fun h=>absurd h hi⟩
   exact ⟨fun i=>Classical.choose (this i),fun i hi=>Classical.choose_spec (this i) hi⟩
  refine ⟨(List.range len).map F,by simp only [A0D,List.length_range];simp only [maxLen] at h4;omega,?_⟩;have hcl:A3 (bytesC ((List.range len).map F))=bytesC ((List.range len).map F):=A2a (fun _=>rfl) _;have hlen:(bytesC ((List.range len).map F)).length=len:=by rw [A3w];simp
  refine .lst _ _ 1 b off cap row (B5p hb) hlen.symm h3 h4 (fun x hx=>by obtain ⟨y, -,rfl⟩:=A1L.1 hx;rfl) ?_ ?_ ?_
  ·rw [hcl,hlen];have:=(A0Y.1 (hget (len-1) (by omega))).1;omega
  ·rw [hcl];intro x hx;obtain ⟨y, -,rfl⟩:=A1L.1 hx;rfl
  ·rw [hcl];intro k x y hx hy;have hkl:k<len:=by have:=(A0K.1 hx).1;omega
   rw [hget k hkl,hF k hkl] at hy;cases hy;have hx2:(bytesC ((List.range len).map F))[k]? = some (DV.int .u8 ((F k).toNat:Int)):=by simp [bytesC,hkl]
   rw [hx2] at hx;cases hx;exact .int _ _
end
end Go.Sym
namespace Go.Pb
variable [Go.Sym.Tab]
open Go.Sym
theorem P9 {s t:List UInt8} (h:s.length+t.length<=9223372036854775807):binR .add (.str s) (.str t)=some (.str (s++t)):=C3p (by simpa [maxLen] using h)
end Go.Pb
namespace Go.Pb
variable [Go.Sym.Tab]
open Go.Sym
def A0x (d:Nat):UInt8:=UInt8.ofNat (48+d)
def B2m (n:Nat):List UInt8:=if n<10 then [A0x n] else B2m (n / 10)++[A0x (n % 10)]
termination_by n
decreasing_by omega
theorem A7p {n:Nat} (h:n<10):B2m n=[A0x n]:=by rw [B2m,if_pos h]
theorem B2l {n:Nat} (h:¬n<10):B2m n=B2m (n / 10)++[A0x (n % 10)]:=by rw [B2m,if_neg h]
theorem B4z:∀ (k n:Nat),n<10 ^ (k+1)->(B2m n).length<=k+1
 | 0,n,h=>by rw [A7p (by omega)];simp
 | k+1,n,h=>by
  by_cases h0:n<10
  ·rw [A7p h0];simp
  ·rw [B2l h0,A0A];have:=B4z k (n / 10) (by rw [Nat.pow_succ] at h;omega);simp only [A0I];omega
def Q9 (n:Int):List UInt8:=if n<0 then 45 :: B2m n.natAbs else B2m n.natAbs
theorem O7 {n:Int} (h1 : -9223372036854775808<=n) (h2:n<=9223372036854775807):(Q9 n).length<=21:=by
 have:=B4z 19 n.natAbs (by omega);unfold Q9;split
 ·rw [A0E];omega
 ·omega
theorem D6p {d:Nat} (h:d<10):IntKind.u8.wrap (IntKind.i64.wrap (48+(d:Int)))=((A0x d).toNat:Int):=by
 rw [w64 (by omega) (by omega),wu8 (by omega) (by omega),A0x];simp;omega
def S1 (n:Int):Nat:=n.natAbs % 10
def V4 (n:Int):Nat:=n.natAbs / 10
theorem B8v (n:Int):S1 n<10:=by unfold S1;omega
theorem B9a {n:Int} (h:n≠0):V4 n<n.natAbs:=by unfold V4;omega
theorem C9f {n:Int} (h:n<0):n.tdiv 10 = -((V4 n:Nat):Int):=by
 unfold V4;obtain ⟨k,rfl⟩:∃ k:Nat,n = -(k:Int):=⟨n.natAbs,by omega⟩;rw [Int.neg_tdiv];simp [Int.tdiv]
theorem C9e {n:Int} (h:n<0):n.tmod 10 = -((S1 n:Nat):Int):=by
 unfold S1;obtain ⟨k,rfl⟩:∃ k:Nat,n = -(k:Int):=⟨n.natAbs,by omega⟩;rw [Int.neg_tmod];simp [Int.tmod]
theorem C8t {n:Int} (h:0<=n):n.tdiv 10=((V4 n:Nat):Int):=by
 unfold V4;obtain ⟨k,rfl⟩:∃ k:Nat,n=(k:Int):=⟨n.natAbs,by omega⟩;simp [Int.tdiv]
theorem C8s {n:Int} (h:0<=n):n.tmod 10=((S1 n:Nat):Int):=by
 unfold S1;obtain ⟨k,rfl⟩:∃ k:Nat,n=(k:Int):=⟨n.natAbs,by omega⟩;simp [Int.tmod]
theorem C1f {n:Int} (h:n<0) (h1:V4 n=0):Q9 n=[45]++[A0x (S1 n)]:=by
 unfold V4 at h1;have h2:n.natAbs<10:=by omega
 have h3:S1 n=n.natAbs:=by unfold S1;omega
 rw [Q9,if_pos h,A7p h2,h3];rfl
theorem C6u {n:Int} (h:n<0) (h1:V4 n≠0):Q9 n=Q9 (-(V4 n:Int))++[A0x (S1 n)]:=by
 have h2:¬n.natAbs<10:=by unfold V4 at h1;omega
 rw [Q9,if_pos h,B2l h2,Q9,if_pos (by omega),Int.natAbs_neg,Int.natAbs_natCast];rfl
theorem A7o {n:Int} (h:0<=n) (h1:n<10):Q9 n=[A0x (S1 n)]:=by
 have h3:S1 n=n.natAbs:=by unfold S1;omega
 rw [Q9,if_neg (by omega),A7p (by omega),h3]
theorem B9j {n:Int} (h:¬n<10):Q9 n=Q9 (V4 n:Int)++[A0x (S1 n)]:=by
 rw [Q9,if_neg (by omega),B2l (by omega),Q9,if_neg (by omega),Int.natAbs_natCast];rfl
end Go.Pb
namespace Go.Pb
variable [Go.Sym.Tab]
open Go.Sym
structure Tok where
 kind:Int
 text:List UInt8
 value:Int
 pos:Int
deriving DecidableEq
abbrev Tok.v (t:Tok):DV:=.agg [I64 t.kind,.str t.text,I64 t.value,I64 t.pos]
abbrev D9 (l:List Tok):DV:=.lst (l.map Tok.v)
theorem E2 (l:List Tok):∀ x∈l.map Tok.v,x.cells.length=4:=by
 intro x hx;obtain ⟨y, -,rfl⟩:=A1L.1 hx;rfl
@[simp]theorem L0 (l:List Tok):DV.nlL (l.map Tok.v)=true:=L7 (fun _=>rfl) l
def ltB (c:UInt8):Bool:=(decide (97<=c.toNat) && decide (c.toNat<=122)) || (decide (65<=c.toNat) && decide (c.toNat<=90))
def dgB (c:UInt8):Bool:=decide (48<=c.toNat) && decide (c.toNat<=57)
def ptB (c:UInt8):Bool:=ltB c || dgB c || decide (c.toNat=95)
def C9 (p:UInt8->Bool):List UInt8->Nat
 | []=>0
 | c :: r=>if p c=true then C9 p r+1 else 0
theorem Y0 (p:UInt8->Bool):∀ s:List UInt8,C9 p s<=s.length
 | []=>A0H _
 | c :: r=>by
  have:=Y0 p r;simp only [C9,A0E];split<;>omega
theorem A7d {p:UInt8->Bool}:∀ {s:List UInt8} {k:Nat} {c:UInt8},s[k]? = some c->k<=C9 p s->(p c=true->k+1<=C9 p s)/\(p c=false->C9 p s=k)
 | [],k,c,h,_=>by cases h
 | x :: r,0,c,h,_=>by
  cases h;simp only [C9];exact ⟨fun h=>by rw [if_pos h];omega,fun h=>by rw [if_neg (by rw [h];simp)]⟩
 | x :: r,k+1,c,h,hk=>by
  simp only [C9] at hk ⊢;split at hk
  ·rename_i hx;rw [if_pos hx];have:=A7d (p:=p) (s:=r) (k:=k) (c:=c) (by simpa using h) (by omega);exact ⟨fun h=>by have:=this.1 h;omega,fun h=>by have:=this.2 h;omega⟩
  ·omega
theorem B3i {p:UInt8->Bool} {s:List UInt8} {k:Nat} (h:s.length<=k) (hk:k<=C9 p s):C9 p s=k:=by
 have:=Y0 p s;omega
def Z6 (c:UInt8):Bool:=decide (c.toNat=9) || decide (c.toNat=10) || decide (c.toNat=13) || decide (c.toNat=32)
def skM:Bool->List UInt8->Nat
 | _,[]=>0
 | true,c :: r=>if c.toNat=10 then skM false r+1 else skM true r+1
 | false,c :: r=>if Z6 c=true then skM false r+1 else if c.toNat=35 then skM true r+1 else 0
theorem A0p:∀ (b:Bool) (s:List UInt8),skM b s<=s.length
 | _,[]=>by simp [skM]
 | true,c :: r=>by
  have h1:=A0p true r;have h2:=A0p false r;simp only [skM,A0E];split<;>omega
 | false,c :: r=>by
  have h1:=A0p true r;have h2:=A0p false r;simp only [skM,A0E];split
  ·omega
  ·split<;>omega
theorem B3k:∀ (s:List UInt8),skM true s=C9 (fun c=>decide (c.toNat≠10)) s+skM false (s.drop (C9 (fun c=>decide (c.toNat≠10)) s))
 | []=>by simp [skM,C9]
 | c :: r=>by
  by_cases h:c.toNat=10
  ·simp [skM,C9,h,Z6]
  ·have ih:=B3k r;simp only [skM,C9,h,if_false,ne_eq,not_false_eq_true,decide_true,if_true,List.drop_succ_cons] at ih ⊢;omega
def w8 (l:List Nat):List UInt8:=l.map UInt8.ofNat
def E4:List (List UInt8):=[w8 [115,119,105,116,99,104],w8 [99,111,105,108],w8 [108,97,109,112],w8 [115,111,117,110,100],w8 [115,104,111,119],w8 [118,97,114],w8 [116,105,109,101,114],w8 [101,118,101,110,116],w8 [109,111,100,101],w8 [111,110],w8 [115,116,97,114,116],w8 [115,116,111,112],w8 [99,108,111,115,101],w8 [111,112,101,110],w8 [105,102],w8 [101,108,115,101],w8 [114,101,112,101,97,116],w8 [115,99,111,114,101],w8 [102,105,114,101],w8 [104,111,108,100],w8 [114,101,108,101,97,115,101],w8 [108,105,103,104,116],w8 [98,108,105,110,107],w8 [98,101,103,105,110],w8 [101,110,100],w8 [112,111,115,116],w8 [112,108,97,121],w8 [114,117,110],w8 [104,97,108,116],w8 [116,101,120,116],w8 [99,111,110,115,117,109,101],w8 [99,108,111,115,101,100],w8 [97,99,116,105,118,101],w8 [108,101,102,116],w8 [112,108,97,121,101,114],w8 [98,97,108,108],w8 [116,114,117,101],w8 [102,97,108,115,101]]
def G6 (s:List UInt8):Bool:=E4.contains s
def D8 (s:List UInt8):Bool:=decide (1<=s.length) && decide (s.length<=12) && (match s with|c :: _=>ltB c | []=>false) && decide (C9 ptB s=s.length) && !G6 s
def quM:List UInt8->Option (List UInt8 × Nat)
 | []=>none
 | c :: r =>
  if c.toNat=34 then some ([],1)
  else if c.toNat<32\/126<c.toNat then none
  else if c.toNat=92 then match r with
   | []=>none
   | d :: q=>if d.toNat=34\/d.toNat=92 then (quM q).map fun x=>(d :: x.1,x.2+2) else none
  else (quM r).map fun x=>(c :: x.1,x.2+1)
def Z0 (s:List UInt8):Nat:=s.foldl (fun n c=>10 * n+(c.toNat-48)) 0
theorem C0l {s:List UInt8} {k:Nat} {c:UInt8} (h:s[k]? = some c):Z0 (s.take (k+1))=10 * Z0 (s.take k)+(c.toNat-48):=by
 unfold Z0;rw [A1B,h,A3W];rfl
def A1n (c d:UInt8):Bool:=[(60,61),(62,61),(61,61),(33,61),(38,38),(124,124)].contains (c.toNat,d.toNat)
def A3q (c:UInt8):Bool:=[123,125,40,41,59,44,61,43,45,42,47,37,33,60,62].contains c.toNat
def F0:List UInt8->Nat
 | c :: d :: _=>if A1n c d=true then 2 else if A3q c=true then 1 else 0
 | [c]=>if A3q c=true then 1 else 0
 | []=>0
structure Nx where
 kind:Int
 text:List UInt8
 value:Int
 n:Nat
 err:Int
def nxE (e:Int):Nx:=⟨0,[],0,0,e⟩
def B1:List UInt8->Nx
 | []=>nxE 47
 | c :: r =>
  if ltB c=true then
   if 12<C9 ptB (c :: r) then nxE 9 else ⟨if G6 ((c :: r).take (C9 ptB (c :: r)))=true then 2 else 1,(c :: r).take (C9 ptB (c :: r)),0,C9 ptB (c :: r),0⟩
  else if dgB c=true then
   if 1<C9 dgB (c :: r)/\c.toNat=48 then nxE 47
   else if 2147483647<Z0 ((c :: r).take (C9 dgB (c :: r))) then nxE 5
   else ⟨3,[],(Z0 ((c :: r).take (C9 dgB (c :: r))):Int),C9 dgB (c :: r),0⟩
  else if c.toNat=34 then match quM r with
   | none=>nxE 48
   | some x=>if 32<x.1.length then nxE 9 else ⟨4,x.1,0,x.2+1,0⟩
  else if F0 (c :: r)=0 then nxE 47 else ⟨5,(c :: r).take (F0 (c :: r)),0,F0 (c :: r),0⟩
def M4:Nat->List UInt8->Nat->List Tok->List Tok × Int × Int
 | 0,_,_,acc=>(acc,0,0)
 | f+1,src,at_,acc =>
  if src.length<=at_ then (acc,0,0)
  else if (B1 (src.drop at_)).err≠0 then ([],(at_:Int),(B1 (src.drop at_)).err)
  else M4 f src (at_+(B1 (src.drop at_)).n+skM false (src.drop (at_+(B1 (src.drop at_)).n)))
   (acc++[⟨(B1 (src.drop at_)).kind,(B1 (src.drop at_)).text,(B1 (src.drop at_)).value,(at_:Int)⟩])
def F4 (s:List UInt8):List Tok × Int × Int:=if 20000<s.length then ([],0,9) else M4 (s.length+1) s (skM false s) []
abbrev C3j (q:List Tok × Int × Int):DV:=.tup [D9 q.1,I64 q.2.1,I64 q.2.2]
theorem C3u:∀ {s t:List UInt8} {n:Nat},quM s=some (t,n)->1<=n/\n<=s.length/\t.length<=n
 | [],t,n,h=>by simp [quM] at h
 | c :: r,t,n,h=>by
  unfold quM at h;split at h
  ·cases h;simp
  ·split at h
   ·cases h
   ·split at h
    ·cases r with
     | nil=>cases h
     | cons d q =>
      simp only at h;split at h
      ·obtain ⟨⟨t',n'⟩,h1,h2⟩:=A0Q.1 h;have:=C3u h1;cases h2;simp only [A0E];omega
      ·cases h
    ·obtain ⟨⟨t',n'⟩,h1,h2⟩:=A0Q.1 h;have:=C3u h1;cases h2;simp only [A0E];omega
theorem C3c:∀ s:List UInt8,F0 s<=s.length
 | []=>by simp [F0]
 | [c]=>by simp only [F0];split<;>simp
 | c :: d :: r=>by simp only [F0,A0E];split<;>(try split)<;>omega
theorem A4o {s:List UInt8} (h:(B1 s).err=0):1<=(B1 s).n/\(B1 s).n<=s.length:=by
 cases s with
 | nil=>simp [B1,nxE] at h
 | cons c r =>
  have hp:=Y0 ptB (c :: r);have hd:=Y0 dgB (c :: r);have hs:=C3c (c :: r);simp only [B1] at h ⊢;split
  ·rename_i hc;rw [if_pos hc] at h;split
   ·rename_i h1;rw [if_pos h1] at h;simp [nxE] at h
   ·have:1<=C9 ptB (c :: r):=by simp [C9,ptB,hc]
    exact ⟨this,hp⟩
  ·rename_i hc;rw [if_neg hc] at h;split
   ·rename_i hc2;rw [if_pos hc2] at h;split
    ·rename_i h1;rw [if_pos h1] at h;simp [nxE] at h
    ·rename_i h1;rw [if_neg h1] at h;split
     ·rename_i h2;rw [if_pos h2] at h;simp [nxE] at h
     ·have:1<=C9 dgB (c :: r):=by simp [C9,hc2]
      exact ⟨this,hd⟩
   ·rename_i hc2;rw [if_neg hc2] at h;split
    ·rename_i hc3;rw [if_pos hc3] at h;cases hq:quM r with
     | none=>rw [hq] at h;simp [nxE] at h
     | some x =>
      obtain ⟨t,n⟩:=x;rw [hq] at h;simp only at h ⊢;have:=C3u hq;split
      ·rename_i h1;rw [if_pos h1] at h;simp [nxE] at h
      ·simp only [A0E];omega
    ·rename_i hc3;rw [if_neg hc3] at h;split
     ·rename_i h1;rw [if_pos h1] at h;simp [nxE] at h
     ·simp only;omega
end Go.Pb
namespace Go.Sym
variable [Go.Sym.Tab]
open Go.RowKit Go.Pb Go.Deep Go.ChangeShapes
theorem C2g {P:Program} {w:World} {n:String} {g:Nat} {cs:Array Value} (e1:P.globalNamed n=some g) (e3:w.var? P n=some cs):B5q w g=some cs:=by
 unfold World.var? at e3;rw [e1,Option.bind_some] at e3;unfold B5q;split at e3
 ·rename_i r ty fr hh;cases e3;rw [hh]
 ·cases e3
theorem B4e {P:Program} {w:World} {n:String} {d:DataW Unit}:∀ {l:List (String × DataW Unit)} {ps:List MemPlace},DataW.LaidVars P w l ps->(n,d)∈l ->
  ∃ g t cs fuel p,P.globalNamed n=some g/\(P.globals[g]?).map (·.type)=some t/\w.var? P n=some cs/\DataW.trod (fun _=>()) P w 0 (fun _=>true) false fuel t cs.toList=some (d,p)
 | [],ps,_,hm=>by cases hm
 | (n',d') :: l,ps,h,hm=>by
  obtain ⟨g,t,cs,fuel,p,q,h1,h2,h3,h4,h5, -⟩:=h;rcases A1D.1 hm with e|hm
  ·cases e;exact ⟨g,t,cs,fuel,p,h1,h2,h3,h4⟩
  ·exact B4e h5 hm
theorem laid_tab {P:Program} {w:World} {n:String} {d:DataW Unit} {l:List (String × DataW Unit)} {g t e m:Nat} {k:IntKind} {zs:List Int} (h:laidMet P l w) (hm:(n,d)∈l) (hg:P.globalNamed n=some g)
  (ht:(P.globals[g]?).map (·.type)=some t) (hu:P.underlying t=some (.array m e)) (he:P.underlying e=some (.int k)) (hce:P.cellsOf e=1) (hct:P.cellsOf t=m) (hd:d=Lib.tabData k zs) :
  ∃ r,B5q w g=some r/\r=(zs.map fun z=>Value.int k z).toArray:=by
 obtain ⟨ps,h1, -⟩:=h;obtain ⟨g',t',cs,fuel,p,e1,e2,e3,e4⟩:=B4e h1 hm;rw [hg] at e1;cases e1;rw [ht] at e2;cases e2;rw [hd] at e4;have hc:=Lib.cells_of_tab hu he hce hct e4;exact ⟨cs,C2g hg e3,Array.toList_inj.1 (hc.trans (by simp))⟩
section
variable {H:Type} {enc:TypeId × Value->H} {P:Program} {W W':World} {hT:TabOk W}
end
end Go.Sym
namespace Go.Proofs.YtnmkkggfgdfmeaaGreatDoor
instance tabI:Go.Sym.Tab:=⟨[(0,fun r=>r=(Lib.asciiSpaceTab.map fun z=>Value.int .u8 z).toArray),(0,fun r=>r=(Lib.asciiSpaceTab.map fun z=>Value.int .u8 z).toArray)]⟩
end Go.Proofs.YtnmkkggfgdfmeaaGreatDoor
namespace Go.Sym
variable [Go.Sym.Tab]
open Go.Eng (IC)
def A2z (p:Prop):Prop:=p
theorem G8 {p:Prop} (h:A2z p):p:=h
theorem IW.stage {P:Program} {N:Nat} {x:IC} {T:Tm} {H:Hp} {c:Nat} {Q:Exit->St->Prop} {L:List (Nat × DV)} (hT:C3 L T) (h:IW P N x ⟨tm L,H,c⟩ Q):A2z (IW P N x ⟨T,H,c⟩ Q):=IW.weaken (D1f hT) (Sub.refl _) h
end Go.Sym
namespace Go.Sym
variable [Go.Sym.Tab]
open Go.Eng (Opd FOp AOp EOp IOp IOper DReg IC RV IFn trC A9j B8 H8)
def pre:IC->List IC
 | .seq x y=>.seq x y :: (pre x++pre y)
 | .cond o x y=>.cond o x y :: (pre x++pre y)
 | .blk i x=>.blk i x :: pre x
 | .loop x=>.loop x :: pre x
 | x=>[x]
def szC:IC->Nat
 | .seq x y=>szC x+szC y+1
 | .cond o x y=>szC x+szC y+1
 | .blk i x=>szC x+1
 | .loop x=>szC x+1
 | x=>1
theorem C3y (t:IC):(pre t).length=szC t:=by
 induction t<;>simp_all [pre,szC]
def D0e (k:Nat):List Nat->List Nat
 | []=>[k]
 | a :: l=>match Nat.blt k a with
  | true=>k :: a :: l
  | false=>match Nat.beq k a with
   | true=>a :: l
   | false=>a :: D0e k l
def B9y:List Nat->List Nat->List Nat
 | [],m=>m
 | a :: l,m=>D0e a (B9y l m)
def rmS (k:Nat):List Nat->List Nat
 | []=>[]
 | a :: l=>match Nat.beq k a with
  | true=>l
  | false=>a :: rmS k l
def opS:Opd->List Nat
 | .t n=>[n]
 | _=>[]
def C0h:List IOper->List Nat->List Nat
 | [],out=>out
 | o :: r,out=>B9y o.sees (match o.dst with
  | some d=>rmS d (C0h r out)
  | none=>C0h r out)
def slR:List RV->List Nat
 | []=>[]
 | .tmp t :: r=>D0e t (slR r)
 | .cell a _ _ :: r=>D0e a (slR r)
def upE (ex:Nat->List Nat) (i:Nat) (L:List Nat) (j:Nat):List Nat:=match Nat.beq i j with
 | true=>L
 | false=>ex j
def lvC (rl:List Nat):IC->List Nat->(Nat->List Nat)->List Nat
 | .skip,out,_=>out
 | .exit i,_,ex=>ex i
 | .ret,_,_=>rl
 | .bad,_,_=>[]
 | .reg r,out,_=>C0h r out
 | .drw _ d,out,_=>C0h d.ops out
 | .seq x y,out,ex=>lvC rl x (lvC rl y out ex) ex
 | .cond o x y,out,ex=>B9y (opS o) (B9y (lvC rl x out ex) (lvC rl y out ex))
 | .blk i x,out,ex=>lvC rl x out (upE ex i out)
 | .loop x,_,ex=>lvC rl x [] ex
def chC (h:Nat->IC) (k:Nat):IC->IC
 | .skip=>.skip
 | .exit i=>.exit i
 | .ret=>.ret
 | .bad=>.bad
 | .loop _=>.loop (h (k+1))
 | _=>h k
def C9i:Nat->List (Nat × Option (List Nat))->List IOper->Nat
 | k,(_,some []) :: p,⟨_,.pur _,_⟩ :: r=>2 ^ k+C9i (k+1) p r
 | k,_ :: p,_ :: r=>C9i (k+1) p r
 | _,_,_=>0
def eqO:Option (List Nat)->Option (List Nat)->Bool
 | none,none=>true
 | some [],some []=>true
 | _,_=>false
def eqP:List (Nat × Option (List Nat))->List (Nat × Option (List Nat))->Bool
 | [],[]=>true
 | (a,x) :: p,(b,y) :: q=>Nat.beq a b && eqO x y && eqP p q
 | _,_=>false
theorem D6i {x y:Option (List Nat)} (h:eqO x y=true):x=y:=by
 unfold eqO at h;split at h<;>simp_all
theorem C6n:∀ {p q:List (Nat × Option (List Nat))},eqP p q=true->p=q
 | [],[],_=>rfl
 | (a,x) :: p,(b,y) :: q,h=>by
  simp only [eqP,A0G] at h;rw [Nat.eq_of_beq_eq_true h.1.1,D6i h.1.2,C6n h.2]
 | [],_ :: _,h=>by simp [eqP] at h
 | _ :: _,[],h=>by simp [eqP] at h
def asM (r:List IOper) (p:List (Nat × Option (List Nat))) (m:Nat):Option Nat:=match eqP (A6t m 0 r) p with
 | true=>some m
 | false=>none
inductive PD where
 | S (r:List IOper) (y:IC) (L:List Nat)
 | E (r:List IOper) (L:List Nat)
 | P (r:List IOper) (y:IC) (e n:Nat) (L:List Nat)
 | F (r:List IOper) (e n:Nat) (L:List Nat)
 | D (r:List IOper) (y:IC) (p:List (Nat × Option (List Nat))) (n:Nat) (L:List Nat)
 | G (r:List IOper) (p:List (Nat × Option (List Nat))) (n:Nat) (L:List Nat)
 | C (x y z:IC) (o:Opd) (L:List Nat)
 | K (x z:IC) (o:Opd) (L:List Nat)
 | B (x y:IC) (i:Nat) (L:List Nat)
 | J (x:IC) (i:Nat) (L:List Nat)
 | Q (x y:IC) (L:List Nat)
 | X (x:IC)
def PD.ic:PD->IC
 | .S r y _=>.seq (.reg r) y
 | .E r _=>.reg r
 | .P r y e n _=>.seq (.drw n (dQ r e)) y
 | .F r e n _=>.drw n (dQ r e)
 | .D r y p n _=>.seq (.drw n ⟨r,[],p⟩) y
 | .G r p n _=>.drw n ⟨r,[],p⟩
 | .C x y z o _=>.seq (.cond o x z) y
 | .K x z o _=>.cond o x z
 | .B x y i _=>.seq (.blk i x) y
 | .J x i _=>.blk i x
 | .Q x y _=>.seq x y
 | .X x=>x
def fuC (h:Nat->IC) (k:Nat) (x y:IC) (L:List Nat):PD:=match x with
 | .reg r=>.S r y L
 | .drw n ⟨r,[],p⟩=>match asM r p (C9i 0 p r) with
  | some m=>.P r y m n L
  | none=>.D r y p n L
 | .cond o a b=>.C (chC h (k+1) a) y (chC h (k+1+szC a) b) o L
 | .blk i a=>.B (chC h (k+1) a) y i L
 | x=>.Q (chC h k x) y L
def C0j (h:Nat->IC) (k:Nat) (x:IC) (L:List Nat):PD:=match x with
 | .reg r=>.E r L
 | .drw n ⟨r,[],p⟩=>match asM r p (C9i 0 p r) with
  | some m=>.F r m n L
  | none=>.G r p n L
 | .cond o a b=>.K (chC h (k+1) a) (chC h (k+1+szC a) b) o L
 | .blk i a=>.J (chC h (k+1) a) i L
 | x=>.X x
def E3l:IC->Bool
 | .reg _=>true
 | .drw _ _=>true
 | .cond _ _ _=>true
 | .blk _ _=>true
 | _=>false
def tlC (b:Bool) (l:List (Nat × PD)):List (Nat × PD):=match b with
 | true=>l.tail
 | false=>l
def flC (h:Nat->IC) (rl:List Nat):IC->Nat->List Nat->(Nat->List Nat)->List Nat × List (Nat × PD)
 | .skip,_,out,_=>(out,[])
 | .exit i,_,_,ex=>(ex i,[])
 | .ret,_,_,_=>(rl,[])
 | .bad,_,_,_=>([],[])
 | .reg r,k,out,_=>match C0h r out with
  | L=>(L,[(k,C0j h k (.reg r) L)])
 | .drw n d,k,out,_=>match C0h d.ops out with
  | L=>(L,[(k,C0j h k (.drw n d) L)])
 | .seq x y,k,out,ex=>match flC h rl y (k+1+szC x) out ex with
  | (Ly,ly)=>match flC h rl x (k+1) Ly ex with
   | (Lx,lx)=>(Lx,(k,fuC h (k+1) x (chC h (k+1+szC x) y) Lx) :: (tlC (E3l x) lx++ly))
 | .cond o x y,k,out,ex=>match flC h rl x (k+1) out ex with
  | (Lx,lx)=>match flC h rl y (k+1+szC x) out ex with
   | (Ly,ly)=>match B9y (opS o) (B9y Lx Ly) with
    | L=>(L,(k,C0j h k (.cond o x y) L) :: (lx++ly))
 | .blk i x,k,out,ex=>match flC h rl x (k+1) out (upE ex i out) with
  | (L,l)=>(L,(k,C0j h k (.blk i x) L) :: l)
 | .loop x,k,_,ex=>match lvC rl x [] ex with
  | L=>(L,(flC h rl x (k+1) L ex).2)
def Num (h:Nat->IC) (k:Nat) (t:IC):Prop:=∀ j x,(pre t)[j]? = some x->h (k+j)=x
section
variable {h:Nat->IC} {k:Nat} {x y t:IC}
theorem Num.self (n:Num h k t):h k=t:=by
 have:=n 0 t (by cases t<;>simp [pre]);simpa using this
theorem Num.sub {l:List IC} {i:Nat} (n:Num h k t) (e:∀ j x,(pre y)[j]? = some x->(pre t)[i+j]? = some x):Num h (k+i) y:=fun j x hx=>by
 rw [A2Y];exact n (i+j) x (e j x hx)
theorem D1h {a:IC} {l r:List IC} (j:Nat) (z:IC) (hz:l[j]? = some z):(a :: (l++r))[1+j]? = some z:=by
 rw [Nat.add_comm,A2R,A2S (A0K.1 hz).1,hz]
theorem D1g {a:IC} {l r:List IC} {n:Nat} (hn:l.length=n) (j:Nat) (z:IC) (hz:r[j]? = some z):(a :: (l++r))[1+n+j]? = some z:=by
 rw [show 1+n+j=(l.length+j)+1 by omega,A2R,A2L (by omega),Nat.add_sub_cancel_left,hz]
theorem Num.s1 (n:Num h k (.seq x y)):Num h (k+1) x:=n.sub (l:=[]) fun j z hz=>by rw [pre];exact D1h j z hz
theorem Num.s2 (n:Num h k (.seq x y)):Num h (k+1+szC x) y:=by
 rw [A2Y];exact n.sub (l:=[]) fun j z hz=>by rw [pre];exact D1g (C3y x) j z hz
theorem Num.c1 {o:Opd} (n:Num h k (.cond o x y)):Num h (k+1) x:=n.sub (l:=[]) fun j z hz=>by rw [pre];exact D1h j z hz
theorem Num.c2 {o:Opd} (n:Num h k (.cond o x y)):Num h (k+1+szC x) y:=by
 rw [A2Y];exact n.sub (l:=[]) fun j z hz=>by rw [pre];exact D1g (C3y x) j z hz
theorem Num.b1 {i:Nat} (n:Num h k (.blk i x)):Num h (k+1) x:=n.sub (l:=[]) fun j z hz=>by rw [pre,Nat.add_comm,A2R,hz]
theorem Num.l1 (n:Num h k (.loop x)):Num h (k+1) x:=n.sub (l:=[]) fun j z hz=>by rw [pre,Nat.add_comm,A2R,hz]
theorem A4x (n:Num h k t):chC h k t=t:=by
 cases t<;>simp only [chC]<;>first|rfl|exact n.self|rw [n.l1.self]
theorem C7h {r:List IOper} {p:List (Nat × Option (List Nat))} {m m':Nat} (e:asM r p m=some m'):A6t m' 0 r=p:=by
 unfold asM at e;split at e<;>cases e;rename_i q;exact C6n q
theorem B1r {L:List Nat} (n:Num h k x):(C0j h k x L).ic=x:=by
 unfold C0j;split
 ·rfl
 ·split
  ·rename_i m e;simp only [PD.ic,dQ,C7h e]
  ·rfl
 ·simp only [PD.ic,A4x n.c1,A4x n.c2]
 ·simp only [PD.ic,A4x n.b1]
 ·rfl
theorem D9w {L:List Nat} (n:Num h k x):(fuC h k x y L).ic=.seq x y:=by
 unfold fuC;split
 ·rfl
 ·split
  ·rename_i m e;simp only [PD.ic,dQ,C7h e]
  ·rfl
 ·simp only [PD.ic,A4x n.c1,A4x n.c2]
 ·simp only [PD.ic,A4x n.b1]
 ·simp only [PD.ic,A4x n]
theorem D3h {b:Bool} {l:List (Nat × PD)} {e:Nat × PD} (hm:e∈tlC b l):e∈l:=by
 unfold tlC at hm;split at hm
 ·exact List.mem_of_mem_tail hm
 ·exact hm
theorem D9x (rl:List Nat):∀ (t:IC) (k:Nat) (out:List Nat) (ex:Nat->List Nat),Num h k t->∀ e∈(flC h rl t k out ex).2,h e.1=e.2.ic:=by
 intro t
 induction t with
 | skip=>intro k out ex n e he;simp [flC] at he
 | exit i=>intro k out ex n e he;simp [flC] at he
 | ret=>intro k out ex n e he;simp [flC] at he
 | bad=>intro k out ex n e he;simp [flC] at he
 | reg r=>intro k out ex n e he;simp only [flC,A1F] at he;subst he;simp only [B1r n];exact n.self
 | drw m d=>intro k out ex n e he;simp only [flC,A1F] at he;subst he;simp only [B1r n];exact n.self
 | seq x y ihx ihy =>
  intro k out ex n e he;simp only [flC,A1D,A1R] at he;rcases he with rfl|he|he
  ·simp only [D9w n.s1,A4x n.s2];exact n.self
  ·exact ihx _ _ _ n.s1 e (D3h he)
  ·exact ihy _ _ _ n.s2 e he
 | cond o x y ihx ihy =>
  intro k out ex n e he;simp only [flC,A1D,A1R] at he;rcases he with rfl|he|he
  ·simp only [B1r n];exact n.self
  ·exact ihx _ _ _ n.c1 e he
  ·exact ihy _ _ _ n.c2 e he
 | blk i x ih =>
  intro k out ex n e he;simp only [flC,A1D] at he;rcases he with rfl|he
  ·simp only [B1r n];exact n.self
  ·exact ih _ _ _ n.b1 e he
 | loop x ih =>
  intro k out ex n e he;simp only [flC] at he;exact ih _ _ _ n.l1 e he
end
inductive Ps where
 | h
 | o (p:Ps)
 | i (p:Ps)
def Ps.n:Ps->Nat
 | .h=>1
 | .o p=>2 * p.n
 | .i p=>2 * p.n+1
def Ps.s:Ps->Ps
 | .h=>.o .h
 | .o p=>.i p
 | .i p=>.o p.s
theorem Ps.s_n:∀ p:Ps,p.s.n=p.n+1
 | .h=>rfl
 | .o p=>rfl
 | .i p=>by simp only [Ps.s,Ps.n,Ps.s_n p];omega
def Ps.of:Nat->Ps
 | 0=>.h
 | k+1=>(Ps.of k).s
theorem Ps.of_n:∀ k:Nat,(Ps.of k).n=k+1
 | 0=>rfl
 | k+1=>by rw [Ps.of,Ps.s_n,Ps.of_n k]
def Ps.frc:Ps->(Ps->IC)->IC
 | .h,K=>K .h
 | .o p,K=>Ps.frc p fun q=>K (.o q)
 | .i p,K=>Ps.frc p fun q=>K (.i q)
theorem Ps.frc_eq:∀ (p:Ps) (K:Ps->IC),p.frc K=K p
 | .h,K=>rfl
 | .o p,K=>by rw [Ps.frc,Ps.frc_eq p]
 | .i p,K=>by rw [Ps.frc,Ps.frc_eq p]
def hk (h:Ps->IC) (k:Nat):IC:=(Ps.of k).frc h
inductive Tr where
 | e
 | d (x:Option PD) (l r:Tr)
def Tr.get:Tr->Ps->Option PD
 | .e,_=>none
 | .d x _ _,.h=>x
 | .d _ l _,.o p=>l.get p
 | .d _ _ r,.i p=>r.get p
def Tr.put (y:PD):Ps->Tr->Tr
 | .h,.e=>.d (some y) .e .e
 | .o p,.e=>.d none (Tr.put y p .e) .e
 | .i p,.e=>.d none .e (Tr.put y p .e)
 | .h,.d _ l r=>.d (some y) l r
 | .o p,.d x l r=>.d x (Tr.put y p l) r
 | .i p,.d x l r=>.d x l (Tr.put y p r)
theorem Tr.get_put (y:PD):∀ (p:Ps) (t:Tr) (q:Ps) (z:PD),(Tr.put y p t).get q=some z->(q=p/\z=y)\/t.get q=some z:=by
 intro p
 induction p with
 | h=>intro t q z h;cases t<;>cases q<;>simp_all [Tr.put,Tr.get]
 | o p ih =>
  intro t q z h;cases t<;>cases q<;>simp only [Tr.put,Tr.get] at h ⊢ <;> first|exact .inr h|(cases h;done)|skip
  ·rcases ih _ _ _ h with ⟨rfl,rfl⟩|h
   ·exact .inl ⟨rfl,rfl⟩
   ·cases h
  ·rcases ih _ _ _ h with ⟨rfl,rfl⟩|h
   ·exact .inl ⟨rfl,rfl⟩
   ·exact .inr h
 | i p ih =>
  intro t q z h;cases t<;>cases q<;>simp only [Tr.put,Tr.get] at h ⊢ <;> first|exact .inr h|(cases h;done)|skip
  ·rcases ih _ _ _ h with ⟨rfl,rfl⟩|h
   ·exact .inl ⟨rfl,rfl⟩
   ·cases h
  ·rcases ih _ _ _ h with ⟨rfl,rfl⟩|h
   ·exact .inl ⟨rfl,rfl⟩
   ·exact .inr h
def D5f:List (Nat × PD)->Tr->Tr
 | [],t=>t
 | e :: l,t=>D5f l (Tr.put e.2 (Ps.of e.1) t)
theorem B4a:∀ (l:List (Nat × PD)) (t:Tr) (q:Ps) (z:PD),(D5f l t).get q=some z->(∃ k,q=Ps.of k/\(k,z)∈l)\/t.get q=some z
 | [],t,q,z,h=>.inr h
 | e :: l,t,q,z,h=>by
  rcases B4a l _ q z h with ⟨k,h1,h2⟩|h
  ·exact .inl ⟨k,h1,A0M _ h2⟩
  ·rcases Tr.get_put _ _ _ _ _ h with ⟨rfl,rfl⟩|h
   ·exact .inl ⟨e.1,rfl,A0N⟩
   ·exact .inr h
def pz (P:Program) (f:Nat) (p:Ps):IC:=match (P.funcs[f]?).bind (A9j P) with
 | some i=>(pre i.body).getD (p.n-1) .bad
 | none=>.bad
theorem C3v {P:Program} {f:Nat} {i:IFn} (h:B8 P f i):Num (hk (pz P f)) 0 i.body:=fun j x hx=>by
 rw [hk,Ps.frc_eq];unfold pz;unfold B8 at h;rw [h];simp only [A1J,A0X,Ps.of_n,Nat.add_sub_cancel,hx,A3P]
inductive TD where
 | mk (n:Nat) (rs:List RV) (top:IC) (l:Tr)
 | no
def TD.l:TD->Tr
 | .mk _ _ _ l=>l
 | .no=>.e
def mkT (h:Ps->IC) (i:IFn):TD:=.mk i.n i.res (chC (hk h) 0 i.body) (D5f (flC (hk h) (slR i.res) i.body 0 (slR i.res) (fun _=>[])).2 .e)
structure XT (P:Program) (f:Nat) where
 d:(Ps->IC)->TD
 i:IFn
 hi:B8 P f i
 hd:∀ h,mkT h i=d h
class FT (P:Program) (f:Nat) (D:outParam ((Ps->IC)->TD)):Prop where
 of:∃ i,B8 P f i/\∀ h,mkT h i=D h
theorem XT.ft {P:Program} {f:Nat} (x:XT P f):FT P f x.d:=⟨⟨x.i,x.hi,x.hd⟩⟩
theorem u8n (n:Nat):UInt8.ofBitVec (BitVec.ofNat 8 n)=UInt8.ofNat n:=rfl
abbrev mkF {P:Program} {f:Nat} {i:IFn} {d:(Ps->IC)->TD} (hi:B8 P f i) (hd:∀ h,mkT h i=d h):XT P f:=⟨d,i,hi,hd⟩
class LkI (t:Tr) (p:Ps) (x:outParam PD):Prop where
 get:t.get p=some x
instance lkTh {x:PD} {l r:Tr}:LkI (.d (some x) l r) .h x:=⟨rfl⟩
instance lkTo {x:PD} {y:Option PD} {l r:Tr} {p:Ps} [k:LkI l p x]:LkI (.d y l r) (.o p) x:=⟨k.get⟩
instance lkTi {x:PD} {y:Option PD} {l r:Tr} {p:Ps} [k:LkI r p x]:LkI (.d y l r) (.i p) x:=⟨k.get⟩
class WDp (P:Program) (N:Nat) (u:PD) (r:outParam Rl):Prop where
 out:∀ {Q:Exit->St->Prop} {T:Tm} {H:Hp} {c:Nat},r P N Q T H c->IW P N u.ic ⟨T,H,c⟩ Q
section
variable {P:Program} {N n i e:Nat} {x y z:IC} {r:List IOper} {p:List (Nat × Option (List Nat))} {L:List Nat} {o:Opd}
instance dS:WDp P N (.S r y L) (rS r y L):=⟨mkS⟩
instance dE:WDp P N (.E r L) (rE r L):=⟨mkE⟩
instance dP:WDp P N (.P r y e n L) (rP r y n L):=⟨mkP (d:=dQ r e) (X0 e r 0)⟩
instance dF:WDp P N (.F r e n L) (rPE r n L):=⟨E2f (d:=dQ r e) (X0 e r 0)⟩
instance dD:WDp P N (.D r y p n L) (rD r p y n L):=⟨mkD (d:=⟨r,[],p⟩)⟩
instance dG:WDp P N (.G r p n L) (rDE r p n L):=⟨E2g (d:=⟨r,[],p⟩)⟩
instance dC:WDp P N (.C x y z o L) (rC o x z y L):=⟨mkC⟩
instance dK:WDp P N (.K x z o L) (rCE o x z L):=⟨E2h⟩
instance dB:WDp P N (.B x y i L) (rB i x y L):=⟨mkB⟩
instance dJ:WDp P N (.J x i L) (rBE i x L):=⟨E2i⟩
instance dQQ:WDp P N (.Q x y L) (rQ x y L):=⟨mkQ⟩
end
class LkD (t:TD) (p:Ps) (x:outParam PD):Prop where
 get:t.l.get p=some x
instance lkTd {n:Nat} {rs:List RV} {top:IC} {x:PD} {l:Tr} {p:Ps} [k:LkI l p x]:LkD (.mk n rs top l) p x:=⟨k.get⟩
section
variable {P:Program} {f:Nat} {D:(Ps->IC)->TD} [F:FT P f D]
theorem wz {p:Ps} {x:PD} (e:(D (pz P f)).l.get p=some x):pz P f p=x.ic:=by
 obtain ⟨i,hi,hd⟩:=F.of;rw [<- hd] at e;simp only [mkT,TD.l] at e;rcases B4a _ _ _ _ e with ⟨k,rfl,h⟩|h
 ·have:=D9x (slR i.res) i.body 0 (slR i.res) (fun _=>[]) (C3v hi) _ h;rw [hk,Ps.frc_eq] at this;exact this
 ·cases h
instance wZ {N:Nat} {p:Ps} {x:PD} {w:Rl} [g:LkD (D (pz P f)) p x] [k:WDp P N x w]:WR P N (pz P f p) w:=⟨fun h=>by rw [wz g.get];exact k.out h⟩
theorem FT.eqs {n:Nat} {rs:List RV} {top:IC} {l:Tr} (e:D (pz P f)=.mk n rs top l):B8 P f ⟨n,top,rs⟩:=by
 obtain ⟨i,hi,hd⟩:=F.of;rw [<- hd] at e;simp only [mkT,A4x (C3v hi),TD.mk.injEq] at e;rw [<- e.1, <- e.2.1, <- e.2.2.1];exact hi
theorem PC.ofT (hm:P.follows .mixedOrders=true) {n:Nat} {rs:List RV} {top:IC} {l:Tr} (e:D (pz P f)=.mk n rs top l) {args:List DV} (hn:args.length<=n) {r:DV} (na:DV.nlL args=true) (nr:r.nl=true)
  (h:IW P n top ⟨A6a args,nil,0⟩ (rt rs fun v H' _ => ∃ H2,GL H' [v] H2 [r])):PC P f args r :=
 PC.of hm (i:=⟨n,top,rs⟩) (FT.eqs e) hn na nr h
theorem AC.bodyT (hm:P.follows .mixedOrders=true) {n:Nat} {rs:List RV} {top:IC} {l:Tr} (e:D (pz P f)=.mk n rs top l) {args:List DV} (hn:args.length<=n) {H:Hp} {c:Nat} {Q:DV->Hp->Nat->Prop}
  (h:(∀ id,c<=id->H id=none)->IW P n top ⟨A6a args,H,c⟩ (rt rs fun v H' c' => ∃ v2 H2,GL H' [v] H2 [v2]/\Q v2 H2 c')):AC P f args H c Q :=
 AC.body hm (i:=⟨n,top,rs⟩) (FT.eqs e) hn h
end
end Go.Sym
set_option maxHeartbeats 4000000
set_option maxRecDepth 100000
namespace Go.Proofs.YtnmkkggfgdfmeaaGreatDoor
open Go.Eng (IC IOper DReg IFn B8)
open Go.Sym
theorem A9:Tryz.prog.follows .mixedOrders=true:=by kernel_rfl
abbrev x144:XT Tryz.prog 144:=mkF (by unfold B8;conv=>lhs;reduce;simp only [seval,u8n]) (fun h=>by conv=>lhs;cbv)
instance t144:FT Tryz.prog 144 x144.d:=x144.ft
abbrev x156:XT Tryz.prog 156:=mkF (by unfold B8;conv=>lhs;reduce;simp only [seval,u8n]) (fun h=>by conv=>lhs;cbv)
instance t156:FT Tryz.prog 156 x156.d:=x156.ft
abbrev x146:XT Tryz.prog 146:=mkF (by unfold B8;conv=>lhs;reduce;simp only [seval,u8n]) (fun h=>by conv=>lhs;cbv)
instance t146:FT Tryz.prog 146 x146.d:=x146.ft
abbrev x145:XT Tryz.prog 145:=mkF (by unfold B8;conv=>lhs;reduce;simp only [seval,u8n]) (fun h=>by conv=>lhs;cbv)
instance t145:FT Tryz.prog 145 x145.d:=x145.ft
abbrev x157:XT Tryz.prog 157:=mkF (by unfold B8;conv=>lhs;reduce;simp only [seval,u8n]) (fun h=>by conv=>lhs;cbv)
instance t157:FT Tryz.prog 157 x157.d:=x157.ft
abbrev x147:XT Tryz.prog 147:=mkF (by unfold B8;conv=>lhs;reduce;simp only [seval,u8n]) (fun h=>by conv=>lhs;cbv)
instance t147:FT Tryz.prog 147 x147.d:=x147.ft
abbrev x121:XT Tryz.prog 121:=mkF (by unfold B8;conv=>lhs;reduce;simp only [seval,u8n]) (fun h=>by conv=>lhs;cbv)
instance t121:FT Tryz.prog 121 x121.d:=x121.ft
abbrev x108:XT Tryz.prog 108:=mkF (by unfold B8;conv=>lhs;reduce;simp only [seval,u8n]) (fun h=>by conv=>lhs;cbv)
instance t108:FT Tryz.prog 108 x108.d:=x108.ft
abbrev x110:XT Tryz.prog 110:=mkF (by unfold B8;conv=>lhs;reduce;simp only [seval,u8n]) (fun h=>by conv=>lhs;cbv)
instance t110:FT Tryz.prog 110 x110.d:=x110.ft
abbrev x154:XT Tryz.prog 154:=mkF (by unfold B8;conv=>lhs;reduce;simp only [seval,u8n]) (fun h=>by conv=>lhs;cbv)
instance t154:FT Tryz.prog 154 x154.d:=x154.ft
abbrev x113:XT Tryz.prog 113:=mkF (by unfold B8;conv=>lhs;reduce;simp only [seval,u8n]) (fun h=>by conv=>lhs;cbv)
instance t113:FT Tryz.prog 113 x113.d:=x113.ft
abbrev x140:XT Tryz.prog 140:=mkF (by unfold B8;conv=>lhs;reduce;simp only [seval,u8n]) (fun h=>by conv=>lhs;cbv)
instance t140:FT Tryz.prog 140 x140.d:=x140.ft
abbrev x152:XT Tryz.prog 152:=mkF (by unfold B8;conv=>lhs;reduce;simp only [seval,u8n]) (fun h=>by conv=>lhs;cbv)
instance t152:FT Tryz.prog 152 x152.d:=x152.ft
abbrev x70:XT Tryz.prog 70:=mkF (by unfold B8;conv=>lhs;reduce;simp only [seval,u8n]) (fun h=>by conv=>lhs;cbv)
instance t70:FT Tryz.prog 70 x70.d:=x70.ft
abbrev x109:XT Tryz.prog 109:=mkF (by unfold B8;conv=>lhs;reduce;simp only [seval,u8n]) (fun h=>by conv=>lhs;cbv)
instance t109:FT Tryz.prog 109 x109.d:=x109.ft
abbrev x111:XT Tryz.prog 111:=mkF (by unfold B8;conv=>lhs;reduce;simp only [seval,u8n]) (fun h=>by conv=>lhs;cbv)
instance t111:FT Tryz.prog 111 x111.d:=x111.ft
abbrev x112:XT Tryz.prog 112:=mkF (by unfold B8;conv=>lhs;reduce;simp only [seval,u8n]) (fun h=>by conv=>lhs;cbv)
instance t112:FT Tryz.prog 112 x112.d:=x112.ft
abbrev x71:XT Tryz.prog 71:=mkF (by unfold B8;conv=>lhs;reduce;simp only [seval,u8n]) (fun h=>by conv=>lhs;cbv)
instance t71:FT Tryz.prog 71 x71.d:=x71.ft
abbrev x36:XT Tryz.prog 36:=mkF (by unfold B8;conv=>lhs;reduce;simp only [seval,u8n]) (fun h=>by conv=>lhs;cbv)
instance t36:FT Tryz.prog 36 x36.d:=x36.ft
abbrev x55:XT Tryz.prog 55:=mkF (by unfold B8;conv=>lhs;reduce;simp only [seval,u8n]) (fun h=>by conv=>lhs;cbv)
instance t55:FT Tryz.prog 55 x55.d:=x55.ft
abbrev x38:XT Tryz.prog 38:=mkF (by unfold B8;conv=>lhs;reduce;simp only [seval,u8n]) (fun h=>by conv=>lhs;cbv)
instance t38:FT Tryz.prog 38 x38.d:=x38.ft
abbrev x93:XT Tryz.prog 93:=mkF (by unfold B8;conv=>lhs;reduce;simp only [seval,u8n]) (fun h=>by conv=>lhs;cbv)
instance t93:FT Tryz.prog 93 x93.d:=x93.ft
abbrev x94:XT Tryz.prog 94:=mkF (by unfold B8;conv=>lhs;reduce;simp only [seval,u8n]) (fun h=>by conv=>lhs;cbv)
instance t94:FT Tryz.prog 94 x94.d:=x94.ft
abbrev x76:XT Tryz.prog 76:=mkF (by unfold B8;conv=>lhs;reduce;simp only [seval,u8n]) (fun h=>by conv=>lhs;cbv)
instance t76:FT Tryz.prog 76 x76.d:=x76.ft
abbrev x141:XT Tryz.prog 141:=mkF (by unfold B8;conv=>lhs;reduce;simp only [seval,u8n]) (fun h=>by conv=>lhs;cbv)
instance t141:FT Tryz.prog 141 x141.d:=x141.ft
abbrev x52:XT Tryz.prog 52:=mkF (by unfold B8;conv=>lhs;reduce;simp only [seval,u8n]) (fun h=>by conv=>lhs;cbv)
instance t52:FT Tryz.prog 52 x52.d:=x52.ft
abbrev x74:XT Tryz.prog 74:=mkF (by unfold B8;conv=>lhs;reduce;simp only [seval,u8n]) (fun h=>by conv=>lhs;cbv)
instance t74:FT Tryz.prog 74 x74.d:=x74.ft
abbrev x116:XT Tryz.prog 116:=mkF (by unfold B8;conv=>lhs;reduce;simp only [seval,u8n]) (fun h=>by conv=>lhs;cbv)
instance t116:FT Tryz.prog 116 x116.d:=x116.ft
abbrev x115:XT Tryz.prog 115:=mkF (by unfold B8;conv=>lhs;reduce;simp only [seval,u8n]) (fun h=>by conv=>lhs;cbv)
instance t115:FT Tryz.prog 115 x115.d:=x115.ft
abbrev x114:XT Tryz.prog 114:=mkF (by unfold B8;conv=>lhs;reduce;simp only [seval,u8n]) (fun h=>by conv=>lhs;cbv)
instance t114:FT Tryz.prog 114 x114.d:=x114.ft
abbrev x72:XT Tryz.prog 72:=mkF (by unfold B8;conv=>lhs;reduce;simp only [seval,u8n]) (fun h=>by conv=>lhs;cbv)
instance t72:FT Tryz.prog 72 x72.d:=x72.ft
abbrev x73:XT Tryz.prog 73:=mkF (by unfold B8;conv=>lhs;reduce;simp only [seval,u8n]) (fun h=>by conv=>lhs;cbv)
instance t73:FT Tryz.prog 73 x73.d:=x73.ft
abbrev x117:XT Tryz.prog 117:=mkF (by unfold B8;conv=>lhs;reduce;simp only [seval,u8n]) (fun h=>by conv=>lhs;cbv)
instance t117:FT Tryz.prog 117 x117.d:=x117.ft
abbrev x142:XT Tryz.prog 142:=mkF (by unfold B8;conv=>lhs;reduce;simp only [seval,u8n]) (fun h=>by conv=>lhs;cbv)
instance t142:FT Tryz.prog 142 x142.d:=x142.ft
abbrev x125:XT Tryz.prog 125:=mkF (by unfold B8;conv=>lhs;reduce;simp only [seval,u8n]) (fun h=>by conv=>lhs;cbv)
instance t125:FT Tryz.prog 125 x125.d:=x125.ft
abbrev x126:XT Tryz.prog 126:=mkF (by unfold B8;conv=>lhs;reduce;simp only [seval,u8n]) (fun h=>by conv=>lhs;cbv)
instance t126:FT Tryz.prog 126 x126.d:=x126.ft
abbrev x92:XT Tryz.prog 92:=mkF (by unfold B8;conv=>lhs;reduce;simp only [seval,u8n]) (fun h=>by conv=>lhs;cbv)
instance t92:FT Tryz.prog 92 x92.d:=x92.ft
abbrev x124:XT Tryz.prog 124:=mkF (by unfold B8;conv=>lhs;reduce;simp only [seval,u8n]) (fun h=>by conv=>lhs;cbv)
instance t124:FT Tryz.prog 124 x124.d:=x124.ft
abbrev x151:XT Tryz.prog 151:=mkF (by unfold B8;conv=>lhs;reduce;simp only [seval,u8n]) (fun h=>by conv=>lhs;cbv)
instance t151:FT Tryz.prog 151 x151.d:=x151.ft
abbrev x51:XT Tryz.prog 51:=mkF (by unfold B8;conv=>lhs;reduce;simp only [seval,u8n]) (fun h=>by conv=>lhs;cbv)
instance t51:FT Tryz.prog 51 x51.d:=x51.ft
abbrev x118:XT Tryz.prog 118:=mkF (by unfold B8;conv=>lhs;reduce;simp only [seval,u8n]) (fun h=>by conv=>lhs;cbv)
instance t118:FT Tryz.prog 118 x118.d:=x118.ft
abbrev x143:XT Tryz.prog 143:=mkF (by unfold B8;conv=>lhs;reduce;simp only [seval,u8n]) (fun h=>by conv=>lhs;cbv)
instance t143:FT Tryz.prog 143 x143.d:=x143.ft
abbrev x75:XT Tryz.prog 75:=mkF (by unfold B8;conv=>lhs;reduce;simp only [seval,u8n]) (fun h=>by conv=>lhs;cbv)
instance t75:FT Tryz.prog 75 x75.d:=x75.ft
abbrev x77:XT Tryz.prog 77:=mkF (by unfold B8;conv=>lhs;reduce;simp only [seval,u8n]) (fun h=>by conv=>lhs;cbv)
instance t77:FT Tryz.prog 77 x77.d:=x77.ft
abbrev x37:XT Tryz.prog 37:=mkF (by unfold B8;conv=>lhs;reduce;simp only [seval,u8n]) (fun h=>by conv=>lhs;cbv)
instance t37:FT Tryz.prog 37 x37.d:=x37.ft
abbrev x15:XT Tryz.prog 15:=mkF (by unfold B8;conv=>lhs;reduce;simp only [seval,u8n]) (fun h=>by conv=>lhs;cbv)
instance t15:FT Tryz.prog 15 x15.d:=x15.ft
end Go.Proofs.YtnmkkggfgdfmeaaGreatDoor
namespace Go.Pb
variable [Go.Sym.Tab]
open Go.Sym
theorem J9 (l:List (List UInt8)):∀ x∈l.map DV.str,x.cells.length=1:=by
 intro x hx;obtain ⟨y, -,rfl⟩:=A1L.1 hx;rfl
end Go.Pb
namespace Go.Pb
variable [Go.Sym.Tab]
open Go.Sym
def I6 (H:Hp):Option Nat->Hp
 | none=>H
 | some i=>H.del i
theorem A5m {o:Option Nat} {n:Nat} (h:o=none->n=0):A6n (B9 o n)=some (I64 (n:Int)):=by
 cases o with
 | none=>rw [h rfl];rfl
 | some i=>rfl
theorem F1 {H:Hp} {c sz bytes n m:Nat} {o:Option Nat} {cs src:List DV} (hn:o=none->n=0/\cs=[]) (hb:∀ i,o=some i->H i=some ⟨sz,true,cs⟩) (hl:cs.length=n * sz) (hm:1<=m) (h2:(n+m) * bytes<=140737488355328) (h3:n+m<=9223372036854775807) :
  A4z H c sz bytes (B9 o n) m src=some (.slc c 0 (n+m),(I6 H o).upd c ⟨sz,true,cs++src⟩,c+1):=by
 cases o with
 | none =>
  obtain ⟨rfl,rfl⟩:=hn rfl;rw [B1e,A2k (by omega) (by simpa using h2) (by omega)];simp [I6]
 | some i=>rw [A5g,B1l,hb i rfl,Z1 hl h2 h3];rfl
theorem E9 {H:Hp} {o:Option Nat} {j:Nat} (h:∀ i,o=some i->¬ j=i):I6 H o j=H j:=by
 cases o with
 | none=>rfl
 | some i=>exact F8 (h i rfl)
theorem D0 {H:Hp} {o:Option Nat} {b:Blk} {j:Nat} (h:∀ i,o=some i->¬ j=i):C6 H o b j=H j:=by
 cases o with
 | none=>rfl
 | some i=>exact A2 (h i rfl)
section
variable {l:List UInt8} {k p:Nat} {S P V:DV} {I:List Ins} {E:List Ent} {o1 o2:Option Nat} {cc:Nat}
end
end Go.Pb
namespace Go.Pb
variable [Go.Sym.Tab]
open Go.Sym
theorem B5e {a b:Nat} (h:((a:Int) == (b:Int))=true):a=b:=by have:=A1K.1 h;omega
theorem A6s {a b:Nat} (h:((a:Int) == (b:Int))=false):a≠b:=fun e=>by rw [e] at h;simp at h
theorem D0x {a b:Nat} (h:((a:Int) != (b:Int))=true):a≠b:=fun e=>by rw [e] at h;simp at h
theorem D6y {a b:Nat} (h:((a:Int) != (b:Int))=false):a=b:=by
 have:(a:Int)=b:=by simpa using h
 omega
theorem C0x {a b:Nat} (h:decide ((a:Int)>(b:Int))=true):b<a:=by have:=of_decide_eq_true h;omega
theorem A9p {a b:Nat} (h:decide ((a:Int)>(b:Int))=false):¬ b<a:=by have:=of_decide_eq_false h;omega
theorem L9 {α : Type} {s:List α} {i:Nat} {c : α} (h:s[i]? = some c):s.drop i=c :: s.drop (i+1):=by
 obtain ⟨hi,rfl⟩:=A0K.1 h;exact A1C hi
theorem D3m {s:List UInt8} {i:Nat} {c:UInt8} (h:s[i]? = some c) (hc:Z6 c=true):skM false (s.drop i)=skM false (s.drop (i+1))+1:=by
 rw [L9 h];simp only [skM];rw [if_pos hc]
theorem D3o {s:List UInt8} {i:Nat} {c:UInt8} (h:s[i]? = some c) (hc:c.toNat=35) :
  skM false (s.drop i)=C9 (fun c=>decide (c.toNat≠10)) (s.drop i)+skM false (s.drop (i+C9 (fun c=>decide (c.toNat≠10)) (s.drop i))):=by
 have hs:¬ Z6 c=true:=by simp [Z6,hc]
 have e1:skM false (s.drop i)=skM true (s.drop i):=by
  rw [L9 h];simp only [skM];rw [if_neg hs,if_pos hc,if_neg (by omega)]
 rw [e1,B3k,A3A]
theorem C8i {s:List UInt8} {i:Nat} {c:UInt8} (h:s[i]? = some c) (h1:¬ Z6 c=true) (h2:¬ c.toNat=35):skM false (s.drop i)=0:=by
 rw [L9 h];simp only [skM];rw [if_neg h1,if_neg h2]
theorem D3n {s:List UInt8} {i:Nat} (h:s.length<=i):skM false (s.drop i)=0:=by
 rw [A3X h];rfl
theorem C8j {s:List UInt8} {i:Nat} {c:UInt8} (h:s[i]? = some c) (hc:c.toNat=35):1<=C9 (fun c=>decide (c.toNat≠10)) (s.drop i):=by
 rw [L9 h];simp only [C9];rw [if_pos (by simp [hc])];omega
def quA (acc:List UInt8) (k:Nat) (q:Option (List UInt8 × Nat)):Option (List UInt8 × Nat):=q.map fun x=>(acc++x.1,x.2+k)
theorem M5 (c:UInt8) (r:List UInt8):quM (c :: r)=if c.toNat=34 then some ([],1)
  else if c.toNat<32\/126<c.toNat then none
  else if c.toNat=92 then match r with
   | []=>none
   | d :: q=>if d.toNat=34\/d.toNat=92 then (quM q).map fun x=>(d :: x.1,x.2+2) else none
  else (quM r).map fun x=>(c :: x.1,x.2+1):=by rw [quM.eq_def];try rfl
theorem A4h {s acc:List UInt8} {k:Nat} {c:UInt8} (h:s[k]? = some c) (hc:c.toNat=34):quA acc k (quM (s.drop k))=some (acc,k+1):=by
 rw [L9 h,M5,if_pos hc];simp [quA];omega
theorem B1m {s acc:List UInt8} {k:Nat} {c:UInt8} (h:s[k]? = some c) (h0:c.toNat≠34) (hc:c.toNat<32\/126<c.toNat):quA acc k (quM (s.drop k))=none:=by
 rw [L9 h,M5,if_neg h0,if_pos hc];rfl
theorem D4l {s acc:List UInt8} {k:Nat} (h:s.length<=k):quA acc k (quM (s.drop k))=none:=by
 rw [A3X h,quM];rfl
theorem B8f {s acc:List UInt8} {k:Nat} {c:UInt8} (h:s[k]? = some c) (h0:c.toNat≠34) (h1:32<=c.toNat) (h2:c.toNat<=126) (h3:c.toNat≠92) :
  quA acc k (quM (s.drop k))=quA (acc++[c]) (k+1) (quM (s.drop (k+1))):=by
 rw [L9 h,M5,if_neg h0,if_neg (by omega),if_neg h3];cases quM (s.drop (k+1)) with
 | none=>rfl
 | some x=>simp [quA];omega
theorem C3s {s acc:List UInt8} {k:Nat} {c d:UInt8} (h:s[k]? = some c) (h3:c.toNat=92) (hd:s[k+1]? = some d) (h4:d.toNat=34\/d.toNat=92) :
  quA acc k (quM (s.drop k))=quA (acc++[d]) (k+2) (quM (s.drop (k+2))):=by
 rw [L9 h,L9 hd,M5,if_neg (by omega),if_neg (by omega),if_pos h3];simp only;rw [if_pos h4];cases quM (s.drop (k+1+1)) with
 | none=>rfl
 | some x=>simp [quA];omega
theorem B8e {s acc:List UInt8} {k:Nat} {c:UInt8} (h:s[k]? = some c) (h3:c.toNat=92) (hd:∀ d,s[k+1]? = some d->d.toNat≠34/\d.toNat≠92) :
  quA acc k (quM (s.drop k))=none:=by
 rw [L9 h];cases hq:s.drop (k+1) with
 | nil=>rw [M5,if_neg (by omega),if_neg (by omega),if_pos h3];rfl
 | cons d q =>
  have h5:s[k+1]? = some d:=by
   have:=congrArg List.head? hq
   rwa [List.head?_drop] at this
  have h6:=hd d h5;rw [M5,if_neg (by omega),if_neg (by omega),if_pos h3];simp only;rw [if_neg (by omega)];rfl
theorem C3r {H:Hp} {o:Option Nat} {u:Nat} {acc:List UInt8} (hn:o=none->acc=[]) (hb:∀ i,o=some i->H i=some ⟨u,true,bytesC acc⟩):A1e H (B9 o acc.length)=some (.str acc):=by
 cases o with
 | none=>rw [hn rfl];rfl
 | some i=>exact A9b (hb i rfl) rfl rfl
theorem A0l {X:Hp} {id:Nat} {b b':Blk} (h:b=b'):Sub (C6 Sym.nil (some id) b) (X.upd id b'):=by
 intro j q hj;simp only [C6] at hj;by_cases e:j=id
 ·subst e;rw [A0] at hj ⊢;rw [<- h];exact hj
 ·rw [A2 e] at hj;cases hj
theorem C0g {X:Hp} {o:Option Nat} {c sz bytes n m:Nat} {cs src:List DV} {b2:Blk} (hn:o=none->n=0/\cs=[]) (ho:∀ i,o=some i->i<c) (hl:cs.length=n * sz) (hm:1<=m)
  (h2:(n+m) * bytes<=140737488355328) (h3:n+m<=9223372036854775807) :
  A4z ((C6 X o ⟨sz,true,cs⟩).upd c b2) (c+1) sz bytes (B9 o n) m src=some (.slc (c+1) 0 (n+m),(I6 ((C6 X o ⟨sz,true,cs⟩).upd c b2) o).upd (c+1) ⟨sz,true,cs++src⟩,c+1+1) :=
 F1 hn (fun i hi=>by have:=ho i hi;rw [A2 (by omega)];subst hi;exact A0) hl hm h2 h3
theorem B3s {X:Hp} {o:Option Nat} {c:Nat} {acc:List UInt8} (hn:o=none->acc=[]) (ho:∀ i,o=some i->i<c) (hl:acc.length<=10000000) (b2:Blk) (x:UInt8) :
  A4z ((C6 X o ⟨1,true,bytesC acc⟩).upd c b2) (c+1) 1 1 (B9 o acc.length) 1 [.int .u8 (x.toNat:Int)]=some (.slc (c+1) 0 (acc.length+1),(I6 ((C6 X o ⟨1,true,bytesC acc⟩).upd c b2) o).upd (c+1) ⟨1,true,bytesC (acc++[x])⟩,c+1+1):=by
 rw [B7h];exact C0g (fun e=>by rw [hn e];exact ⟨rfl,rfl⟩) ho (B5d acc) (by omega) (by omega) (by omega)
theorem C3i (q:List Tok × Int × Int):(C3j q).nl=true:=by
 simp only [DV.nl,DV.nlL,L0,A2G]
theorem B3v {H:Hp} {a b:DV}:∃ H2,GL H [.tup [.snil,a,b]] H2 [.tup [.lst [],a,b]] :=
 ⟨H,GL.view fun ρ vs hA=>⟨hA.1,fun i x y hx hy=>by
  match i with
  | 0 =>
   cases hx;have:=hA.2 0 _ y rfl hy;obtain ⟨b',rfl,k1,k2⟩:=this.tup_inv;refine .tup _ _ k1 fun j x' y' hx' hy'=>?_
   match j with
   | 0=>cases hx';exact (k2 0 _ y' rfl hy').snil_lst
   | 1=>cases hx';exact k2 1 _ y' rfl hy'
   | 2=>cases hx';exact k2 2 _ y' rfl hy'
   | _+3=>cases hx'
  | _+1=>cases hx⟩⟩
theorem B3l {H:Hp} {a b:Int}:∃ H2,GL H [.tup [.snil,I64 a,I64 b]] H2 [C3j ([],a,b)]:=B3v
theorem C3z {o:Option Nat} {xs:List DV} {u n:Nat} {a b:DV} (hno:o=none->xs=[]) (hl:xs.length=n) (hu:∀ x∈xs,x.cells.length=u) :
  ∃ H2,GL (C6 Sym.nil o ⟨u,true,A3 xs⟩) [.tup [B9 o n,a,b]] H2 [.tup [.lst xs,a,b]]:=by
 cases o with
 | none=>rw [hno rfl];exact B3v
 | some i=>exact ⟨nil,GL.one (id:=i) A0 rfl (.cons _ _ _ _ (.tup _ _ (.cons _ _ _ _ (Q5 hl hu ⟨[],by simp⟩) (.cons _ _ _ _ (.same _) (.cons _ _ _ _ (.same _) .nil)))) .nil)⟩
theorem A1r {X:Hp} {o:Option Nat} {b:Blk} {i:Nat} (hi:o=some i):C6 X o b i=some b:=by subst hi;exact A0
theorem u8_eq (c:UInt8) (n:Nat) (h:n<256):(c == UInt8.ofNat n)=decide (c.toNat=n):=by
 rw [A2A,A1K,decide_eq_true_iff, <- UInt8.toNat_inj];simp;omega
theorem C7u (c d:UInt8):A1n c d=([c,d] == [60,61] || [c,d] == [62,61] || [c,d] == [61,61] || [c,d] == [33,61] || [c,d] == [38,38] || [c,d] == [124,124]):=by
 have hk:∀ a b:UInt8,([c,d] == [a,b])=(c == a && d == b):=fun a b=>by simp [List.cons_beq_cons]
 rw [hk,hk,hk,hk,hk,hk];have hu:∀ (x:UInt8) (n:Nat),n<256->(x == UInt8.ofNat n)=(x.toNat == n):=fun x n h=>by rw [u8_eq x n h];rfl
 have e:∀ n:Nat,(OfNat.ofNat n:UInt8)=UInt8.ofNat n:=fun _=>rfl;show ([(60,61),(62,61),(61,61),(33,61),(38,38),(124,124)]:List (Nat × Nat)).contains (c.toNat,d.toNat)=(c == UInt8.ofNat 60 && d == UInt8.ofNat 61 || c == UInt8.ofNat 62 && d == UInt8.ofNat 61 || c == UInt8.ofNat 61 && d == UInt8.ofNat 61 || c == UInt8.ofNat 33 && d == UInt8.ofNat 61 || c == UInt8.ofNat 38 && d == UInt8.ofNat 38 || c == UInt8.ofNat 124 && d == UInt8.ofNat 124);rw [hu c 60 (by omega),hu c 61 (by omega),hu c 62 (by omega),hu c 33 (by omega),hu c 38 (by omega),hu c 124 (by omega),hu d 61 (by omega),hu d 38 (by omega),hu d 124 (by omega)];rw [A2A];simp;omega
end Go.Pb
namespace Go.Pb
variable [Go.Sym.Tab]
open Go.Sym
inductive Ex where
 | mk (kind value:Int) (name:List UInt8) (args:List Ex) (pos:Int)
def Ex.kind:Ex->Int | .mk k _ _ _ _=>k
def Ex.value:Ex->Int | .mk _ v _ _ _=>v
def Ex.name:Ex->List UInt8 | .mk _ _ n _ _=>n
def Ex.args:Ex->List Ex | .mk _ _ _ a _=>a
def Ex.pos:Ex->Int | .mk _ _ _ _ p=>p
mutual
def Ex.v:Ex->DV
 | .mk k v n a p=>.agg [I64 k,I64 v,.str n,.lst (Ex.vs a),I64 p]
def Ex.vs:List Ex->List DV
 | []=>[]
 | e :: l=>Ex.v e :: Ex.vs l
end
theorem Ex.vs_map:∀ l:List Ex,Ex.vs l=l.map Ex.v
 | []=>rfl
 | e :: l=>by rw [Ex.vs,Ex.vs_map l];rfl
abbrev I3 (l:List Ex):DV:=.lst (l.map Ex.v)
abbrev Ex.w (e:Ex):DV:=.agg [I64 e.kind,I64 e.value,.str e.name,I3 e.args,I64 e.pos]
theorem Ex.v_w (e:Ex):e.v=e.w:=by
 cases e with|mk k v n a p=>rw [Ex.v,Ex.vs_map];rfl
theorem A4u (l:List Ex):∀ x∈l.map Ex.v,x.cells.length=5:=fun x hx=>by
 obtain ⟨y, -,rfl⟩:=A1L.1 hx;rw [Ex.v_w];rfl
mutual
@[simp]theorem Ex.nl:∀ e:Ex,e.v.nl=true
 | .mk k v n a p=>by
  have:=Ex.nls a;rw [Ex.v];simp only [DV.nl,DV.nlL,this,A2G]
theorem Ex.nls:∀ l:List Ex,DV.nlL (Ex.vs l)=true
 | []=>rfl
 | e :: l=>by rw [Ex.vs,DV.nlL,Ex.nl e,Ex.nls l];rfl
end
@[simp]theorem Y1 (l:List Ex):DV.nlL (l.map Ex.v)=true:=by rw [<- Ex.vs_map];exact Ex.nls l
def Ex0:Ex:=.mk 0 0 [] [] 0
inductive St where
 | mk (kind:Int) (name text:List UInt8) (args:List Ex) (thn els:List St) (pos:Int)
def St.kind:St->Int | .mk k _ _ _ _ _ _=>k
def St.name:St->List UInt8 | .mk _ n _ _ _ _ _=>n
def St.text:St->List UInt8 | .mk _ _ t _ _ _ _=>t
def St.args:St->List Ex | .mk _ _ _ a _ _ _=>a
def St.thn:St->List St | .mk _ _ _ _ t _ _=>t
def St.els:St->List St | .mk _ _ _ _ _ e _=>e
def St.pos:St->Int | .mk _ _ _ _ _ _ p=>p
mutual
def St.v:St->DV
 | .mk k n t a x y p=>.agg [I64 k,.str n,.str t,I3 a,.lst (St.vs x),.lst (St.vs y),I64 p]
def St.vs:List St->List DV
 | []=>[]
 | e :: l=>St.v e :: St.vs l
end
theorem St.vs_map:∀ l:List St,St.vs l=l.map St.v
 | []=>rfl
 | e :: l=>by rw [St.vs,St.vs_map l];rfl
abbrev F3 (l:List St):DV:=.lst (l.map St.v)
abbrev St.w (s:St):DV:=.agg [I64 s.kind,.str s.name,.str s.text,I3 s.args,F3 s.thn,F3 s.els,I64 s.pos]
theorem St.v_w (s:St):s.v=s.w:=by
 cases s with|mk k n t a x y p=>rw [St.v,St.vs_map,St.vs_map];rfl
theorem A7b (l:List St):∀ x∈l.map St.v,x.cells.length=7:=fun x hx=>by
 obtain ⟨y, -,rfl⟩:=A1L.1 hx;rw [St.v_w];rfl
mutual
@[simp]theorem St.nl:∀ e:St,e.v.nl=true
 | .mk k n t a x y p=>by
  have h1:=Y1 a;have h2:=St.nls x;have h3:=St.nls y;rw [St.v];simp only [DV.nl,DV.nlL,h1,h2,h3,A2G]
theorem St.nls:∀ l:List St,DV.nlL (St.vs l)=true
 | []=>rfl
 | e :: l=>by rw [St.vs,DV.nlL,St.nl e,St.nls l];rfl
end
@[simp]theorem Q2 (l:List St):DV.nlL (l.map St.v)=true:=by rw [<- St.vs_map];exact St.nls l
def St0:St:=.mk 0 [] [] [] [] [] 0
structure Dc where
 kind:Int
 name:List UInt8
 value:Int
 pos:Int
deriving DecidableEq
abbrev Dc.v (d:Dc):DV:=.agg [I64 d.kind,.str d.name,I64 d.value,I64 d.pos]
abbrev C8 (l:List Dc):DV:=.lst (l.map Dc.v)
structure Hd where
 trig:Int
 name:List UInt8
 body:List St
 pos:Int
abbrev Hd.v (h:Hd):DV:=.agg [I64 h.trig,.str h.name,F3 h.body,I64 h.pos]
abbrev S2 (l:List Hd):DV:=.lst (l.map Hd.v)
structure Md where
 name:List UInt8
 prio:Int
 hds:List Hd
 pos:Int
abbrev Md.v (m:Md):DV:=.agg [.str m.name,I64 m.prio,S2 m.hds,I64 m.pos]
abbrev D5 (l:List Md):DV:=.lst (l.map Md.v)
structure Ru where
 decls:List Dc
 modes:List Md
abbrev Ru.v (r:Ru):DV:=.agg [C8 r.decls,D5 r.modes]
theorem K8 (l:List Dc):∀ x∈l.map Dc.v,x.cells.length=4:=fun x hx=>by obtain ⟨y, -,rfl⟩:=A1L.1 hx;rfl
theorem A2o (l:List Hd):∀ x∈l.map Hd.v,x.cells.length=4:=fun x hx=>by obtain ⟨y, -,rfl⟩:=A1L.1 hx;rfl
theorem V3 (l:List Md):∀ x∈l.map Md.v,x.cells.length=4:=fun x hx=>by obtain ⟨y, -,rfl⟩:=A1L.1 hx;rfl
@[simp]theorem H4 (l:List Dc):DV.nlL (l.map Dc.v)=true:=L7 (fun _=>rfl) l
@[simp]theorem A7f (l:List Hd):DV.nlL (l.map Hd.v)=true:=L7 (fun h=>by simp [DV.nl,DV.nlL,Q2]) l
@[simp]theorem G9 (l:List Md):DV.nlL (l.map Md.v)=true:=L7 (fun h=>by simp [DV.nl,DV.nlL,A7f]) l
theorem Ru.nl (r:Ru):r.v.nl=true:=by simp [DV.nl,DV.nlL,H4,G9]
structure Rd where
 i:Nat
 e:Int
 pos:Int
 ops:Int
 par:Int
section
variable (L:List Tok) (E:Int)
abbrev csR (s:Rd):List DV:=[D9 L,I64 E,I64 s.i,I64 s.e,I64 s.pos,I64 s.ops,I64 s.par]
abbrev rdR (s:Rd):Blk:=⟨0,true,csR L E s⟩
def okR (s:Rd):Bool:=s.e == 0
def L8 (s:Rd) (p e:Int):Rd:=if okR s=true then { s with e:=e,pos:=p } else s
def B5 (s:Rd):Tok:=L.getD s.i ⟨0,[],0,E⟩
def isR (s:Rd) (t:List UInt8):Bool:=okR s && ((B5 L E s).kind == 5 || (B5 L E s).kind == 2) && (B5 L E s).text == t
def I0 (s:Rd) (k:Int):Bool:=okR s && (B5 L E s).kind == k
def O2 (s:Rd):Rd:=L8 s (B5 L E s).pos 4
def C4 (s:Rd) (n most e:Int):Rd:=if most<n then L8 s (B5 L E s).pos e else s
def A7 (s:Rd):Rd:={ s with i:=s.i+1 }
def D1 (s:Rd) (t:List UInt8):Rd:=if isR L E s t=false then O2 L E s else A7 s
def R7:Tok:=⟨0,[],0,0⟩
def B2 (s:Rd) (k:Int):Tok × Rd:=if I0 L E s k=false then (R7,O2 L E s) else (B5 L E s,A7 s)
def V6 (s:Rd):Nat->List (List UInt8)->Int
 | _,[] => -1
 | k,t :: l=>if isR L E s t=true then (k:Int) else V6 s (k+1) l
def C1 (s:Rd) (l:List (List UInt8)):Int:=V6 L E s 0 l
end
def D2:List (List UInt8):=[[115,119,105,116,99,104],[99,111,105,108],[108,97,109,112],[115,111,117,110,100],[115,104,111,119],[118,97,114],[116,105,109,101,114],[101,118,101,110,116]]
def E1:List (List UInt8):=[[115,116,97,114,116],[115,116,111,112],[99,108,111,115,101],[111,112,101,110],[116,105,109,101,114],[101,118,101,110,116]]
def C0:List (List UInt8):=[[105,102],[114,101,112,101,97,116],[115,99,111,114,101],[102,105,114,101],[104,111,108,100],[114,101,108,101,97,115,101],[108,105,103,104,116],[98,108,105,110,107],[115,116,97,114,116],[115,116,111,112],[98,101,103,105,110],[101,110,100],[112,111,115,116],[112,108,97,121],[114,117,110],[104,97,108,116],[116,101,120,116],[99,111,110,115,117,109,101]]
def C5:List (List UInt8):=[[42],[47],[37],[43],[45],[60],[60,61],[62],[62,61],[61,61],[33,61],[38,38],[124,124]]
def B4 (k:Int):Int:=if k=24 then 1 else if k=23 then 2 else if 17<=k/\k<=22 then 3 else if k=15\/k=16 then 4 else if 12<=k/\k<=14 then 5 else if k=10\/k=11 then 6 else 7
section
variable (L:List Tok) (E:Int)
def Y7:List Int:=[3,4,8,9,5,6,7]
def F2:List (List UInt8):=[[116,114,117,101],[102,97,108,115,101],[112,108,97,121,101,114],[98,97,108,108],[99,108,111,115,101,100],[97,99,116,105,118,101],[108,101,102,116]]
def K5:List (List UInt8):=[[45],[33],[40]]
def I4 (s:Rd):Ex × Rd :=
 let t:=B5 L E s
 let k:=C1 L E s F2
 if k<0/\I0 L E s 3=false/\I0 L E s 1=false then (Ex0,O2 L E s)
 else
  let s1:Rd:={ s with ops:=s.ops+1 }
  let s2:=C4 L E s1 s1.ops 32 9
  if okR s2=false then (Ex0,s2)
  else
   let s3:=A7 s2
   if 0<=k then
    if 4<=k then (.mk (Y7.getD k.toNat 0) 0 (B2 L E s3 1).1.text [] t.pos,(B2 L E s3 1).2)
    else (.mk (Y7.getD k.toNat 0) 0 [] [] t.pos,s3)
   else if t.kind=3 then (.mk 1 t.value [] [] t.pos,s3)
   else (.mk 2 0 t.text [] t.pos,s3)
mutual
def I7:Nat->Int->Rd->Option (Ex × Rd)
 | 0,_,_=>none
 | f+1,n,s=>if 5<n then S6 f s else
  match I7 f (n+1) s with
  | none=>none
  | some (e,s)=>O5 f n e s
def O5:Nat->Int->Ex->Rd->Option (Ex × Rd)
 | 0,_,_,_=>none
 | f+1,n,e,s =>
  let k:=C1 L E s C5
  if k<0\/B4 (12+k)≠n then some (e,s) else
  match I7 f (n+1) (A7 s) with
  | none=>none
  | some (x,s1) =>
   let y:=Ex.mk (12+k) 0 [] [e,x] (B5 L E s).pos
   if n=3 then some (y,s1) else O5 f n y s1
def S6:Nat->Rd->Option (Ex × Rd)
 | 0,_=>none
 | f+1,s =>
  let t:=B5 L E s
  let k:=C1 L E s K5
  if k<0 then some (I4 L E s) else
  let s1:=C4 L E s (s.par+1) 16 50
  if okR s1=false then some (Ex0,s1) else
  let s2:Rd:={ s1 with i:=s1.i+1,par:=s1.par+1 }
  if k=2 then
   match I7 f 1 s2 with
   | none=>none
   | some (e,s3)=>let s4:=D1 L E s3 [41];some (e, { s4 with par:=s4.par-1 })
  else
   match S6 f s2 with
   | none=>none
   | some (e,s3)=>some (.mk (10+k) 0 [] [e] t.pos, { s3 with par:=s3.par-1 })
end
def Q7 (f:Nat) (s:Rd):Option (Ex × Rd):=I7 L E f 1 { s with ops:=0,par:=0 }
def I9 (f:Nat) (k p:Int) (s:Rd):Option (St × Rd) :=
 if k=4 then
  match Q7 L E f s with
  | none=>none
  | some (e,s1)=>some (.mk k [] [] [e] [] [] p,D1 L E s1 [59])
 else if k=18 then
  match Q7 L E f (D1 L E (B2 L E s 4).2 [44]) with
  | none=>none
  | some (e,s1)=>some (.mk k [] (B2 L E s 4).1.text [e] [] [] p,D1 L E s1 [59])
 else if k=19 then some (.mk k [] [] [] [] [] p,D1 L E s [59])
 else
  let n:=(B2 L E s 1).1.text
  let s0:=(B2 L E s 1).2
  if k=8\/k=9\/k=10 then
   match Q7 L E f s0 with
   | none=>none
   | some (e,s1) =>
    if k=9 then
     match Q7 L E f (D1 L E s1 [44]) with
     | none=>none
     | some (e2,s2)=>some (.mk k n [] [e,e2] [] [] p,D1 L E s2 [59])
    else some (.mk k n [] [e] [] [] p,D1 L E s1 [59])
  else some (.mk k n [] [] [] [] p,D1 L E s0 [59])
mutual
def M0:Nat->Int->Rd->Option (List St × Rd)
 | 0,_,_=>none
 | f+1,d,s=>P4 f d [] (D1 L E s [123])
def P4:Nat->Int->List St->Rd->Option (List St × Rd)
 | 0,_,_,_=>none
 | f+1,d,l,s =>
  if okR s=true/\isR L E s [125]=false then
   if C1 L E s C0<0/\I0 L E s 1=false then some ([],O2 L E s) else
   match R8 f d (C4 L E s ((l.length:Int)+1) 64 9) with
   | none=>none
   | some (x,s1)=>P4 f d (l++[x]) s1
  else some (l,D1 L E s [125])
def R8:Nat->Int->Rd->Option (St × Rd)
 | 0,_,_=>none
 | f+1,d,s0 =>
  let s:=C4 L E s0 d 8 50
  if okR s=false then some (St0,s) else
  let p:=(B5 L E s).pos
  let k:=C1 L E s C0
  if k<0 then
   match Q7 L E f (D1 L E (B2 L E s 1).2 [61]) with
   | none=>none
   | some (e,s1)=>some (.mk 1 (B2 L E s 1).1.text [] [e] [] [] p,D1 L E s1 [59])
  else
   let s1:=A7 s
   if k=0\/k=1 then
    match Q7 L E f s1 with
    | none=>none
    | some (e,s2) =>
     match M0 f (d+1) s2 with
     | none=>none
     | some (t,s3) =>
      if k=0/\isR L E s3 [101,108,115,101]=true then
       match Q1 f d (A7 s3) with
       | none=>none
       | some (o,s4)=>some (.mk 2 [] [] [e] t o p,s4)
      else some (.mk (2+k) [] [] [e] t [] p,s3)
   else I9 L E f (2+k) p s1
def Q1:Nat->Int->Rd->Option (List St × Rd)
 | 0,_,_=>none
 | f+1,d,s =>
  if isR L E s [105,102]=true then
   match R8 f (d+1) s with
   | none=>none
   | some (x,s1)=>some ([x],s1)
  else M0 f (d+1) s
end
def R0 (k:Int) (s:Rd):Dc × Rd :=
 let p:=(B5 L E s).pos
 let s1:=A7 s
 let n:=(B2 L E s1 1).1.text
 let s2:=(B2 L E s1 1).2
 if k+1<=6 then
  let m:=k+1 == 6 && isR L E s2 [45]
  let s3:=if m=true then A7 s2 else s2
  let v:=(B2 L E s3 3).1.value
  (⟨1+k,n,if m=true then -v else v,p⟩,D1 L E (B2 L E s3 3).2 [59])
 else (⟨1+k,n,0,p⟩,D1 L E s2 [59])
def T8:Nat->List Hd->Rd->Option (List Hd × Rd)
 | 0,_,_=>none
 | f+1,l,s =>
  if okR s=true/\isR L E s [125]=false then
   if isR L E s [111,110]=false then some (l,O2 L E s) else
   let s1:=C4 L E s ((l.length:Int)+1) 32 9
   let p:=(B5 L E s1).pos
   let s2:=D1 L E s1 [111,110]
   let k:=C1 L E s2 E1
   if k<0 then some (l,O2 L E s2) else
   let s3:=A7 s2
   let n:=if 2<=k then (B2 L E s3 1).1.text else []
   let s4:=if 2<=k then (B2 L E s3 1).2 else s3
   match M0 L E f 1 s4 with
   | none=>none
   | some (b,s5)=>T8 f (l++[⟨1+k,n,b,p⟩]) s5
  else some (l,D1 L E s [125])
def A2x (f:Nat) (s:Rd):Option (Md × Rd) :=
 let p:=(B5 L E s).pos
 let s1:=D1 L E s [109,111,100,101]
 let n:=(B2 L E s1 1).1.text
 let s2:=(B2 L E s1 1).2
 let v:=(B2 L E s2 3).1.value
 match T8 L E f [] (D1 L E (B2 L E s2 3).2 [123]) with
 | none=>none
 | some (l,s3)=>some (⟨n,v,l,p⟩,s3)
def R9:Nat->List Dc->Rd->Option (List Dc × Rd)
 | 0,_,_=>none
 | f+1,l,s =>
  let k:=C1 L E s D2
  if k<0 then some (l,s) else
  let s1:=C4 L E s ((l.length:Int)+1) 128 9
  if okR s1=true then R9 f (l++[(R0 L E k s1).1]) (R0 L E k s1).2 else R9 f l s1
def Q0:Nat->List Md->Rd->Option (List Md × Rd)
 | 0,_,_=>none
 | f+1,l,s =>
  if okR s=true/\s.i<L.length then
   if isR L E s [109,111,100,101]=false then some (l,O2 L E s) else
   let s1:=C4 L E s ((l.length:Int)+1) 16 9
   if okR s1=true then
    match A2x L E f s1 with
    | none=>none
    | some (m,s2)=>Q0 f (l++[m]) s2
   else Q0 f l s1
  else some (l,s)
def A4e (f:Nat) (s:Rd):Option (Ru × Rd) :=
 match R9 L E f [] s with
 | none=>none
 | some (d,s1) =>
  match Q0 L E f [] s1 with
  | none=>none
  | some (m,s2)=>some (⟨d,m⟩,s2)
end
end Go.Pb
namespace Go.Sym
variable [Go.Sym.Tab]
open Go.Eng (KKey)
inductive Mz (id:Nat) (r:DV):DV->DV->Prop where
 | same (d:DV):Mz id r d d
 | mid:Mz id r (.mid id) r
 | agg (a a':List DV) (hl:a.length=a'.length) (h:∀ (i:Nat) x y,a[i]? = some x->a'[i]? = some y->Mz id r x y):Mz id r (.agg a) (.agg a')
 | tup (a a':List DV) (hl:a.length=a'.length) (h:∀ (i:Nat) x y,a[i]? = some x->a'[i]? = some y->Mz id r x y):Mz id r (.tup a) (.tup a')
theorem Mz.rel {ρ ρ':Ren} {id:Nat} {r:DV} (hl : ρ.le ρ') (hr:∀ v,VRel ρ (.mid id) v->VRel ρ' r v) {d d':DV} (h:Mz id r d d'):∀ v,VRel ρ d v->VRel ρ' d' v:=by
 induction h with
 | same d=>exact fun v hv=>hv.mono hl
 | mid=>exact hr
 | agg a a' hl' _ ih =>
  intro v hv;obtain ⟨b,rfl,h1,h2⟩:=hv.agg_inv;refine .agg _ _ (hl'▸h1) fun i x y hx hy=>?_;have hi:i<a.length:=by have:=(A0K.1 hx).1;omega
  exact ih i a[i] x (A0C hi) hx y (h2 i _ y (A0C hi) hy)
 | tup a a' hl' _ ih =>
  intro v hv;obtain ⟨b,rfl,h1,h2⟩:=hv.tup_inv;refine .tup _ _ (hl'▸h1) fun i x y hx hy=>?_;have hi:i<a.length:=by have:=(A0K.1 hx).1;omega
  exact ih i a[i] x (A0C hi) hx y (h2 i _ y (A0C hi) hy)
theorem GL.frzm {H H':Hp} {ds ds':List DV} {id u:Nat} {kd:KKey} {ks vs:List DV} (hb:H id=some ⟨u,true,[.mpc kd ks vs]⟩) (hH:∀ j,H' j=none\/(j≠id/\H' j=H j))
  (hl:ds.length=ds'.length) (hd:∀ (i:Nat) x y,ds[i]? = some x->ds'[i]? = some y->Mz id (.mp kd ks vs) x y):GL H ds H' ds':=by
 refine ⟨fun j hj=>?_,fun ρ w a2 hR hA=>?_⟩
 ·rcases hH j with h0|⟨-,h0⟩
  ·exact absurd h0 hj
  ·rw [<- h0];exact hj
 have back:∀ j bj,H' j=some bj->j≠id/\H j=some bj:=by
  intro j bj hj;rcases hH j with h0|⟨hne,h0⟩
  ·rw [h0] at hj;cases hj
  ·exact ⟨hne,by rw [<- h0];exact hj⟩
 obtain ⟨t,ht,hB⟩:=hR.blk id _ hb;rcases hB with ⟨hm,c,e,fr, -, -, -, -,g5, -⟩|⟨hm, -,hs,es,cl,kd',ks',vs',g1,g2,g3⟩
 ·have:=(g5 0 _ rfl).1;simp [DV.one] at this
 cases g2;have hnone : ρ.fm t.block=none:=by
  cases hf : ρ.fm t.block with
  | none=>rfl
  | some es'=>exact absurd rfl ((hR.frm _ _ hf).2 id _ t hb rfl ht)
 obtain ⟨ρ2,hρ⟩:∃ ρ2:Ren, ρ2=⟨ρ.nm, ρ.fz, ρ.tab,fun k=>if k=t.block then some es else ρ.fm k⟩:=⟨_,rfl⟩;have n1 : ρ2.nm = ρ.nm:=by rw [hρ]
 have n2 : ρ2.fz = ρ.fz:=by rw [hρ]
 have n3:∀ k r, ρ2.fm k=some r->(k=t.block/\r=es) \/ ρ.fm k=some r:=by
  intro k r hk;rw [hρ] at hk;simp only at hk;split at hk
  ·rename_i h;cases hk;exact .inl ⟨h,rfl⟩
  ·exact .inr hk
 have n4 : ρ2.fm t.block=some es:=by rw [hρ];simp
 have hle : ρ.le ρ2:=⟨fun i x h=>by rw [n1];exact h,fun b r h=>by rw [n2];exact h,fun b r h=>by
  rw [hρ];simp only;rw [if_neg (fun e=>by rw [e,hnone] at h;cases h)];exact h⟩
 have hval:∀ v,VRel ρ (.mid id) v->VRel ρ2 (.mp kd ks vs) v:=by
  intro v hv;obtain ⟨t',ht', -,rfl⟩:=hv.mid_inv;rw [ht] at ht';cases ht';obtain ⟨a1,a2,a3,a4,a5⟩:=g3;exact .mp kd ks vs t.block es n4 a1 a2 a3 (fun i x e hx he=>(a4 i x e hx he).mono hle) (fun i x e hx he=>(a5 i x e hx he).mono hle)
 refine ⟨ρ2,n1,⟨fun j bj hj=>?_,fun i j bi bj ti tj hi hj hij h1 h2 ho=>?_,fun k r hk=>?_,fun j bj tj hj ho hjt=>?_,fun k r hk=>?_⟩,⟨hl▸hA.1,fun i x y hx hy=>?_⟩,?_⟩
 ·rw [n1];obtain ⟨-,h1⟩:=back j bj hj;obtain ⟨tj,q1,q2⟩:=hR.blk j bj h1;exact ⟨tj,q1,q2.mono hle⟩
 ·rw [n1] at h1 h2;exact hR.sep i j bi bj ti tj (back i bi hi).2 (back j bj hj).2 hij h1 h2 ho
 ·rw [n2] at hk;exact hR.frz k r hk
 ·rw [n1] at hjt;rw [n2];exact hR.dis j bj tj (back j bj hj).2 ho hjt
 ·rcases n3 k r hk with ⟨rfl,rfl⟩|h1
  ·refine ⟨⟨cl,g1⟩,fun j bj tj hj ho hjt=>?_⟩;rw [n1] at hjt;obtain ⟨hne,h2⟩:=back j bj hj;exact hR.sep j id bj _ tj t h2 hb hne hjt ht ho
  ·refine ⟨(hR.frm k r h1).1,fun j bj tj hj ho hjt=>?_⟩;rw [n1] at hjt;exact (hR.frm k r h1).2 j bj tj (back j bj hj).2 ho hjt
 ·have hi:i<ds.length:=by have:=(A0K.1 hx).1;omega
  exact (hd i ds[i] x (A0C hi) hx).rel hle hval y (hA.2 i _ y (A0C hi) hy)
 ·refine ⟨hle,rfl,rfl,rfl,A0H _,fun _ _ _=>rfl,fun j bj tj hj hjt=>?_,fun k r hk=>.inl (by rw [<- n2];exact hk),fun k r hk=>?_⟩
  ·rw [n1] at hjt;exact .inr ⟨j,bj,tj,(back j bj hj).2,fun h=>h,hjt,rfl⟩
  ·rcases n3 k r hk with ⟨rfl,rfl⟩|h1
   ·exact .inr (.inr ⟨id,_,t,hb,rfl,ht,rfl⟩)
   ·exact .inl h1
theorem C4c {H:Hp} {id u:Nat} {kd:KKey} {ks vs:List DV} (hb:H id=some ⟨u,true,[.mpc kd ks vs]⟩):∃ H2,GL H [.mid id] H2 [.mp kd ks vs] :=
 ⟨nil,GL.frzm hb (fun j=>.inl rfl) rfl (fun i x y hx hy=>by
  match i with
  | 0=>cases hx;cases hy;exact .mid
  | _+1=>cases hx)⟩
theorem A5t {a b:List UInt8}:A8p (.str a) (.str b)=(a == b):=id rfl
theorem A5r {s:List UInt8}:∀ (l:List (List UInt8)) (i:Nat),(E5 (.str s) (l.map DV.str) i).isSome=l.contains s
 | [],i=>rfl
 | x :: r,i=>by
  simp only [A0T,E5,A5t,List.contains_cons];cases h:s == x with
  | true=>simp
  | false=>simp [A5r r (i+1)]
theorem A8j {s:List UInt8} {l:List (List UInt8)} (h:l.contains s=false) (i:Nat):E5 (.str s) (l.map DV.str) i=none:=by
 have:=A5r (s:=s) l i;rw [h] at this;cases hm:E5 (.str s) (l.map DV.str) i with
 | none=>rfl
 | some j=>rw [hm] at this;cases this
theorem B6o {s:List UInt8} {l:List (List UInt8)} (h:l.contains s=true) (i:Nat):∃ j,E5 (.str s) (l.map DV.str) i=some j:=by
 have:=A5r (s:=s) l i;rw [h] at this;cases hm:E5 (.str s) (l.map DV.str) i with
 | none=>rw [hm] at this;cases this
 | some j=>exact ⟨j,rfl⟩
theorem A8k {k:DV}:∀ {ks:List DV} {i j:Nat},E5 k ks i=some j->i<=j/\j<i+ks.length
 | [],i,j,h=>by cases h
 | x :: r,i,j,h=>by
  simp only [E5] at h;split at h
  ·cases h;simp
  ·have:=A8k h;simp only [A0E];omega
end Go.Sym
namespace Go.Sym
variable [Go.Sym.Tab]
open Go.Eng (H8)
open Go.RowKit
variable {P:Program}
theorem PC.of_callsF {f:Nat} {args:List DV} {r:DV} (hc:H8 P f=true) (na:DV.nlL args=true) (nr:r.nl=true)
  (h:∀ (ρ : Ren) (w:World) (vs:Array Value),(∀ b r, ρ.fz b=some r->∃ e fr,w.heap[b]? = some (.cells r e fr))->F5 ρ args vs ->
   Calls P f vs w fun e w' => ∃ v' b row ty fr,e=.returned v'/\w.heap.size<=b/\w'.heap[b]? = some (.cells row ty fr)/\(∀ ρ':Ren, ρ'.fz b=some row->VRel ρ' r v')/\Below w.heap.size w w'):PC P f args r:=by
 refine ⟨na,nr,hc,fun ρ w vs hR hf hA=>?_⟩;refine (h ρ w vs hR.frz hA).mono ?_;rintro e w' ⟨v',b,row,ty,fr,rfl,hb,hrow,hv,b1,b2,b3,b4,b5⟩;have hnone : ρ.fz b=none:=by
  cases hz : ρ.fz b with
  | none=>rfl
  | some r=>have:=hR.flt hz;omega
 have hfz:(ρ.frz b row hnone).fz b=some row:=by simp [Ren.frz]
 refine ⟨r,v',nil,0, ρ.frz b row hnone,rfl,rfl,hv _ hfz,⟨fun id b h=>(by cases h),fun i j bi bj ti tj h=>(by cases h),fun k r' hk=>?_,fun id b t h=>(by cases h),fun k r' hk=>⟨?_,fun id b t h=>(by cases h)⟩⟩,hf,A0H _,fun id hid h=>absurd rfl h,fun _ _=>rfl,
  ⟨Ren.le_frz hnone,b1,b2,b3,b4,fun k hk _=>b5 k hk,fun id b t h1=>(by cases h1),fun k r' hk=>?_,fun k r h=>.inl h⟩⟩
 ·simp only [Ren.frz] at hk;split at hk
  ·rename_i hkb;cases hk;rw [hkb];exact ⟨ty,fr,hrow⟩
  ·obtain ⟨e,fr,h1⟩:=hR.frz k r' hk;exact ⟨e,fr,by rw [b5 k (hR.flt hk)];exact h1⟩
 ·obtain ⟨⟨cl,h1⟩, -⟩:=hR.frm k r' hk;exact ⟨cl,by rw [b5 k (A0Y.1 h1).1];exact h1⟩
 ·simp only [Ren.frz] at hk;split at hk
  ·rename_i hkb;subst hkb;exact .inr (.inl hb)
  ·exact .inl hk
theorem VRel.strs {ρ : Ren} {l:List (List UInt8)} {b n c:Nat} (h : ρ.fz b=some ((l.map fun s=>Value.string ⟨s.toArray⟩).toArray)) (hn:n=l.length) (hc:n<=c) (hm:c<=maxLen) :
  VRel ρ (.lst (l.map DV.str)) (.slice (some ⟨b,0,none⟩) n c):=by
 have hcl:A3 (l.map DV.str)=l.map DV.str:=by
  clear h hn
  induction l with
  | nil=>rfl
  | cons x r ih =>
   have:A3 ((x :: r).map DV.str)=[DV.str x]++A3 (r.map DV.str):=rfl;rw [this,ih];rfl
 refine .lst _ n 1 b 0 c _ h (by simpa using hn) hc hm (fun x hx=>by obtain ⟨y, -,rfl⟩:=A1L.1 hx;rfl) ?_ ?_ ?_
 ·rw [hcl];simp
 ·rw [hcl];intro d hd;obtain ⟨y, -,rfl⟩:=A1L.1 hd;rfl
 ·rw [hcl];intro k d v hd hv;rw [A2J] at hd;obtain ⟨s,hs,rfl⟩:=A0Q.1 hd;simp only [A1J,A1I,A2J,hs,A3L,Option.some.injEq] at hv;subst hv;exact .mkStr
end Go.Sym
namespace Go.Proofs.YtnmkkggfgdfmeaaGreatDoor
open Go.Eng (IC IOper DReg IFn B8)
open Go.Sym Go.Pb
theorem B1y {H:Hp} {cc j:Nat} {b:Blk} (hfr:∀ i,cc<=i->H i=none) (h:H j=some b):j≠cc:=by
 rintro rfl;rw [hfr _ (A0H _)] at h;cases h
theorem A5u {H:Hp} {cc:Nat} {b:Blk} {ds:List DV} (hfr:∀ i,cc<=i->H i=none):GL (H.upd cc b) ds H ds:=GL.less' fun j b hj=>by rw [A2 (B1y hfr hj)];exact hj
theorem S5 {K H':Hp} {cc:Nat} {ds:List DV} (hK:∀ i,cc<=i->K i=none) (h:∀ j,j<cc->H' j=K j):GL H' ds K ds:=GL.less fun j=>by
 by_cases hj:j<cc
 ·exact .inr (h j hj).symm
 ·exact .inl (hK j (by omega))
theorem D7 {H:Hp} {cc t:Nat} {b:Blk} (hfr:∀ i,cc<=i->H i=none) (htc:t<cc):∀ i,cc<=i->H.upd t b i=none:=fun i hi=>by rw [A2 (by omega)];exact hfr i hi
theorem rv4 {s:Sym.St} {x i u:Nat} {a b c d:DV} {o:Bool} (h:s.T x=.ptr i 0) (hb:s.H i=some ⟨u,o,[a,b,c,d]⟩):A5l s [.cell x 4 true]=some (.agg [a,b,c,d]):=by
 simp only [A5l,A3l,h,ldv,ldB,hb];rfl
theorem c_rdok (L:List Tok) (E:Int) (s:Rd) (H:Hp) (cc t:Nat) (ht:H t=some (rdR L E s)) (htc:t<cc):AC Tryz.prog 38 [.ptr t 0] H cc (fun v H' c'=>v=.bool (okR s)/\H'=H):=by
 refine AC.bodyT A9 rfl (A0B rfl) fun hfr=>?_;repeat' ((with_reducible apply wr)<;>try simp only [go_sem,seval,ht])
 exact ⟨_,_,GL.refl _ _,rfl,rfl⟩
theorem c_peek (L:List Tok) (E:Int) (s:Rd) (H:Hp) (cc t:Nat) (ht:H t=some (rdR L E s)) (htc:t<cc):AC Tryz.prog 94 [.ptr t 0] H cc (fun v H' c'=>v=(B5 L E s).v/\H'=H):=by
 refine AC.bodyT A9 rfl (A0B rfl) fun hfr=>?_;have ne0:=M8 t cc (by omega);by_cases hlt:s.i<L.length
 ·have hd:decide ((s.i:Int)<L.length)=true:=by simpa using hlt
  have hg:=A0C hlt;have e:B5 L E s=L[s.i]:=by unfold B5;rw [A0X,hg];rfl
  rw [e];generalize L[s.i]=a at hg;repeat' ((with_reducible apply wr)<;>try simp only [go_sem,seval,ht,hd,hg,ne0,A0,A1])
  rw [E7 (v:=a.v) (rv4 rfl A0)];exact ⟨_,_,A5u hfr,rfl,rfl⟩
 ·have hd:decide ((s.i:Int)<L.length)=false:=by simpa using hlt
  have e:B5 L E s=⟨0,[],0,E⟩:=by unfold B5;rw [A0X,A2I (by omega)];rfl
  rw [e];repeat' ((with_reducible apply wr)<;>try simp only [go_sem,seval,ht,hd,ne0,A0,A1])
  rw [E7 (v:=Tok.v ⟨0,[],0,E⟩) (rv4 rfl A0)];exact ⟨_,_,A5u hfr,rfl,rfl⟩
theorem c_fail (L:List Tok) (E:Int) (s:Rd) (H:Hp) (cc t:Nat) (ht:H t=some (rdR L E s)) (htc:t<cc) (p e:Int):AC Tryz.prog 93 [.ptr t 0,I64 p,I64 e] H cc (fun v H' c'=>v=.tup []/\H'=H.upd t (rdR L E (L8 s p e))):=by
 refine AC.bodyT A9 rfl (A0B rfl) fun hfr=>?_;cases h:okR s with
 | true =>
  have e0:L8 s p e = { s with e:=e,pos:=p }:=by rw [L8,if_pos h]
  have h':(s.e == 0)=true:=h;rw [e0];repeat' ((with_reducible apply wr)<;>try simp only [go_sem,seval,ht,h',h,A0,A1])
  exact ⟨_,_,GL.refl _ _,rfl,rfl⟩
 | false =>
  have e0:L8 s p e=s:=by rw [L8,if_neg (by simp [h])]
  have h':(s.e == 0)=false:=h;rw [e0];repeat' ((with_reducible apply wr)<;>try simp only [go_sem,seval,ht,h',h,A0,A1])
  refine ⟨_,_,GL.refl _ _,rfl,?_⟩
  funext j
  by_cases ej:j=t
  ·subst ej;rw [A0,ht]
  ·rw [A2 ej]
theorem upd_same {H:Hp} {t:Nat} {b:Blk} (h:H t=some b):H.upd t b=H:=by
 funext j
 by_cases ej:j=t
 ·subst ej;rw [A0,h]
 ·rw [A2 ej]
theorem c_is (L:List Tok) (E:Int) (s:Rd) (H:Hp) (cc t:Nat) (ht:H t=some (rdR L E s)) (htc:t<cc) (x:List UInt8):AC Tryz.prog 76 [.ptr t 0,.str x] H cc (fun v H' c'=>v=.bool (isR L E s x)/\H'=H):=by
 refine AC.bodyT A9 rfl (A0B rfl) fun hfr=>?_;repeat' ((with_reducible apply wr)<;>try simp only [go_sem,seval])
 refine AC.call (c_peek L E s _ _ t ht (by omega)) ?_;rintro v H' c1 ⟨rfl,rfl⟩ hc;have ne0:=M8 t c1 (by omega);simp only [go_sem,seval,ne0,A0,A1];repeat' ((with_reducible apply wr)<;>try simp only [go_sem,seval,ne0,A0,A1])
 refine AC.call (c_rdok L E s _ _ t (by rw [A2 (by omega)];exact ht) (by omega)) ?_;rintro v H' c2 ⟨rfl,rfl⟩ hc2;simp only [go_sem,seval,ne0,A0,A1];repeat' ((with_reducible first|refine wr ?_|refine wb2 ?_ ?_<;>(intro hb;try simp only [hb])|fail)<;>try simp only [go_sem,seval,ne0,A0,A1])
 all_goals exact ⟨_,_,A5u (fun i hi=>hfr i (by omega)),by simp_all [isR],rfl⟩
theorem c_isKind (L:List Tok) (E:Int) (s:Rd) (H:Hp) (cc t:Nat) (ht:H t=some (rdR L E s)) (htc:t<cc) (k:Int):AC Tryz.prog 141 [.ptr t 0,I64 k] H cc (fun v H' c'=>v=.bool (I0 L E s k)/\H'=H):=by
 refine AC.bodyT A9 rfl (A0B rfl) fun hfr=>?_;repeat' ((with_reducible apply wr)<;>try simp only [go_sem,seval])
 refine AC.call (c_rdok L E s _ _ t ht (by omega)) ?_;rintro v H' c1 ⟨rfl,rfl⟩ hc;by_cases h:okR s=true
 ·simp only [go_sem,seval,h];repeat' ((with_reducible apply wr)<;>try simp only [go_sem,seval,h])
  refine AC.call (c_peek L E s _ _ t ht (by omega)) ?_;rintro v H' c2 ⟨rfl,rfl⟩ hc2;simp only [go_sem,seval,h];repeat' ((with_reducible apply wr)<;>try simp only [go_sem,seval,h])
  exact ⟨_,_,GL.refl _ _,by rw [I0,h];rfl,rfl⟩
 ·have h:okR s=false:=by simpa using h
  simp only [go_sem,seval,h];repeat' ((with_reducible apply wr)<;>try simp only [go_sem,seval,h])
  exact ⟨_,_,GL.refl _ _,by rw [I0,h];rfl,rfl⟩
theorem c_syntax (L:List Tok) (E:Int) (s:Rd) (H:Hp) (cc t:Nat) (ht:H t=some (rdR L E s)) (htc:t<cc):AC Tryz.prog 52 [.ptr t 0] H cc (fun v H' c'=>v=.tup []/\H'=H.upd t (rdR L E (O2 L E s))):=by
 refine AC.bodyT A9 rfl (A0B rfl) fun hfr=>?_;repeat' ((with_reducible apply wr)<;>try simp only [go_sem,seval])
 refine AC.call (c_peek L E s _ _ t ht (by omega)) ?_;rintro v H' c1 ⟨rfl,rfl⟩ hc;simp only [go_sem,seval];repeat' ((with_reducible apply wr)<;>try simp only [go_sem,seval])
 refine AC.call (c_fail L E s _ _ t ht (by omega) _ _) ?_;rintro v H' c2 ⟨rfl,rfl⟩ hc2;simp only [go_sem,seval];repeat' ((with_reducible apply wr)<;>try simp only [go_sem,seval])
 exact ⟨_,_,GL.refl _ _,rfl,rfl⟩
theorem c_limit (L:List Tok) (E:Int) (s:Rd) (H:Hp) (cc t:Nat) (ht:H t=some (rdR L E s)) (htc:t<cc) (n m e:Int):AC Tryz.prog 74 [.ptr t 0,I64 n,I64 m,I64 e] H cc (fun v H' c'=>v=.tup []/\H'=H.upd t (rdR L E (C4 L E s n m e))):=by
 refine AC.bodyT A9 rfl (A0B rfl) fun hfr=>?_;by_cases h:m<n
 ·have hd:decide (n>m)=true:=by simpa using h
  have e0:C4 L E s n m e=L8 s (B5 L E s).pos e:=by rw [C4,if_pos h]
  rw [e0];repeat' ((with_reducible apply wr)<;>try simp only [go_sem,seval,hd])
  refine AC.call (c_peek L E s _ _ t ht (by omega)) ?_;rintro v H' c1 ⟨rfl,rfl⟩ hc;simp only [go_sem,seval];repeat' ((with_reducible apply wr)<;>try simp only [go_sem,seval])
  refine AC.call (c_fail L E s _ _ t ht (by omega) _ _) ?_;rintro v H' c2 ⟨rfl,rfl⟩ hc2;simp only [go_sem,seval];repeat' ((with_reducible apply wr)<;>try simp only [go_sem,seval])
  exact ⟨_,_,GL.refl _ _,rfl,rfl⟩
 ·have hd:decide (n>m)=false:=by simpa using h
  have e0:C4 L E s n m e=s:=by rw [C4,if_neg h]
  rw [e0];repeat' ((with_reducible apply wr)<;>try simp only [go_sem,seval,hd])
  exact ⟨_,_,GL.refl _ _,rfl,(upd_same ht).symm⟩
theorem c_expect (L:List Tok) (E:Int) (s:Rd) (H:Hp) (cc t:Nat) (ht:H t=some (rdR L E s)) (htc:t<cc) (hi:s.i<=10000000000) (x:List UInt8):AC Tryz.prog 116 [.ptr t 0,.str x] H cc (fun v H' c'=>v=.tup []/\H'=H.upd t (rdR L E (D1 L E s x))):=by
 refine AC.bodyT A9 rfl (A0B rfl) fun hfr=>?_;repeat' ((with_reducible apply wr)<;>try simp only [go_sem,seval])
 refine AC.call (c_is L E s _ _ t ht (by omega) x) ?_;rintro v H' c1 ⟨rfl,rfl⟩ hc;cases h:isR L E s x with
 | false =>
  have e0:D1 L E s x=O2 L E s:=by rw [D1,if_pos h]
  rw [e0];simp only [go_sem,seval,h];repeat' ((with_reducible apply wr)<;>try simp only [go_sem,seval,h])
  refine AC.call (c_syntax L E s _ _ t ht (by omega)) ?_;rintro v H' c2 ⟨rfl,rfl⟩ hc2;simp only [go_sem,seval];repeat' ((with_reducible apply wr)<;>try simp only [go_sem,seval])
  exact ⟨_,_,GL.refl _ _,rfl,rfl⟩
 | true =>
  have hw:IntKind.i64.wrap ((s.i:Int)+1)=((s.i+1:Nat):Int):=by rw [w64 (by omega) (by omega)];omega
  have e0:D1 L E s x=A7 s:=by rw [D1,if_neg (by simp [h])]
  rw [e0];simp only [go_sem,seval,h];repeat' ((with_reducible apply wr)<;>try simp only [go_sem,seval,h,ht,hw,A0,A1])
  exact ⟨_,_,GL.refl _ _,rfl,rfl⟩
theorem c_take (L:List Tok) (E:Int) (s:Rd) (H:Hp) (cc t:Nat) (ht:H t=some (rdR L E s)) (htc:t<cc) (hi:s.i<=10000000000) (k:Int):AC Tryz.prog 115 [.ptr t 0,I64 k] H cc (fun v H' c'=>v=(B2 L E s k).1.v/\H'=H.upd t (rdR L E (B2 L E s k).2)):=by
 refine AC.bodyT A9 rfl (A0B rfl) fun hfr=>?_;repeat' ((with_reducible apply wr)<;>try simp only [go_sem,seval])
 refine AC.call (c_peek L E s _ _ t (by rw [A2 (by omega)];exact ht) (by omega)) ?_;rintro v H' c1 ⟨rfl,rfl⟩ hc;have ne0:=S0 t cc c1 (by omega);simp only [go_sem,seval,ne0,A0];repeat' ((with_reducible apply wr)<;>try simp only [go_sem,seval,ne0,A0])
 refine AC.call (c_isKind L E s _ _ t (by rw [A2 (by omega),A2 (by omega),A2 (by omega)];exact ht) (by omega) k) ?_;rintro v H' c2 ⟨rfl,rfl⟩ hc2;cases h:I0 L E s k with
 | false =>
  have e0:B2 L E s k=(R7,O2 L E s):=by rw [B2,if_pos h]
  rw [e0];simp only [go_sem,seval,ne0,h,A0,A1];repeat' ((with_reducible apply wr)<;>try simp only [go_sem,seval,ne0,h,A0,A1])
  refine AC.call (c_syntax L E s _ _ t (by rw [A2 (by omega),A2 (by omega)];exact ht) (by omega)) ?_;rintro v H' c3 ⟨rfl,rfl⟩ hc3;simp only [go_sem,seval,ne0,A0,A1];repeat' ((with_reducible apply wr)<;>try simp only [go_sem,seval,ne0,A0,A1])
  rw [E7 (v:=R7.v) (rv4 rfl A0)];exact ⟨_,_,S5 (D7 hfr htc) (fun j hj=>by simp [Hp.upd,show ¬j=cc by omega,show ¬j=c1 by omega]),rfl,rfl⟩
 | true =>
  have hw:IntKind.i64.wrap ((s.i:Int)+1)=((s.i+1:Nat):Int):=by rw [w64 (by omega) (by omega)];omega
  have e0:B2 L E s k=(B5 L E s,A7 s):=by rw [B2,if_neg (by simp [h])]
  rw [e0];simp only [go_sem,seval,ne0,h,A0,A1];repeat' ((with_reducible apply wr)<;>try simp only [go_sem,seval,ne0,ht,hw,h,A0,A1])
  rw [E7 (v:=(B5 L E s).v) (rv4 rfl A0)];exact ⟨_,_,S5 (D7 hfr htc) (fun j hj=>by simp [Hp.upd,show ¬j=cc by omega,show ¬j=c1 by omega];rfl),rfl,rfl⟩
theorem c_name (L:List Tok) (E:Int) (s:Rd) (H:Hp) (cc t:Nat) (ht:H t=some (rdR L E s)) (htc:t<cc) (hi:s.i<=10000000000):AC Tryz.prog 114 [.ptr t 0] H cc (fun v H' c'=>v=.str (B2 L E s 1).1.text/\H'=H.upd t (rdR L E (B2 L E s 1).2)):=by
 refine AC.bodyT A9 rfl (A0B rfl) fun hfr=>?_;repeat' ((with_reducible apply wr)<;>try simp only [go_sem,seval])
 refine AC.call (c_take L E s _ _ t ht (by omega) hi 1) ?_;rintro v H' c1 ⟨rfl,rfl⟩ hc;simp only [go_sem,seval];repeat' ((with_reducible apply wr)<;>try simp only [go_sem,seval])
 exact ⟨_,_,GL.refl _ _,rfl,rfl⟩
abbrev A3b (l:List (List UInt8)):DV:=.lst (l.map DV.str)
theorem c_among (L:List Tok) (E:Int) (s:Rd) (H:Hp) (cc t:Nat) (ht:H t=some (rdR L E s)) (htc:t<cc) (l:List (List UInt8)) (hl:l.length<=1000000):AC Tryz.prog 72 [.ptr t 0,A3b l] H cc (fun v H' c'=>v=I64 (C1 L E s l)/\H'=H):=by
 refine AC.bodyT A9 rfl (A0B rfl) fun hfr=>?_;repeat' ((with_reducible apply wr)<;>try simp only [go_sem,seval])
 refine C2 (fun k:Nat=>[(0,.ptr t 0),(1,A3b l),(5,I64 k)]) (fun _=>H) (fun k c=>cc<=c/\k<=l.length/\C1 L E s l=V6 L E s k (l.drop k)) (fun k=>l.length-k) 0 (by simp [C3,tm,Tm.upd]) (Sub.refl _) ⟨by omega,by simp,rfl⟩ ?_;rintro k c ⟨hc,hk,hv⟩;by_cases hlt:k<l.length
 ·have hd:decide ((k:Int)<l.length)=true:=by simpa using hlt
  have hg:=A0C hlt;have hw:IntKind.i64.wrap ((k:Int)+1)=((k+1:Nat):Int):=by rw [w64 (by omega) (by omega)];omega
  rw [A1C hlt,V6] at hv;generalize l[k]=a at hg hv;repeat' ((with_reducible apply wr)<;>try simp only [go_sem,seval,hd,hg])
  refine AC.call (c_is L E s _ _ t ht (by omega) a) ?_;rintro v H' c1 ⟨rfl,rfl⟩ hc1;cases h:isR L E s a with
  | true =>
   rw [if_pos h] at hv;rw [hv];simp only [go_sem,seval,h];repeat' ((with_reducible apply wr)<;>try simp only [go_sem,seval,h])
   exact ⟨_,_,GL.refl _ _,rfl,rfl⟩
  | false =>
   rw [if_neg (by simp [h])] at hv;simp only [go_sem,seval,h,hw];repeat' ((with_reducible apply wr)<;>try simp only [go_sem,seval,h,hw])
   exact ⟨k+1,rfl,Sub.refl _,inv ⟨by omega,hlt,hv⟩,by omega⟩
 ·have hd:decide ((k:Int)<l.length)=false:=by simpa using hlt
  have hk:k=l.length:=by omega
  rw [hk,List.drop_length,V6] at hv;rw [hv];repeat' ((with_reducible apply wr)<;>try simp only [go_sem,seval,hd])
  exact ⟨_,_,GL.refl _ _,rfl,rfl⟩
theorem B7g (l:List (List UInt8)):A3 (l.map DV.str)=l.map DV.str:=A2a (fun _=>rfl) l
theorem c_amongO (L:List Tok) (E:Int) (s:Rd) (K:Hp) (cc t b:Nat) (hK:K b=none) (ht:K t=some (rdR L E s)) (htc:t<cc) (l:List (List UInt8)) (hl:l.length<=1000000) :
  AC Tryz.prog 72 [.ptr t 0,.slc b 0 l.length] (K.upd b ⟨1,true,l.map DV.str⟩) cc (fun v H' c'=>v=I64 (C1 L E s l)/\H'=K) :=
 AC.ghost (GL.frzS (id:=b) A0 rfl (fun j=>by
  by_cases e:j=b
  ·subst e;exact .inl hK
  ·exact .inr ⟨e,(A2 e).symm⟩) (.cons _ _ _ _ (.same _) (.cons _ _ _ _ (Q5 (u:=1) (by simp) (J9 _) ⟨[],by rw [A1E,B7g]⟩) .nil))) (c_among L E s K cc t ht htc l hl)
theorem E1o {ρ : Ren} {v:Value} {a b c e:DV} (h:VRel ρ (.agg [a,b,c,.snil,e]) v):VRel ρ (.agg [a,b,c,.lst [],e]) v:=by
 obtain ⟨bb,rfl,k1,k2⟩:=h.agg_inv;refine .agg _ _ k1 fun j x y hx hy=>?_
 match j with
 | 0=>cases hx;exact k2 0 _ y rfl hy
 | 1=>cases hx;exact k2 1 _ y rfl hy
 | 2=>cases hx;exact k2 2 _ y rfl hy
 | 3=>cases hx;exact (k2 3 _ y rfl hy).snil_lst
 | 4=>cases hx;exact k2 4 _ y rfl hy
 | _+5=>cases hx
theorem A8s {K H':Hp} {cc:Nat} {a b c e:DV} (hK:∀ i,cc<=i->K i=none) (h:∀ j,j<cc->H' j=K j):GL H' [.agg [a,b,c,.snil,e]] K [.agg [a,b,c,.lst [],e]] :=
 (S5 hK h).trans (GL.view fun ρ vs hA=>R3 (fun v h=>E1o h) vs hA)
theorem rv5 {s:Sym.St} {x i u:Nat} {a b c d e:DV} {o:Bool} (h:s.T x=.ptr i 0) (hb:s.H i=some ⟨u,o,[a,b,c,d,e]⟩):A5l s [.cell x 5 true]=some (.agg [a,b,c,d,e]):=by
 simp only [A5l,A3l,h,ldv,hb];rfl
theorem A3x (L:List Tok) (E:Int) (s:Rd):∀ (l:List (List UInt8)) (k:Nat), -1<=V6 L E s k l/\V6 L E s k l<((k+l.length:Nat):Int)
 | [],k=>by simp [V6];omega
 | x :: l,k=>by
  have:=A3x L E s l (k+1);unfold V6;split
  ·simp only [A0E];omega
  ·simp only [A0E];omega
theorem D8t {L:List Tok} {E:Int} {s:Rd} {n m e:Int}:(C4 L E s n m e).i=s.i:=by unfold C4 L8;split<;>(try split)<;>rfl
abbrev tkB (a:Tok):Blk:=⟨0,true,[I64 a.kind,.str a.text,I64 a.value,I64 a.pos]⟩
abbrev C5y:Blk:=⟨0,true,[I64 0,I64 0,.str [],.snil,I64 0]⟩
theorem c_primary (L:List Tok) (E:Int) (s:Rd) (H:Hp) (cc t:Nat) (ht:H t=some (rdR L E s)) (htc:t<cc) (hi:s.i<=9999999999) (ho:0<=s.ops/\s.ops<=100):AC Tryz.prog 151 [.ptr t 0] H cc (fun v H' c'=>v=(I4 L E s).1.v/\H'=H.upd t (rdR L E (I4 L E s).2)):=by
 refine AC.bodyT A9 rfl (A0B rfl) fun hfr=>?_;repeat' ((with_reducible apply wr)<;>try simp only [go_sem,seval])
 refine AC.call (c_peek L E s _ _ t (by rw [A2 (by omega)];exact ht) (by omega)) ?_;rintro v H' c1 ⟨rfl,rfl⟩ hc;have ne0:=V1 t cc c1 (c1+1) (by omega);simp only [go_sem,seval,ne0,A0,A1];repeat' ((with_reducible apply wr)<;>try simp only [go_sem,seval,ne0,A0,A1])
 have ham:=c_amongO L E s ((H.upd cc ⟨0,true,[I64 0,I64 0,.str [],.snil,I64 0]⟩).upd c1 ⟨0,true,[I64 (B5 L E s).kind,.str (B5 L E s).text,I64 (B5 L E s).value,I64 (B5 L E s).pos]⟩) (c1+1+1) t (c1+1) (by rw [A2 (by omega),A2 (by omega)];exact hfr _ (by omega)) (by rw [A2 (by omega),A2 (by omega)];exact ht) (by omega) F2 (by decide);refine AC.call ham ?_;rintro v H' c2 ⟨rfl,rfl⟩ hc2;have hpr:I4 L E s=I4 L E s:=rfl
 conv at hpr=>rhs;unfold I4
 have hkr : -1<=C1 L E s F2/\C1 L E s F2<7:=A3x L E s F2 0;generalize C1 L E s F2=k at hpr hkr;have hk0 : -1<=k/\k<7:=hkr;have hw:IntKind.i64.wrap (s.ops+1)=s.ops+1:=w64 (by omega) (by omega);have tail:∀ c3,c2<=c3->¬(k<0/\I0 L E s 3=false/\I0 L E s 1=false)->IW Tryz.prog 78 (pz Tryz.prog 151 (.i (.o (.o (.o .h))))) ⟨tm [(0,.ptr t 0),(2,.ptr cc 0),(3,.ptr c1 0),(4,I64 k),(22,.bool false)],(H.upd cc C5y).upd c1 (tkB (B5 L E s)),c3⟩ (rt [.cell 2 5 true] fun v H' c' => ∃ v2 H2,GL H' [v] H2 [v2]/\v2=(I4 L E s).1.v/\H2=H.upd t (rdR L E (I4 L E s).2)):=by
  intro c3 hc3 hcd;rw [if_neg hcd] at hpr;dsimp only at hpr;repeat' ((with_reducible apply wr)<;>try simp only [go_sem,seval,ht,hw,ne0,A0,A1])
  refine AC.call (c_limit L E { s with ops:=s.ops+1 } _ _ t A0 (by omega) _ _ _) ?_;rintro v H' c4 ⟨rfl,rfl⟩ hc4;have hi2:(C4 L E { s with ops:=s.ops+1 } (s.ops+1) 32 9).i=s.i:=D8t;generalize C4 L E { s with ops:=s.ops+1 } (s.ops+1) 32 9=s2 at *;simp only [go_sem,seval,A1];repeat' ((with_reducible apply wr)<;>try simp only [go_sem,seval,A1])
  refine AC.call (c_rdok L E s2 _ _ t A0 (by omega)) ?_;rintro v H' c5 ⟨rfl,rfl⟩ hc5;have hG:∀ (b5:Blk) (j:Nat),j<cc->(((H.upd cc b5).upd c1 (tkB (B5 L E s))).upd t (rdR L E s2)) j=(H.upd t (rdR L E s2)) j:=fun b5 j hj=>by simp [Hp.upd,show ¬j=cc by omega,show ¬j=c1 by omega]
  cases h2:okR s2 with
  | false =>
   rw [if_pos h2] at hpr;rw [hpr];simp only [go_sem,seval,h2];repeat' ((with_reducible apply wr)<;>try simp only [go_sem,seval,h2,ne0,A0,A1])
   rw [E7 (v:=.agg [I64 0,I64 0,.str [],.snil,I64 0]) (rv5 rfl A0)];refine ⟨_,_,A8s (cc:=cc) (D7 hfr htc) (fun j hj=>?_),rfl,rfl⟩;simp [Hp.upd,show ¬j=cc by omega,show ¬j=c1 by omega]
  | true =>
   rw [if_neg (by simp [h2])] at hpr;have hw2:IntKind.i64.wrap ((s2.i:Int)+1)=((s2.i+1:Nat):Int):=by rw [w64 (by omega) (by omega)];omega
   simp only [go_sem,seval,h2];by_cases hk1:0<=k
   ·rw [if_pos hk1] at hpr;have hd1:decide (k≥0)=true:=by simpa using hk1
    have ne0:=A1s t cc c1 c5 (c5+7) (by omega);by_cases h4:4<=k
    ·rw [if_pos h4] at hpr;rw [hpr];rcases (show k=4\/k=5\/k=6 by omega) with rfl|rfl|rfl
     all_goals
      repeat' ((with_reducible apply wr)<;>try simp only [go_sem,seval,h2,hw2,hd1,ne0,A0,A1])
      refine AC.call (c_name L E (A7 s2) _ _ t (by repeat (first|exact A0|rw [A2 (by omega)])) (by omega) (by show s2.i+1<=10000000000;omega)) ?_;rintro v H' c6 ⟨rfl,rfl⟩ hc6;simp only [go_sem,seval,ne0,A0,A1];repeat' ((with_reducible apply wr)<;>try simp only [go_sem,seval,ne0,A0,A1])
      rw [E7 (rv5 rfl A0)];refine ⟨_,_,A8s (cc:=cc) (D7 hfr htc) (fun j hj=>?_),rfl,rfl⟩;simp [Hp.upd,show ¬j=cc by omega,show ¬j=c1 by omega,show ¬j=c5 by omega,show ¬j=c5+7 by omega];try (split<;>rfl)
    ·rw [if_neg h4] at hpr;rw [hpr];rcases (show k=0\/k=1\/k=2\/k=3 by omega) with rfl|rfl|rfl|rfl
     all_goals
      repeat' ((with_reducible apply wr)<;>try simp only [go_sem,seval,h2,hw2,hd1,ne0,A0,A1])
      rw [E7 (rv5 rfl A0)];refine ⟨_,_,A8s (cc:=cc) (D7 hfr htc) (fun j hj=>?_),rfl,rfl⟩;simp [Hp.upd,show ¬j=cc by omega,show ¬j=c1 by omega,show ¬j=c5 by omega,show ¬j=c5+7 by omega];rfl
   ·rw [if_neg hk1] at hpr;have hd1:decide (k≥0)=false:=by simpa using hk1
    by_cases h3:(B5 L E s).kind=3
    ·rw [if_pos h3] at hpr;rw [hpr];have hd3:((B5 L E s).kind == 3)=true:=by simpa using h3
     repeat' ((with_reducible apply wr)<;>try simp only [go_sem,seval,h2,hw2,hd1,hd3,ne0,A0,A1])
     rw [E7 (v:=.agg [I64 1,I64 (B5 L E s).value,.str [],.snil,I64 (B5 L E s).pos]) (rv5 rfl A0)];refine ⟨_,_,A8s (cc:=cc) (D7 hfr htc) (fun j hj=>?_),rfl,rfl⟩;simp [Hp.upd,show ¬j=cc by omega,show ¬j=c1 by omega];rfl
    ·rw [if_neg h3] at hpr;rw [hpr];have hd3:((B5 L E s).kind == 3)=false:=by simpa using h3
     repeat' ((with_reducible apply wr)<;>try simp only [go_sem,seval,h2,hw2,hd1,hd3,ne0,A0,A1])
     rw [E7 (v:=.agg [I64 2,I64 0,.str (B5 L E s).text,.snil,I64 (B5 L E s).pos]) (rv5 rfl A0)];refine ⟨_,_,A8s (cc:=cc) (D7 hfr htc) (fun j hj=>?_),rfl,rfl⟩;simp [Hp.upd,show ¬j=cc by omega,show ¬j=c1 by omega];rfl
 have hGt:∀ b5:Blk,((H.upd cc b5).upd c1 (tkB (B5 L E s))) t=some (rdR L E s):=fun b5=>by rw [A2 (by omega),A2 (by omega)];exact ht
 by_cases hk1:k<0
 ·have hd:decide (k<0)=true:=by simpa using hk1
  simp only [go_sem,seval,ne0,hd];repeat' ((with_reducible apply wr)<;>try simp only [go_sem,seval,ne0,hd])
  refine AC.call (c_isKind L E s _ _ t (hGt _) (by omega) 3) ?_;rintro v H' c3 ⟨rfl,rfl⟩ hc3;cases h3:I0 L E s 3 with
  | true =>
   simp only [go_sem,seval,h3];repeat' ((with_reducible first|refine G8 (p:=IW _ _ (pz Tryz.prog 151 (.i (.o (.o (.o .h))))) _ _) ?_|refine wr ?_|fail)<;>try simp only [go_sem,seval,h3])
   exact tail _ (by omega) (by simp [h3])
  | false =>
   simp only [go_sem,seval,h3];repeat' ((with_reducible apply wr)<;>try simp only [go_sem,seval,h3])
   refine AC.call (c_isKind L E s _ _ t (hGt _) (by omega) 1) ?_;rintro v H' c4 ⟨rfl,rfl⟩ hc4;cases h1:I0 L E s 1 with
   | true =>
    simp only [go_sem,seval,h1];repeat' ((with_reducible first|refine G8 (p:=IW _ _ (pz Tryz.prog 151 (.i (.o (.o (.o .h))))) _ _) ?_|refine wr ?_|fail)<;>try simp only [go_sem,seval,h1])
    exact tail _ (by omega) (by simp [h1])
   | false =>
    rw [if_pos ⟨hk1,h3,h1⟩] at hpr;rw [hpr];simp only [go_sem,seval,h1];repeat' ((with_reducible apply wr)<;>try simp only [go_sem,seval,h1])
    refine AC.call (c_syntax L E s _ _ t (hGt _) (by omega)) ?_;rintro v H' c5 ⟨rfl,rfl⟩ hc5;simp only [go_sem,seval,ne0,A0];repeat' ((with_reducible apply wr)<;>try simp only [go_sem,seval,ne0,A0])
    rw [E7 (rv5 rfl A0)];refine ⟨_,_,A8s (cc:=cc) (D7 hfr htc) (fun j hj=>?_),rfl,rfl⟩;simp [Hp.upd,show ¬j=cc by omega,show ¬j=c1 by omega]
 ·have hd:decide (k<0)=false:=by simpa using hk1
  simp only [go_sem,seval,ne0,hd];repeat' ((with_reducible first|refine G8 (p:=IW _ _ (pz Tryz.prog 151 (.i (.o (.o (.o .h))))) _ _) ?_|refine wr ?_|fail)<;>try simp only [go_sem,seval,hd])
  exact tail _ (by omega) fun h=>hk1 h.1
end Go.Proofs.YtnmkkggfgdfmeaaGreatDoor
namespace Go.Pb
variable [Go.Sym.Tab]
open Go.Sym
section
variable {L:List Tok} {E:Int}
theorem A7n {s:Rd} {p e:Int} (he:e≠0):okR (L8 s p e)=false:=by
 unfold L8;split
 ·simp [okR,he]
 ·rename_i h;simpa using h
theorem A0k {s:Rd}:okR (O2 L E s)=false:=A7n (by decide)
theorem G3 {s:Rd} {n m e:Int} (he:e≠0) (h:okR (C4 L E s n m e)=true):okR s=true/\n<=m/\C4 L E s n m e=s:=by
 unfold C4 at h ⊢;split at h
 ·rw [A7n he] at h;cases h
 ·rename_i hn;rw [if_neg hn];exact ⟨h,by omega,rfl⟩
theorem A1b {s:Rd} {t:List UInt8} (h:isR L E s t=true):okR s=true/\s.i<L.length:=by
 unfold isR at h;simp only [A0G,A0Z,A1K] at h;refine ⟨h.1.1,?_⟩;by_cases hi:s.i<L.length
 ·exact hi
 ·have e:B5 L E s=⟨0,[],0,E⟩:=by unfold B5;rw [A0X,A2I (by omega)];rfl
  rw [e] at h;simp at h
theorem H7 {s:Rd} {k:Int} (h:I0 L E s k=true):okR s=true/\(B5 L E s).kind=k:=by
 unfold I0 at h;simp only [A0G,A1K] at h;exact h
theorem J4 {s:Rd} {k:Int} (hk:k≠0) (h:(B5 L E s).kind=k):B5 L E s∈L/\s.i<L.length:=by
 by_cases hi:s.i<L.length
 ·refine ⟨?_,hi⟩;unfold B5;rw [A0X,A0C hi];exact A0O hi
 ·exfalso;have e:B5 L E s=⟨0,[],0,E⟩:=by unfold B5;rw [A0X,A2I (by omega)];rfl
  rw [e] at h;exact hk h.symm
theorem A8w {s:Rd} {t:List UInt8} (h:okR (D1 L E s t)=true):isR L E s t=true/\D1 L E s t=A7 s:=by
 unfold D1 at h ⊢;cases hi:isR L E s t with
 | false=>rw [hi] at h;simp only [if_true] at h;rw [A0k] at h;cases h
 | true=>simp
theorem A0j {s:Rd} {k:Int} (h:okR (B2 L E s k).2=true):I0 L E s k=true/\B2 L E s k=(B5 L E s,A7 s):=by
 unfold B2 at h ⊢;cases hi:I0 L E s k with
 | false=>rw [hi] at h;simp only [if_true] at h;rw [A0k] at h;cases h
 | true=>simp
theorem G5 {s:Rd}:∀ {l:List (List UInt8)} {k:Nat},0<=V6 L E s k l->okR s=true/\s.i<L.length/\(k:Int)<=V6 L E s k l/\V6 L E s k l<(k+l.length:Nat)
 | [],k,h=>by simp [V6] at h
 | t :: l,k,h=>by
  unfold V6 at h ⊢;cases hi:isR L E s t with
  | true =>
   rw [if_pos rfl];obtain ⟨h1,h2⟩:=A1b hi;exact ⟨h1,h2,A3K _,by simp only [A0E];omega⟩
  | false =>
   rw [hi] at h;simp only [A1O,if_false] at h ⊢;obtain ⟨h1,h2,h3,h4⟩:=G5 h;exact ⟨h1,h2,by omega,by simp only [A0E];omega⟩
end
structure RI (L:List Tok) (s:Rd):Prop where
 i:s.i<=L.length
 o0:0<=s.ops
 o1:s.ops<=33
 o2:okR s=true->s.ops<=32
 p0:0<=s.par
 p1:s.par<=16
section
variable {L:List Tok} {E:Int}
theorem RI.fail {s:Rd} {p e:Int} (he:e≠0) (h:RI L s):RI L (L8 s p e)/\(L8 s p e).par=s.par:=by
 have hk:=A7n (s:=s) (p:=p) he;have e1:(L8 s p e).i=s.i:=by unfold L8;split<;>rfl
 have e2:(L8 s p e).ops=s.ops:=by unfold L8;split<;>rfl
 have e3:(L8 s p e).par=s.par:=by unfold L8;split<;>rfl
 exact ⟨⟨by rw [e1];exact h.i,by rw [e2];exact h.o0,by rw [e2];exact h.o1,(fun k=>by rw [hk] at k;cases k),by rw [e3];exact h.p0,by rw [e3];exact h.p1⟩,e3⟩
theorem RI.syn {s:Rd} (h:RI L s):RI L (O2 L E s)/\(O2 L E s).par=s.par:=h.fail (by decide)
theorem RI.lim {s:Rd} {n m e:Int} (he:e≠0) (h:RI L s):RI L (C4 L E s n m e)/\(C4 L E s n m e).par=s.par:=by
 unfold C4;split
 ·exact h.fail he
 ·exact ⟨h,rfl⟩
theorem RI.nxt {s:Rd} (h:RI L s) (hi:s.i<L.length):RI L (A7 s):=⟨hi,h.o0,h.o1,h.o2,h.p0,h.p1⟩
theorem RI.exp {s:Rd} {x:List UInt8} (h:RI L s):RI L (D1 L E s x)/\(D1 L E s x).par=s.par:=by
 unfold D1;cases k:isR L E s x with
 | false=>rw [if_pos rfl];exact h.syn
 | true=>rw [if_neg (by simp)];exact ⟨h.nxt (A1b k).2,rfl⟩
theorem RI.take {s:Rd} {x:Int} (hx:x≠0) (h:RI L s):RI L (B2 L E s x).2/\(B2 L E s x).2.par=s.par:=by
 unfold B2;cases k:I0 L E s x with
 | false=>rw [if_pos rfl];exact h.syn
 | true=>rw [if_neg (by simp)];exact ⟨h.nxt (J4 hx (H7 k).2).2,rfl⟩
theorem RI.prim {s:Rd} (h:RI L s):RI L (I4 L E s).2/\(I4 L E s).2.par=s.par:=by
 unfold I4;dsimp only;split
 ·exact h.syn
 ·rename_i hc;have hok:okR s=true/\s.i<L.length:=by
   by_cases hk:0<=C1 L E s F2
   ·obtain ⟨h1,h2, -⟩:=G5 hk;exact ⟨h1,h2⟩
   ·cases h3:I0 L E s 3 with
    | true=>exact ⟨(H7 h3).1,(J4 (by decide) (H7 h3).2).2⟩
    | false =>
     cases h1:I0 L E s 1 with
     | true=>exact ⟨(H7 h1).1,(J4 (by decide) (H7 h1).2).2⟩
     | false=>exact absurd ⟨by omega,h3,h1⟩ hc
  have h32:=h.o2 hok.1;have ho:=h.o0;obtain ⟨s2,hs2⟩:∃ s2,s2=C4 L E { s with ops:=s.ops+1 } (s.ops+1) 32 9:=⟨_,rfl⟩;rw [<- hs2];cases h2:okR s2 with
  | false =>
   rw [if_pos rfl];have e1:s2.i=s.i:=by rw [hs2];unfold C4 L8;split<;>(try split)<;>rfl
   have e2:s2.ops=s.ops+1:=by rw [hs2];unfold C4 L8;split<;>(try split)<;>rfl
   have e3:s2.par=s.par:=by rw [hs2];unfold C4 L8;split<;>(try split)<;>rfl
   refine ⟨⟨?_,?_,?_,(fun k=>by rw [h2] at k;cases k),?_,?_⟩,e3⟩<;>dsimp only
   ·rw [e1];exact h.i
   ·omega
   ·omega
   ·rw [e3];exact h.p0
   ·rw [e3];exact h.p1
  | true =>
   rw [if_neg (by simp)];rw [hs2] at h2;obtain ⟨-,h4,h5⟩:=G3 (by decide) h2;rw [h5] at hs2;have h3:RI L (A7 s2):=by
    rw [hs2];exact ⟨hok.2,by show 0<=s.ops+1;omega,by show s.ops+1<=33;omega,fun _=>h4,h.p0,h.p1⟩
   have hp:(A7 s2).par=s.par:=by rw [hs2];rfl
   repeat' split
   ·exact ⟨(h3.take (by decide)).1,(h3.take (by decide)).2.trans hp⟩
   all_goals exact ⟨h3,hp⟩
theorem RI.all:∀ f:Nat,(∀ n s r,I7 L E f n s=some r->RI L s->RI L r.2/\r.2.par=s.par)/\(∀ n e s r,O5 L E f n e s=some r->RI L s->RI L r.2/\r.2.par=s.par)/\(∀ s r,S6 L E f s=some r->RI L s->RI L r.2/\r.2.par=s.par)
 | 0=>⟨fun n s r h=>by simp [I7] at h,fun n e s r h=>by simp [O5] at h,fun s r h=>by simp [S6] at h⟩
 | f+1=>by
  obtain ⟨i1,i2,i3⟩:=RI.all f;refine ⟨fun n s r h k=>?_,fun n e s r h k=>?_,fun s r h k=>?_⟩
  ·unfold I7 at h;split at h
   ·exact i3 _ _ h k
   ·cases hb:I7 L E f (n+1) s with
    | none=>rw [hb] at h;cases h
    | some q =>
     obtain ⟨e,s1⟩:=q;rw [hb] at h;obtain ⟨a1,a2⟩:=i1 _ _ _ hb k;obtain ⟨b1,b2⟩:=i2 _ _ _ _ h a1;exact ⟨b1,b2.trans a2⟩
  ·unfold O5 at h;dsimp only at h;split at h
   ·cases h;exact ⟨k,rfl⟩
   ·rename_i hk;have hk0:0<=C1 L E s C5:=Classical.byContradiction fun g=>hk (.inl (by omega));obtain ⟨-,hi, -⟩:=G5 hk0;cases hb:I7 L E f (n+1) (A7 s) with
    | none=>rw [hb] at h;cases h
    | some q =>
     obtain ⟨x,s1⟩:=q;rw [hb] at h;obtain ⟨a1,a2⟩:=i1 _ _ _ hb (k.nxt hi);dsimp only at h;split at h
     ·cases h;exact ⟨a1,a2⟩
     ·obtain ⟨b1,b2⟩:=i2 _ _ _ _ h a1;exact ⟨b1,b2.trans a2⟩
  ·unfold S6 at h;dsimp only at h;split at h
   ·cases h;exact k.prim
   ·rename_i hk;have hk0:0<=C1 L E s K5:=by omega
    obtain ⟨-,hi, -⟩:=G5 hk0;split at h
    ·cases h;exact k.lim (by decide)
    ·rename_i hl;have hl:okR (C4 L E s (s.par+1) 16 50)=true:=by simpa using hl
     obtain ⟨h1,h2,h3⟩:=G3 (by decide) hl;rw [h3] at h;have k2:RI L { s with i:=s.i+1,par:=s.par+1 }:=⟨hi,k.o0,k.o1,k.o2,by have:=k.p0;show 0<=s.par+1;omega,h2⟩;have fin:∀ z:Rd,RI L z->z.par=s.par+1->RI L { z with par:=z.par-1 }/\z.par-1=s.par:=fun z hz hp =>
      ⟨⟨hz.i,hz.o0,hz.o1,hz.o2,by have:=k.p0;show 0<=z.par-1;omega,by have:=k.p1;show z.par-1<=16;omega⟩,by omega⟩
     split at h
     ·cases hb:I7 L E f 1 { s with i:=s.i+1,par:=s.par+1 } with
      | none=>rw [hb] at h;cases h
      | some q =>
       obtain ⟨e,s3⟩:=q;rw [hb] at h;cases h;obtain ⟨a1,a2⟩:=i1 _ _ _ hb k2;obtain ⟨b1,b2⟩:=a1.exp (E:=E) (x:=[41]);exact fin _ b1 (b2.trans a2)
     ·cases hb:S6 L E f { s with i:=s.i+1,par:=s.par+1 } with
      | none=>rw [hb] at h;cases h
      | some q =>
       obtain ⟨e,s3⟩:=q;rw [hb] at h;cases h;obtain ⟨a1,a2⟩:=i3 _ _ hb k2;exact fin _ a1 a2
theorem C5v {s:Rd} {p e:Int}:(L8 s p e).i=s.i:=by unfold L8;split<;>rfl
theorem T6 {s:Rd}:(O2 L E s).i=s.i:=C5v
theorem F7 {s:Rd} {n m e:Int}:(C4 L E s n m e).i=s.i:=by unfold C4;split;exact C5v;rfl
theorem J5 {s:Rd} {x:List UInt8} (h:s.i<=L.length):(D1 L E s x).i<=L.length:=by
 unfold D1;cases k:isR L E s x with
 | false=>rw [if_pos rfl,T6];exact h
 | true=>rw [if_neg (by simp)];exact (A1b k).2
theorem L2 {s:Rd} {x:Int} (hx:x≠0) (h:s.i<=L.length):(B2 L E s x).2.i<=L.length:=by
 unfold B2;cases k:I0 L E s x with
 | false=>rw [if_pos rfl,T6];exact h
 | true=>rw [if_neg (by simp)];exact (J4 hx (H7 k).2).2
theorem Q6 {f:Nat} {s:Rd} {r:Ex × Rd} (h:Q7 L E f s=some r) (hi:s.i<=L.length):r.2.i<=L.length :=
 ((RI.all f).1 1 { s with ops:=0,par:=0 } r h ⟨hi,A3K 0,(by decide:(0:Int)<=33),fun _=>(by decide:(0:Int)<=32),A3K 0,(by decide:(0:Int)<=16)⟩).1.i
theorem D3i {f:Nat} {k p:Int} {s:Rd} {r:St × Rd} (h:I9 L E f k p s=some r) (hi:s.i<=L.length):r.2.i<=L.length:=by
 unfold I9 at h;dsimp only at h;split at h
 ·split at h
  ·cases h
  ·rename_i he;cases h;exact J5 (Q6 he hi)
 split at h
 ·split at h
  ·cases h
  ·rename_i he;cases h;exact J5 (Q6 he (J5 (L2 (by decide) hi)))
 split at h
 ·cases h;exact J5 hi
 have h0:=L2 (E:=E) (x:=1) (by decide) hi;split at h
 ·split at h
  ·cases h
  ·rename_i he;split at h
   ·split at h
    ·cases h
    ·rename_i he2;cases h;exact J5 (Q6 he2 (J5 (Q6 he h0)))
   ·cases h;exact J5 (Q6 he h0)
 ·cases h;exact J5 h0
theorem D3k {f:Nat} {d:Int} {s:Rd} {r:St × Rd} (h:R8 L E f d s=some r) (ho:okR s=false):okR r.2=false:=by
 cases f with
 | zero=>simp [R8] at h
 | succ f =>
  have hl:okR (C4 L E s d 8 50)=false:=by
   cases k:okR (C4 L E s d 8 50) with
   | false=>rfl
   | true=>rw [(G3 (by decide) k).1] at ho;cases ho
  unfold R8 at h;dsimp only at h;rw [if_pos hl] at h;cases h;exact hl
theorem II.all:∀ f:Nat,(∀ d s r,M0 L E f d s=some r->s.i<=L.length->r.2.i<=L.length)/\(∀ d l s r,P4 L E f d l s=some r->s.i<=L.length->r.2.i<=L.length)/\(∀ d s r,R8 L E f d s=some r->s.i<=L.length->r.2.i<=L.length)/\(∀ d s r,Q1 L E f d s=some r->s.i<=L.length->r.2.i<=L.length)
 | 0=>⟨fun d s r h=>by simp [M0] at h,fun d l s r h=>by simp [P4] at h,fun d s r h=>by simp [R8] at h,fun d s r h=>by simp [Q1] at h⟩
 | f+1=>by
  obtain ⟨i1,i2,i3,i4⟩:=II.all f;refine ⟨fun d s r h k=>?_,fun d l s r h k=>?_,fun d s r h k=>?_,fun d s r h k=>?_⟩
  ·unfold M0 at h;exact i2 _ _ _ _ h (J5 k)
  ·unfold P4 at h;split at h
   ·split at h
    ·cases h;rw [T6];exact k
    ·split at h
     ·cases h
     ·rename_i he;exact i2 _ _ _ _ h (i3 _ _ _ he (by rw [F7];exact k))
   ·cases h;exact J5 k
  ·unfold R8 at h;dsimp only at h;split at h
   ·cases h;rw [F7];exact k
   ·split at h
    ·split at h
     ·cases h
     ·rename_i he;cases h;exact J5 (Q6 he (J5 (L2 (by decide) (by rw [F7];exact k))))
    ·rename_i hk;have hn:(A7 (C4 L E s d 8 50)).i<=L.length:=(G5 (show 0<=C1 L E (C4 L E s d 8 50) C0 by omega)).2.1;split at h
     ·split at h
      ·cases h
      ·rename_i he;split at h
       ·cases h
       ·rename_i hb;have h3:=i1 _ _ _ hb (Q6 he hn);split at h
        ·rename_i hc;split at h
         ·cases h
         ·rename_i ho;cases h;exact i4 _ _ _ ho (A1b hc.2).2
        ·cases h;exact h3
     ·exact D3i h hn
  ·unfold Q1 at h;split at h
   ·split at h
    ·cases h
    ·rename_i he;cases h;exact i3 _ _ _ he k
   ·exact i1 _ _ _ h k
end
end Go.Pb
namespace Go.Sym
variable [Go.Sym.Tab]
variable {P:Program}
section
open Go.Eng (IC)
variable {N:Nat} {x:IC} {T:Tm} {H:Hp} {c:Nat} {Q:Exit->St->Prop}
theorem IW.gl {s:St} (h:IW P N x s (fun e s'=>Q e s'\/∃ (ks:List Nat) (ds':List DV) (H2:Hp),GL s'.H (ks.map s'.T) H2 ds'/\Q e ⟨tm (ks.zip ds'),H2,s'.c⟩)):IW P N x s Q:=by
 intro hm cd hc ρ a w hS;refine wp_mono (h hm cd hc ρ a w hS) fun e a' w' hq=>?_;obtain ⟨ρ2,s2,q,hS2,hst⟩:=hq;rcases q with q|⟨ks,ds',H2,g,q⟩
 ·exact ⟨ρ2,s2,q,hS2,hst⟩
 have hA:F5 ρ2 (ks.map s2.T) ((ks.map fun k=>a'.tmps.getD k undef)).toArray:=by
  refine ⟨by simp,fun i x y hx hy=>?_⟩;simp only [A2J,A0Q,A1I] at hx hy;obtain ⟨k,hk,rfl⟩:=hx;obtain ⟨k',hk',rfl⟩:=hy;rw [hk] at hk';cases hk';exact hS2.tm k
 obtain ⟨ρ1,e1,r1,a1,x1⟩:=g.2 ρ2 w' _ hS2.rep hA;refine ⟨ρ1,⟨tm (ks.zip ds'),H2,s2.c⟩,q,⟨C2h fun i k d hk hd=>a1.2 i d _ hd (by simp [hk]),r1,by rw [e1];exact hS2.fresh,hS2.size,hS2.dfr⟩,?_⟩;exact ⟨hst.up,fun id hid hne=>hst.dom id hid (g.1 id hne),fun id hid=>by rw [e1];exact hst.same id hid,hst.ext.trans x1⟩
theorem B3c:∀ {L:List (Nat × DV)} {T:Tm},C3 L T->(L.map Prod.fst).map T=L.map Prod.snd
 | [],_,_=>rfl
 | (k,v) :: r,T,⟨h1,h2⟩=>by simp only [A0T,h1,B3c h2]
theorem D2o (L:List (Nat × DV)):(L.map Prod.fst).zip (L.map Prod.snd)=L:=by
 induction L with
 | nil=>rfl
 | cons a r ih=>simp [ih]
def lpG {σ : Type} (L : σ -> List (Nat × DV)) (h : σ -> Hp) (I : σ -> Nat->Prop) (μ : σ -> Nat) (m:Nat) (Q:Exit->St->Prop):Exit->St->Prop
 | .normal,⟨T,H,c⟩ => ∃ b,C3 (L b) T/\GL H ((L b).map Prod.snd) (h b) ((L b).map Prod.snd)/\I b c /\ μ b<m
 | e,s=>Q e s
theorem D0h {σ : Type} (L : σ -> List (Nat × DV)) (h : σ -> Hp) (I : σ -> Nat->Prop) (μ : σ -> Nat) (a : σ) (hL:∀ b,C3 (L b) (tm (L b))) (h0:C3 (L a) T) (hH:Sub (h a) H) (hI:I a c)
  (step:∀ a c,I a c->IW P N x ⟨tm (L a),h a,c⟩ (lpG L h I μ (μ a) Q)):IW P N (.loop x) ⟨T,H,c⟩ Q:=by
 refine C2 L h I μ a h0 hH hI fun a c hI=>IW.gl ((step a c hI).mono fun e s' q=>?_);obtain ⟨T',H',c'⟩:=s';cases e with
 | normal =>
  obtain ⟨b,q1,q2,q3,q4⟩:=q;refine .inr ⟨(L b).map Prod.fst,(L b).map Prod.snd,h b,by rw [B3c q1];exact q2,?_⟩;rw [D2o];exact ⟨b,hL b,Sub.refl _,q3,q4⟩
 | _=>exact .inl q
theorem D8y {σ : Type} {L : σ -> List (Nat × DV)} {h : σ -> Hp} {I : σ -> Nat->Prop} {μ : σ -> Nat} {m:Nat}:lpG L h I μ m Q .normal ⟨T,H,c⟩ = ∃ b,C3 (L b) T/\GL H ((L b).map Prod.snd) (h b) ((L b).map Prod.snd)/\B5j I b c /\ μ b<m:=propext Iff.rfl
theorem D8x {σ : Type} {L : σ -> List (Nat × DV)} {h : σ -> Hp} {I : σ -> Nat->Prop} {μ : σ -> Nat} {m:Nat}:lpG L h I μ m Q .ret ⟨T,H,c⟩=Q .ret ⟨T,H,c⟩:=propext Iff.rfl
end
section
open Go.Eng (AOp)
variable {c0:Nat} {T:Tm} {H:Hp}
def agN (T:Tm) (H:Hp) (d n:Nat):Option (Option Nat × Blk)->Prop
 | some (k,b)=>T d=mkv n k/\H n=some b
 | none=>False
theorem E1c {j d:Nat} {f:AOp}:agK c0 j T H (some d) (.new f) (some true)=agN T H d (c0+j) (aev (ev T) f):=by
 simp only [agK,agN];cases aev (ev T) f with
 | none=>simp
 | some x=>obtain ⟨k,b⟩:=x;simp
theorem E1d {d n:Nat} {k:Option Nat} {b:Blk}:agN T H d n (some (k,b))=(T d=mkv n k/\H n=some b):=propext Iff.rfl
end
attribute [go_sem] E1c E1d
attribute [go_sem] D8y D8x
end Go.Sym
namespace Go.Proofs.YtnmkkggfgdfmeaaGreatDoor
open Go.Eng (IC IOper DReg IFn B8)
open Go.Sym Go.Pb
theorem c_level (k:Int):PC Tryz.prog 126 [I64 k] (I64 (B4 k)):=by
 refine PC.ofT A9 rfl (A0B rfl) (by simp [DV.nlL,DV.nl]) (by simp [DV.nlL,DV.nl]) ?_;repeat' ((with_reducible first|refine wr ?_|refine wb2 ?_ ?_<;>(intro hb;try simp only [hb])|fail)<;>try simp only [go_sem,seval])
 all_goals
  refine A6 (congrArg I64 ?_);simp only [A1K,beq_eq_false_iff_ne,A0L,A1W,A0G,A0Z,Bool.and_eq_false_iff,A4F] at *;unfold B4;repeat' split
  all_goals omega
theorem c_signs31:PC Tryz.prog 125 [] (A3b C5):=by
 refine PC.ofT A9 rfl (A0B rfl) rfl (O4 _) ?_;repeat' ((with_reducible apply wr)<;>try simp only [go_sem,seval])
 exact M6 (xs:=C5.map DV.str) (u:=1) A0 rfl rfl (J9 _) ⟨[],rfl⟩
theorem c_decls31:PC Tryz.prog 73 [] (A3b D2):=by
 refine PC.ofT A9 rfl (A0B rfl) rfl (O4 _) ?_;repeat' ((with_reducible apply wr)<;>try simp only [go_sem,seval])
 exact M6 (xs:=D2.map DV.str) (u:=1) A0 rfl rfl (J9 _) ⟨[],rfl⟩
theorem c_trigs31:PC Tryz.prog 117 [] (A3b E1):=by
 refine PC.ofT A9 rfl (A0B rfl) rfl (O4 _) ?_;repeat' ((with_reducible apply wr)<;>try simp only [go_sem,seval])
 exact M6 (xs:=E1.map DV.str) (u:=1) A0 rfl rfl (J9 _) ⟨[],rfl⟩
theorem c_stmts31:PC Tryz.prog 142 [] (A3b C0):=by
 refine PC.ofT A9 rfl (A0B rfl) rfl (O4 _) ?_;repeat' ((with_reducible apply wr)<;>try simp only [go_sem,seval])
 exact M6 (xs:=C0.map DV.str) (u:=1) A0 rfl rfl (J9 _) ⟨[],rfl⟩
theorem D2b {K H':Hp} {cc b:Nat} {a b' c e:DV} (l:List Ex) (hK:∀ i,cc<=i->K i=none) (hb0:cc<=b) (hb:H' b=some ⟨5,true,A3 (l.map Ex.v)⟩) (h:∀ j,j<cc->H' j=K j) :
  GL H' [.agg [a,b',c,.slc b 0 l.length,e]] K [.agg [a,b',c,I3 l,e]] :=
 GL.frzS (id:=b) hb rfl (fun j=>by
  by_cases hj:j<cc
  ·exact .inr ⟨by omega,(h j hj).symm⟩
  ·exact .inl (hK j (by omega))) (.cons _ _ _ _ (.agg _ _ (.cons _ _ _ _ (.same _) (.cons _ _ _ _ (.same _) (.cons _ _ _ _ (.same _) (.cons _ _ _ _ (Q5 (u:=5) (by simp) (A4u l) ⟨[],by simp⟩) (.cons _ _ _ _ (.same _) .nil)))))) .nil)
theorem A4v (e:Ex):A3 ([e].map Ex.v)=[I64 e.kind,I64 e.value,.str e.name,I3 e.args,I64 e.pos]:=by
 rw [A0T,Ex.v_w];rfl
theorem C5w (e x:Ex):A3 ([e,x].map Ex.v)=[I64 e.kind,I64 e.value,.str e.name,I3 e.args,I64 e.pos,I64 x.kind,I64 x.value,.str x.name,I3 x.args,I64 x.pos]:=by
 rw [A0T,A0T,Ex.v_w,Ex.v_w];rfl
abbrev RdC (L:List Tok) (E:Int) (f:Nat) (vs:List DV) (s:Rd) (r:DV × Rd):Prop :=
 ∀ (H:Hp) (cc t:Nat),H t=some (rdR L E s)->t<cc->AC Tryz.prog f (.ptr t 0 :: vs) H cc (fun v H' c'=>v=r.1/\H'=H.upd t (rdR L E r.2))
theorem c_unary (L:List Tok) (E:Int) (hL:L.length<=1000000000) (f:Nat)
  (ib:∀ n s r,1<=n->n<=6->I7 L E f n s=some r->RI L s->RdC L E 92 [I64 n] s (r.1.v,r.2))
  (iu:∀ s r,S6 L E f s=some r->RI L s->RdC L E 124 [] s (r.1.v,r.2))
  (s:Rd) (r:Ex × Rd) (h:S6 L E (f+1) s=some r) (hR:RI L s):RdC L E 124 [] s (r.1.v,r.2):=by
 intro H cc t ht htc;have hri:=hR.i;have hro:=hR.o0;have hro1:=hR.o1;have hp0:=hR.p0;have hp1:=hR.p1;refine AC.bodyT A9 rfl (A0B rfl) fun hfr=>?_;repeat' ((with_reducible apply wr)<;>try simp only [go_sem,seval])
 refine AC.call (c_peek L E s _ _ t (by rw [A2 (by omega)];exact ht) (by omega)) ?_;rintro v H' c1 ⟨rfl,rfl⟩ hc;have ne0:=V1 t cc c1 (c1+1) (by omega);simp only [go_sem,seval,ne0,A0,A1];repeat' ((with_reducible apply wr)<;>try simp only [go_sem,seval,ne0,A0,A1])
 have ham:=c_amongO L E s ((H.upd cc C5y).upd c1 (tkB (B5 L E s))) (c1+1+1) t (c1+1) (by rw [A2 (by omega),A2 (by omega)];exact hfr _ (by omega)) (by rw [A2 (by omega),A2 (by omega)];exact ht) (by omega) K5 (by decide);refine AC.call ham ?_;rintro v H' c2 ⟨rfl,rfl⟩ hc2;unfold S6 at h;dsimp only at h;have hkr : -1<=C1 L E s K5/\C1 L E s K5<3:=A3x L E s K5 0;have hnn:0<=C1 L E s K5->s.i<L.length:=fun h=>(G5 h).2.1;generalize C1 L E s K5=k at h hkr hnn;have hGt:((H.upd cc C5y).upd c1 (tkB (B5 L E s))) t=some (rdR L E s):=by rw [A2 (by omega),A2 (by omega)];exact ht
 by_cases hk:k<0
 ·rw [if_pos hk] at h;cases h;have hd:decide (k<0)=true:=by simpa using hk
  simp only [go_sem,seval,ne0,hd];repeat' ((with_reducible apply wr)<;>try simp only [go_sem,seval,ne0,hd])
  refine AC.call (c_primary L E s _ _ t hGt (by omega) (by omega) (by omega)) ?_;rintro v H' c3 ⟨rfl,rfl⟩ hc3;simp only [go_sem,seval,ne0,A0,A1,Ex.v_w];repeat' ((with_reducible apply wr)<;>try simp only [go_sem,seval,ne0,A0,A1])
  rw [E7 (rv5 rfl A0)];refine ⟨_,_,S5 (cc:=cc) (D7 hfr htc) (fun j hj=>?_),rfl,rfl⟩;simp [Hp.upd,show ¬j=cc by omega,show ¬j=c1 by omega]
 ·rw [if_neg hk] at h;have hd:decide (k<0)=false:=by simpa using hk
  have hw:IntKind.i64.wrap (s.par+1)=s.par+1:=w64 (by omega) (by omega);have hw2:IntKind.i64.wrap ((s.i:Int)+1)=((s.i+1:Nat):Int):=by rw [w64 (by omega) (by omega)];omega
  have hw3:IntKind.i64.wrap (10+k)=10+k:=w64 (by omega) (by omega);simp only [go_sem,seval,ne0,hd];repeat' ((with_reducible apply wr)<;>try simp only [go_sem,seval,ne0,hd,ht,hw])
  refine AC.call (c_limit L E s _ _ t hGt (by omega) _ _ _) ?_;rintro v H' c3 ⟨rfl,rfl⟩ hc3;simp only [go_sem,seval,ne0];repeat' ((with_reducible apply wr)<;>try simp only [go_sem,seval,ne0])
  refine AC.call (c_rdok L E _ _ _ t A0 (by omega)) ?_;rintro v H' c4 ⟨rfl,rfl⟩ hc4;cases h2:okR (C4 L E s (s.par+1) 16 50) with
  | false =>
   rw [if_pos h2] at h;cases h;simp only [go_sem,seval,h2];repeat' ((with_reducible apply wr)<;>try simp only [go_sem,seval,h2,ne0,A0,A1])
   rw [E7 (rv5 rfl A0)];refine ⟨_,_,A8s (cc:=cc) (D7 hfr htc) (fun j hj=>?_),rfl,rfl⟩;simp [Hp.upd,show ¬j=cc by omega,show ¬j=c1 by omega]
  | true =>
   rw [if_neg (by simp [h2])] at h;obtain ⟨h3,h4,h5⟩:=G3 (by decide) h2;rw [h5] at h h2 ⊢;simp only [go_sem,seval,h2];have ne0:=V1 t cc c1 c4 (by omega);have k2:RI L { s with i:=s.i+1,par:=s.par+1 }:=⟨hnn (by omega),hro,hro1,hR.o2,by show 0<=s.par+1;omega,h4⟩;by_cases hk2:k=2
   ·subst hk2;rw [if_pos rfl] at h;cases hb:I7 L E f 1 { s with i:=s.i+1,par:=s.par+1 } with
    | none=>rw [hb] at h;cases h
    | some q =>
     obtain ⟨e,s3⟩:=q;rw [hb] at h;dsimp only at h;obtain ⟨a1,a2⟩:=(RI.all f).1 _ _ _ hb k2;obtain ⟨b1,b2⟩:=a1.exp (E:=E) (x:=[41]);have hi3:=a1.i;dsimp only at a2 b2 hi3;repeat' ((with_reducible apply wr)<;>try simp only [go_sem,seval,h2,hw,hw2,ne0,A0,A1])
     refine AC.call (ib 1 _ (e,s3) (by decide) (by decide) hb k2 _ _ t (by rw [A2 (by omega),A0]) (by omega)) ?_;rintro v H' c5 ⟨rfl,rfl⟩ hc5;dsimp only;simp only [go_sem,seval,ne0,A0,A1,Ex.v_w];repeat' ((with_reducible apply wr)<;>try simp only [go_sem,seval,ne0,A0,A1])
     refine AC.call (c_expect L E s3 _ _ t (by repeat (first|exact A0|rw [A2 (by omega)])) (by omega) (by omega) _) ?_;rintro v H' c6 ⟨rfl,rfl⟩ hc6;obtain ⟨s4,hs4⟩:∃ s4,s4=D1 L E s3 [41]:=⟨_,rfl⟩;rw [<- hs4] at h b1 b2 ⊢;have hw5:IntKind.i64.wrap (s4.par-1)=s4.par-1:=w64 (by omega) (by omega);cases h;simp only [go_sem,seval,ne0,A0,A1,Ex.v_w];repeat' ((with_reducible apply wr)<;>try simp only [go_sem,seval,hw5,ne0,A0,A1])
     rw [E7 (rv5 rfl A0)];refine ⟨_,_,S5 (cc:=cc) (D7 hfr htc) (fun j hj=>?_),rfl,rfl⟩;simp [Hp.upd,show ¬j=cc by omega,show ¬j=c1 by omega,show ¬j=c4 by omega];try (split<;>rfl)
   ·rw [if_neg hk2] at h;have hd2:(k == 2)=false:=by simpa using hk2
    cases hb:S6 L E f { s with i:=s.i+1,par:=s.par+1 } with
    | none=>rw [hb] at h;cases h
    | some q =>
     obtain ⟨e,s3⟩:=q;rw [hb] at h;dsimp only at h;obtain ⟨a1,a2⟩:=(RI.all f).2.2 _ _ hb k2;dsimp only at a2;repeat' ((with_reducible apply wr)<;>try simp only [go_sem,seval,h2,hw,hw2,hw3,hd2,ne0,A0,A1])
     refine AC.call (iu _ (e,s3) hb k2 _ _ t (by rw [A2 (by omega),A0]) (by omega)) ?_;rintro v H' c5 ⟨rfl,rfl⟩ hc5;have hw5:IntKind.i64.wrap (s3.par-1)=s3.par-1:=w64 (by omega) (by omega);cases h;have ne0:=A1s t cc c1 c4 (c4+1+4) (by omega);simp only [go_sem,seval,ne0,A0,A1,Ex.v_w];repeat' ((with_reducible apply wr)<;>try simp only [go_sem,seval,ne0,A0,A1])
     and_intros
     all_goals try (first|rw [hw3]|((repeat rw [A2 (by omega)]);exact hfr _ (by omega)))
     repeat' ((with_reducible apply wr)<;>try simp only [go_sem,seval,hw5,ne0,A0,A1])
     rw [E7 (rv5 rfl A0)];refine ⟨_,_,D2b (cc:=cc) (b:=c4+1+4) [e] (D7 hfr htc) (by omega) ?_ (fun j hj=>?_),rfl,rfl⟩
     ·rw [A4v];dsimp only
      repeat (first|exact A0|rw [A2 (by omega)])
     simp [Hp.upd,show ¬j=cc by omega,show ¬j=c1 by omega,show ¬j=c4 by omega,show ¬j=c4+1+4 by omega];try (split<;>rfl)
abbrev exB (e:Ex):Blk:=⟨0,true,[I64 e.kind,I64 e.value,.str e.name,I3 e.args,I64 e.pos]⟩
theorem c_binary (L:List Tok) (E:Int) (hL:L.length<=1000000000) (f:Nat)
  (ib:∀ g,g<=f->∀ n s r,1<=n->n<=6->I7 L E g n s=some r->RI L s->RdC L E 92 [I64 n] s (r.1.v,r.2))
  (iu:∀ s r,S6 L E f s=some r->RI L s->RdC L E 124 [] s (r.1.v,r.2))
  (n:Int) (s:Rd) (r:Ex × Rd) (hn1:1<=n) (hn6:n<=6) (h:I7 L E (f+1) n s=some r) (hR:RI L s):RdC L E 92 [I64 n] s (r.1.v,r.2):=by
 intro H cc t ht htc;refine AC.bodyT A9 rfl (A0B rfl) fun hfr=>?_;unfold I7 at h;have ne0:=M8 t cc (by omega);by_cases h5:5<n
 ·rw [if_pos h5] at h;have hd:decide (n>5)=true:=by simpa using h5
  repeat' ((with_reducible apply wr)<;>try simp only [go_sem,seval,hd])
  refine AC.call (iu _ _ h hR _ _ t (by rw [A2 (by omega)];exact ht) (by omega)) ?_;rintro v H' c1 ⟨rfl,rfl⟩ hc1;dsimp only;simp only [go_sem,seval,ne0,A0,A1,Ex.v_w];repeat' ((with_reducible apply wr)<;>try simp only [go_sem,seval,ne0,A0,A1])
  rw [E7 (rv5 rfl A0)];refine ⟨_,_,S5 (cc:=cc) (D7 hfr htc) (fun j hj=>?_),rfl,rfl⟩;simp [Hp.upd,show ¬j=cc by omega]
 rw [if_neg h5] at h;have hd:decide (n>5)=false:=by simpa using h5
 have hw:IntKind.i64.wrap (n+1)=n+1:=w64 (by omega) (by omega);cases hb:I7 L E f (n+1) s with
 | none=>rw [hb] at h;cases h
 | some q =>
  obtain ⟨e,s1⟩:=q;rw [hb] at h;dsimp only at h;obtain ⟨a1,a2⟩:=(RI.all f).1 _ _ _ hb hR;dsimp only at a1;repeat' ((with_reducible apply wr)<;>try simp only [go_sem,seval,hd,hw])
  refine AC.call (ib f (A0H _) (n+1) _ _ (by omega) (by omega) hb hR _ _ t (by rw [A2 (by omega)];exact ht) (by omega)) ?_;rintro v H' c1 ⟨rfl,rfl⟩ hc1;dsimp only;have ne0:=S0 t cc c1 (by omega);simp only [go_sem,seval,ne0,A0,A1,Ex.v_w];repeat' ((with_reducible apply wr)<;>try simp only [go_sem,seval,ne0,A0,A1])
  refine D0h (fun _:Nat × Ex × Rd=>[(0,.ptr t 0),(1,I64 n),(4,.ptr cc 0),(5,.ptr c1 0)]) (fun q=>((H.upd cc C5y).upd t (rdR L E q.2.2)).upd c1 (exB q.2.1))
   (fun q c=>c1+1<=c/\q.1<=f/\O5 L E q.1 n q.2.1 q.2.2=some r/\RI L q.2.2) (fun q=>q.1) (f,e,s1) (fun b=>by simp [C3,tm,Tm.upd]) (by simp [C3,tm,Tm.upd]) (Sub.refl _) ⟨A0H _,A0H _,h,a1⟩ ?_
  clear h hb a1 a2 s1 e;rintro ⟨g,e,s1⟩ c ⟨hc,hg,hv,k1⟩;dsimp only at hc hg hv k1 ⊢;have hri:=k1.i;cases g with
  | zero=>simp [O5] at hv
  | succ g =>
  unfold O5 at hv;dsimp only at hv;have hTt:∀ b:Blk,(((H.upd cc C5y).upd t (rdR L E s1)).upd c1 b) t=some (rdR L E s1):=fun b=>by rw [A2 (by omega),A0]
  repeat' ((with_reducible first|apply wr|refine cpc c_signs31 ?_|fail)<;>try simp only [go_sem,seval])
  refine AC.call (c_among L E s1 _ _ t (hTt _) (by omega) C5 (by decide)) ?_;rintro v H' c2 ⟨rfl,rfl⟩ hc2;have hkr : -1<=C1 L E s1 C5/\C1 L E s1 C5<13:=A3x L E s1 C5 0;have hnn:0<=C1 L E s1 C5->s1.i<L.length:=fun h=>(G5 h).2.1;generalize C1 L E s1 C5=k at hv hkr hnn;have hwk:IntKind.i64.wrap (12+k)=12+k:=w64 (by omega) (by omega);by_cases hk:k<0
  ·rw [if_pos (.inl hk)] at hv;cases hv;have hdk:decide (k<0)=true:=by simpa using hk
   simp only [go_sem,seval,ne0,hdk];repeat' ((with_reducible apply wr)<;>try simp only [go_sem,seval,ne0,hdk,A0,A1])
   rw [E7 (rv5 rfl A0)];refine ⟨_,_,S5 (cc:=cc) (D7 hfr htc) (fun j hj=>?_),rfl,rfl⟩;simp [Hp.upd,show ¬j=cc by omega,show ¬j=c1 by omega]
  have hdk:decide (k<0)=false:=by simpa using hk
  by_cases hl:B4 (12+k)=n
  ·rw [if_neg (by omega)] at hv;have hdl:(B4 (12+k) != n)=false:=by simp [hl]
   simp only [go_sem,seval,ne0,hdk];repeat' ((with_reducible first|refine wr ?_|refine cpc (c_level _) ?_|fail)<;>try simp only [go_sem,seval,ne0,hdk,hwk,hdl,A0,A1])
   cases hb:I7 L E g (n+1) (A7 s1) with
   | none=>rw [hb] at hv;cases hv
   | some q =>
    obtain ⟨x,s2⟩:=q;rw [hb] at hv;dsimp only at hv;have k2:=k1.nxt (hnn (by omega));obtain ⟨b1,b2⟩:=(RI.all g).1 _ _ _ hb k2;dsimp only at b1;have hw2:IntKind.i64.wrap ((s1.i:Int)+1)=((s1.i+1:Nat):Int):=by rw [w64 (by omega) (by omega)];omega
    refine AC.call (c_peek L E s1 _ _ t (hTt _) (by omega)) ?_;rintro v H' c3 ⟨rfl,rfl⟩ hc3;have ne0:=A1s t cc c1 c3 (c3+7) (by omega);simp only [go_sem,seval,ne0];repeat' ((with_reducible apply wr)<;>try simp only [go_sem,seval,hw2,hwk,hw,ne0,A0,A1])
    refine AC.call (ib g (by omega) (n+1) (A7 s1) (x,s2) (by omega) (by omega) hb k2 _ _ t (by repeat (first|exact A0|rw [A2 (by omega)])) (by omega)) ?_;rintro v H' c4 ⟨rfl,rfl⟩ hc4;dsimp only;simp only [go_sem,seval,ne0,A0,A1,Ex.v_w];repeat' ((with_reducible apply wr)<;>try simp only [go_sem,seval,ne0,A0,A1])
    and_intros
    all_goals try (first|rw [hwk]|((repeat rw [A2 (by omega)]);exact hfr _ (by omega)))
    by_cases h3:n=3
    ·rw [if_pos h3] at hv;cases hv;have hd3:(n == 3)=true:=by simpa using h3
     repeat' ((with_reducible apply wr)<;>try simp only [go_sem,seval,hd3,ne0,A0,A1])
     rw [E7 (rv5 rfl A0)];refine ⟨_,_,D2b (cc:=cc) (b:=c3+7) [e,x] (D7 hfr htc) (by omega) ?_ (fun j hj=>?_),rfl,rfl⟩
     ·rw [C5w];dsimp only
      repeat (first|exact A0|rw [A2 (by omega)])
     simp [Hp.upd,show ¬j=cc by omega,show ¬j=c1 by omega,show ¬j=c3+7 by omega];try (split<;>rfl)
    ·rw [if_neg h3] at hv;have hd3:(n == 3)=false:=by simpa using h3
     repeat' ((with_reducible apply wr)<;>try simp only [go_sem,seval,hd3,ne0,A0,A1])
     refine ⟨(g,.mk (12+k) 0 [] [e,x] (B5 L E s1).pos,s2),?_,inv ⟨by omega,by simp only;omega,hv,b1⟩,by simp only;omega⟩;refine GL.frzT (id:=c3+7) (b:=⟨5,true,A3 ([e,x].map Ex.v)⟩) ?_ rfl (fun j=>?_) (FzL.refl _)
     ·rw [C5w]
      repeat (first|exact A0|rw [A2 (by omega)])
     by_cases j1:j=c1
     ·subst j1;refine .inr ⟨by omega,.inr ⟨_,_,A0,A0,rfl,rfl,.cons _ _ _ _ (.same _) (.cons _ _ _ _ (.same _) (.cons _ _ _ _ (.same _) (.cons _ _ _ _ (Q5 (u:=5) (xs:=[e,x].map Ex.v) (by simp) (A4u _) ⟨[],by simp⟩) (.cons _ _ _ _ (.same _) .nil)))),by simp [DV.one]⟩⟩
     ·by_cases j2:j=c3+7
      ·subst j2;left
       repeat rw [A2 (by omega)]
       exact hfr _ (by omega)
      ·refine .inr ⟨j2,.inl ?_⟩;simp [Hp.upd,j1,j2];try (split<;>rfl)
  ·rw [if_pos (.inr hl)] at hv;cases hv;have hdl:(B4 (12+k) != n)=true:=by simpa using hl
   simp only [go_sem,seval,ne0,hdk];repeat' ((with_reducible first|refine wr ?_|refine cpc (c_level _) ?_|fail)<;>try simp only [go_sem,seval,ne0,hdk,hwk,hdl,A0,A1])
   rw [E7 (rv5 rfl A0)];refine ⟨_,_,S5 (cc:=cc) (D7 hfr htc) (fun j hj=>?_),rfl,rfl⟩;simp [Hp.upd,show ¬j=cc by omega,show ¬j=c1 by omega]
theorem c_bu (L:List Tok) (E:Int) (hL:L.length<=1000000000):∀ f:Nat,(∀ n s r,1<=n->n<=6->I7 L E f n s=some r->RI L s->RdC L E 92 [I64 n] s (r.1.v,r.2))/\(∀ s r,S6 L E f s=some r->RI L s->RdC L E 124 [] s (r.1.v,r.2)):=by
 intro f
 induction f using Nat.strongRecOn with
 | _ f ih =>
  cases f with
  | zero=>exact ⟨fun n s r _ _ h=>by simp [I7] at h,fun s r h=>by simp [S6] at h⟩
  | succ f =>
   exact ⟨fun n s r h1 h2 h hR=>c_binary L E hL f (fun g hg=>(ih g (by omega)).1) (ih f (by omega)).2 n s r h1 h2 h hR,
    fun s r h hR=>c_unary L E hL f (ih f (by omega)).1 (ih f (by omega)).2 s r h hR⟩
theorem c_expression (L:List Tok) (E:Int) (hL:L.length<=1000000000) (f:Nat) (s:Rd) (r:Ex × Rd) (h:Q7 L E f s=some r) (hi:s.i<=L.length):RdC L E 51 [] s (r.1.v,r.2):=by
 intro H cc t ht htc;refine AC.bodyT A9 rfl (A0B rfl) fun hfr=>?_;have ne0:=M8 t cc (by omega);repeat' ((with_reducible apply wr)<;>try simp only [go_sem,seval,ht,ne0,A0,A1])
 refine AC.call ((c_bu L E hL f).1 1 { s with ops:=0,par:=0 } r (by decide) (by decide) h ⟨hi,A3K 0,(by decide:(0:Int)<=33),fun _=>(by decide:(0:Int)<=32),A3K 0,(by decide:(0:Int)<=16)⟩ _ _ t (by exact A0) (by omega)) ?_;rintro v H' c1 ⟨rfl,rfl⟩ hc1;dsimp only;simp only [go_sem,seval,ne0,A0,A1,Ex.v_w];repeat' ((with_reducible apply wr)<;>try simp only [go_sem,seval,ne0,A0,A1])
 rw [E7 (rv5 rfl A0)];refine ⟨_,_,S5 (cc:=cc) (D7 hfr htc) (fun j hj=>?_),rfl,rfl⟩;simp [Hp.upd,show ¬j=cc by omega];try (split<;>rfl)
abbrev x155:XT Tryz.prog 155:=mkF (by unfold B8;conv=>lhs;reduce;simp only [seval,u8n]) (fun h=>by conv=>lhs;cbv)
instance t155:FT Tryz.prog 155 x155.d:=x155.ft
theorem C5q {K H':Hp} {cc b:Nat} (l:List Pb.St) (hK:∀ i,cc<=i->K i=none) (hb0:cc<=b) (hb:H' b=some ⟨7,true,A3 (l.map Pb.St.v)⟩) (h:∀ j,j<cc->H' j=K j) :
  GL H' [.slc b 0 l.length] K [F3 l] :=
 GL.frzS (id:=b) hb rfl (fun j=>by
  by_cases hj:j<cc
  ·exact .inr ⟨by omega,(h j hj).symm⟩
  ·exact .inl (hK j (by omega))) (.cons _ _ _ _ (Q5 (u:=7) (by simp) (A7b l) ⟨[],by simp⟩) .nil)
theorem C2w (e:Pb.St):A3 ([e].map Pb.St.v)=[I64 e.kind,.str e.name,.str e.text,I3 e.args,F3 e.thn,F3 e.els,I64 e.pos]:=by
 rw [A0T,Pb.St.v_w];rfl
theorem c_other (L:List Tok) (E:Int) (hL:L.length<=1000000000) (f:Nat)
  (is:∀ d s r,0<=d->d<=100->R8 L E f d s=some r->s.i<=L.length->RdC L E 143 [I64 d] s (r.1.v,r.2))
  (ib:∀ d s r,0<=d->d<=100->M0 L E f d s=some r->s.i<=L.length->RdC L E 118 [I64 d] s (F3 r.1,r.2))
  (d:Int) (s:Rd) (r:List Pb.St × Rd) (hd0:0<=d) (hd:d<=99) (h:Q1 L E (f+1) d s=some r) (hi:s.i<=L.length):RdC L E 155 [I64 d] s (F3 r.1,r.2):=by
 intro H cc t ht htc;refine AC.bodyT A9 rfl (A0B rfl) fun hfr=>?_;unfold Q1 at h;have hw:IntKind.i64.wrap (d+1)=d+1:=w64 (by omega) (by omega);repeat' ((with_reducible apply wr)<;>try simp only [go_sem,seval])
 refine AC.call (c_is L E s _ _ t ht (by omega) _) ?_;rintro v H' c1 ⟨rfl,rfl⟩ hc1;cases hq:isR L E s [105,102] with
 | true =>
  rw [if_pos hq] at h;cases hs:R8 L E f (d+1) s with
  | none=>rw [hs] at h;cases h
  | some q =>
   obtain ⟨x,s1⟩:=q;rw [hs] at h;cases h;simp only [go_sem,seval,hq];repeat' ((with_reducible apply wr)<;>try simp only [go_sem,seval,hq,hw])
   refine AC.call (is (d+1) s (x,s1) (by omega) (by omega) hs hi _ _ t ht (by omega)) ?_;rintro v H' c2 ⟨rfl,rfl⟩ hc2;dsimp only;simp only [go_sem,seval,Pb.St.v_w];repeat' ((with_reducible apply wr)<;>try simp only [go_sem,seval])
   exact ⟨_,_,C5q (cc:=cc) [x] (D7 hfr htc) (by omega) (by rw [C2w];exact A0) (fun j hj=>by rw [A2 (by omega)]),rfl,rfl⟩
 | false =>
  rw [if_neg (by simp [hq])] at h;simp only [go_sem,seval,hq];repeat' ((with_reducible apply wr)<;>try simp only [go_sem,seval,hq,hw])
  refine AC.call (ib (d+1) s r (by omega) (by omega) h hi _ _ t ht (by omega)) ?_;rintro v H' c2 ⟨rfl,rfl⟩ hc2;simp only [go_sem,seval];repeat' ((with_reducible apply wr)<;>try simp only [go_sem,seval])
  exact ⟨_,_,GL.refl _ _,rfl,rfl⟩
theorem B4k {K H':Hp} {cc:Nat} {o:Option Nat} (l:List Pb.St) (hK:∀ i,cc<=i->K i=none) (ho:∀ i,o=some i->cc<=i) (hno:o=none->l=[]) (hb:∀ i,o=some i->H' i=some ⟨7,true,A3 (l.map Pb.St.v)⟩) (h:∀ j,j<cc->H' j=K j) :
  GL H' [B9 o l.length] K [F3 l]:=by
 cases o with
 | none =>
  obtain rfl:=hno rfl;exact (S5 hK h).trans (GL.view fun ρ vs hA=>R3 (fun v h=>h.snil_lst) vs hA)
 | some b=>exact C5q l hK (ho b rfl) (hb b rfl) h
theorem c_block (L:List Tok) (E:Int) (hL:L.length<=1000000000) (f:Nat)
  (is:∀ g,g<=f->∀ d s r,0<=d->d<=100->R8 L E g d s=some r->s.i<=L.length->RdC L E 143 [I64 d] s (r.1.v,r.2))
  (d:Int) (s:Rd) (r:List Pb.St × Rd) (hd0:0<=d) (hd:d<=100) (h:M0 L E (f+1) d s=some r) (hi:s.i<=L.length):RdC L E 118 [I64 d] s (F3 r.1,r.2):=by
 intro H cc t ht htc;refine AC.bodyT A9 rfl (A0B rfl) fun hfr=>?_;unfold M0 at h;repeat' ((with_reducible apply wr)<;>try simp only [go_sem,seval])
 refine AC.call (c_expect L E s _ _ t ht (by omega) (by omega) _) ?_;rintro v H' c1 ⟨rfl,rfl⟩ hc1;simp only [go_sem,seval];repeat' ((with_reducible apply wr)<;>try simp only [go_sem,seval])
 refine C2 (fun q:Nat × Option Nat × List Pb.St × Rd=>[(0,.ptr t 0),(1,I64 d),(5,B9 q.2.1 q.2.2.1.length)]) (fun q=>C6 (H.upd t (rdR L E q.2.2.2)) q.2.1 ⟨7,true,A3 (q.2.2.1.map Pb.St.v)⟩)
  (fun q c=>cc<=c/\q.1<=f/\q.2.2.2.i<=L.length/\(q.2.1=none->q.2.2.1=[])/\(∀ i,q.2.1=some i->cc<=i/\i<c)/\q.2.2.1.length<=65/\(okR q.2.2.2=true->q.2.2.1.length<=64)/\P4 L E q.1 d q.2.2.1 q.2.2.2=some r) (fun q=>q.1) (f,none,[],D1 L E s [123])
  (by simp [C3,tm,Tm.upd,B9]) (Sub.refl _) ⟨hc1,A0H _,J5 hi,fun _=>rfl,(fun i hi=>by cases hi),by simp,fun _=>by simp,h⟩ ?_
 clear h hi;rintro ⟨g,o,l,u⟩ c ⟨hc,hg,hi,hno,ho,hl1,hl2,hv⟩;dsimp only at hc hg hi hno ho hl1 hl2 hv ⊢;have hHt:C6 (H.upd t (rdR L E u)) o ⟨7,true,A3 (l.map Pb.St.v)⟩ t=some (rdR L E u):=by rw [D0 (fun i hi=>by have:=ho i hi;omega),A0]
 have hfin:∀ (z:Rd) (j:Nat),j<cc->((C6 (H.upd t (rdR L E u)) o ⟨7,true,A3 (l.map Pb.St.v)⟩).upd t (rdR L E z)) j=(H.upd t (rdR L E z)) j:=fun z j hj=>by
  by_cases ej:j=t
  ·subst ej;rw [A0,A0]
  ·rw [A2 ej,A2 ej,D0 (fun i hi=>by have:=ho i hi;omega),A2 ej]
 have hbo:∀ (z:Rd) (i:Nat),o=some i->((C6 (H.upd t (rdR L E u)) o ⟨7,true,A3 (l.map Pb.St.v)⟩).upd t (rdR L E z)) i=some ⟨7,true,A3 (l.map Pb.St.v)⟩:=fun z i hi=>by
  have:=ho i hi;rw [A2 (by omega)];subst hi;exact A0
 cases g with
 | zero=>simp [P4] at hv
 | succ g =>
 unfold P4 at hv;repeat' ((with_reducible apply wr)<;>try simp only [go_sem,seval])
 refine AC.call (c_rdok L E u _ _ t hHt (by omega)) ?_;rintro v H' c2 ⟨rfl,rfl⟩ hc2;cases hok:okR u with
 | false =>
  rw [if_neg (by simp [hok])] at hv;cases hv;simp only [go_sem,seval,hok];repeat' ((with_reducible apply wr)<;>try simp only [go_sem,seval,hok])
  refine AC.call (c_expect L E u _ _ t hHt (by omega) (by omega) _) ?_;rintro v H' c3 ⟨rfl,rfl⟩ hc3;simp only [go_sem,seval];repeat' ((with_reducible apply wr)<;>try simp only [go_sem,seval])
  exact ⟨_,_,B4k (cc:=cc) l (D7 hfr htc) (fun i hi=>(ho i hi).1) hno (hbo _) (hfin _),rfl,rfl⟩
 | true =>
  simp only [go_sem,seval,hok];repeat' ((with_reducible apply wr)<;>try simp only [go_sem,seval,hok])
  refine AC.call (c_is L E u _ _ t hHt (by omega) _) ?_;rintro v H' c3 ⟨rfl,rfl⟩ hc3;cases hq:isR L E u [125] with
  | true =>
   rw [if_neg (by simp [hq])] at hv;cases hv;simp only [go_sem,seval,hq];repeat' ((with_reducible apply wr)<;>try simp only [go_sem,seval,hq])
   refine AC.call (c_expect L E u _ _ t hHt (by omega) (by omega) _) ?_;rintro v H' c4 ⟨rfl,rfl⟩ hc4;simp only [go_sem,seval];repeat' ((with_reducible apply wr)<;>try simp only [go_sem,seval])
   exact ⟨_,_,B4k (cc:=cc) l (D7 hfr htc) (fun i hi=>(ho i hi).1) hno (hbo _) (hfin _),rfl,rfl⟩
  | false =>
   rw [if_pos ⟨hok,hq⟩] at hv;simp only [go_sem,seval,hq];repeat' ((with_reducible first|apply wr|refine cpc c_stmts31 ?_|fail)<;>try simp only [go_sem,seval,hq])
   refine AC.call (c_among L E u _ _ t hHt (by omega) C0 (by decide)) ?_;rintro v H' c4 ⟨rfl,rfl⟩ hc4;generalize C1 L E u C0=k at hv;have hlen:A6n (B9 o l.length)=some (I64 l.length):=by
    cases o with
    | none=>rw [hno rfl];rfl
    | some b=>rfl
   have hwl:IntKind.i64.wrap ((l.length:Int)+1)=(l.length:Int)+1:=w64 (by omega) (by omega);by_cases hsy:k<0/\I0 L E u 1=false
   ·rw [if_pos hsy] at hv;cases hv;have hdk:decide (k<0)=true:=by simpa using hsy.1
    have h1:=hsy.2;simp only [go_sem,seval,hdk];repeat' ((with_reducible apply wr)<;>try simp only [go_sem,seval,hdk])
    refine AC.call (c_isKind L E u _ _ t hHt (by omega) 1) ?_;rintro v H' c5 ⟨rfl,rfl⟩ hc5;simp only [go_sem,seval,h1];repeat' ((with_reducible apply wr)<;>try simp only [go_sem,seval,h1])
    refine AC.call (c_syntax L E u _ _ t hHt (by omega)) ?_;rintro v H' c6 ⟨rfl,rfl⟩ hc6;simp only [go_sem,seval];repeat' ((with_reducible apply wr)<;>try simp only [go_sem,seval])
    exact ⟨_,_,(S5 (cc:=cc) (D7 hfr htc) (hfin _)).trans (GL.view fun ρ vs hA=>R3 (fun v h=>h.snil_lst) vs hA),rfl,rfl⟩
   rw [if_neg hsy] at hv;cases hs:R8 L E g d (C4 L E u ((l.length:Int)+1) 64 9) with
   | none=>rw [hs] at hv;cases hv
   | some q =>
   obtain ⟨x,s1⟩:=q;rw [hs] at hv;dsimp only at hv;have hix:=(II.all g).2.2.1 _ _ _ hs (by rw [F7];exact hi);have hnok:=D3k hs;have hll:=hl2 hok;have hlk:okR s1=true->l.length+1<=64:=fun h=>by
    cases hz:okR (C4 L E u ((l.length:Int)+1) 64 9) with
    | false=>rw [hnok hz] at h;cases h
    | true=>have:=(G3 (by decide) hz).2.1;omega
   rcases (show ¬ k<0\/(k<0/\I0 L E u 1=true) by
    by_cases hk:k<0
    ·exact .inr ⟨hk,by cases h1:I0 L E u 1 with|true=>rfl|false=>exact absurd ⟨hk,h1⟩ hsy⟩
    ·exact .inl hk) with hk|⟨hk,h1⟩
   case' inl =>
    have hdk:decide (k<0)=false:=by simpa using hk
    simp only [go_sem,seval,hdk];repeat' ((with_reducible first|refine G8 (p:=IW _ _ (pz Tryz.prog 118 (.i (.i (.o (.i .h))))) _ _) ?_|refine wr ?_|fail)<;>try simp only [go_sem,seval,hdk])
    obtain ⟨c5,hc5,e5⟩:∃ c5,c4<=c5/\c5=c4:=⟨c4,A0H _,rfl⟩;rw [<- e5];clear e5 hdk hk
   case' inr =>
    have hdk:decide (k<0)=true:=by simpa using hk
    simp only [go_sem,seval,hdk];repeat' ((with_reducible apply wr)<;>try simp only [go_sem,seval,hdk])
    refine AC.call (c_isKind L E u _ _ t hHt (by omega) 1) ?_;rintro v H' c5 ⟨rfl,rfl⟩ hc5;simp only [go_sem,seval,h1];repeat' ((with_reducible first|refine G8 (p:=IW _ _ (pz Tryz.prog 118 (.i (.i (.o (.i .h))))) _ _) ?_|refine wr ?_|fail)<;>try simp only [go_sem,seval,h1])
    clear hdk hk h1
   all_goals
    unfold A2z;repeat' ((with_reducible apply wr)<;>try simp only [go_sem,seval,hlen,hwl])
    refine AC.call (c_limit L E u _ _ t hHt (by omega) _ _ _) ?_;rintro v H' c6 ⟨rfl,rfl⟩ hc6;simp only [go_sem,seval];repeat' ((with_reducible apply wr)<;>try simp only [go_sem,seval])
    refine AC.call (is g (by omega) d _ (x,s1) hd0 hd hs (by rw [F7];exact hi) _ _ t A0 (by omega)) ?_;rintro v H' c7 ⟨rfl,rfl⟩ hc7;dsimp only;have ne0:=S0 t c7 (c7+1) (by omega);simp only [go_sem,seval,ne0,A1,Pb.St.v_w];repeat' ((with_reducible apply wr)<;>try simp only [go_sem,seval,ne0])
    refine F6 (F1 (cs:=A3 (l.map Pb.St.v)) (fun e=>by rw [hno e];exact ⟨rfl,rfl⟩) (fun i hi=>?_) (by rw [B3 (u:=7) (A7b _)];simp) (by omega) (by omega) (by omega)) ?_
    ·have:=ho i hi;rw [A2 (by omega)];exact hbo _ i hi
    simp only [go_sem,seval,ne0];repeat' ((with_reducible apply wr)<;>try simp only [go_sem,seval,ne0])
    refine ⟨(g,some (c7+1),l++[x],s1),by simp only [A0A,A0I];rfl,?_,inv ⟨by omega,by simp only;omega,hix,(fun h=>by cases h),(fun i hi=>by cases hi;omega),by simp only [A0A,A0I];omega,(fun h=>by have:=hlk h;simp only [A0A,A0I];omega),hv⟩,by simp only;omega⟩;intro jj b hj;simp only [C6] at hj;by_cases e1:jj=c7+1
    ·subst e1;rw [A0] at hj ⊢;rw [<- hj,A0P,B6,C2w]
    ·rw [A2 e1] at hj ⊢;by_cases e2:jj=t
     ·subst e2;rw [A0] at hj;rw [E9 (fun i hi=>by have:=ho i hi;omega),A2 (by omega),A0];exact hj
     ·rw [A2 e2] at hj;have hjc:jj<cc:=Classical.byContradiction fun h=>by rw [hfr jj (by omega)] at hj;cases hj
      rw [E9 (fun i hi=>by have:=ho i hi;omega),A2 (by omega),A2 e2,D0 (fun i hi=>by have:=ho i hi;omega),A2 e2];exact hj
end Go.Proofs.YtnmkkggfgdfmeaaGreatDoor
set_option maxHeartbeats 8000000
namespace Go.Proofs.YtnmkkggfgdfmeaaGreatDoor
open Go.Eng (IC IOper DReg IFn B8)
open Go.Sym Go.Pb
def NlR (a b:DV):Prop:=b=a\/(a=.snil/\b=.lst [])
theorem NlR.v {ρ : Ren} {v:Value} {a b:DV} (h:NlR a b) (k:VRel ρ a v):VRel ρ b v:=by
 rcases h with rfl|⟨rfl,rfl⟩
 ·exact k
 ·exact k.snil_lst
theorem D7m {ρ : Ren} {v:Value} {a b c d e f g d' e' f':DV} (hd:NlR d d') (he:NlR e e') (hf:NlR f f') (h:VRel ρ (.agg [a,b,c,d,e,f,g]) v):VRel ρ (.agg [a,b,c,d',e',f',g]) v:=by
 obtain ⟨bb,rfl,k1,k2⟩:=h.agg_inv;refine .agg _ _ k1 fun j x y hx hy=>?_
 match j with
 | 0=>cases hx;exact k2 0 _ y rfl hy
 | 1=>cases hx;exact k2 1 _ y rfl hy
 | 2=>cases hx;exact k2 2 _ y rfl hy
 | 3=>cases hx;exact hd.v (k2 3 _ y rfl hy)
 | 4=>cases hx;exact he.v (k2 4 _ y rfl hy)
 | 5=>cases hx;exact hf.v (k2 5 _ y rfl hy)
 | 6=>cases hx;exact k2 6 _ y rfl hy
 | _+7=>cases hx
theorem C5p {K H':Hp} {cc:Nat} {a b c d e f g d' e' f':DV} (hd:NlR d d') (he:NlR e e') (hf:NlR f f') (hK:∀ i,cc<=i->K i=none) (h:∀ j,j<cc->H' j=K j):GL H' [.agg [a,b,c,d,e,f,g]] K [.agg [a,b,c,d',e',f',g]] :=
 (S5 hK h).trans (GL.view fun ρ vs hA=>R3 (fun v h=>D7m hd he hf h) vs hA)
theorem A1y {K H':Hp} {cc i:Nat} {a b c e f g e' f':DV} (l:List Ex) (he:NlR e e') (hf:NlR f f') (hK:∀ i,cc<=i->K i=none) (hi0:cc<=i) (hb:H' i=some ⟨5,true,A3 (l.map Ex.v)⟩) (h:∀ j,j<cc->H' j=K j):GL H' [.agg [a,b,c,.slc i 0 l.length,e,f,g]] K [.agg [a,b,c,I3 l,e',f',g]] :=
 (GL.frzS (id:=i) hb rfl (fun j=>by
  by_cases hj:j<cc
  ·exact .inr ⟨by omega,(h j hj).symm⟩
  ·exact .inl (hK j (by omega))) (.cons _ _ _ _ (.agg _ _ (.cons _ _ _ _ (.same _) (.cons _ _ _ _ (.same _) (.cons _ _ _ _ (.same _) (.cons _ _ _ _ (Q5 (u:=5) (by simp) (A4u l) ⟨[],by simp⟩) (.cons _ _ _ _ (.same _) (.cons _ _ _ _ (.same _) (.cons _ _ _ _ (.same _) .nil)))))))) .nil)).trans (GL.view fun ρ vs hA=>R3 (fun v h=>D7m (.inl rfl) he hf h) vs hA)
theorem rv7 {s:Sym.St} {x i u:Nat} {a b c d e f g:DV} {o:Bool} (h:s.T x=.ptr i 0) (hb:s.H i=some ⟨u,o,[a,b,c,d,e,f,g]⟩):A5l s [.cell x 7 true]=some (.agg [a,b,c,d,e,f,g]):=by
 simp only [A5l,A3l,h,ldv,hb];rfl
theorem c_statement (L:List Tok) (E:Int) (hL:L.length<=1000000000) (f:Nat)
  (ib:∀ d s r,0<=d->d<=100->M0 L E f d s=some r->s.i<=L.length->RdC L E 118 [I64 d] s (F3 r.1,r.2))
  (io:∀ d s r,0<=d->d<=99->Q1 L E f d s=some r->s.i<=L.length->RdC L E 155 [I64 d] s (F3 r.1,r.2))
  (d:Int) (s0:Rd) (r:Pb.St × Rd) (hd0:0<=d) (hd:d<=100) (h:R8 L E (f+1) d s0=some r) (hi:s0.i<=L.length):RdC L E 143 [I64 d] s0 (r.1.v,r.2):=by
 intro H cc t ht htc;refine AC.bodyT A9 rfl (A0B rfl) fun hfr=>?_;unfold R8 at h;dsimp only at h;repeat' ((with_reducible apply wr)<;>try simp only [go_sem,seval])
 refine AC.call (c_limit L E s0 _ _ t (by rw [A2 (by omega)];exact ht) (by omega) _ _ _) ?_;rintro v H' c1 ⟨rfl,rfl⟩ hc1;have his:(C4 L E s0 d 8 50).i<=L.length:=by rw [F7];exact hi
 generalize hsq:C4 L E s0 d 8 50=s at *;have ne0:=M8 t cc (by omega);simp only [go_sem,seval];repeat' ((with_reducible apply wr)<;>try simp only [go_sem,seval])
 refine AC.call (c_rdok L E s _ _ t A0 (by omega)) ?_;rintro v H' c2 ⟨rfl,rfl⟩ hc2;cases hok:okR s with
 | false =>
  rw [if_pos hok] at h;cases h;simp only [go_sem,seval,hok];repeat' ((with_reducible apply wr)<;>try simp only [go_sem,seval,hok,ne0,A0,A1])
  rw [E7 (rv7 rfl A0)];refine ⟨_,_,C5p (cc:=cc) (.inr ⟨rfl,rfl⟩) (.inr ⟨rfl,rfl⟩) (.inr ⟨rfl,rfl⟩) (D7 hfr htc) (fun j hj=>?_),rfl,rfl⟩;simp [Hp.upd,show ¬j=cc by omega]
 | true =>
  rw [if_neg (by simp [hok])] at h;have hd8:d<=8:=by rw [<- hsq] at hok;exact (G3 (by decide) hok).2.1
  simp only [go_sem,seval,hok];repeat' ((with_reducible apply wr)<;>try simp only [go_sem,seval,hok])
  refine AC.call (c_peek L E s _ _ t A0 (by omega)) ?_;rintro v H' c3 ⟨rfl,rfl⟩ hc3;have ne0:=S0 t cc c3 (by omega);simp only [go_sem,seval,ne0];repeat' ((with_reducible first|apply wr|refine cpc c_stmts31 ?_|fail)<;>try simp only [go_sem,seval,ne0,A0,A1])
  refine AC.call (c_among L E s _ _ t (by rw [A2 (by omega)];exact A0) (by omega) C0 (by decide)) ?_;rintro v H' c4 ⟨rfl,rfl⟩ hc4;have hkr : -1<=C1 L E s C0/\C1 L E s C0<18:=A3x L E s C0 0;have hnn:0<=C1 L E s C0->s.i<L.length:=fun h=>(G5 h).2.1;generalize C1 L E s C0=k at h hkr hnn;generalize (B5 L E s).pos=p at h ⊢;have hti:=L2 (E:=E) (x:=1) (by decide) his;by_cases hk:k<0
  ·rw [if_pos hk] at h;have hdk:decide (k<0)=true:=by simpa using hk
   cases hz5:Q7 L E f (D1 L E (B2 L E s 1).2 [61]) with
   | none=>rw [hz5] at h;cases h
   | some qhz5 =>
    obtain ⟨e,s1⟩:=qhz5;rw [hz5] at h;dsimp only at h;cases h;simp only [go_sem,seval,hdk,ne0,A0,A1];repeat' ((with_reducible apply wr)<;>try simp only [go_sem,seval,hdk,ne0,A0,A1])
    refine AC.call (c_name L E s _ _ t (by repeat (first|exact A0|rw [A2 (by omega)]|rw [F8 (by omega)])) (by omega) (by have:=his;omega)) ?_;rintro v H' c6 ⟨rfl,rfl⟩ hc6;try dsimp only
    simp only [go_sem,seval,ne0,A0,A1];repeat' ((with_reducible apply wr)<;>try simp only [go_sem,seval,ne0,A0,A1])
    refine AC.call (c_expect L E (B2 L E s 1).2 _ _ t (by repeat (first|exact A0|rw [A2 (by omega)]|rw [F8 (by omega)])) (by omega) (by have:=hti;omega) _) ?_;rintro v H' c7 ⟨rfl,rfl⟩ hc7;try dsimp only
    simp only [go_sem,seval,ne0,A0,A1];repeat' ((with_reducible apply wr)<;>try simp only [go_sem,seval,ne0,A0,A1])
    refine AC.call (c_expression L E hL f (D1 L E (B2 L E s 1).2 [61]) (e,s1) hz5 (J5 hti) _ _ t (by repeat (first|exact A0|rw [A2 (by omega)]|rw [F8 (by omega)])) (by omega)) ?_;rintro v H' c8 ⟨rfl,rfl⟩ hc8;have ne0:=V1 t cc c3 c8 (by omega);try dsimp only
    simp only [go_sem,seval,Ex.v_w,ne0,A0,A1];repeat' ((with_reducible apply wr)<;>try simp only [go_sem,seval,ne0,A0,A1])
    have h1i:=Q6 hz5 (J5 hti);dsimp only at h1i;refine AC.call (c_expect L E s1 _ _ t (by repeat (first|exact A0|rw [A2 (by omega)]|rw [F8 (by omega)])) (by omega) (by have:=h1i;omega) _) ?_;rintro v H' c9 ⟨rfl,rfl⟩ hc9;try dsimp only
    simp only [go_sem,seval,ne0,A0,A1];repeat' ((with_reducible apply wr)<;>try simp only [go_sem,seval,ne0,A0,A1])
    rw [E7 (rv7 rfl A0)];refine ⟨_,_,A1y (cc:=cc) (i:=c8) [e] (.inr ⟨rfl,rfl⟩) (.inr ⟨rfl,rfl⟩) (D7 hfr htc) (by omega) ?_ (fun j hj=>?_),(by first|rfl|(rw [Pb.St.v_w];done)|(rw [Pb.St.v_w];rfl)),rfl⟩
    ·rw [A4v];dsimp only
     repeat (first|exact A0|rw [A2 (by omega)]|rw [F8 (by omega)])
    simp [Hp.upd,Hp.del,show ¬j=cc by omega,show ¬j=c3 by omega,show ¬j=c8 by omega];try (split<;>rfl)
  rw [if_neg hk] at h;have hdk:decide (k<0)=false:=by simpa using hk
  have hw2:IntKind.i64.wrap ((s.i:Int)+1)=((s.i+1:Nat):Int):=by rw [w64 (by omega) (by omega)];omega
  have hwk:IntKind.i64.wrap (2+k)=2+k:=w64 (by omega) (by omega);have hwd:IntKind.i64.wrap (d+1)=d+1:=w64 (by omega) (by omega);have hn:(A7 s).i<=L.length:=hnn (by omega);simp only [go_sem,seval,hdk,ne0,A0,A1];have u2:IntKind.i64.wrap 2=2:=w64 (by omega) (by omega);have u3:IntKind.i64.wrap 3=3:=w64 (by omega) (by omega);have u4:IntKind.i64.wrap 4=4:=w64 (by omega) (by omega);have u8:IntKind.i64.wrap 8=8:=w64 (by omega) (by omega);have u9:IntKind.i64.wrap 9=9:=w64 (by omega) (by omega);have u10:IntKind.i64.wrap 10=10:=w64 (by omega) (by omega);have u18:IntKind.i64.wrap 18=18:=w64 (by omega) (by omega);have u19:IntKind.i64.wrap 19=19:=w64 (by omega) (by omega);by_cases hb:k=0\/k=1
  ·rw [if_pos hb] at h;cases hz10:Q7 L E f (A7 s) with
   | none=>rw [hz10] at h;cases h
   | some qhz10 =>
    obtain ⟨e,s2⟩:=qhz10;rw [hz10] at h;dsimp only at h;cases hz11:M0 L E f (d+1) s2 with
    | none=>rw [hz11] at h;cases h
    | some qhz11 =>
     obtain ⟨tt,s3⟩:=qhz11;rw [hz11] at h;dsimp only at h;have h2i:=Q6 hz10 hn;dsimp only at h2i;have h3i:=(II.all f).1 _ _ _ hz11 h2i;dsimp only at h3i;have hw3:IntKind.i64.wrap ((s3.i:Int)+1)=((s3.i+1:Nat):Int):=by rw [w64 (by omega) (by omega)];omega
     rcases hb with rfl|rfl
     ·repeat' ((with_reducible apply wr)<;>try simp only [go_sem,seval,hdk,hw2,hwk,u2,u3,u4,u8,u9,u10,u18,u19,ne0,A0,A1])
      refine AC.call (c_expression L E hL f (A7 s) (e,s2) hz10 (hn) _ _ t (by repeat (first|exact A0|rw [A2 (by omega)]|rw [F8 (by omega)])) (by omega)) ?_;rintro v H' c12 ⟨rfl,rfl⟩ hc12;have ne0:=V1 t cc c3 c12 (by omega);try dsimp only
      simp only [go_sem,seval,Ex.v_w,ne0,A0,A1];repeat' ((with_reducible apply wr)<;>try simp only [go_sem,seval,ne0,A0,A1])
      try simp only [hwd]
      refine AC.call (ib (d+1) s2 (tt,s3) (by omega) (by omega) hz11 h2i _ _ t (by repeat (first|exact A0|rw [A2 (by omega)]|rw [F8 (by omega)])) (by omega)) ?_;rintro v H' c13 ⟨rfl,rfl⟩ hc13;try dsimp only
      simp only [go_sem,seval,ne0,A0,A1];repeat' ((with_reducible apply wr)<;>try simp only [go_sem,seval,ne0,A0,A1])
      refine AC.call (c_is L E s3 _ _ t (by repeat (first|exact A0|rw [A2 (by omega)]|rw [F8 (by omega)])) (by omega) _) ?_;rintro v H' c14 ⟨rfl,rfl⟩ hc14;cases hq:isR L E s3 [101,108,115,101] with
      | true =>
       rw [if_pos ⟨rfl,hq⟩] at h;cases hz15:Q1 L E f d (A7 s3) with
       | none=>rw [hz15] at h;cases h
       | some qhz15 =>
        obtain ⟨oo,s4⟩:=qhz15;rw [hz15] at h;dsimp only at h;cases h;simp only [go_sem,seval,hq,hw3,ne0,A0,A1];repeat' ((with_reducible apply wr)<;>try simp only [go_sem,seval,hq,hw3,ne0,A0,A1])
        refine AC.call (io d (A7 s3) (oo,s4) hd0 (by omega) hz15 (A1b hq).2 _ _ t (by repeat (first|exact A0|rw [A2 (by omega)]|rw [F8 (by omega)])) (by omega)) ?_;rintro v H' c16 ⟨rfl,rfl⟩ hc16;try dsimp only
        simp only [go_sem,seval,ne0,A0,A1];repeat' ((with_reducible apply wr)<;>try simp only [go_sem,seval,ne0,A0,A1])
        rw [E7 (rv7 rfl A0)];refine ⟨_,_,A1y (cc:=cc) (i:=c12) [e] (.inl rfl) (.inl rfl) (D7 hfr htc) (by omega) ?_ (fun j hj=>?_),(by first|rfl|(rw [Pb.St.v_w];done)|(rw [Pb.St.v_w];rfl)),rfl⟩
        ·rw [A4v];dsimp only
         repeat (first|exact A0|rw [A2 (by omega)]|rw [F8 (by omega)])
        simp [Hp.upd,Hp.del,show ¬j=cc by omega,show ¬j=c3 by omega,show ¬j=c12 by omega];try (split<;>rfl)
      | false =>
       rw [if_neg (by simp [hq])] at h;cases h;simp only [go_sem,seval,hq,ne0,A0,A1];repeat' ((with_reducible apply wr)<;>try simp only [go_sem,seval,hq,ne0,A0,A1])
       rw [E7 (rv7 rfl A0)];refine ⟨_,_,A1y (cc:=cc) (i:=c12) [e] (.inl rfl) (.inr ⟨rfl,rfl⟩) (D7 hfr htc) (by omega) ?_ (fun j hj=>?_),(by first|rfl|(rw [Pb.St.v_w];done)|(rw [Pb.St.v_w];rfl)),rfl⟩
       ·rw [A4v];dsimp only
        repeat (first|exact A0|rw [A2 (by omega)]|rw [F8 (by omega)])
       simp [Hp.upd,Hp.del,show ¬j=cc by omega,show ¬j=c3 by omega,show ¬j=c12 by omega];try (split<;>rfl)
     ·repeat' ((with_reducible apply wr)<;>try simp only [go_sem,seval,hdk,hw2,hwk,u2,u3,u4,u8,u9,u10,u18,u19,ne0,A0,A1])
      refine AC.call (c_expression L E hL f (A7 s) (e,s2) hz10 (hn) _ _ t (by repeat (first|exact A0|rw [A2 (by omega)]|rw [F8 (by omega)])) (by omega)) ?_;rintro v H' c17 ⟨rfl,rfl⟩ hc17;have ne0:=V1 t cc c3 c17 (by omega);try dsimp only
      simp only [go_sem,seval,Ex.v_w,ne0,A0,A1];repeat' ((with_reducible apply wr)<;>try simp only [go_sem,seval,ne0,A0,A1])
      try simp only [hwd]
      refine AC.call (ib (d+1) s2 (tt,s3) (by omega) (by omega) hz11 h2i _ _ t (by repeat (first|exact A0|rw [A2 (by omega)]|rw [F8 (by omega)])) (by omega)) ?_;rintro v H' c18 ⟨rfl,rfl⟩ hc18;try dsimp only
      simp only [go_sem,seval,ne0,A0,A1];repeat' ((with_reducible apply wr)<;>try simp only [go_sem,seval,ne0,A0,A1])
      rw [if_neg (by simp)] at h;cases h;rw [E7 (rv7 rfl A0)];refine ⟨_,_,A1y (cc:=cc) (i:=c17) [e] (.inl rfl) (.inr ⟨rfl,rfl⟩) (D7 hfr htc) (by omega) ?_ (fun j hj=>?_),(by first|rfl|(rw [Pb.St.v_w];done)|(rw [Pb.St.v_w];rfl)),rfl⟩
      ·rw [A4v];dsimp only
       repeat (first|exact A0|rw [A2 (by omega)]|rw [F8 (by omega)])
      simp [Hp.upd,Hp.del,show ¬j=cc by omega,show ¬j=c3 by omega,show ¬j=c17 by omega];try (split<;>rfl)
  rw [if_neg hb] at h;unfold I9 at h;dsimp only at h;by_cases k2:k=2
  ·subst k2;rw [if_pos (by decide)] at h;cases hz19:Q7 L E f (A7 s) with
   | none=>rw [hz19] at h;cases h
   | some qhz19 =>
    obtain ⟨e,s1⟩:=qhz19;rw [hz19] at h;dsimp only at h;cases h;have h1i:=Q6 hz19 hn;dsimp only at h1i;repeat' ((with_reducible apply wr)<;>try simp only [go_sem,seval,hdk,hw2,hwk,u2,u3,u4,u8,u9,u10,u18,u19,ne0,A0,A1])
    refine AC.call (c_expression L E hL f (A7 s) (e,s1) hz19 (hn) _ _ t (by repeat (first|exact A0|rw [A2 (by omega)]|rw [F8 (by omega)])) (by omega)) ?_;rintro v H' c20 ⟨rfl,rfl⟩ hc20;have ne0:=V1 t cc c3 c20 (by omega);try dsimp only
    simp only [go_sem,seval,Ex.v_w,ne0,A0,A1];repeat' ((with_reducible apply wr)<;>try simp only [go_sem,seval,ne0,A0,A1])
    refine AC.call (c_expect L E s1 _ _ t (by repeat (first|exact A0|rw [A2 (by omega)]|rw [F8 (by omega)])) (by omega) (by have:=h1i;omega) _) ?_;rintro v H' c21 ⟨rfl,rfl⟩ hc21;try dsimp only
    simp only [go_sem,seval,ne0,A0,A1];repeat' ((with_reducible apply wr)<;>try simp only [go_sem,seval,ne0,A0,A1])
    rw [E7 (rv7 rfl A0)];refine ⟨_,_,A1y (cc:=cc) (i:=c20) [e] (.inr ⟨rfl,rfl⟩) (.inr ⟨rfl,rfl⟩) (D7 hfr htc) (by omega) ?_ (fun j hj=>?_),(by first|rfl|(rw [Pb.St.v_w];done)|(rw [Pb.St.v_w];rfl)),rfl⟩
    ·rw [A4v];dsimp only
     repeat (first|exact A0|rw [A2 (by omega)]|rw [F8 (by omega)])
    simp [Hp.upd,Hp.del,show ¬j=cc by omega,show ¬j=c3 by omega,show ¬j=c20 by omega];try (split<;>rfl)
  rw [if_neg (by omega)] at h;by_cases k16:k=16
  ·subst k16;rw [if_pos (by decide)] at h;have h4i:=L2 (E:=E) (x:=4) (by decide) hn;cases hz22:Q7 L E f (D1 L E (B2 L E (A7 s) 4).2 [44]) with
   | none=>rw [hz22] at h;cases h
   | some qhz22 =>
    obtain ⟨e,s1⟩:=qhz22;rw [hz22] at h;dsimp only at h;cases h;have h1i:=Q6 hz22 (J5 h4i);dsimp only at h1i;repeat' ((with_reducible apply wr)<;>try simp only [go_sem,seval,hdk,hw2,hwk,u2,u3,u4,u8,u9,u10,u18,u19,ne0,A0,A1])
    refine AC.call (c_take L E (A7 s) _ _ t (by repeat (first|exact A0|rw [A2 (by omega)]|rw [F8 (by omega)])) (by omega) (by omega) 4) ?_;rintro v H' c23 ⟨rfl,rfl⟩ hc23;try dsimp only
    simp only [go_sem,seval,ne0,A0,A1];repeat' ((with_reducible apply wr)<;>try simp only [go_sem,seval,ne0,A0,A1])
    refine AC.call (c_expect L E (B2 L E (A7 s) 4).2 _ _ t (by repeat (first|exact A0|rw [A2 (by omega)]|rw [F8 (by omega)])) (by omega) (by have:=h4i;omega) _) ?_;rintro v H' c24 ⟨rfl,rfl⟩ hc24;try dsimp only
    simp only [go_sem,seval,ne0,A0,A1];repeat' ((with_reducible apply wr)<;>try simp only [go_sem,seval,ne0,A0,A1])
    refine AC.call (c_expression L E hL f (D1 L E (B2 L E (A7 s) 4).2 [44]) (e,s1) hz22 (J5 h4i) _ _ t (by repeat (first|exact A0|rw [A2 (by omega)]|rw [F8 (by omega)])) (by omega)) ?_;rintro v H' c25 ⟨rfl,rfl⟩ hc25;have ne0:=V1 t cc c3 c25 (by omega);try dsimp only
    simp only [go_sem,seval,Ex.v_w,ne0,A0,A1];repeat' ((with_reducible apply wr)<;>try simp only [go_sem,seval,ne0,A0,A1])
    refine AC.call (c_expect L E s1 _ _ t (by repeat (first|exact A0|rw [A2 (by omega)]|rw [F8 (by omega)])) (by omega) (by have:=h1i;omega) _) ?_;rintro v H' c26 ⟨rfl,rfl⟩ hc26;try dsimp only
    simp only [go_sem,seval,ne0,A0,A1];repeat' ((with_reducible apply wr)<;>try simp only [go_sem,seval,ne0,A0,A1])
    rw [E7 (rv7 rfl A0)];refine ⟨_,_,A1y (cc:=cc) (i:=c25) [e] (.inr ⟨rfl,rfl⟩) (.inr ⟨rfl,rfl⟩) (D7 hfr htc) (by omega) ?_ (fun j hj=>?_),(by first|rfl|(rw [Pb.St.v_w];done)|(rw [Pb.St.v_w];rfl)),rfl⟩
    ·rw [A4v];dsimp only
     repeat (first|exact A0|rw [A2 (by omega)]|rw [F8 (by omega)])
    simp [Hp.upd,Hp.del,show ¬j=cc by omega,show ¬j=c3 by omega,show ¬j=c25 by omega];try (split<;>rfl)
  rw [if_neg (by omega)] at h;by_cases k17:k=17
  ·subst k17;rw [if_pos (by decide)] at h;cases h;repeat' ((with_reducible apply wr)<;>try simp only [go_sem,seval,hdk,hw2,hwk,u2,u3,u4,u8,u9,u10,u18,u19,ne0,A0,A1])
   refine AC.call (c_expect L E (A7 s) _ _ t (by repeat (first|exact A0|rw [A2 (by omega)]|rw [F8 (by omega)])) (by omega) (by have:=hn;omega) _) ?_;rintro v H' c27 ⟨rfl,rfl⟩ hc27;try dsimp only
   simp only [go_sem,seval,ne0,A0,A1];repeat' ((with_reducible apply wr)<;>try simp only [go_sem,seval,ne0,A0,A1])
   rw [E7 (rv7 rfl A0)];refine ⟨_,_,C5p (cc:=cc) (.inr ⟨rfl,rfl⟩) (.inr ⟨rfl,rfl⟩) (.inr ⟨rfl,rfl⟩) (D7 hfr htc) (fun j hj=>?_),(by first|rfl|(rw [Pb.St.v_w];done)|(rw [Pb.St.v_w];rfl)),rfl⟩;simp [Hp.upd,Hp.del,show ¬j=cc by omega,show ¬j=c3 by omega];try (split<;>rfl)
  rw [if_neg (by omega)] at h;have hti2:=L2 (E:=E) (x:=1) (by decide) hn;by_cases k7:k=7
  ·subst k7;rw [if_pos (by omega)] at h;cases hz28:Q7 L E f (B2 L E (A7 s) 1).2 with
   | none=>rw [hz28] at h;cases h
   | some qhz28 =>
    obtain ⟨e,s1⟩:=qhz28;rw [hz28] at h;dsimp only at h;rw [if_pos (by decide)] at h;have h1i:=Q6 hz28 hti2;dsimp only at h1i;cases hz29:Q7 L E f (D1 L E s1 [44]) with
    | none=>rw [hz29] at h;cases h
    | some qhz29 =>
     obtain ⟨e2,s2⟩:=qhz29;rw [hz29] at h;dsimp only at h;cases h;have h2i:=Q6 hz29 (J5 h1i);dsimp only at h2i;repeat' ((with_reducible apply wr)<;>try simp only [go_sem,seval,hdk,hw2,hwk,u2,u3,u4,u8,u9,u10,u18,u19,ne0,A0,A1])
     refine AC.call (c_name L E (A7 s) _ _ t (by repeat (first|exact A0|rw [A2 (by omega)]|rw [F8 (by omega)])) (by omega) (by have:=hn;omega)) ?_;rintro v H' c30 ⟨rfl,rfl⟩ hc30;try dsimp only
     simp only [go_sem,seval,ne0,A0,A1];repeat' ((with_reducible apply wr)<;>try simp only [go_sem,seval,ne0,A0,A1])
     refine AC.call (c_expression L E hL f (B2 L E (A7 s) 1).2 (e,s1) hz28 (hti2) _ _ t (by repeat (first|exact A0|rw [A2 (by omega)]|rw [F8 (by omega)])) (by omega)) ?_;rintro v H' c31 ⟨rfl,rfl⟩ hc31;have ne0:=V1 t cc c3 c31 (by omega);try dsimp only
     simp only [go_sem,seval,Ex.v_w,ne0,A0,A1];repeat' ((with_reducible apply wr)<;>try simp only [go_sem,seval,ne0,A0,A1])
     refine AC.call (c_expect L E s1 _ _ t (by repeat (first|exact A0|rw [A2 (by omega)]|rw [F8 (by omega)])) (by omega) (by have:=h1i;omega) _) ?_;rintro v H' c32 ⟨rfl,rfl⟩ hc32;try dsimp only
     simp only [go_sem,seval,ne0,A0,A1];repeat' ((with_reducible apply wr)<;>try simp only [go_sem,seval,ne0,A0,A1])
     have hgx:=J5 (E:=E) (x:=[44]) h1i;refine AC.call (c_expression L E hL f (D1 L E s1 [44]) (e2,s2) hz29 (J5 h1i) _ _ t (by repeat (first|exact A0|rw [A2 (by omega)]|rw [F8 (by omega)])) (by omega)) ?_;rintro v H' c33 ⟨rfl,rfl⟩ hc33;have ne0:=A1s t cc c3 c31 (c32+4) (by omega);try dsimp only
     simp only [go_sem,seval,Ex.v_w,ne0,A0,A1];repeat' ((with_reducible apply wr)<;>try simp only [go_sem,seval,ne0,A0,A1])
     refine ⟨?_,?_⟩
     ·and_intros
      all_goals ((repeat rw [A2 (by omega)]);exact hfr _ (by omega))
     have ne0:=A9n t cc c3 c31 (c32+4) c33 (by omega);try simp only [go_sem,seval,I6,F8,A4s,ne0,A0,A1]
     repeat' ((with_reducible apply wr)<;>try simp only [go_sem,seval,I6,F8,A4s,ne0,A0,A1])
     refine D2p (Z1 (by rfl) (by omega) (by omega)) ?_;try simp only [go_sem,seval,F8,A4s,ne0,A0,A1]
     repeat' ((with_reducible apply wr)<;>try simp only [go_sem,seval,F8,A4s,ne0,A0,A1])
     refine AC.call (c_expect L E s2 _ _ t (by repeat (first|exact A0|rw [A2 (by omega)]|rw [F8 (by omega)])) (by omega) (by have:=h2i;omega) _) ?_;rintro v H' c34 ⟨rfl,rfl⟩ hc34;try dsimp only
     simp only [go_sem,seval,ne0,A0,A1];repeat' ((with_reducible apply wr)<;>try simp only [go_sem,seval,ne0,A0,A1])
     rw [E7 (rv7 rfl A0)];refine ⟨_,_,A1y (cc:=cc) (i:=c33) [e,e2] (.inr ⟨rfl,rfl⟩) (.inr ⟨rfl,rfl⟩) (D7 hfr htc) (by omega) ?_ (fun j hj=>?_),(by first|rfl|(rw [Pb.St.v_w];done)|(rw [Pb.St.v_w];rfl)),rfl⟩
     ·rw [C5w];dsimp only
      repeat (first|exact A0|rw [A2 (by omega)]|rw [F8 (by omega)])
     simp [Hp.upd,Hp.del,show ¬j=cc by omega,show ¬j=c3 by omega,show ¬j=c31 by omega,show ¬j=c32+4 by omega,show ¬j=c33 by omega];try (split<;>rfl)
  by_cases k68:k=6\/k=8
  ·rw [if_pos (by omega)] at h;cases hz35:Q7 L E f (B2 L E (A7 s) 1).2 with
   | none=>rw [hz35] at h;cases h
   | some qhz35 =>
    obtain ⟨e,s1⟩:=qhz35;rw [hz35] at h;dsimp only at h;rw [if_neg (by omega)] at h;cases h;have h1i:=Q6 hz35 hti2;dsimp only at h1i;rcases k68 with rfl|rfl
    all_goals
     repeat' ((with_reducible apply wr)<;>try simp only [go_sem,seval,hdk,hw2,hwk,u2,u3,u4,u8,u9,u10,u18,u19,ne0,A0,A1])
     refine AC.call (c_name L E (A7 s) _ _ t (by repeat (first|exact A0|rw [A2 (by omega)]|rw [F8 (by omega)])) (by omega) (by have:=hn;omega)) ?_;rintro v H' c36 ⟨rfl,rfl⟩ hc36;try dsimp only
     simp only [go_sem,seval,ne0,A0,A1];repeat' ((with_reducible apply wr)<;>try simp only [go_sem,seval,ne0,A0,A1])
     refine AC.call (c_expression L E hL f (B2 L E (A7 s) 1).2 (e,s1) hz35 (hti2) _ _ t (by repeat (first|exact A0|rw [A2 (by omega)]|rw [F8 (by omega)])) (by omega)) ?_;rintro v H' c37 ⟨rfl,rfl⟩ hc37;have ne0:=V1 t cc c3 c37 (by omega);try dsimp only
     simp only [go_sem,seval,Ex.v_w,ne0,A0,A1];repeat' ((with_reducible apply wr)<;>try simp only [go_sem,seval,ne0,A0,A1])
     refine AC.call (c_expect L E s1 _ _ t (by repeat (first|exact A0|rw [A2 (by omega)]|rw [F8 (by omega)])) (by omega) (by have:=h1i;omega) _) ?_;rintro v H' c38 ⟨rfl,rfl⟩ hc38;try dsimp only
     simp only [go_sem,seval,ne0,A0,A1];repeat' ((with_reducible apply wr)<;>try simp only [go_sem,seval,ne0,A0,A1])
     rw [E7 (rv7 rfl A0)];refine ⟨_,_,A1y (cc:=cc) (i:=c37) [e] (.inr ⟨rfl,rfl⟩) (.inr ⟨rfl,rfl⟩) (D7 hfr htc) (by omega) ?_ (fun j hj=>?_),(by first|rfl|(rw [Pb.St.v_w];done)|(rw [Pb.St.v_w];rfl)),rfl⟩
     ·rw [A4v];dsimp only
      repeat (first|exact A0|rw [A2 (by omega)]|rw [F8 (by omega)])
     simp [Hp.upd,Hp.del,show ¬j=cc by omega,show ¬j=c3 by omega,show ¬j=c37 by omega];try (split<;>rfl)
  rw [if_neg (by omega)] at h;cases h;have e2:(2+k == 2)=false:=by simp;omega
  have e3:(2+k == 3)=false:=by simp;omega
  have e4:(2+k == 4)=false:=by simp;omega
  have e18:(2+k == 18)=false:=by simp;omega
  have e19:(2+k == 19)=false:=by simp;omega
  have e8:(2+k == 8)=false:=by simp;omega
  have e9:(2+k == 9)=false:=by simp;omega
  have e10:(2+k == 10)=false:=by simp;omega
  repeat' ((with_reducible apply wr)<;>try simp only [go_sem,seval,hdk,hw2,hwk,u2,u3,u4,u8,u9,u10,u18,u19,e2,e3,e4,e18,e19,e8,e9,e10,ne0,A0,A1])
  refine AC.call (c_name L E (A7 s) _ _ t (by repeat (first|exact A0|rw [A2 (by omega)]|rw [F8 (by omega)])) (by omega) (by have:=hn;omega)) ?_;rintro v H' c39 ⟨rfl,rfl⟩ hc39;try dsimp only
  simp only [go_sem,seval,e8,e9,e10,ne0,A0,A1];repeat' ((with_reducible apply wr)<;>try simp only [go_sem,seval,e8,e9,e10,ne0,A0,A1])
  refine AC.call (c_expect L E (B2 L E (A7 s) 1).2 _ _ t (by repeat (first|exact A0|rw [A2 (by omega)]|rw [F8 (by omega)])) (by omega) (by have:=hti2;omega) _) ?_;rintro v H' c40 ⟨rfl,rfl⟩ hc40;try dsimp only
  simp only [go_sem,seval,ne0,A0,A1];repeat' ((with_reducible apply wr)<;>try simp only [go_sem,seval,ne0,A0,A1])
  rw [E7 (rv7 rfl A0)];refine ⟨_,_,C5p (cc:=cc) (.inr ⟨rfl,rfl⟩) (.inr ⟨rfl,rfl⟩) (.inr ⟨rfl,rfl⟩) (D7 hfr htc) (fun j hj=>?_),(by first|rfl|(rw [Pb.St.v_w];done)|(rw [Pb.St.v_w];rfl)),rfl⟩;simp [Hp.upd,Hp.del,show ¬j=cc by omega,show ¬j=c3 by omega];try (split<;>rfl)
end Go.Proofs.YtnmkkggfgdfmeaaGreatDoor
set_option maxHeartbeats 4000000
namespace Go.Proofs.YtnmkkggfgdfmeaaGreatDoor
open Go.Eng (IC IOper DReg IFn B8)
open Go.Sym Go.Pb
theorem c_stm (L:List Tok) (E:Int) (hL:L.length<=1000000000):∀ f:Nat,
  (∀ d s r,0<=d->d<=100->R8 L E f d s=some r->s.i<=L.length->RdC L E 143 [I64 d] s (r.1.v,r.2)) /\
  (∀ d s r,0<=d->d<=100->M0 L E f d s=some r->s.i<=L.length->RdC L E 118 [I64 d] s (F3 r.1,r.2)) /\
  (∀ d s r,0<=d->d<=99->Q1 L E f d s=some r->s.i<=L.length->RdC L E 155 [I64 d] s (F3 r.1,r.2)):=by
 intro f
 induction f using Nat.strongRecOn with
 | _ f ih =>
  cases f with
  | zero=>exact ⟨fun d s r _ _ h=>by simp [R8] at h,fun d s r _ _ h=>by simp [M0] at h,fun d s r _ _ h=>by simp [Q1] at h⟩
  | succ f =>
   have i0:=ih f (by omega);exact ⟨fun d s r h1 h2 h hi=>c_statement L E hL f i0.2.1 i0.2.2 d s r h1 h2 h hi,
    fun d s r h1 h2 h hi=>c_block L E hL f (fun g hg=>(ih g (by omega)).1) d s r h1 h2 h hi,
    fun d s r h1 h2 h hi=>c_other L E hL f i0.1 i0.2.1 d s r h1 h2 h hi⟩
theorem c_declaration (L:List Tok) (E:Int) (s:Rd) (H:Hp) (cc t:Nat) (ht:H t=some (rdR L E s)) (htc:t<cc) (hL:L.length<=1000000000) (hv:∀ x∈L,0<=x.value/\x.value<=9223372036854775807) (k:Int) (hk0:0<=k) (hk:k<8) (hi:s.i<L.length):AC Tryz.prog 75 [.ptr t 0,I64 k] H cc (fun v H' c'=>v=(R0 L E k s).1.v/\H'=H.upd t (rdR L E (R0 L E k s).2)):=by
 refine AC.bodyT A9 rfl (A0B rfl) fun hfr=>?_;have hwk:IntKind.i64.wrap (1+k)=1+k:=w64 (by omega) (by omega);have hw:IntKind.i64.wrap ((s.i:Int)+1)=((s.i+1:Nat):Int):=by rw [w64 (by omega) (by omega)];omega
 have hn:(A7 s).i<=L.length:=hi;have hti:=L2 (E:=E) (x:=1) (by decide) hn;repeat' ((with_reducible apply wr)<;>try simp only [go_sem,seval])
 refine AC.call (c_peek L E s _ _ t (by rw [A2 (by omega)];exact ht) (by omega)) ?_;rintro v H' c1 ⟨rfl,rfl⟩ hc1;have ne0:=S0 t cc c1 (by omega);simp only [go_sem,seval,ne0,hwk];repeat' ((with_reducible apply wr)<;>try simp only [go_sem,seval,ht,hw,hwk,ne0,A0,A1])
 refine AC.call (c_name L E (A7 s) _ _ t (by repeat (first|exact A0|rw [A2 (by omega)])) (by omega) (by omega)) ?_;rintro v H' c2 ⟨rfl,rfl⟩ hc2;have hval:∀ z,0<=(B2 L E z 3).1.value/\(B2 L E z 3).1.value<=9223372036854775807:=fun z=>by
  unfold B2;split
  ·exact ⟨A3K 0,(by decide:(0:Int)<=9223372036854775807)⟩
  ·show 0<=(B5 L E z).value/\(B5 L E z).value<=9223372036854775807;unfold B5;rw [A0X];cases hg:L[z.i]? with
   | none=>exact ⟨A3K 0,(by decide:(0:Int)<=9223372036854775807)⟩
   | some x=>exact hv x (A0W hg)
 obtain ⟨D,hD⟩:∃ D,D=R0 L E k s:=⟨_,rfl⟩;rw [<- hD];unfold R0 at hD;dsimp only at hD;generalize (B5 L E s).pos=p at hD ⊢;generalize (B2 L E (A7 s) 1).1.text=n at hD ⊢;generalize (B2 L E (A7 s) 1).2=s2 at hD hti ⊢;by_cases h6:k+1<=6
 ·rw [if_pos h6] at hD;have hd6:decide (1+k<=6)=true:=by simp;omega
  have hw2:IntKind.i64.wrap ((s2.i:Int)+1)=((s2.i+1:Nat):Int):=by rw [w64 (by omega) (by omega)];omega
  by_cases h5:k=5
  ·subst h5;simp only [go_sem,seval,hd6,ne0,A0,A1];repeat' ((with_reducible apply wr)<;>try simp only [go_sem,seval,hd6,ne0,A0,A1])
   refine AC.call (c_is L E s2 _ _ t (by repeat (first|exact A0|rw [A2 (by omega)])) (by omega) _) ?_;rintro v H' c3 ⟨rfl,rfl⟩ hc3;cases hq:isR L E s2 [45] with
   | true =>
    rw [hq] at hD;have hn2:(A7 s2).i<=L.length:=(A1b hq).2;have hv2:=hval (A7 s2);have hneg:IntKind.i64.wrap (0-(B2 L E (A7 s2) 3).1.value) = -(B2 L E (A7 s2) 3).1.value:=by rw [w64 (by omega) (by omega)];omega
    simp only [go_sem,seval,hq,hw2,ne0,A0,A1];repeat' ((with_reducible apply wr)<;>try simp only [go_sem,seval,hw2,ne0,A0,A1])
    have h4i:=L2 (E:=E) (x:=3) (by decide) hn2;subst hD;refine AC.call (c_take L E (A7 s2) _ _ t (by repeat (first|exact A0|rw [A2 (by omega)])) (by omega) (by omega) 3) ?_;rintro v H' c4 ⟨rfl,rfl⟩ hc4;try dsimp only
    simp only [go_sem,seval,hneg,ne0,A0,A1];repeat' ((with_reducible apply wr)<;>try simp only [go_sem,seval,hneg,ne0,A0,A1])
    refine AC.call (c_expect L E (B2 L E (A7 s2) 3).2 _ _ t (by repeat (first|exact A0|rw [A2 (by omega)])) (by omega) (by omega) _) ?_;rintro v H' c9 ⟨rfl,rfl⟩ hc9;simp only [go_sem,seval,ne0,A0,A1];repeat' ((with_reducible apply wr)<;>try simp only [go_sem,seval,ne0,A0,A1])
    rw [E7 (rv4 rfl A0)];refine ⟨_,_,S5 (cc:=cc) (D7 hfr htc) (fun j hj=>?_),rfl,rfl⟩;simp [Hp.upd,show ¬j=cc by omega,show ¬j=c1 by omega];try (split<;>rfl)
   | false =>
    rw [hq] at hD;simp only [go_sem,seval,hq,ne0,A0,A1];repeat' ((with_reducible apply wr)<;>try simp only [go_sem,seval,ne0,A0,A1])
    have h4i:=L2 (E:=E) (x:=3) (by decide) hti;subst hD;refine AC.call (c_take L E s2 _ _ t (by repeat (first|exact A0|rw [A2 (by omega)])) (by omega) (by omega) 3) ?_;rintro v H' c4 ⟨rfl,rfl⟩ hc4;try dsimp only
    simp only [go_sem,seval,ne0,A0,A1];repeat' ((with_reducible apply wr)<;>try simp only [go_sem,seval,ne0,A0,A1])
    refine AC.call (c_expect L E (B2 L E s2 3).2 _ _ t (by repeat (first|exact A0|rw [A2 (by omega)])) (by omega) (by omega) _) ?_;rintro v H' c9 ⟨rfl,rfl⟩ hc9;simp only [go_sem,seval,ne0,A0,A1];repeat' ((with_reducible apply wr)<;>try simp only [go_sem,seval,ne0,A0,A1])
    rw [E7 (rv4 rfl A0)];refine ⟨_,_,S5 (cc:=cc) (D7 hfr htc) (fun j hj=>?_),rfl,rfl⟩;simp [Hp.upd,show ¬j=cc by omega,show ¬j=c1 by omega];try (split<;>rfl)
  ·have hd5:(1+k == 6)=false:=by simp;omega
   have hm:(k+1 == 6)=false:=by simp;omega
   rw [hm] at hD;simp only [go_sem,seval,hd6,hd5,ne0,A0,A1];repeat' ((with_reducible apply wr)<;>try simp only [go_sem,seval,hd6,hd5,ne0,A0,A1])
   have h4i:=L2 (E:=E) (x:=3) (by decide) hti;subst hD;refine AC.call (c_take L E s2 _ _ t (by repeat (first|exact A0|rw [A2 (by omega)])) (by omega) (by omega) 3) ?_;rintro v H' c4 ⟨rfl,rfl⟩ hc4;try dsimp only
   simp only [go_sem,seval,ne0,A0,A1];repeat' ((with_reducible apply wr)<;>try simp only [go_sem,seval,ne0,A0,A1])
   refine AC.call (c_expect L E (B2 L E s2 3).2 _ _ t (by repeat (first|exact A0|rw [A2 (by omega)])) (by omega) (by omega) _) ?_;rintro v H' c9 ⟨rfl,rfl⟩ hc9;simp only [go_sem,seval,ne0,A0,A1];repeat' ((with_reducible apply wr)<;>try simp only [go_sem,seval,ne0,A0,A1])
   rw [E7 (rv4 rfl A0)];refine ⟨_,_,S5 (cc:=cc) (D7 hfr htc) (fun j hj=>?_),rfl,rfl⟩;simp [Hp.upd,show ¬j=cc by omega,show ¬j=c1 by omega];try (split<;>rfl)
 ·rw [if_neg h6] at hD;have hd6:decide (1+k<=6)=false:=by simp;omega
  subst hD;simp only [go_sem,seval,hd6,ne0,A0,A1];repeat' ((with_reducible apply wr)<;>try simp only [go_sem,seval,hd6,ne0,A0,A1])
  refine AC.call (c_expect L E s2 _ _ t (by repeat (first|exact A0|rw [A2 (by omega)])) (by omega) (by omega) _) ?_;rintro v H' c3 ⟨rfl,rfl⟩ hc3;simp only [go_sem,seval,ne0,A0,A1];repeat' ((with_reducible apply wr)<;>try simp only [go_sem,seval,ne0,A0,A1])
  rw [E7 (rv4 rfl A0)];refine ⟨_,_,S5 (cc:=cc) (D7 hfr htc) (fun j hj=>?_),rfl,rfl⟩;simp [Hp.upd,show ¬j=cc by omega,show ¬j=c1 by omega];try (split<;>rfl)
end Go.Proofs.YtnmkkggfgdfmeaaGreatDoor
namespace Go.Pb
variable [Go.Sym.Tab]
open Go.Sym
section
variable {L:List Tok} {E:Int}
theorem D2f {k:Int} {s:Rd} (hi:s.i<L.length):(R0 L E k s).2.i<=L.length:=by
 have hn:(A7 s).i<=L.length:=hi;have h2:=L2 (E:=E) (x:=1) (by decide) hn;unfold R0;dsimp only;split
 ·refine J5 (L2 (by decide) ?_);split
  ·rename_i hm;rw [A0G] at hm;exact (A1b hm.2).2
  ·exact h2
 ·exact J5 h2
theorem D1r:∀ (f:Nat) (l:List Hd) (s:Rd) (r:List Hd × Rd),T8 L E f l s=some r->s.i<=L.length->r.2.i<=L.length
 | 0,l,s,r,h,hi=>by simp [T8] at h
 | f+1,l,s,r,h,hi=>by
  unfold T8 at h;dsimp only at h;split at h
  ·split at h
   ·cases h;rw [T6];exact hi
   ·have h1:(C4 L E s ((l.length:Int)+1) 32 9).i<=L.length:=by rw [F7];exact hi
    have h2:=J5 (E:=E) (x:=[111,110]) h1;split at h
    ·cases h;rw [T6];exact h2
    ·rename_i hk;have h3:(A7 (D1 L E (C4 L E s ((l.length:Int)+1) 32 9) [111,110])).i<=L.length:=(G5 (show 0<=C1 L E (D1 L E (C4 L E s ((l.length:Int)+1) 32 9) [111,110]) E1 by omega)).2.1;split at h
     ·cases h
     ·rename_i hb;refine D1r f _ _ _ h ((II.all f).1 _ _ _ hb ?_);split
      ·exact L2 (by decide) h3
      ·exact h3
  ·cases h;exact J5 hi
theorem D1q {f:Nat} {s:Rd} {r:Md × Rd} (h:A2x L E f s=some r) (hi:s.i<=L.length):r.2.i<=L.length:=by
 unfold A2x at h;dsimp only at h;split at h
 ·cases h
 ·rename_i hm;cases h;exact D1r f _ _ _ hm (J5 (L2 (by decide) (L2 (by decide) (J5 hi))))
theorem C3n:∀ (f:Nat) (l:List Dc) (s:Rd) (r:List Dc × Rd),R9 L E f l s=some r->s.i<=L.length->r.2.i<=L.length
 | 0,l,s,r,h,hi=>by simp [R9] at h
 | f+1,l,s,r,h,hi=>by
  unfold R9 at h;dsimp only at h;split at h
  ·cases h;exact hi
  ·rename_i hk;have hlt:=(G5 (show 0<=C1 L E s D2 by omega)).2.1;split at h
   ·exact C3n f _ _ _ h (D2f (by rw [F7];exact hlt))
   ·exact C3n f _ _ _ h (by rw [F7];exact hi)
theorem C3l:∀ (f:Nat) (l:List Md) (s:Rd) (r:List Md × Rd),Q0 L E f l s=some r->s.i<=L.length->r.2.i<=L.length
 | 0,l,s,r,h,hi=>by simp [Q0] at h
 | f+1,l,s,r,h,hi=>by
  unfold Q0 at h;dsimp only at h;split at h
  ·split at h
   ·cases h;rw [T6];exact hi
   ·split at h
    ·split at h
     ·cases h
     ·rename_i hm;exact C3l f _ _ _ h (D1q hm (by rw [F7];exact hi))
    ·exact C3l f _ _ _ h (by rw [F7];exact hi)
  ·cases h;exact hi
end
end Go.Pb
namespace Go.Proofs.YtnmkkggfgdfmeaaGreatDoor
open Go.Eng (IC IOper DReg IFn B8)
open Go.Sym Go.Pb
theorem E1n {ρ : Ren} {v:Value} {a b e:DV} (h:VRel ρ (.agg [a,b,.snil,e]) v):VRel ρ (.agg [a,b,.lst [],e]) v:=by
 obtain ⟨bb,rfl,k1,k2⟩:=h.agg_inv;refine .agg _ _ k1 fun j x y hx hy=>?_
 match j with
 | 0=>cases hx;exact k2 0 _ y rfl hy
 | 1=>cases hx;exact k2 1 _ y rfl hy
 | 2=>cases hx;exact (k2 2 _ y rfl hy).snil_lst
 | 3=>cases hx;exact k2 3 _ y rfl hy
 | _+4=>cases hx
theorem D2a {K H':Hp} {cc:Nat} {o:Option Nat} {a b e:DV} (l:List Hd) (hK:∀ i,cc<=i->K i=none) (ho:∀ i,o=some i->cc<=i) (hno:o=none->l=[]) (hb:∀ i,o=some i->H' i=some ⟨4,true,A3 (l.map Hd.v)⟩) (h:∀ j,j<cc->H' j=K j) :
  GL H' [.agg [a,b,B9 o l.length,e]] K [.agg [a,b,S2 l,e]]:=by
 cases o with
 | none =>
  obtain rfl:=hno rfl;exact (S5 hK h).trans (GL.view fun ρ vs hA=>R3 (fun v h=>E1n h) vs hA)
 | some i =>
  have:=ho i rfl;exact GL.frzS (id:=i) (hb i rfl) rfl (fun j=>by
   by_cases hj:j<cc
   ·exact .inr ⟨by omega,(h j hj).symm⟩
   ·exact .inl (hK j (by omega))) (.cons _ _ _ _ (.agg _ _ (.cons _ _ _ _ (.same _) (.cons _ _ _ _ (.same _) (.cons _ _ _ _ (Q5 (u:=4) (by simp) (A2o l) ⟨[],by simp⟩) (.cons _ _ _ _ (.same _) .nil))))) .nil)
theorem c_mode (L:List Tok) (E:Int) (hL:L.length<=1000000000) (f:Nat) (s:Rd) (r:Md × Rd) (h:A2x L E f s=some r) (hi:s.i<=L.length):RdC L E 77 [] s (r.1.v,r.2):=by
 intro H cc t ht htc;refine AC.bodyT A9 rfl (A0B rfl) fun hfr=>?_;unfold A2x at h;dsimp only at h;have i1:=J5 (E:=E) (x:=[109,111,100,101]) hi;generalize hs1:D1 L E s [109,111,100,101]=s1 at h i1;have i2:=L2 (E:=E) (x:=1) (by decide) i1;have i3:=L2 (E:=E) (x:=3) (by decide) i2;have i4:=J5 (E:=E) (x:=[123]) i3;repeat' ((with_reducible apply wr)<;>try simp only [go_sem,seval])
 refine AC.call (c_peek L E s _ _ t (by rw [A2 (by omega)];exact ht) (by omega)) ?_;rintro v H' c1 ⟨rfl,rfl⟩ hc1;have ne0:=S0 t cc c1 (by omega);simp only [go_sem,seval,ne0];repeat' ((with_reducible apply wr)<;>try simp only [go_sem,seval,ne0,A0,A1])
 refine AC.call (c_expect L E s _ _ t (by repeat (first|exact ht|rw [A2 (by omega)])) (by omega) (by omega) _) ?_;rintro v H' c2 ⟨rfl,rfl⟩ hc2;rw [hs1];simp only [go_sem,seval,ne0];repeat' ((with_reducible apply wr)<;>try simp only [go_sem,seval,ne0,A0,A1])
 refine AC.call (c_name L E s1 _ _ t (by repeat (first|exact A0|rw [A2 (by omega)])) (by omega) (by omega)) ?_;rintro v H' c3 ⟨rfl,rfl⟩ hc3;generalize (B2 L E s1 1).1.text=n at h ⊢;generalize (B2 L E s1 1).2=s2 at h i2 i3 i4 ⊢;simp only [go_sem,seval,ne0,A0,A1];repeat' ((with_reducible apply wr)<;>try simp only [go_sem,seval,ne0,A0,A1])
 refine AC.call (c_take L E s2 _ _ t (by repeat (first|exact A0|rw [A2 (by omega)])) (by omega) (by omega) 3) ?_;rintro v H' c4 ⟨rfl,rfl⟩ hc4;try dsimp only
 simp only [go_sem,seval,ne0,A0,A1];repeat' ((with_reducible apply wr)<;>try simp only [go_sem,seval,ne0,A0,A1])
 refine AC.call (c_expect L E (B2 L E s2 3).2 _ _ t (by repeat (first|exact A0|rw [A2 (by omega)])) (by omega) (by omega) _) ?_;rintro v H' c5 ⟨rfl,rfl⟩ hc5;generalize (B2 L E s2 3).1.value=z at h ⊢;generalize D1 L E (B2 L E s2 3).2 [123]=s3 at h i4 ⊢;generalize (B5 L E s).pos=p at h ⊢;cases hm:T8 L E f [] s3 with
 | none=>rw [hm] at h;cases h
 | some q =>
  obtain ⟨hl,s4⟩:=q;rw [hm] at h;dsimp only at h;cases h;simp only [go_sem,seval,ne0,A0,A1];repeat' ((with_reducible apply wr)<;>try simp only [go_sem,seval,ne0,A0,A1])
  refine C2 (fun _:Nat × Option Nat × List Hd × Rd=>[(0,.ptr t 0),(2,.ptr cc 0),(3,.ptr c1 0)]) (fun q=>C6 (((H.upd cc ⟨0,true,[.str [],I64 0,.snil,I64 0]⟩).upd c1 ⟨0,true,[.str n,I64 z,B9 q.2.1 q.2.2.1.length,I64 p]⟩).upd t (rdR L E q.2.2.2)) q.2.1 ⟨4,true,A3 (q.2.2.1.map Hd.v)⟩)
   (fun q c=>c1+1<=c/\q.1<=f/\q.2.2.2.i<=L.length/\(q.2.1=none->q.2.2.1=[])/\(∀ i,q.2.1=some i->c1<i/\i<c)/\q.2.2.1.length<=32/\T8 L E q.1 q.2.2.1 q.2.2.2=some (hl,s4)) (fun q=>q.1) (f,none,[],s3)
   (by simp [C3,tm,Tm.upd]) (fun j b hj=>?_) ⟨by omega,A0H _,i4,fun _=>rfl,(fun i hi=>by cases hi),by simp,hm⟩ ?_
  ·simp only [C6,B1e] at hj;by_cases e1:j=t
   ·subst e1;rw [A0] at hj ⊢;exact hj
   ·rw [A2 e1] at hj ⊢;by_cases e2:j=c1
    ·subst e2;rw [A0] at hj ⊢;exact hj
    ·rw [A2 e2] at hj ⊢;simp only [A2 e1,A2 e2];exact hj
  clear hm i1 i2 i3 i4;rintro ⟨g,o,l,u⟩ c ⟨hc,hg,hi5,hno,ho,hl1,hv⟩;dsimp only at hc hg hi5 hno ho hl1 hv ⊢;cases g with
  | zero=>simp [T8] at hv
  | succ g =>
  unfold T8 at hv;dsimp only at hv;have hHt:C6 (((H.upd cc ⟨0,true,[.str [],I64 0,.snil,I64 0]⟩).upd c1 ⟨0,true,[.str n,I64 z,B9 o l.length,I64 p]⟩).upd t (rdR L E u)) o ⟨4,true,A3 (l.map Hd.v)⟩ t=some (rdR L E u):=by rw [D0 (fun i hi=>by have:=ho i hi;omega),A0]
  repeat' ((with_reducible apply wr)<;>try simp only [go_sem,seval])
  refine AC.call (c_rdok L E u _ _ t hHt (by omega)) ?_;rintro v H' c6 ⟨rfl,rfl⟩ hc6;have hbx:(C6 (((H.upd cc ⟨0,true,[.str [],I64 0,.snil,I64 0]⟩).upd c1 ⟨0,true,[.str n,I64 z,B9 o l.length,I64 p]⟩).upd t (rdR L E u)) o ⟨4,true,A3 (l.map Hd.v)⟩) c1=some ⟨0,true,[.str n,I64 z,B9 o l.length,I64 p]⟩:=by rw [D0 (fun i hi=>by have:=ho i hi;omega),A2 (by omega),A0]
  have hbo:∀ i:Nat,o=some i->(C6 (((H.upd cc ⟨0,true,[.str [],I64 0,.snil,I64 0]⟩).upd c1 ⟨0,true,[.str n,I64 z,B9 o l.length,I64 p]⟩).upd t (rdR L E u)) o ⟨4,true,A3 (l.map Hd.v)⟩) i=some ⟨4,true,A3 (l.map Hd.v)⟩:=fun i hi=>by subst hi;exact A0
  have hbj:∀ j:Nat,j<cc->¬ j=t->(C6 (((H.upd cc ⟨0,true,[.str [],I64 0,.snil,I64 0]⟩).upd c1 ⟨0,true,[.str n,I64 z,B9 o l.length,I64 p]⟩).upd t (rdR L E u)) o ⟨4,true,A3 (l.map Hd.v)⟩) j=H j:=fun j h1 h2=>by rw [D0 (fun i hi=>by have:=ho i hi;omega),A2 h2,A2 (by omega),A2 (by omega)]
  have hb0:(C6 (((H.upd cc ⟨0,true,[.str [],I64 0,.snil,I64 0]⟩).upd c1 ⟨0,true,[.str n,I64 z,B9 o l.length,I64 p]⟩).upd t (rdR L E u)) o ⟨4,true,A3 (l.map Hd.v)⟩) cc=some ⟨0,true,[.str [],I64 0,.snil,I64 0]⟩:=by rw [D0 (fun i hi=>by have:=ho i hi;omega),A2 (by omega),A2 (by omega),A0]
  have hT:(B9 o l.length).one=true:=by cases o<;>rfl
  generalize hHH:C6 (((H.upd cc ⟨0,true,[.str [],I64 0,.snil,I64 0]⟩).upd c1 ⟨0,true,[.str n,I64 z,B9 o l.length,I64 p]⟩).upd t (rdR L E u)) o ⟨4,true,A3 (l.map Hd.v)⟩=HH at hHt hbx hbo hbj hb0 ⊢;have fin:∀ (u2:Rd) (e:DV) (x:Blk) (q1 q2:DV),GL ((HH.upd t (rdR L E u2)).upd cc x) [.agg [q1,q2,B9 o l.length,e]] (H.upd t (rdR L E u2)) [.agg [q1,q2,S2 l,e]]:=fun u2 e x q1 q2 =>
   D2a (cc:=cc) l (D7 hfr htc) (fun i hi=>by have:=ho i hi;omega) hno (fun i hi=>by have:=ho i hi;rw [A2 (by omega),A2 (by omega)];exact hbo i hi) (fun j hj=>by
    rw [A2 (by omega)];by_cases e1:j=t
    ·subst e1;rw [A0,A0]
    ·rw [A2 e1,A2 e1,hbj j hj e1])
  cases hok:okR u with
  | false =>
   rw [if_neg (by simp [hok])] at hv;have e1:l=hl:=congrArg Prod.fst (Option.some.inj hv);have e2:D1 L E u [125]=s4:=congrArg Prod.snd (Option.some.inj hv);subst e1 e2;simp only [go_sem,seval,hok];repeat' ((with_reducible apply wr)<;>try simp only [go_sem,seval,hok])
   refine AC.call (c_expect L E u _ _ t hHt (by omega) (by omega) _) ?_;rintro v H' c7 ⟨rfl,rfl⟩ hc7;simp only [go_sem,seval,ne0,A0,hbx,hb0,hT];repeat' ((with_reducible apply wr)<;>try simp only [go_sem,seval,ne0,A0,hbx,hb0,hT])
   refine F6 (A5z (by rfl) (by decide) (by clear hHH;cases o<;>rfl)) ?_;simp only [go_sem,seval,ne0,A0];repeat' ((with_reducible apply wr)<;>try simp only [go_sem,seval,ne0,A0])
   rw [E7 (rv4 rfl A0)];exact ⟨_,_,fin _ _ _ _ _,rfl,rfl⟩
  | true =>
   simp only [go_sem,seval,hok];repeat' ((with_reducible apply wr)<;>try simp only [go_sem,seval,hok])
   refine AC.call (c_is L E u _ _ t hHt (by omega) _) ?_;rintro v H' c7 ⟨rfl,rfl⟩ hc7;cases hq:isR L E u [125] with
   | true =>
    rw [if_neg (by simp [hq])] at hv;have e1:l=hl:=congrArg Prod.fst (Option.some.inj hv);have e2:D1 L E u [125]=s4:=congrArg Prod.snd (Option.some.inj hv);subst e1 e2;simp only [go_sem,seval,hq];repeat' ((with_reducible apply wr)<;>try simp only [go_sem,seval,hq])
    refine AC.call (c_expect L E u _ _ t hHt (by omega) (by omega) _) ?_;rintro v H' c8 ⟨rfl,rfl⟩ hc8;simp only [go_sem,seval,ne0,A0,hbx,hb0,hT];repeat' ((with_reducible apply wr)<;>try simp only [go_sem,seval,ne0,A0,hbx,hb0,hT])
    refine F6 (A5z (by rfl) (by decide) (by clear hHH;cases o<;>rfl)) ?_;simp only [go_sem,seval,ne0,A0];repeat' ((with_reducible apply wr)<;>try simp only [go_sem,seval,ne0,A0])
    rw [E7 (rv4 rfl A0)];exact ⟨_,_,fin _ _ _ _ _,rfl,rfl⟩
   | false =>
    rw [if_pos ⟨hok,hq⟩] at hv;simp only [go_sem,seval,hq];repeat' ((with_reducible apply wr)<;>try simp only [go_sem,seval,hq])
    refine AC.call (c_is L E u _ _ t hHt (by omega) _) ?_;rintro v H' c8 ⟨rfl,rfl⟩ hc8;cases hon:isR L E u [111,110] with
    | false =>
     rw [if_pos hon] at hv;have e1:l=hl:=congrArg Prod.fst (Option.some.inj hv);have e2:O2 L E u=s4:=congrArg Prod.snd (Option.some.inj hv);subst e1 e2;simp only [go_sem,seval,hon];repeat' ((with_reducible apply wr)<;>try simp only [go_sem,seval,hon])
     refine AC.call (c_syntax L E u _ _ t hHt (by omega)) ?_;rintro v H' c9 ⟨rfl,rfl⟩ hc9;simp only [go_sem,seval,ne0,A0,hbx,hb0,hT];repeat' ((with_reducible apply wr)<;>try simp only [go_sem,seval,ne0,A0,hbx,hb0,hT])
     refine F6 (A5z (by rfl) (by decide) (by clear hHH;cases o<;>rfl)) ?_;simp only [go_sem,seval,ne0,A0];repeat' ((with_reducible apply wr)<;>try simp only [go_sem,seval,ne0,A0])
     rw [E7 (rv4 rfl A0)];exact ⟨_,_,fin _ _ _ _ _,rfl,rfl⟩
    | true =>
     rw [if_neg (by simp [hon])] at hv;have hlen:A6n (B9 o l.length)=some (I64 l.length):=by
      cases o with
      | none=>rw [hno rfl];rfl
      | some b=>rfl
     have hwl:IntKind.i64.wrap ((l.length:Int)+1)=(l.length:Int)+1:=w64 (by omega) (by omega);simp only [go_sem,seval,hon];repeat' ((with_reducible apply wr)<;>try simp only [go_sem,seval,hon,hbx,hlen,hwl])
     refine AC.call (c_limit L E u _ _ t hHt (by omega) _ _ _) ?_;rintro v H' c9 ⟨rfl,rfl⟩ hc9;have j1:(C4 L E u ((l.length:Int)+1) 32 9).i<=L.length:=by rw [F7];exact hi5
     generalize hlq:C4 L E u ((l.length:Int)+1) 32 9=u1 at hv j1 ⊢;have j2:=J5 (E:=E) (x:=[111,110]) j1;simp only [go_sem,seval];repeat' ((with_reducible apply wr)<;>try simp only [go_sem,seval])
     refine AC.call (c_peek L E u1 _ _ t A0 (by omega)) ?_;rintro v H' c10 ⟨rfl,rfl⟩ hc10;have ne0:=V1 t cc c1 c10 (by omega);simp only [go_sem,seval,ne0];repeat' ((with_reducible apply wr)<;>try simp only [go_sem,seval,ne0,A0,A1])
     refine AC.call (c_expect L E u1 _ _ t (by repeat (first|exact A0|rw [A2 (by omega)])) (by omega) (by omega) _) ?_;rintro v H' c11 ⟨rfl,rfl⟩ hc11;generalize hu2:D1 L E u1 [111,110]=u2 at hv j2 ⊢;simp only [go_sem,seval,ne0];repeat' ((with_reducible first|apply wr|refine cpc c_trigs31 ?_|fail)<;>try simp only [go_sem,seval,ne0,A0,A1])
     refine AC.call (c_among L E u2 _ _ t (by repeat (first|exact A0|rw [A2 (by omega)])) (by omega) E1 (by decide)) ?_;rintro v H' c12 ⟨rfl,rfl⟩ hc12;have hkr : -1<=C1 L E u2 E1/\C1 L E u2 E1<6:=A3x L E u2 E1 0;have hnn:0<=C1 L E u2 E1->okR u2=true/\u2.i<L.length:=fun h=>⟨(G5 h).1,(G5 h).2.1⟩;generalize C1 L E u2 E1=k at hv hkr hnn;by_cases hk:k<0
     ·rw [if_pos hk] at hv;have e1:l=hl:=congrArg Prod.fst (Option.some.inj hv);have e2:O2 L E u2=s4:=congrArg Prod.snd (Option.some.inj hv);subst e1 e2;have hdk:decide (k<0)=true:=by simpa using hk
      simp only [go_sem,seval,ne0,hdk];repeat' ((with_reducible apply wr)<;>try simp only [go_sem,seval,hdk])
      refine AC.call (c_syntax L E u2 _ _ t (by repeat (first|exact A0|rw [A2 (by omega)])) (by omega)) ?_;rintro v H' c13 ⟨rfl,rfl⟩ hc13;simp only [go_sem,seval,ne0,A0,hbx,hb0,hT];repeat' ((with_reducible apply wr)<;>try simp only [go_sem,seval,ne0,A0,hbx,hb0,hT])
      refine F6 (A5z (by rfl) (by decide) (by clear hHH;cases o<;>rfl)) ?_;simp only [go_sem,seval,ne0,A0];repeat' ((with_reducible apply wr)<;>try simp only [go_sem,seval,ne0,A0])
      rw [E7 (rv4 rfl A0)];refine ⟨_,_,D2a (cc:=cc) l (D7 hfr htc) (fun i hi=>by have:=ho i hi;omega) hno (fun i hi=>?_) (fun j hj=>?_),rfl,rfl⟩
      ·have:=ho i hi;dsimp only
       repeat rw [A2 (by omega)]
       exact hbo i hi
      ·by_cases e1:j=t
       ·subst e1;dsimp only;rw [A2 (by omega),A0,A0]
       ·dsimp only
        repeat rw [A2 (by omega)]
        exact hbj j hj e1
     rw [if_neg hk] at hv;have hdk:decide (k<0)=false:=by simpa using hk
     obtain ⟨hok2,hi2⟩:=hnn (by omega);have hw2:IntKind.i64.wrap ((u2.i:Int)+1)=((u2.i+1:Nat):Int):=by rw [w64 (by omega) (by omega)];omega
     have hwk:IntKind.i64.wrap (1+k)=1+k:=w64 (by omega) (by omega);have hn2:(A7 u2).i<=L.length:=hi2;have ht2:=L2 (E:=E) (x:=1) (by decide) hn2;have hl32:l.length+1<=32:=by
      have hok1:okR u1=true:=by
       cases hz:okR u1 with
       | true=>rfl
       | false =>
        have:D1 L E u1 [111,110]=O2 L E u1:=by unfold D1 isR;rw [hz];rfl
        rw [<- hu2,this,A0k] at hok2;cases hok2
      have:=(G3 (L:=L) (E:=E) (s:=u) (n:=(l.length:Int)+1) (m:=32) (e:=9) (by decide) (by rw [hlq];exact hok1)).2.1;omega
     simp only [go_sem,seval,ne0,hdk];by_cases hk2:2<=k
     ·rw [if_pos hk2,if_pos hk2] at hv;have hd2:decide (k≥2)=true:=by simpa using hk2
      repeat' ((with_reducible apply wr)<;>try simp only [go_sem,seval,hdk,hd2,hw2,hwk,ne0,A0,A1])
      refine AC.call (c_name L E (A7 u2) _ _ t (by repeat (first|exact A0|rw [A2 (by omega)])) (by omega) (by omega)) ?_;rintro v H' c14 ⟨rfl,rfl⟩ hc14;simp only [go_sem,seval,ne0,A0,A1];repeat' ((with_reducible apply wr)<;>try simp only [go_sem,seval,ne0,A0,A1])
      cases hb:M0 L E g 1 (B2 L E (A7 u2) 1).2 with
      | none=>rw [hb] at hv;cases hv
      | some qb =>
       obtain ⟨bd,s6⟩:=qb;rw [hb] at hv;dsimp only at hv;have j6:=(II.all g).1 _ _ _ hb ht2;refine AC.call ((c_stm L E hL g).2.1 1 (B2 L E (A7 u2) 1).2 (bd,s6) (by decide) (by decide) hb ht2 _ _ t (by repeat (first|exact A0|rw [A2 (by omega)])) (by omega)) ?_;rintro v H' c15 ⟨rfl,rfl⟩ hc15;try dsimp only
       have ne0:=A1s t cc c1 c10 c15 (by omega);simp only [go_sem,seval,ne0,A0,A1,hbx];repeat' ((with_reducible apply wr)<;>try simp only [go_sem,seval,ne0,A0,A1,hbx])
       have hl4:(A3 (l.map Hd.v)).length=l.length * 4:=B3 (u:=4) (A2o _) |>.trans (by simp);refine F6 (F1 (cs:=A3 (l.map Hd.v)) (fun e=>by rw [hno e];exact ⟨rfl,rfl⟩) (fun i hi=>?_) hl4 (by omega) (by omega) (by omega)) ?_
       ·have:=ho i hi
        repeat rw [A2 (by omega)]
        exact hbo i hi
       have hdx:∀ X:Hp,I6 X o c1=X c1:=fun X=>E9 (fun i hi=>by have:=ho i hi;omega);have ne0:=A9n t cc c1 c10 c15 (c15+1) (by omega);simp only [go_sem,seval,ne0,A0,A1,hdx,hbx];repeat' ((with_reducible apply wr)<;>try simp only [go_sem,seval,ne0,A0,A1,hdx,hbx])
       refine ⟨(g,some (c15+1),l++[⟨1+k,(B2 L E (A7 u2) 1).1.text,bd,(B5 L E u1).pos⟩],s6),?_,inv ⟨by omega,by simp only;omega,j6,(fun h=>by cases h),(fun i hi=>by cases hi;omega),by simp only [A0A,A0I];omega,hv⟩,by simp only;omega⟩;intro j b hj;simp only [C6,A5g,A0A,A0I,A0P,B6] at hj;by_cases e1:j=c15+1
       ·subst e1;rw [A0] at hj;rw [A2 (by omega),A0, <- hj];rfl
       rw [A2 e1] at hj;by_cases e2:j=t
       ·subst e2;rw [A0] at hj;rw [A2 (by omega),A2 (by omega),E9 (fun i hi=>by have:=ho i hi;omega),A2 (by omega),A2 (by omega),A0];exact hj
       rw [A2 e2] at hj;by_cases e3:j=c1
       ·subst e3;rw [A0] at hj ⊢;exact hj
       rw [A2 e3] at hj ⊢;by_cases e4:j=cc
       ·subst e4;rw [A0] at hj;rw [A2 (by omega),E9 (fun i hi=>by have:=ho i hi;omega)]
        repeat rw [A2 (by omega)]
        rw [hb0];exact hj
       ·rw [A2 e4] at hj;have hjc:j<cc:=Classical.byContradiction fun h=>by rw [hfr j (by omega)] at hj;cases hj
        rw [A2 (by omega),E9 (fun i hi=>by have:=ho i hi;omega)]
        repeat rw [A2 (by omega)]
        rw [hbj j hjc e2];exact hj
     ·rw [if_neg hk2,if_neg hk2] at hv;have hd2:decide (k≥2)=false:=by simpa using hk2
      repeat' ((with_reducible apply wr)<;>try simp only [go_sem,seval,hdk,hd2,hw2,hwk,ne0,A0,A1])
      cases hb:M0 L E g 1 (A7 u2) with
      | none=>rw [hb] at hv;cases hv
      | some qb =>
       obtain ⟨bd,s6⟩:=qb;rw [hb] at hv;dsimp only at hv;have j6:=(II.all g).1 _ _ _ hb hn2;refine AC.call ((c_stm L E hL g).2.1 1 (A7 u2) (bd,s6) (by decide) (by decide) hb hn2 _ _ t (by repeat (first|exact A0|rw [A2 (by omega)])) (by omega)) ?_;rintro v H' c15 ⟨rfl,rfl⟩ hc15;try dsimp only
       have ne0:=A1s t cc c1 c10 c15 (by omega);simp only [go_sem,seval,ne0,A0,A1,hbx];repeat' ((with_reducible apply wr)<;>try simp only [go_sem,seval,ne0,A0,A1,hbx])
       have hl4:(A3 (l.map Hd.v)).length=l.length * 4:=B3 (u:=4) (A2o _) |>.trans (by simp);refine F6 (F1 (cs:=A3 (l.map Hd.v)) (fun e=>by rw [hno e];exact ⟨rfl,rfl⟩) (fun i hi=>?_) hl4 (by omega) (by omega) (by omega)) ?_
       ·have:=ho i hi
        repeat rw [A2 (by omega)]
        exact hbo i hi
       have hdx:∀ X:Hp,I6 X o c1=X c1:=fun X=>E9 (fun i hi=>by have:=ho i hi;omega);have ne0:=A9n t cc c1 c10 c15 (c15+1) (by omega);simp only [go_sem,seval,ne0,A0,A1,hdx,hbx];repeat' ((with_reducible apply wr)<;>try simp only [go_sem,seval,ne0,A0,A1,hdx,hbx])
       refine ⟨(g,some (c15+1),l++[⟨1+k,[],bd,(B5 L E u1).pos⟩],s6),?_,inv ⟨by omega,by simp only;omega,j6,(fun h=>by cases h),(fun i hi=>by cases hi;omega),by simp only [A0A,A0I];omega,hv⟩,by simp only;omega⟩;intro j b hj;simp only [C6,A5g,A0A,A0I,A0P,B6] at hj;by_cases e1:j=c15+1
       ·subst e1;rw [A0] at hj;rw [A2 (by omega),A0, <- hj];rfl
       rw [A2 e1] at hj;by_cases e2:j=t
       ·subst e2;rw [A0] at hj;rw [A2 (by omega),A2 (by omega),E9 (fun i hi=>by have:=ho i hi;omega),A2 (by omega),A2 (by omega),A0];exact hj
       rw [A2 e2] at hj;by_cases e3:j=c1
       ·subst e3;rw [A0] at hj ⊢;exact hj
       rw [A2 e3] at hj ⊢;by_cases e4:j=cc
       ·subst e4;rw [A0] at hj;rw [A2 (by omega),E9 (fun i hi=>by have:=ho i hi;omega)]
        repeat rw [A2 (by omega)]
        rw [hb0];exact hj
       ·rw [A2 e4] at hj;have hjc:j<cc:=Classical.byContradiction fun h=>by rw [hfr j (by omega)] at hj;cases hj
        rw [A2 (by omega),E9 (fun i hi=>by have:=ho i hi;omega)]
        repeat rw [A2 (by omega)]
        rw [hbj j hjc e2];exact hj
theorem E1m {ρ : Ren} {v:Value} {a:DV} (h:VRel ρ (.agg [a,.snil]) v):VRel ρ (.agg [a,.lst []]) v:=by
 obtain ⟨bb,rfl,k1,k2⟩:=h.agg_inv;refine .agg _ _ k1 fun j x y hx hy=>?_
 match j with
 | 0=>cases hx;exact k2 0 _ y rfl hy
 | 1=>cases hx;exact (k2 1 _ y rfl hy).snil_lst
 | _+2=>cases hx
theorem D1z {K H':Hp} {cc:Nat} {o:Option Nat} {a:DV} (l:List Md) (hK:∀ i,cc<=i->K i=none) (ho:∀ i,o=some i->cc<=i) (hno:o=none->l=[]) (hb:∀ i,o=some i->H' i=some ⟨4,true,A3 (l.map Md.v)⟩) (h:∀ j,j<cc->H' j=K j) :
  GL H' [.agg [a,B9 o l.length]] K [.agg [a,D5 l]]:=by
 cases o with
 | none =>
  obtain rfl:=hno rfl;exact (S5 hK h).trans (GL.view fun ρ vs hA=>R3 (fun v h=>E1m h) vs hA)
 | some i =>
  have:=ho i rfl;exact GL.frzS (id:=i) (hb i rfl) rfl (fun j=>by
   by_cases hj:j<cc
   ·exact .inr ⟨by omega,(h j hj).symm⟩
   ·exact .inl (hK j (by omega))) (.cons _ _ _ _ (.agg _ _ (.cons _ _ _ _ (.same _) (.cons _ _ _ _ (Q5 (u:=4) (by simp) (V3 l) ⟨[],by simp⟩) .nil))) .nil)
theorem rv2 {s:Sym.St} {x i u:Nat} {a b:DV} {o:Bool} (h:s.T x=.ptr i 0) (hb:s.H i=some ⟨u,o,[a,b]⟩):A5l s [.cell x 2 true]=some (.agg [a,b]):=by
 simp only [A5l,A3l,h,ldv,ldB,hb];rfl
theorem c_rules (L:List Tok) (E:Int) (hL:L.length<=1000000000) (hv:∀ x∈L,0<=x.value/\x.value<=9223372036854775807) (f:Nat) (s:Rd) (r:Ru × Rd) (h:A4e L E f s=some r) (hi:s.i<=L.length):RdC L E 37 [] s (r.1.v,r.2):=by
 intro H cc t ht htc;refine AC.bodyT A9 rfl (A0B rfl) fun hfr=>?_;unfold A4e at h;cases hd:R9 L E f [] s with
 | none=>rw [hd] at h;cases h
 | some q =>
 obtain ⟨dl,s1⟩:=q;rw [hd] at h;dsimp only at h;cases hm:Q0 L E f [] s1 with
 | none=>rw [hm] at h;cases h
 | some q =>
 obtain ⟨ml,s2⟩:=q;rw [hm] at h;cases h;have ne0:=S0 t cc (cc+1) (by omega);repeat' ((with_reducible first|apply wr|refine cpc c_decls31 ?_|fail)<;>try simp only [go_sem,seval,ne0,A0,A1])
 refine AC.call (c_among L E s _ _ t (by repeat (first|exact ht|rw [A2 (by omega)])) (by omega) D2 (by decide)) ?_;rintro v H' c1 ⟨rfl,rfl⟩ hc1;simp only [go_sem,seval,ne0];repeat' ((with_reducible apply wr)<;>try simp only [go_sem,seval,ne0])
 refine C2 (fun q:Nat × Option Nat × List Dc × Rd=>[(0,.ptr t 0),(2,.ptr cc 0),(3,.ptr (cc+1) 0),(4,I64 (C1 L E q.2.2.2 D2))]) (fun q=>C6 (((H.upd cc ⟨0,true,[.snil,.snil]⟩).upd t (rdR L E q.2.2.2)).upd (cc+1) ⟨0,true,[B9 q.2.1 q.2.2.1.length,.snil]⟩) q.2.1 ⟨4,true,A3 (q.2.2.1.map Dc.v)⟩)
  (fun q c=>cc+2<=c/\q.1<=f/\q.2.2.2.i<=L.length/\(q.2.1=none->q.2.2.1=[])/\(∀ i,q.2.1=some i->cc+1<i/\i<c)/\q.2.2.1.length<=128/\R9 L E q.1 q.2.2.1 q.2.2.2=some (dl,s1)) (fun q=>q.1) (f,none,[],s)
  (by simp [C3,tm,Tm.upd]) (fun j b hj=>?_) ⟨by omega,A0H _,hi,fun _=>rfl,(fun i hi=>by cases hi),by simp,hd⟩ ?_
 ·simp only [C6,B1e] at hj;by_cases e1:j=cc+1
  ·subst e1;rw [A0] at hj ⊢;exact hj
  ·rw [A2 e1] at hj ⊢;by_cases e2:j=t
   ·subst e2;rw [A0] at hj;rw [A2 (by omega),ht];exact hj
   ·rw [A2 e2] at hj;exact hj
 clear hd;rintro ⟨g,o,l,u⟩ c ⟨hc,hg,hi5,hno,ho,hl1,hv0⟩;dsimp only at hc hg hi5 hno ho hl1 hv0 ⊢;cases g with
 | zero=>simp [R9] at hv0
 | succ g =>
 unfold R9 at hv0;dsimp only at hv0;have hkr : -1<=C1 L E u D2/\C1 L E u D2<8:=A3x L E u D2 0;have hw:IntKind.i64.wrap ((l.length:Int)+1)=(l.length:Int)+1:=w64 (by omega) (by omega);have hlen:A6n (B9 o l.length)=some (I64 l.length):=by
  cases o with
  | none=>rw [hno rfl];rfl
  | some b=>rfl
 by_cases hk:C1 L E u D2<0
 ·rw [if_pos hk] at hv0;have hdk:decide (C1 L E u D2≥0)=false:=by simp;omega
  have e1:l=dl:=congrArg Prod.fst (Option.some.inj hv0);have e2:u=s1:=congrArg Prod.snd (Option.some.inj hv0);subst e1 e2;repeat' ((with_reducible apply wr)<;>try simp only [go_sem,seval,hdk])
  clear hdk hkr hk hv0;refine IW.keep [0,2,3] [.ptr t 0,.ptr cc 0,.ptr (cc+1) 0] (C5r (Hb:=(H.upd cc ⟨0,true,[.snil,.snil]⟩).upd t (rdR L E u)) (ci:=cc+1) (u:=4) (pre:=[]) (suf:=[.snil]) (xs:=l.map Dc.v) (by simp [DV.one]) (fun h=>by rw [hno h];rfl) (fun i hi=>by have:=ho i hi;exact ⟨by omega,by rw [A2 (by omega),A2 (by omega)];exact hfr i (by omega)⟩) (by simp) (K8 _)) ?_;refine C2 (fun q:Nat × Option Nat × List Md × Rd=>[(0,.ptr t 0),(2,.ptr cc 0),(3,.ptr (cc+1) 0)]) (fun q=>C6 (((H.upd cc ⟨0,true,[.snil,.snil]⟩).upd t (rdR L E q.2.2.2)).upd (cc+1) ⟨0,true,[C8 l,B9 q.2.1 q.2.2.1.length]⟩) q.2.1 ⟨4,true,A3 (q.2.2.1.map Md.v)⟩)
   (fun q c=>cc+2<=c/\q.1<=f/\q.2.2.2.i<=L.length/\(q.2.1=none->q.2.2.1=[])/\(∀ i,q.2.1=some i->cc+1<i/\i<c)/\q.2.2.1.length<=16/\Q0 L E q.1 q.2.2.1 q.2.2.2=some (ml,s2)) (fun q=>q.1) (f,none,[],u)
   (by simp [C3,tm,Tm.upd]) (fun j b hj=>hj) ⟨by omega,A0H _,hi5,fun _=>rfl,(fun i hi=>by cases hi),by simp,hm⟩ ?_
  clear hm hlen hw;clear hno ho hl1 hi5;rintro ⟨g,o,m,u⟩ c ⟨hc,hg,hi5,hno,ho,hl1,hv⟩;dsimp only at hc hg hi5 hno ho hl1 hv ⊢;cases g with
  | zero=>simp [Q0] at hv
  | succ g =>
  unfold Q0 at hv;dsimp only at hv;have hw:IntKind.i64.wrap ((m.length:Int)+1)=(m.length:Int)+1:=w64 (by omega) (by omega);have hlen:A6n (B9 o m.length)=some (I64 m.length):=by
   cases o with
   | none=>rw [hno rfl];rfl
   | some b=>rfl
  have hHt:C6 (((H.upd cc ⟨0,true,[.snil,.snil]⟩).upd t (rdR L E u)).upd (cc+1) ⟨0,true,[C8 l,B9 o m.length]⟩) o ⟨4,true,A3 (m.map Md.v)⟩ t=some (rdR L E u):=by rw [D0 (fun i hi=>by have:=ho i hi;omega),A2 (by omega),A0]
  have hbx:C6 (((H.upd cc ⟨0,true,[.snil,.snil]⟩).upd t (rdR L E u)).upd (cc+1) ⟨0,true,[C8 l,B9 o m.length]⟩) o ⟨4,true,A3 (m.map Md.v)⟩ (cc+1)=some ⟨0,true,[C8 l,B9 o m.length]⟩:=by rw [D0 (fun i hi=>by have:=ho i hi;omega),A0]
  have hbo:∀ i:Nat,o=some i->C6 (((H.upd cc ⟨0,true,[.snil,.snil]⟩).upd t (rdR L E u)).upd (cc+1) ⟨0,true,[C8 l,B9 o m.length]⟩) o ⟨4,true,A3 (m.map Md.v)⟩ i=some ⟨4,true,A3 (m.map Md.v)⟩:=fun i hi=>by subst hi;exact A0
  have hbj:∀ j:Nat,j<cc->¬ j=t->C6 (((H.upd cc ⟨0,true,[.snil,.snil]⟩).upd t (rdR L E u)).upd (cc+1) ⟨0,true,[C8 l,B9 o m.length]⟩) o ⟨4,true,A3 (m.map Md.v)⟩ j=H j:=fun j h1 h2=>by rw [D0 (fun i hi=>by have:=ho i hi;omega),A2 (by omega),A2 h2,A2 (by omega)]
  have hb0:C6 (((H.upd cc ⟨0,true,[.snil,.snil]⟩).upd t (rdR L E u)).upd (cc+1) ⟨0,true,[C8 l,B9 o m.length]⟩) o ⟨4,true,A3 (m.map Md.v)⟩ cc=some ⟨0,true,[.snil,.snil]⟩:=by rw [D0 (fun i hi=>by have:=ho i hi;omega),A2 (by omega),A2 (by omega),A0]
  have hbn:∀ j:Nat,c<=j->C6 (((H.upd cc ⟨0,true,[.snil,.snil]⟩).upd t (rdR L E u)).upd (cc+1) ⟨0,true,[C8 l,B9 o m.length]⟩) o ⟨4,true,A3 (m.map Md.v)⟩ j=none:=fun j h1=>by rw [D0 (fun i hi=>by have:=ho i hi;omega),A2 (by omega),A2 (by omega),A2 (by omega)];exact hfr j (by omega)
  have hT:(B9 o m.length).one=true:=by cases o<;>rfl
  generalize hHH:C6 (((H.upd cc ⟨0,true,[.snil,.snil]⟩).upd t (rdR L E u)).upd (cc+1) ⟨0,true,[C8 l,B9 o m.length]⟩) o ⟨4,true,A3 (m.map Md.v)⟩=HH at hHt hbx hbo hbj hb0 hbn ⊢;have fin:∀ (u2:Rd) (x:Blk),GL ((HH.upd t (rdR L E u2)).upd cc x) [.agg [C8 l,B9 o m.length]] (H.upd t (rdR L E u2)) [.agg [C8 l,D5 m]]:=fun u2 x =>
   D1z (cc:=cc) m (D7 hfr htc) (fun i hi=>by have:=ho i hi;omega) hno (fun i hi=>by have:=ho i hi;rw [A2 (by omega),A2 (by omega)];exact hbo i hi) (fun j hj=>by
    rw [A2 (by omega)];by_cases e1:j=t
    ·subst e1;rw [A0,A0]
    ·rw [A2 e1,A2 e1,hbj j hj e1])
  have fin0:∀ (x:Blk),GL (HH.upd cc x) [.agg [C8 l,B9 o m.length]] (H.upd t (rdR L E u)) [.agg [C8 l,D5 m]]:=fun x=>by
   have h1:=fin u x
   rwa [upd_same hHt] at h1
  repeat' ((with_reducible apply wr)<;>try simp only [go_sem,seval])
  refine AC.call (c_rdok L E u _ _ t hHt (by omega)) ?_;rintro v H' c2 ⟨rfl,rfl⟩ hc2;cases hok:okR u with
  | false =>
   rw [if_neg (by simp [hok])] at hv;have e1:m=ml:=congrArg Prod.fst (Option.some.inj hv);have e2:u=s2:=congrArg Prod.snd (Option.some.inj hv);subst e1 e2;have ne0:=S0 t cc (cc+1) (by omega);simp only [go_sem,seval,hok,hbx,ne0,hT,hb0];repeat' ((with_reducible apply wr)<;>try simp only [go_sem,seval,hok,hHt,hbx,ne0,hT])
   rw [hb0];refine F6 (A5z (by rfl) (by decide) (by clear hHH;cases o<;>rfl)) ?_;simp only [go_sem,seval,ne0,A0];repeat' ((with_reducible apply wr)<;>try simp only [go_sem,seval,ne0,A0])
   rw [E7 (rv2 rfl A0)];exact ⟨_,_,fin0 _,rfl,rfl⟩
  | true =>
   by_cases hlt:u.i<L.length
   ·rw [if_pos ⟨hok,hlt⟩] at hv;have hdl:decide ((u.i:Int)<(L.length:Int))=true:=by simpa using hlt
    simp only [go_sem,seval,hok,hHt,hdl];repeat' ((with_reducible apply wr)<;>try simp only [go_sem,seval,hok,hHt,hdl])
    refine AC.call (c_is L E u _ _ t hHt (by omega) _) ?_;rintro v H' c3 ⟨rfl,rfl⟩ hc3;cases hmo:isR L E u [109,111,100,101] with
    | false =>
     rw [if_pos hmo] at hv;have e1:m=ml:=congrArg Prod.fst (Option.some.inj hv);have e2:O2 L E u=s2:=congrArg Prod.snd (Option.some.inj hv);subst e1 e2;have ne0:=S0 t cc (cc+1) (by omega);simp only [go_sem,seval,hmo];repeat' ((with_reducible apply wr)<;>try simp only [go_sem,seval,hmo])
     refine AC.call (c_syntax L E u _ _ t hHt (by omega)) ?_;rintro v H' c4 ⟨rfl,rfl⟩ hc4;simp only [go_sem,seval,ne0,A0,hbx,hb0,hT];repeat' ((with_reducible apply wr)<;>try simp only [go_sem,seval,ne0,A0,hbx,hb0,hT])
     refine F6 (A5z (by rfl) (by decide) (by clear hHH;cases o<;>rfl)) ?_;simp only [go_sem,seval,ne0,A0];repeat' ((with_reducible apply wr)<;>try simp only [go_sem,seval,ne0,A0])
     rw [E7 (rv2 rfl A0)];exact ⟨_,_,fin _ _,rfl,rfl⟩
    | true =>
     rw [if_neg (by rw [hmo];decide)] at hv;simp only [go_sem,seval,hmo];repeat' ((with_reducible apply wr)<;>try simp only [go_sem,seval,hmo,hbx,hlen,hw])
     refine AC.call (c_limit L E u _ _ t hHt (by omega) _ _ _) ?_;rintro v H' c4 ⟨rfl,rfl⟩ hc4;have j1:(C4 L E u ((m.length:Int)+1) 16 9).i=u.i:=F7;have j2:=fun h=>G3 (L:=L) (E:=E) (s:=u) (n:=(m.length:Int)+1) (m:=16) (e:=9) (by decide) h;generalize C4 L E u ((m.length:Int)+1) 16 9=u1 at hv j1 j2 ⊢;simp only [go_sem,seval];repeat' ((with_reducible apply wr)<;>try simp only [go_sem,seval])
     refine AC.call (c_rdok L E u1 _ _ t A0 (by omega)) ?_;rintro v H' c5 ⟨rfl,rfl⟩ hc5;cases hok1:okR u1 with
     | false =>
      rw [if_neg (by rw [hok1];decide)] at hv;simp only [go_sem,seval,hok1];repeat' ((with_reducible apply wr)<;>try simp only [go_sem,seval,hok1])
      refine ⟨(g,o,m,u1),?_,inv ⟨by omega,by simp only;omega,by rw [j1];exact hi5,hno,(fun i hi=>by have:=ho i hi;omega),hl1,hv⟩,by simp only;omega⟩;intro j b hj;by_cases e2:j=t
      ·subst e2;rw [D0 (fun i hi=>by have:=ho i hi;omega),A2 (by omega),A0] at hj;rw [A0];exact hj
      ·rw [A2 e2, <- hHH];cases o with
       | none =>
        simp only [C6] at hj ⊢;by_cases e1:j=cc+1
        ·subst e1;rw [A0] at hj ⊢;exact hj
        ·rw [A2 e1,A2 e2] at hj ⊢;exact hj
       | some i =>
        simp only [C6] at hj ⊢;by_cases e0:j=i
        ·subst e0;rw [A0] at hj ⊢;exact hj
        rw [A2 e0] at hj ⊢;by_cases e1:j=cc+1
        ·subst e1;rw [A0] at hj ⊢;exact hj
        ·rw [A2 e1,A2 e2] at hj ⊢;exact hj
     | true =>
      rw [if_pos hok1] at hv;obtain ⟨-,j3,rfl⟩:=j2 hok1;cases hmd:A2x L E g u1 with
      | none=>rw [hmd] at hv;cases hv
      | some qm =>
       obtain ⟨md,u2⟩:=qm;rw [hmd] at hv;dsimp only at hv;have j6:=D1q hmd hi5;have ne0:=S0 t cc (cc+1) (by omega);simp only [go_sem,seval,hok1,ne0,A0,A1,hbx];repeat' ((with_reducible apply wr)<;>try simp only [go_sem,seval,hok1,ne0,A0,A1,hbx])
       refine AC.call (c_mode L E hL g u1 (md,u2) hmd hi5 _ _ t A0 (by omega)) ?_;rintro v H' c6 ⟨rfl,rfl⟩ hc6;dsimp only;have ne0:=A1s t cc (cc+1) c6 (c6+1) (by omega);simp only [go_sem,seval,ne0,A0,A1,hbx];repeat' ((with_reducible apply wr)<;>try simp only [go_sem,seval,ne0,A0,A1,hbx])
       refine ⟨⟨by rw [A2 (by omega)];exact hbn _ (by omega),by rw [A2 (by omega)];exact hbn _ (by omega)⟩,?_⟩;have hl4:(A3 (m.map Md.v)).length=m.length * 4:=B3 (u:=4) (V3 _) |>.trans (by simp);repeat' ((with_reducible apply wr)<;>try simp only [go_sem,seval,ne0,A0,A1,hbx])
       rw [F1 (cs:=A3 (m.map Md.v)) (fun e=>by rw [hno e];exact ⟨rfl,rfl⟩) (fun i hi=>by have:=ho i hi;rw [A2 (by omega),A2 (by omega)];exact hbo i hi) hl4 (by omega) (by omega) (by omega)];have hdx:∀ X:Hp,I6 X o (cc+1)=X (cc+1):=fun X=>E9 (fun i hi=>by have:=ho i hi;omega);have ne0:=A1s t cc (cc+1) (c5+4) c6 (by omega);simp only [go_sem,seval,ne0,A0,A1,hdx,hbx];repeat' ((with_reducible apply wr)<;>try simp only [go_sem,seval,ne0,A0,A1,hdx,hbx])
       refine ⟨(g,some c6,m++[md],u2),?_,inv ⟨by omega,by simp only;omega,j6,(fun h=>by cases h),(fun i hi=>by cases hi;omega),by simp only [A0A,A0I];omega,hv⟩,by simp only;omega⟩;intro j b hj;simp only [C6,A5g,A0A,A0I,A0P,B6] at hj;by_cases e1:j=cc+1
       ·subst e1;by_cases e3:cc+1=c6
        ·omega
        rw [A2 e3,A0] at hj;rw [A0];exact hj
       rw [A2 e1];by_cases e0:j=c6
       ·subst e0;rw [A0] at hj;rw [A0, <- hj];rfl
       rw [A2 e0] at hj ⊢;rw [A2 e1] at hj;by_cases e2:j=t
       ·subst e2;rw [A0] at hj;rw [E9 (fun i hi=>by have:=ho i hi;omega),A2 (by omega),A0];exact hj
       rw [A2 e2] at hj;by_cases e4:j=cc
       ·subst e4;rw [A0] at hj;rw [E9 (fun i hi=>by have:=ho i hi;omega)]
        repeat rw [A2 (by omega)]
        rw [hb0];exact hj
       ·rw [A2 e4] at hj;have hjc:j<cc:=Classical.byContradiction fun h=>by rw [hfr j (by omega)] at hj;cases hj
        rw [E9 (fun i hi=>by have:=ho i hi;omega)]
        repeat rw [A2 (by omega)]
        rw [hbj j hjc e2];exact hj
   ·rw [if_neg (by simp [hlt])] at hv;have hdl:decide ((u.i:Int)<(L.length:Int))=false:=by simpa using hlt
    have e1:m=ml:=congrArg Prod.fst (Option.some.inj hv);have e2:u=s2:=congrArg Prod.snd (Option.some.inj hv);subst e1 e2;have ne0:=S0 t cc (cc+1) (by omega);simp only [go_sem,seval,hok,hHt,hdl,hbx,ne0,hT,hb0];repeat' ((with_reducible apply wr)<;>try simp only [go_sem,seval,hok,hHt,hdl,hbx,ne0,hT])
    rw [hb0];refine F6 (A5z (by rfl) (by decide) (by clear hHH;cases o<;>rfl)) ?_;simp only [go_sem,seval,ne0,A0];repeat' ((with_reducible apply wr)<;>try simp only [go_sem,seval,ne0,A0])
    rw [E7 (rv2 rfl A0)];exact ⟨_,_,fin0 _,rfl,rfl⟩
 ·rw [if_neg hk] at hv0;have hdk:decide (C1 L E u D2≥0)=true:=by simp;omega
  have hHt:C6 (((H.upd cc ⟨0,true,[.snil,.snil]⟩).upd t (rdR L E u)).upd (cc+1) ⟨0,true,[B9 o l.length,.snil]⟩) o ⟨4,true,A3 (l.map Dc.v)⟩ t=some (rdR L E u):=by rw [D0 (fun i hi=>by have:=ho i hi;omega),A2 (by omega),A0]
  have hbx:C6 (((H.upd cc ⟨0,true,[.snil,.snil]⟩).upd t (rdR L E u)).upd (cc+1) ⟨0,true,[B9 o l.length,.snil]⟩) o ⟨4,true,A3 (l.map Dc.v)⟩ (cc+1)=some ⟨0,true,[B9 o l.length,.snil]⟩:=by rw [D0 (fun i hi=>by have:=ho i hi;omega),A0]
  have hbo:∀ i:Nat,o=some i->C6 (((H.upd cc ⟨0,true,[.snil,.snil]⟩).upd t (rdR L E u)).upd (cc+1) ⟨0,true,[B9 o l.length,.snil]⟩) o ⟨4,true,A3 (l.map Dc.v)⟩ i=some ⟨4,true,A3 (l.map Dc.v)⟩:=fun i hi=>by subst hi;exact A0
  have hbj:∀ j:Nat,j<cc->¬ j=t->C6 (((H.upd cc ⟨0,true,[.snil,.snil]⟩).upd t (rdR L E u)).upd (cc+1) ⟨0,true,[B9 o l.length,.snil]⟩) o ⟨4,true,A3 (l.map Dc.v)⟩ j=H j:=fun j h1 h2=>by rw [D0 (fun i hi=>by have:=ho i hi;omega),A2 (by omega),A2 h2,A2 (by omega)]
  have hb0:C6 (((H.upd cc ⟨0,true,[.snil,.snil]⟩).upd t (rdR L E u)).upd (cc+1) ⟨0,true,[B9 o l.length,.snil]⟩) o ⟨4,true,A3 (l.map Dc.v)⟩ cc=some ⟨0,true,[.snil,.snil]⟩:=by rw [D0 (fun i hi=>by have:=ho i hi;omega),A2 (by omega),A2 (by omega),A0]
  have hbn:∀ j:Nat,c<=j->C6 (((H.upd cc ⟨0,true,[.snil,.snil]⟩).upd t (rdR L E u)).upd (cc+1) ⟨0,true,[B9 o l.length,.snil]⟩) o ⟨4,true,A3 (l.map Dc.v)⟩ j=none:=fun j h1=>by rw [D0 (fun i hi=>by have:=ho i hi;omega),A2 (by omega),A2 (by omega),A2 (by omega)];exact hfr j (by omega)
  obtain ⟨hok0,hi0, -⟩:=G5 (show 0<=C1 L E u D2 by omega);generalize hHH:C6 (((H.upd cc ⟨0,true,[.snil,.snil]⟩).upd t (rdR L E u)).upd (cc+1) ⟨0,true,[B9 o l.length,.snil]⟩) o ⟨4,true,A3 (l.map Dc.v)⟩=HH at hHt hbx hbo hbj hb0 hbn ⊢;generalize hkk:C1 L E u D2=k at hv0 hk hdk hkr ⊢;repeat' ((with_reducible apply wr)<;>try simp only [go_sem,seval,hdk,hbx,hlen,hw])
  refine AC.call (c_limit L E u _ _ t hHt (by omega) _ _ _) ?_;rintro v H' c2 ⟨rfl,rfl⟩ hc2;have j1:(C4 L E u ((l.length:Int)+1) 128 9).i=u.i:=F7;have j2:=fun h=>G3 (L:=L) (E:=E) (s:=u) (n:=(l.length:Int)+1) (m:=128) (e:=9) (by decide) h;generalize C4 L E u ((l.length:Int)+1) 128 9=u1 at hv0 j1 j2 ⊢;simp only [go_sem,seval];repeat' ((with_reducible apply wr)<;>try simp only [go_sem,seval])
  refine AC.call (c_rdok L E u1 _ _ t A0 (by omega)) ?_;rintro v H' c3 ⟨rfl,rfl⟩ hc3;cases hok:okR u1 with
  | false =>
   rw [if_neg (by rw [hok];decide)] at hv0;simp only [go_sem,seval,hok];repeat' ((with_reducible first|apply wr|refine cpc c_decls31 ?_|fail)<;>try simp only [go_sem,seval,hok])
   refine AC.call (c_among L E u1 _ _ t A0 (by omega) D2 (by decide)) ?_;rintro v H' c4 ⟨rfl,rfl⟩ hc4;simp only [go_sem,seval];repeat' ((with_reducible apply wr)<;>try simp only [go_sem,seval])
   refine ⟨(g,o,l,u1),by simp [C3,tm,Tm.upd],?_,inv ⟨by omega,by simp only;omega,by rw [j1];exact hi5,hno,(fun i hi=>by have:=ho i hi;omega),hl1,hv0⟩,by simp only;omega⟩;intro j b hj;by_cases e2:j=t
   ·subst e2;rw [D0 (fun i hi=>by have:=ho i hi;omega),A2 (by omega),A0] at hj;rw [A0];exact hj
   ·rw [A2 e2, <- hHH];cases o with
    | none =>
     simp only [C6] at hj ⊢;by_cases e1:j=cc+1
     ·subst e1;rw [A0] at hj ⊢;exact hj
     ·rw [A2 e1,A2 e2] at hj ⊢;exact hj
    | some i =>
     simp only [C6] at hj ⊢;by_cases e0:j=i
     ·subst e0;rw [A0] at hj ⊢;exact hj
     rw [A2 e0] at hj ⊢;by_cases e1:j=cc+1
     ·subst e1;rw [A0] at hj ⊢;exact hj
     ·rw [A2 e1,A2 e2] at hj ⊢;exact hj
  | true =>
   rw [if_pos hok] at hv0;obtain ⟨-,j3,rfl⟩:=j2 hok;simp only [go_sem,seval,hok];have ne0:=S0 t cc (cc+1) (by omega);repeat' ((with_reducible apply wr)<;>try simp only [go_sem,seval,hok,ne0,A0,A1,hbx])
   refine AC.call (c_declaration L E u1 _ _ t A0 (by omega) hL hv k (by omega) (by omega) (by omega)) ?_;rintro v H' c4 ⟨rfl,rfl⟩ hc4;have ne0:=A1s t cc (cc+1) c4 (c4+1) (by omega);simp only [go_sem,seval,ne0,A0,A1,hbx];repeat' ((with_reducible apply wr)<;>try simp only [go_sem,seval,ne0,A0,A1,hbx])
   refine ⟨⟨by rw [A2 (by omega)];exact hbn _ (by omega),by rw [A2 (by omega)];exact hbn _ (by omega)⟩,?_⟩;have hl4:(A3 (l.map Dc.v)).length=l.length * 4:=B3 (u:=4) (K8 _) |>.trans (by simp);repeat' ((with_reducible apply wr)<;>try simp only [go_sem,seval,ne0,A0,A1,hbx])
   rw [F1 (cs:=A3 (l.map Dc.v)) (fun e=>by rw [hno e];exact ⟨rfl,rfl⟩) (fun i hi=>by have:=ho i hi;rw [A2 (by omega),A2 (by omega)];exact hbo i hi) hl4 (by omega) (by omega) (by omega)];have hdx:∀ X:Hp,I6 X o (cc+1)=X (cc+1):=fun X=>E9 (fun i hi=>by have:=ho i hi;omega);have ne0:=A1s t cc (cc+1) (c3+5) c4 (by omega);simp only [go_sem,seval,ne0,A0,A1,hdx,hbx];repeat' ((with_reducible first|apply wr|refine cpc c_decls31 ?_|fail)<;>try simp only [go_sem,seval,ne0,A0,A1,hdx,hbx])
   refine AC.call (c_among L E (R0 L E k u1).2 _ _ t (by rw [A2 (by omega),A2 (by omega),E9 (fun i hi=>by have:=ho i hi;omega),A2 (by omega),A0]) (by omega) D2 (by decide)) ?_;rintro v H' c5 ⟨rfl,rfl⟩ hc5;simp only [go_sem,seval];repeat' ((with_reducible apply wr)<;>try simp only [go_sem,seval])
   refine ⟨(g,some c4,l++[(R0 L E k u1).1],(R0 L E k u1).2),by simp [C3,tm,Tm.upd],?_,inv ⟨by omega,by simp only;omega,D2f (by omega),(fun h=>by cases h),(fun i hi=>by cases hi;omega),by simp only [A0A,A0I];omega,hv0⟩,by simp only;omega⟩;intro j b hj;simp only [C6,A5g,A0A,A0I,A0P,B6] at hj;by_cases e1:j=cc+1
   ·subst e1;by_cases e3:cc+1=c4
    ·omega
    rw [A2 e3,A0] at hj;rw [A0];exact hj
   rw [A2 e1];by_cases e0:j=c4
   ·subst e0;rw [A0] at hj;rw [A0, <- hj];rfl
   rw [A2 e0] at hj ⊢;rw [A2 e1] at hj;by_cases e2:j=t
   ·subst e2;rw [A0] at hj;rw [E9 (fun i hi=>by have:=ho i hi;omega),A2 (by omega),A0];exact hj
   rw [A2 e2] at hj;by_cases e4:j=cc
   ·subst e4;rw [A0] at hj;rw [E9 (fun i hi=>by have:=ho i hi;omega)]
    repeat rw [A2 (by omega)]
    rw [hb0];exact hj
   ·rw [A2 e4] at hj;have hjc:j<cc:=Classical.byContradiction fun h=>by rw [hfr j (by omega)] at hj;cases hj
    rw [E9 (fun i hi=>by have:=ho i hi;omega)]
    repeat rw [A2 (by omega)]
    rw [hbj j hjc e2];exact hj
theorem c_letter (c:UInt8):PC Tryz.prog 144 [.int .u8 c.toNat] (.bool (ltB c)):=by
 refine PC.ofT A9 rfl (A0B rfl) (by simp [DV.nlL,DV.nl]) (by simp [DV.nlL,DV.nl]) ?_;repeat' ((with_reducible first|refine wr ?_|refine wb2 ?_ ?_<;>(intro hb;try simp only [hb])|fail)<;>try simp only [go_sem,seval])
 all_goals (refine A6 (congrArg DV.bool ?_);rw [A2A];simp_all [ltB]<;>omega)
theorem c_digit (c:UInt8):PC Tryz.prog 156 [.int .u8 c.toNat] (.bool (dgB c)):=by
 refine PC.ofT A9 rfl (A0B rfl) (by simp [DV.nlL,DV.nl]) (by simp [DV.nlL,DV.nl]) ?_;repeat' ((with_reducible first|refine wr ?_|refine wb2 ?_ ?_<;>(intro hb;try simp only [hb])|fail)<;>try simp only [go_sem,seval])
 all_goals (refine A6 (congrArg DV.bool ?_);rw [A2A];simp_all [dgB]<;>omega)
theorem c_letterR (c:UInt8):PC Tryz.prog 108 [.int .u8 c.toNat] (.bool (ltB c)):=by
 refine PC.ofT A9 rfl (A0B rfl) (by simp [DV.nlL,DV.nl]) (by simp [DV.nlL,DV.nl]) ?_;repeat' ((with_reducible first|refine wr ?_|refine wb2 ?_ ?_<;>(intro hb;try simp only [hb])|fail)<;>try simp only [go_sem,seval])
 all_goals (refine A6 (congrArg DV.bool ?_);rw [A2A];simp_all [ltB]<;>omega)
theorem c_digitR (c:UInt8):PC Tryz.prog 110 [.int .u8 c.toNat] (.bool (dgB c)):=by
 refine PC.ofT A9 rfl (A0B rfl) (by simp [DV.nlL,DV.nl]) (by simp [DV.nlL,DV.nl]) ?_;repeat' ((with_reducible first|refine wr ?_|refine wb2 ?_ ?_<;>(intro hb;try simp only [hb])|fail)<;>try simp only [go_sem,seval])
 all_goals (refine A6 (congrArg DV.bool ?_);rw [A2A];simp_all [dgB]<;>omega)
theorem c_part (c:UInt8):PC Tryz.prog 146 [.int .u8 c.toNat] (.bool (ptB c)):=by
 refine PC.ofT A9 rfl (A0B rfl) (by simp [DV.nlL,DV.nl]) (by simp [DV.nlL,DV.nl]) ?_;repeat' ((with_reducible first|refine wr ?_|refine cpc (c_letter c) ?_|refine cpc (c_digit c) ?_|refine wb2 ?_ ?_<;>(intro hb;try simp only [hb])|fail)<;>try simp only [go_sem,seval])
 all_goals (refine A6 (congrArg DV.bool ?_);rw [A2A];simp_all [ptB]<;>omega)
theorem c_span {p:UInt8->Bool} {f:Nat} {a cs:List DV} (s:List UInt8) (hs:s.length<=9223372036854775807) (na:DV.nlL a=true) (ncs:DV.nlL cs=true) (hf:∀ x∈s,PC Tryz.prog f (a++[.int .u8 x.toNat]++cs) (.bool (p x))) :
  PC Tryz.prog 145 [.str s,.func f a cs] (I64 (C9 p s)):=by
 refine PC.ofT A9 rfl (A0B rfl) (by simp [DV.nlL,DV.nl,na,ncs]) rfl ?_;repeat' ((with_reducible apply wr)<;>try simp only [go_sem,seval])
 refine C2 (fun k:Nat=>[(0,.str s),(1,.func f a cs),(5,I64 k)]) (fun _=>nil) (fun k _=>k<=s.length/\k<=C9 p s) (fun k=>s.length-k) 0 (by simp [C3,tm,Tm.upd]) (Sub.nil _) (by simp) ?_;rintro k c ⟨hk,he⟩;by_cases hlt:k<s.length
 ·have hd:decide ((k:Int)<s.length)=true:=by simpa using hlt
  have hg:=A0C hlt;have hw:=w64 (n:=(k:Int)+1) (by omega) (by omega);have hst:=A7d hg he;have hc:=hf s[k] (A0O hlt);repeat' ((with_reducible first|refine wr ?_|refine cpc hc ?_|refine wb2 ?_ ?_<;>(intro hb;try simp only [hb])|fail)<;>try simp only [go_sem,seval,hd,hg,hw])
  ·exact ⟨k+1,rfl,Sub.refl _,inv ⟨by omega,hst.1 hb⟩,by omega⟩
  ·refine A6 ?_;rw [hst.2 hb]
 ·have hd:decide ((k:Int)<s.length)=false:=by simpa using hlt
  repeat' ((with_reducible apply wr)<;>try simp only [go_sem,seval,hd])
  refine A6 ?_;rw [B3i (by omega) he]
theorem c_spanPt (s:List UInt8) (hs:s.length<=9223372036854775807):PC Tryz.prog 145 [.str s,.func 146 [] []] (I64 (C9 ptB s)) :=
 c_span s hs rfl rfl fun x _=>c_part x
end Go.Proofs.YtnmkkggfgdfmeaaGreatDoor
end
