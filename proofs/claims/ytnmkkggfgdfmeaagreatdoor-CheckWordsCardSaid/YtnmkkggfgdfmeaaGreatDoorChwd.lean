/-
  HELPERS of the claim: part 4 of its texts.
-/
import Derived.ReadAgain
import Derived.ChangeBears
import Derived.Deep.Slices
import Derived.Below
import Derived.OpenShut
import Derived.Lib.LaidTab
import Derived.Lib.Space
import Derived.Test.YtnmkkggfgdfmeaaGreatDoorProg
import Derived.KernelRfl
import Derived.Lib.ParseIntB
import Derived.Lib.Bytealg
import Derived.Test.YtnmkkggfgdfmeaaGreatDoorChwc
noncomputable section
set_option linter.unusedVariables false
set_option linter.unusedSectionVars false
set_option linter.unusedSimpArgs false
namespace Go.Sym
variable [Go.Sym.Tab]
open Go.RowKit Go.Pb Go.Deep
section
variable {H:Type} {enc:TypeId × Value->H} {P:Program} {T:TypeId->Prop} {W W':World} {hT:TabOk W}
theorem arg_kept (K:Kids P T) (hz:∀ t e,T t->P.underlying t=some (.slice e)->0<P.cellsOf e) (hb:Below W.heap.size W W') {sp:Nat->Bool} :
  ∀ {ts:List TypeId} {vs:List Value} {ds:List (DataW H)} {ps:List MemPlace},(∀ t∈ts,T t)->DataW.TrodAll enc P W 0 (fun _=>true) true ts vs ds ps->(∀ p∈ps,sp p.block=true)->DataW.TrodAll enc P W' 0 sp true ts vs ds ps
 | [],[],[],_,_,h,_=>h
 | t :: ts,v :: vs,d :: ds,ps,hT,⟨p,q,h1,h2,e⟩,hs=>by
  have hlt:=h1;refine ⟨p,q,?_,arg_kept K hz hb (fun t ht=>hT t (A2L.2 (Or.inr ht))) h2 (fun x hx=>hs x (by rw [e];exact List.mem_append_right _ hx)),e⟩;have h3:=h1.respare K hz (hT _ (A2L.2 (Or.inl rfl))) (spare':=sp) (fun x hx=>hs x (by rw [e];exact A3W _ hx));obtain ⟨n,hn⟩:=h3;obtain ⟨m,hm⟩:=h1;exact ⟨n,DataW.trod_carry n _ _ _ hn fun x hx=>hb.same (DataW.trod_lt m _ _ _ hm x hx)⟩
theorem u8_of {n:Int} (h:(Lit.int .u8 n).wf=true):n=((UInt8.ofNat n.toNat).toNat:Int):=by
 have:=bounds_u8 h;simp;omega
theorem open_bytes {t e:TypeId} {v:Value} {d:DataW H} {ps:List MemPlace} (ht:P.underlying t=some (.slice e)) (he:P.underlying e=some (.int .u8)) (hc:P.cellsOf e=1)
  (h:DataW.Trod enc P W 0 (fun _=>true) true t v d ps) (hv:v.cells = #[v]):∃ l:List UInt8,l.length<=9223372036854775807/\VRel (topR W hT) (.lst (bytesC l)) v:=by
 obtain ⟨n,hn⟩:=h;rcases open_slice1 ht hc hn with ⟨h1, -⟩|⟨a,len,cap,m,n',V,D,Pl,h1,h2,h3,h4,h5,h6,h7⟩
 ·rw [hv] at h1;have:v=.slice none 0 0:=by simpa using h1
  subst this;exact ⟨[],by simp,.lnil0⟩
 ·rw [hv] at h1;have hva:v=.slice (some a) len cap:=by simpa using h1
  subst hva;simp only [if_true] at h5;have hk:∀ i,i<len->∃ k:Int,V i=.int .u8 k/\(Lit.int .u8 k).wf=true:=by
   intro i hi;obtain ⟨k,q1,q2,q3⟩:=DataW.trod_int he (h7 i (by omega)).2;exact ⟨k,by simpa using q1,q3⟩
  by_cases hl0:len=0
  ·subst hl0;exact ⟨[],by simp,.lnil a cap⟩
  have hcell:=(h7 0 (by omega)).1;have hadd0:a.add 0=a:=by simp [Addr.add]
  rw [hadd0] at hcell;obtain ⟨b,off,spot⟩:=a;have hspot:spot=none:=by
   simp only [World.cell?] at hcell;split at hcell
   ·split at hcell
    ·cases hcell
    ·rename_i h;cases spot with
     | none=>rfl
     | some s=>simp at h
   ·cases hcell
  subst hspot;have hrow:∃ row ty fr,W.heap[b]? = some (.cells row ty fr):=by
   simp only [World.cell?] at hcell;split at hcell
   ·rename_i row ty fr h;exact ⟨row,ty,fr,h⟩
   ·cases hcell
  obtain ⟨row,ty,fr,hb⟩:=hrow;have hget:∀ i,i<len->row[off+i]? = some (V i):=by
   intro i hi;have h8:=(h7 i (by omega)).1;have e1:(⟨b,off,none⟩:Addr).add i=⟨b,off+i,none⟩:=by
    unfold Addr.add;split
    ·rename_i h0;subst h0;rfl
    ·rfl
   rw [e1] at h8;simp only [World.cell?,hb] at h8;exact h8
  obtain ⟨F,hF⟩:∃ F:Nat->UInt8, ∀ i,i<len->V i=.int .u8 ((F i).toNat:Int):=by
   have:∀ i, ∃ f:UInt8,i<len->V i=.int .u8 (f.toNat:Int):=fun i=>by
    by_cases hi:i<len
    ·obtain ⟨k,q1,q2⟩:=hk i hi;exact ⟨UInt8.ofNat k.toNat,fun _=>by rw [q1, <- u8_of q2]⟩
    ·exact ⟨0,fun h=>absurd h hi⟩
   exact ⟨fun i=>Classical.choose (this i),fun i hi=>Classical.choose_spec (this i) hi⟩
  refine ⟨(List.range len).map F,by simp only [A0D,List.length_range];simp only [maxLen] at h4;omega,?_⟩;have hcl:A4 (bytesC ((List.range len).map F))=bytesC ((List.range len).map F):=A0x (fun _=>rfl) _;have hlen:(bytesC ((List.range len).map F)).length=len:=by rw [Z9];simp
  refine .lst _ _ 1 b off cap row (B3h hb) hlen.symm h3 h4 (fun x hx=>by obtain ⟨y, -,rfl⟩:=A1Z.1 hx;rfl) ?_ ?_ ?_
  ·rw [hcl,hlen];have:=(A0Y.1 (hget (len-1) (by omega))).1;omega
  ·rw [hcl];intro x hx;obtain ⟨y, -,rfl⟩:=A1Z.1 hx;rfl
  ·rw [hcl];intro k x y hx hy;have hkl:k<len:=by have:=(A0K.1 hx).1;omega
   rw [hget k hkl,hF k hkl] at hy;cases hy;have hx2:(bytesC ((List.range len).map F))[k]? = some (DV.int .u8 ((F k).toNat:Int)):=by simp [bytesC,hkl]
   rw [hx2] at hx;cases hx;exact .int _ _
end
end Go.Sym
namespace Go.Pb
variable [Go.Sym.Tab]
open Go.Sym
theorem M8 {s t:List UInt8} (h:s.length+t.length<=9223372036854775807):binR .add (.str s) (.str t)=some (.str (s++t)):=B9x (by simpa [maxLen] using h)
end Go.Pb
namespace Go.Pb
variable [Go.Sym.Tab]
open Go.Sym
def Y3 (d:Nat):UInt8:=UInt8.ofNat (48+d)
def A7p (n:Nat):List UInt8:=if n<10 then [Y3 n] else A7p (n / 10)++[Y3 (n % 10)]
termination_by n
decreasing_by omega
theorem A3p {n:Nat} (h:n<10):A7p n=[Y3 n]:=by rw [A7p,if_pos h]
theorem A6h {n:Nat} (h:¬n<10):A7p n=A7p (n / 10)++[Y3 (n % 10)]:=by rw [A7p,if_neg h]
theorem B2v:∀ (k n:Nat),n<10 ^ (k+1)->(A7p n).length<=k+1
 | 0,n,h=>by rw [A3p (by omega)];simp
 | k+1,n,h=>by
  by_cases h0:n<10
  ·rw [A3p h0];simp
  ·rw [A6h h0,A0A];have:=B2v k (n / 10) (by rw [Nat.pow_succ] at h;omega);simp only [A0H];omega
def Q5 (n:Int):List UInt8:=if n<0 then 45 :: A7p n.natAbs else A7p n.natAbs
theorem P5 {n:Int} (h1 : -9223372036854775808<=n) (h2:n<=9223372036854775807):(Q5 n).length<=21:=by
 have:=B2v 19 n.natAbs (by omega);unfold Q5;split
 ·rw [A0E];omega
 ·omega
theorem D0w {d:Nat} (h:d<10):IntKind.u8.wrap (IntKind.i64.wrap (48+(d:Int)))=((Y3 d).toNat:Int):=by
 rw [w64 (by omega) (by omega),wu8 (by omega) (by omega),Y3];simp;omega
def S2 (n:Int):Nat:=n.natAbs % 10
def W1 (n:Int):Nat:=n.natAbs / 10
theorem B6g (n:Int):S2 n<10:=by unfold S2;omega
theorem B6k {n:Int} (h:n≠0):W1 n<n.natAbs:=by unfold W1;omega
theorem C4p {n:Int} (h:n<0):n.tdiv 10 = -((W1 n:Nat):Int):=by
 unfold W1;obtain ⟨k,rfl⟩:∃ k:Nat,n = -(k:Int):=⟨n.natAbs,by omega⟩;rw [Int.neg_tdiv];simp [Int.tdiv]
theorem C4o {n:Int} (h:n<0):n.tmod 10 = -((S2 n:Nat):Int):=by
 unfold S2;obtain ⟨k,rfl⟩:∃ k:Nat,n = -(k:Int):=⟨n.natAbs,by omega⟩;rw [Int.neg_tmod];simp [Int.tmod]
theorem C4h {n:Int} (h:0<=n):n.tdiv 10=((W1 n:Nat):Int):=by
 unfold W1;obtain ⟨k,rfl⟩:∃ k:Nat,n=(k:Int):=⟨n.natAbs,by omega⟩;simp [Int.tdiv]
theorem C4g {n:Int} (h:0<=n):n.tmod 10=((S2 n:Nat):Int):=by
 unfold S2;obtain ⟨k,rfl⟩:∃ k:Nat,n=(k:Int):=⟨n.natAbs,by omega⟩;simp [Int.tmod]
theorem B8f {n:Int} (h:n<0) (h1:W1 n=0):Q5 n=[45]++[Y3 (S2 n)]:=by
 unfold W1 at h1;have h2:n.natAbs<10:=by omega
 have h3:S2 n=n.natAbs:=by unfold S2;omega
 rw [Q5,if_pos h,A3p h2,h3];rfl
theorem C2q {n:Int} (h:n<0) (h1:W1 n≠0):Q5 n=Q5 (-(W1 n:Int))++[Y3 (S2 n)]:=by
 have h2:¬n.natAbs<10:=by unfold W1 at h1;omega
 rw [Q5,if_pos h,A6h h2,Q5,if_pos (by omega),Int.natAbs_neg,Int.natAbs_natCast];rfl
theorem C6a {n:Int} (h:0<=n) (h1:n<10):Q5 n=[Y3 (S2 n)]:=by
 have h3:S2 n=n.natAbs:=by unfold S2;omega
 rw [Q5,if_neg (by omega),A3p (by omega),h3]
theorem C6b {n:Int} (h:¬n<10):Q5 n=Q5 (W1 n:Int)++[Y3 (S2 n)]:=by
 rw [Q5,if_neg (by omega),A6h (by omega),Q5,if_neg (by omega),Int.natAbs_natCast];rfl
abbrev I6 (n:Int):Prop := -9223372036854775808<=n/\n<=9223372036854775807
end Go.Pb
namespace Go.Pb
variable [Go.Sym.Tab]
open Go.Sym
structure Tok where
 kind:Int
 text:List UInt8
 value:Int
 pos:Int
deriving DecidableEq
abbrev Tok.v (t:Tok):DV:=.agg [I64 t.kind,.str t.text,I64 t.value,I64 t.pos]
abbrev C9 (l:List Tok):DV:=.lst (l.map Tok.v)
theorem D8 (l:List Tok):∀ x∈l.map Tok.v,x.cells.length=4:=by
 intro x hx;obtain ⟨y, -,rfl⟩:=A1Z.1 hx;rfl
@[simp]theorem J5 (l:List Tok):DV.nlL (l.map Tok.v)=true:=K8 (fun _=>rfl) l
def ltB (c:UInt8):Bool:=(decide (97<=c.toNat) && decide (c.toNat<=122)) || (decide (65<=c.toNat) && decide (c.toNat<=90))
def dgB (c:UInt8):Bool:=decide (48<=c.toNat) && decide (c.toNat<=57)
def ptB (c:UInt8):Bool:=ltB c || dgB c || decide (c.toNat=95)
def D0 (p:UInt8->Bool):List UInt8->Nat
 | []=>0
 | c :: r=>if p c=true then D0 p r+1 else 0
theorem T5 (p:UInt8->Bool):∀ s:List UInt8,D0 p s<=s.length
 | []=>A0I _
 | c :: r=>by
  have:=T5 p r;simp only [D0,A0E];split<;>omega
theorem A5x {p:UInt8->Bool}:∀ {s:List UInt8} {k:Nat} {c:UInt8},s[k]? = some c->k<=D0 p s->(p c=true->k+1<=D0 p s)/\(p c=false->D0 p s=k)
 | [],k,c,h,_=>by cases h
 | x :: r,0,c,h,_=>by
  cases h;simp only [D0];exact ⟨fun h=>by rw [if_pos h];omega,fun h=>by rw [if_neg (by rw [h];simp)]⟩
 | x :: r,k+1,c,h,hk=>by
  simp only [D0] at hk ⊢;split at hk
  ·rename_i hx;rw [if_pos hx];have:=A5x (p:=p) (s:=r) (k:=k) (c:=c) (by simpa using h) (by omega);exact ⟨fun h=>by have:=this.1 h;omega,fun h=>by have:=this.2 h;omega⟩
  ·omega
theorem B1j {p:UInt8->Bool} {s:List UInt8} {k:Nat} (h:s.length<=k) (hk:k<=D0 p s):D0 p s=k:=by
 have:=T5 p s;omega
def A5e (c:UInt8):Bool:=decide (c.toNat=9) || decide (c.toNat=10) || decide (c.toNat=13) || decide (c.toNat=32)
def skM:Bool->List UInt8->Nat
 | _,[]=>0
 | true,c :: r=>if c.toNat=10 then skM false r+1 else skM true r+1
 | false,c :: r=>if A5e c=true then skM false r+1 else if c.toNat=35 then skM true r+1 else 0
theorem U4:∀ (b:Bool) (s:List UInt8),skM b s<=s.length
 | _,[]=>by simp [skM]
 | true,c :: r=>by
  have h1:=U4 true r;have h2:=U4 false r;simp only [skM,A0E];split<;>omega
 | false,c :: r=>by
  have h1:=U4 true r;have h2:=U4 false r;simp only [skM,A0E];split
  ·omega
  ·split<;>omega
theorem B1n:∀ (s:List UInt8),skM true s=D0 (fun c=>decide (c.toNat≠10)) s+skM false (s.drop (D0 (fun c=>decide (c.toNat≠10)) s))
 | []=>by simp [skM,D0]
 | c :: r=>by
  by_cases h:c.toNat=10
  ·simp [skM,D0,h,A5e]
  ·have ih:=B1n r;simp only [skM,D0,h,if_false,ne_eq,not_false_eq_true,decide_true,if_true,List.drop_succ_cons] at ih ⊢;omega
def w8 (l:List Nat):List UInt8:=l.map UInt8.ofNat
def E3:List (List UInt8):=[w8 [115,119,105,116,99,104],w8 [99,111,105,108],w8 [108,97,109,112],w8 [115,111,117,110,100],w8 [115,104,111,119],w8 [118,97,114],w8 [116,105,109,101,114],w8 [101,118,101,110,116],w8 [109,111,100,101],w8 [111,110],w8 [115,116,97,114,116],w8 [115,116,111,112],w8 [99,108,111,115,101],w8 [111,112,101,110],w8 [105,102],w8 [101,108,115,101],w8 [114,101,112,101,97,116],w8 [115,99,111,114,101],w8 [102,105,114,101],w8 [104,111,108,100],w8 [114,101,108,101,97,115,101],w8 [108,105,103,104,116],w8 [98,108,105,110,107],w8 [98,101,103,105,110],w8 [101,110,100],w8 [112,111,115,116],w8 [112,108,97,121],w8 [114,117,110],w8 [104,97,108,116],w8 [116,101,120,116],w8 [99,111,110,115,117,109,101],w8 [99,108,111,115,101,100],w8 [97,99,116,105,118,101],w8 [108,101,102,116],w8 [112,108,97,121,101,114],w8 [98,97,108,108],w8 [116,114,117,101],w8 [102,97,108,115,101]]
def G7 (s:List UInt8):Bool:=E3.contains s
def D7 (s:List UInt8):Bool:=decide (1<=s.length) && decide (s.length<=12) && (match s with|c :: _=>ltB c | []=>false) && decide (D0 ptB s=s.length) && !G7 s
def quM:List UInt8->Option (List UInt8 × Nat)
 | []=>none
 | c :: r =>
  if c.toNat=34 then some ([],1)
  else if c.toNat<32\/126<c.toNat then none
  else if c.toNat=92 then match r with
   | []=>none
   | d :: q=>if d.toNat=34\/d.toNat=92 then (quM q).map fun x=>(d :: x.1,x.2+2) else none
  else (quM r).map fun x=>(c :: x.1,x.2+1)
def O4 (s:List UInt8):Nat:=s.foldl (fun n c=>10 * n+(c.toNat-48)) 0
theorem B7m {s:List UInt8} {k:Nat} {c:UInt8} (h:s[k]? = some c):O4 (s.take (k+1))=10 * O4 (s.take k)+(c.toNat-48):=by
 unfold O4;rw [A0X,h,A3E];rfl
def A9n (c d:UInt8):Bool:=[(60,61),(62,61),(61,61),(33,61),(38,38),(124,124)].contains (c.toNat,d.toNat)
def B2b (c:UInt8):Bool:=[123,125,40,41,59,44,61,43,45,42,47,37,33,60,62].contains c.toNat
def J7:List UInt8->Nat
 | c :: d :: _=>if A9n c d=true then 2 else if B2b c=true then 1 else 0
 | [c]=>if B2b c=true then 1 else 0
 | []=>0
structure Nx where
 kind:Int
 text:List UInt8
 value:Int
 n:Nat
 err:Int
def nxE (e:Int):Nx:=⟨0,[],0,0,e⟩
def B6:List UInt8->Nx
 | []=>nxE 47
 | c :: r =>
  if ltB c=true then
   if 12<D0 ptB (c :: r) then nxE 9 else ⟨if G7 ((c :: r).take (D0 ptB (c :: r)))=true then 2 else 1,(c :: r).take (D0 ptB (c :: r)),0,D0 ptB (c :: r),0⟩
  else if dgB c=true then
   if 1<D0 dgB (c :: r)/\c.toNat=48 then nxE 47
   else if 2147483647<O4 ((c :: r).take (D0 dgB (c :: r))) then nxE 5
   else ⟨3,[],(O4 ((c :: r).take (D0 dgB (c :: r))):Int),D0 dgB (c :: r),0⟩
  else if c.toNat=34 then match quM r with
   | none=>nxE 48
   | some x=>if 32<x.1.length then nxE 9 else ⟨4,x.1,0,x.2+1,0⟩
  else if J7 (c :: r)=0 then nxE 47 else ⟨5,(c :: r).take (J7 (c :: r)),0,J7 (c :: r),0⟩
def M4:Nat->List UInt8->Nat->List Tok->List Tok × Int × Int
 | 0,_,_,acc=>(acc,0,0)
 | f+1,src,at_,acc =>
  if src.length<=at_ then (acc,0,0)
  else if (B6 (src.drop at_)).err≠0 then ([],(at_:Int),(B6 (src.drop at_)).err)
  else M4 f src (at_+(B6 (src.drop at_)).n+skM false (src.drop (at_+(B6 (src.drop at_)).n)))
   (acc++[⟨(B6 (src.drop at_)).kind,(B6 (src.drop at_)).text,(B6 (src.drop at_)).value,(at_:Int)⟩])
def F4 (s:List UInt8):List Tok × Int × Int:=if 20000<s.length then ([],0,9) else M4 (s.length+1) s (skM false s) []
abbrev B9u (q:List Tok × Int × Int):DV:=.tup [C9 q.1,I64 q.2.1,I64 q.2.2]
theorem C0c:∀ {s t:List UInt8} {n:Nat},quM s=some (t,n)->1<=n/\n<=s.length/\t.length<=n
 | [],t,n,h=>by simp [quM] at h
 | c :: r,t,n,h=>by
  unfold quM at h;split at h
  ·cases h;simp
  ·split at h
   ·cases h
   ·split at h
    ·cases r with
     | nil=>cases h
     | cons d q =>
      simp only at h;split at h
      ·obtain ⟨⟨t',n'⟩,h1,h2⟩:=A0Q.1 h;have:=C0c h1;cases h2;simp only [A0E];omega
      ·cases h
    ·obtain ⟨⟨t',n'⟩,h1,h2⟩:=A0Q.1 h;have:=C0c h1;cases h2;simp only [A0E];omega
theorem B9n:∀ s:List UInt8,J7 s<=s.length
 | []=>by simp [J7]
 | [c]=>by simp only [J7];split<;>simp
 | c :: d :: r=>by simp only [J7,A0E];split<;>(try split)<;>omega
theorem A6a {s:List UInt8} (h:(B6 s).err=0):1<=(B6 s).n/\(B6 s).n<=s.length:=by
 cases s with
 | nil=>simp [B6,nxE] at h
 | cons c r =>
  have hp:=T5 ptB (c :: r);have hd:=T5 dgB (c :: r);have hs:=B9n (c :: r);simp only [B6] at h ⊢;split
  ·rename_i hc;rw [if_pos hc] at h;split
   ·rename_i h1;rw [if_pos h1] at h;simp [nxE] at h
   ·have:1<=D0 ptB (c :: r):=by simp [D0,ptB,hc]
    exact ⟨this,hp⟩
  ·rename_i hc;rw [if_neg hc] at h;split
   ·rename_i hc2;rw [if_pos hc2] at h;split
    ·rename_i h1;rw [if_pos h1] at h;simp [nxE] at h
    ·rename_i h1;rw [if_neg h1] at h;split
     ·rename_i h2;rw [if_pos h2] at h;simp [nxE] at h
     ·have:1<=D0 dgB (c :: r):=by simp [D0,hc2]
      exact ⟨this,hd⟩
   ·rename_i hc2;rw [if_neg hc2] at h;split
    ·rename_i hc3;rw [if_pos hc3] at h;cases hq:quM r with
     | none=>rw [hq] at h;simp [nxE] at h
     | some x =>
      obtain ⟨t,n⟩:=x;rw [hq] at h;simp only at h ⊢;have:=C0c hq;split
      ·rename_i h1;rw [if_pos h1] at h;simp [nxE] at h
      ·simp only [A0E];omega
    ·rename_i hc3;rw [if_neg hc3] at h;split
     ·rename_i h1;rw [if_pos h1] at h;simp [nxE] at h
     ·simp only;omega
end Go.Pb
namespace Go.Sym
variable [Go.Sym.Tab]
open Go.RowKit Go.Pb Go.Deep Go.ChangeShapes
theorem B8y {P:Program} {w:World} {n:String} {g:Nat} {cs:Array Value} (e1:P.globalNamed n=some g) (e3:w.var? P n=some cs):B3i w g=some cs:=by
 unfold World.var? at e3;rw [e1,Option.bind_some] at e3;unfold B3i;split at e3
 ·rename_i r ty fr hh;cases e3;rw [hh]
 ·cases e3
theorem B2g {P:Program} {w:World} {n:String} {d:DataW Unit}:∀ {l:List (String × DataW Unit)} {ps:List MemPlace},DataW.LaidVars P w l ps->(n,d)∈l ->
  ∃ g t cs fuel p,P.globalNamed n=some g/\(P.globals[g]?).map (·.type)=some t/\w.var? P n=some cs/\DataW.trod (fun _=>()) P w 0 (fun _=>true) false fuel t cs.toList=some (d,p)
 | [],ps,_,hm=>by cases hm
 | (n',d') :: l,ps,h,hm=>by
  obtain ⟨g,t,cs,fuel,p,q,h1,h2,h3,h4,h5, -⟩:=h;rcases A2L.1 hm with e|hm
  ·cases e;exact ⟨g,t,cs,fuel,p,h1,h2,h3,h4⟩
  ·exact B2g h5 hm
theorem laid_tab {P:Program} {w:World} {n:String} {d:DataW Unit} {l:List (String × DataW Unit)} {g t e m:Nat} {k:IntKind} {zs:List Int} (h:laidMet P l w) (hm:(n,d)∈l) (hg:P.globalNamed n=some g)
  (ht:(P.globals[g]?).map (·.type)=some t) (hu:P.underlying t=some (.array m e)) (he:P.underlying e=some (.int k)) (hce:P.cellsOf e=1) (hct:P.cellsOf t=m) (hd:d=Lib.tabData k zs) :
  ∃ r,B3i w g=some r/\r=(zs.map fun z=>Value.int k z).toArray:=by
 obtain ⟨ps,h1, -⟩:=h;obtain ⟨g',t',cs,fuel,p,e1,e2,e3,e4⟩:=B2g h1 hm;rw [hg] at e1;cases e1;rw [ht] at e2;cases e2;rw [hd] at e4;have hc:=Lib.cells_of_tab hu he hce hct e4;exact ⟨cs,B8y hg e3,Array.toList_inj.1 (hc.trans (by simp))⟩
section
variable {H:Type} {enc:TypeId × Value->H} {P:Program} {W W':World} {hT:TabOk W}
end
end Go.Sym
namespace Go.Proofs.YtnmkkggfgdfmeaaGreatDoor
instance tabI:Go.Sym.Tab:=⟨[(0,fun r=>r=(Lib.asciiSpaceTab.map fun z=>Value.int .u8 z).toArray),(0,fun r=>r=(Lib.asciiSpaceTab.map fun z=>Value.int .u8 z).toArray)]⟩
end Go.Proofs.YtnmkkggfgdfmeaaGreatDoor
set_option maxHeartbeats 4000000
set_option maxRecDepth 100000
namespace Go.Proofs.YtnmkkggfgdfmeaaGreatDoor
open Go.Eng (IC IOper DReg IFn A7)
open Go.Sym
theorem A9:Tryz.prog.follows .mixedOrders=true:=by kernel_rfl
abbrev u144_2:=qS [oM 3 0,oP 4 (.bin .geq (.t 3) (.k (.int .u8 97))),oM 5 4,gM 6 0 5,oG 7 (.bin .leq (.t 6) (.k (.int .u8 122))) 5,oJ 8 5 7,oM 9 8,hM 10 0 9,oR 11 (.bin .geq (.t 10) (.k (.int .u8 65))) 9,hM 12 11 9,gM 13 0 12,oG 14 (.bin .leq (.t 13) (.k (.int .u8 90))) 12,oR 15 (.pick (.t 12) (.t 14) (.k (.bool false))) 9,oO 16 9 15,oM 2 16] .ret [0]
abbrev u144_1:=qS [oV 2 (.bool false)] u144_2 [0]
def u144:IFn:=⟨17,u144_1,[.tmp 2]⟩
theorem isU144:A7 Tryz.prog 144 u144:=by unfold A7;kernel_rfl
abbrev u156_2:=qS [oM 3 0,oP 4 (.bin .geq (.t 3) (.k (.int .u8 48))),oM 5 4,gM 6 0 5,oG 7 (.bin .leq (.t 6) (.k (.int .u8 57))) 5,oJ 8 5 7,oM 2 8] .ret [0]
abbrev u156_1:=qS [oV 2 (.bool false)] u156_2 [0]
def u156:IFn:=⟨9,u156_1,[.tmp 2]⟩
theorem isU156:A7 Tryz.prog 156 u156:=by unfold A7;kernel_rfl
abbrev u146_2:=qS [oM 3 0,oC 4 144 [.t 3],oM 5 4,hM 6 0 5,⟨some 7,.call 156 [.t 6],some (5,false)⟩,oO 8 5 7,oM 9 8,hM 10 0 9,oR 11 (.bin .eql (.t 10) (.k (.int .u8 95))) 9,oO 12 9 11,oM 2 12] .ret [0]
abbrev u146_1:=qS [oV 2 (.bool false)] u146_2 [0]
def u146:IFn:=⟨13,u146_1,[.tmp 2]⟩
theorem isU146:A7 Tryz.prog 146 u146:=by unfold A7;kernel_rfl
abbrev u145_6:=qK .skip (.exit 0) (.t 16) [0,1,5,16]
abbrev u145_5:=qS [oM 6 5,oM 7 0,oP 8 (.lens (.t 7)),oB 9 6 8 .lss,oM 10 9,gM 11 1 10,gM 12 0 10,gM 13 5 10,oG 14 (.idx (.t 12) (.t 13)) 10,⟨some 15,.callv (.t 11) [.t 14],some (10,true)⟩,oJ 16 10 15] u145_6 [0,1,5]
abbrev u145_8:=qE [oM 17 5,oK 18 17 .add 1,oM 5 18] [0,1,5]
abbrev u145_7:=qJ u145_8 1 [0,1,5]
abbrev u145_4:=qQ u145_5 u145_7 [0,1,5]
abbrev u145_9:=qS [oM 19 5,oM 4 19] .ret [5]
abbrev u145_3:=qB (.loop u145_4) u145_9 0 [0,1,5]
abbrev u145_2:=qS [oI 5 0] u145_3 [0,1]
abbrev u145_1:=qS [oI 4 0] u145_2 [0,1]
def u145:IFn:=⟨20,u145_1,[.tmp 4]⟩
theorem isU145:A7 Tryz.prog 145 u145:=by unfold A7;kernel_rfl
abbrev u157_10:=qE [oM 11 1,oM 12 3,⟨none,.eff (.mup .s (.t 11) (.t 12) (.k (.bool true))),none⟩] [1,3,5,6,7]
abbrev u157_9:=qS [oA 9 5 7 1,oL 10 9,oM 3 10] u157_10 [1,5,6,7]
abbrev u157_11:=qE [oK 13 7 .add 1,oM 7 13] [1,5,6,7]
abbrev u157_8:=qB u157_9 u157_11 1 [1,5,6,7]
abbrev u157_7:=qC .skip u157_8 (.exit 0) (.t 8) [1,5,6,7,8]
abbrev u157_6:=qS [oB 8 7 6 .lss] u157_7 [1,5,6,7]
abbrev u157_5:=qJ (.loop u157_6) 0 [1,5,6,7]
abbrev u157_4:=qS [oC 5 165 [.k (.string ⟨#[115,119,105,116,99,104,32,99,111,105,108,32,108,97,109,112,32,115,111,117,110,100,32,115,104,111,119,32,118,97,114,32,116,105,109,101,114,32,101,118,101,110,116,32,109,111,100,101,32,111,110,32,115,116,97,114,116,32,115,116,111,112,32,99,108,111,115,101,32,111,112,101,110,32,105,102,32,101,108,115,101,32,114,101,112,101,97,116,32,115,99,111,114,101,32,102,105,114,101,32,104,111,108,100,32,114,101,108,101,97,115,101,32,108,105,103,104,116,32,98,108,105,110,107,32,98,101,103,105,110,32,101,110,100,32,112,111,115,116,32,112,108,97,121,32,114,117,110,32,104,97,108,116,32,116,101,120,116,32,99,111,110,115,117,109,101,32,99,108,111,115,101,100,32,97,99,116,105,118,101,32,108,101,102,116,32,112,108,97,121,101,114,32,98,97,108,108,32,116,114,117,101,32,102,97,108,115,101]⟩)],oH 6 5,oI 7 0] u157_5 [1]
abbrev u157_12:=qS [oM 14 1,oM 0 14] .ret [1]
abbrev u157_3:=qQ u157_4 u157_12 [1]
abbrev u157_2:=qS [⟨some 4,.eff (.mkm .s),none⟩,oM 1 4] u157_3 []
abbrev u157_1:=qS [oV 0 (.map none)] u157_2 []
def u157:IFn:=⟨15,u157_1,[.tmp 0]⟩
theorem isU157:A7 Tryz.prog 157 u157:=by unfold A7;kernel_rfl
abbrev u147_2:=qS [oC 3 157 [],oM 4 0,⟨some 5,.eff (.lkp .s (.bool false) false (.t 3) (.t 4)),none⟩,oM 2 5] .ret [0]
abbrev u147_1:=qS [oV 2 (.bool false)] u147_2 [0]
def u147:IFn:=⟨6,u147_1,[.tmp 2]⟩
theorem isU147:A7 Tryz.prog 147 u147:=by unfold A7;kernel_rfl
abbrev u121_2:=qS [oM 3 0,oP 4 (.lens (.t 3)),oK 5 4 .geq 1,oM 6 5,gM 7 0 6,oG 8 (.lens (.t 7)) 6,gK 9 8 6 .leq 12,oJ 10 6 9,oM 11 10,gM 12 0 11,oG 13 (.idx (.t 12) (.k (.int .i64 0))) 11,⟨some 14,.call 144 [.t 13],some (11,true)⟩,oJ 15 11 14,oM 16 15,gM 17 0 16,⟨some 18,.call 145 [.t 17,.f 146],some (16,true)⟩,gM 19 0 16,oG 20 (.lens (.t 19)) 16,oG 21 (.bin .eql (.t 18) (.t 20)) 16,oJ 22 16 21,oM 23 22,gM 24 0 23,⟨some 25,.call 147 [.t 24],some (23,true)⟩,oG 26 (.un .not (.t 25)) 23,oJ 27 23 26,oM 2 27] .ret [0]
abbrev u121_1:=qS [oV 2 (.bool false)] u121_2 [0]
def u121:IFn:=⟨28,u121_1,[.tmp 2]⟩
theorem isU121:A7 Tryz.prog 121 u121:=by unfold A7;kernel_rfl
abbrev u108_2:=qS [oM 3 0,oP 4 (.bin .geq (.t 3) (.k (.int .u8 97))),oM 5 4,gM 6 0 5,oG 7 (.bin .leq (.t 6) (.k (.int .u8 122))) 5,oJ 8 5 7,oM 9 8,hM 10 0 9,oR 11 (.bin .geq (.t 10) (.k (.int .u8 65))) 9,hM 12 11 9,gM 13 0 12,oG 14 (.bin .leq (.t 13) (.k (.int .u8 90))) 12,oR 15 (.pick (.t 12) (.t 14) (.k (.bool false))) 9,oO 16 9 15,oM 2 16] .ret [0]
abbrev u108_1:=qS [oV 2 (.bool false)] u108_2 [0]
def u108:IFn:=⟨17,u108_1,[.tmp 2]⟩
theorem isU108:A7 Tryz.prog 108 u108:=by unfold A7;kernel_rfl
abbrev u110_2:=qS [oM 3 0,oP 4 (.bin .geq (.t 3) (.k (.int .u8 48))),oM 5 4,gM 6 0 5,oG 7 (.bin .leq (.t 6) (.k (.int .u8 57))) 5,oJ 8 5 7,oM 2 8] .ret [0]
abbrev u110_1:=qS [oV 2 (.bool false)] u110_2 [0]
def u110:IFn:=⟨9,u110_1,[.tmp 2]⟩
theorem isU110:A7 Tryz.prog 110 u110:=by unfold A7;kernel_rfl
abbrev u154_2:=qS [⟨some 1,.new (.bsl 1 38 #[.string ⟨#[]⟩] [(0,.k (.string ⟨#[115,119,105,116,99,104]⟩)),(1,.k (.string ⟨#[99,111,105,108]⟩)),(2,.k (.string ⟨#[108,97,109,112]⟩)),(3,.k (.string ⟨#[115,111,117,110,100]⟩)),(4,.k (.string ⟨#[115,104,111,119]⟩)),(5,.k (.string ⟨#[118,97,114]⟩)),(6,.k (.string ⟨#[116,105,109,101,114]⟩)),(7,.k (.string ⟨#[101,118,101,110,116]⟩)),(8,.k (.string ⟨#[109,111,100,101]⟩)),(9,.k (.string ⟨#[111,110]⟩)),(10,.k (.string ⟨#[115,116,97,114,116]⟩)),(11,.k (.string ⟨#[115,116,111,112]⟩)),(12,.k (.string ⟨#[99,108,111,115,101]⟩)),(13,.k (.string ⟨#[111,112,101,110]⟩)),(14,.k (.string ⟨#[105,102]⟩)),(15,.k (.string ⟨#[101,108,115,101]⟩)),(16,.k (.string ⟨#[114,101,112,101,97,116]⟩)),(17,.k (.string ⟨#[115,99,111,114,101]⟩)),(18,.k (.string ⟨#[102,105,114,101]⟩)),(19,.k (.string ⟨#[104,111,108,100]⟩)),(20,.k (.string ⟨#[114,101,108,101,97,115,101]⟩)),(21,.k (.string ⟨#[108,105,103,104,116]⟩)),(22,.k (.string ⟨#[98,108,105,110,107]⟩)),(23,.k (.string ⟨#[98,101,103,105,110]⟩)),(24,.k (.string ⟨#[101,110,100]⟩)),(25,.k (.string ⟨#[112,111,115,116]⟩)),(26,.k (.string ⟨#[112,108,97,121]⟩)),(27,.k (.string ⟨#[114,117,110]⟩)),(28,.k (.string ⟨#[104,97,108,116]⟩)),(29,.k (.string ⟨#[116,101,120,116]⟩)),(30,.k (.string ⟨#[99,111,110,115,117,109,101]⟩)),(31,.k (.string ⟨#[99,108,111,115,101,100]⟩)),(32,.k (.string ⟨#[97,99,116,105,118,101]⟩)),(33,.k (.string ⟨#[108,101,102,116]⟩)),(34,.k (.string ⟨#[112,108,97,121,101,114]⟩)),(35,.k (.string ⟨#[98,97,108,108]⟩)),(36,.k (.string ⟨#[116,114,117,101]⟩)),(37,.k (.string ⟨#[102,97,108,115,101]⟩))]),none⟩,oM 0 1] .ret []
abbrev u154_1:=qS [oV 0 (.slice none 0 0)] u154_2 []
def u154:IFn:=⟨2,u154_1,[.tmp 0]⟩
theorem isU154:A7 Tryz.prog 154 u154:=by unfold A7;kernel_rfl
abbrev u113_2:=qS [⟨some 1,.new (.bsl 1 21 #[.string ⟨#[]⟩] [(0,.k (.string ⟨#[60,61]⟩)),(1,.k (.string ⟨#[62,61]⟩)),(2,.k (.string ⟨#[61,61]⟩)),(3,.k (.string ⟨#[33,61]⟩)),(4,.k (.string ⟨#[38,38]⟩)),(5,.k (.string ⟨#[124,124]⟩)),(6,.k (.string ⟨#[123]⟩)),(7,.k (.string ⟨#[125]⟩)),(8,.k (.string ⟨#[40]⟩)),(9,.k (.string ⟨#[41]⟩)),(10,.k (.string ⟨#[59]⟩)),(11,.k (.string ⟨#[44]⟩)),(12,.k (.string ⟨#[61]⟩)),(13,.k (.string ⟨#[43]⟩)),(14,.k (.string ⟨#[45]⟩)),(15,.k (.string ⟨#[42]⟩)),(16,.k (.string ⟨#[47]⟩)),(17,.k (.string ⟨#[37]⟩)),(18,.k (.string ⟨#[33]⟩)),(19,.k (.string ⟨#[60]⟩)),(20,.k (.string ⟨#[62]⟩))]),none⟩,oM 0 1] .ret []
abbrev u113_1:=qS [oV 0 (.slice none 0 0)] u113_2 []
def u113:IFn:=⟨2,u113_1,[.tmp 0]⟩
theorem isU113:A7 Tryz.prog 113 u113:=by unfold A7;kernel_rfl
abbrev u140_8:=qK .skip (.exit 0) (.t 9) [0,3,4,9]
abbrev u140_7:=qS [oM 6 4,oM 7 3,oH 8 7,oB 9 6 8 .lss] u140_8 [0,3,4]
abbrev u140_12:=qS [oV 2 (.bool true)] .ret []
abbrev u140_11:=qK u140_12 .skip (.t 17) [0,3,4,17]
abbrev u140_10:=qS [oM 12 3,oM 13 4,oA 14 12 13 1,oL 15 14,oM 16 0,oB 17 15 16 .eql] u140_11 [0,3,4]
abbrev u140_13:=qE [oM 10 4,oK 11 10 .add 1,oM 4 11] [0,3,4]
abbrev u140_9:=qB u140_10 u140_13 1 [0,3,4]
abbrev u140_6:=qQ u140_7 u140_9 [0,3,4]
abbrev u140_5:=qJ (.loop u140_6) 0 [0,3,4]
abbrev u140_4:=qS [oI 4 0] u140_5 [0,3]
abbrev u140_14:=qS [oV 2 (.bool false)] .ret []
abbrev u140_3:=qQ u140_4 u140_14 [0,3]
abbrev u140_2:=qS [oC 5 154 [],oM 3 5] u140_3 [0]
abbrev u140_1:=qS [oV 2 (.bool false)] u140_2 [0]
def u140:IFn:=⟨18,u140_1,[.tmp 2]⟩
theorem isU140:A7 Tryz.prog 140 u140:=by unfold A7;kernel_rfl
abbrev u152_5:=qS [oV 2 (.bool false)] .ret []
abbrev u152_4:=qK u152_5 .skip (.t 21) [0,21]
abbrev u152_3:=qS [oM 4 0,oP 5 (.lens (.t 4)),oK 6 5 .lss 1,oM 7 6,hM 8 0 7,oR 9 (.lens (.t 8)) 7,hK 10 9 7 .gtr 12,oO 11 7 10,oM 12 11,hM 13 0 12,oR 14 (.idx (.t 13) (.k (.int .i64 0))) 12,⟨some 15,.call 108 [.t 14],some (12,false)⟩,oR 16 (.un .not (.t 15)) 12,oO 17 12 16,oM 18 17,hM 19 0 18,⟨some 20,.call 140 [.t 19],some (18,false)⟩,oO 21 18 20] u152_4 [0]
abbrev u152_11:=qK .skip (.exit 0) (.t 25) [0,3,25]
abbrev u152_10:=qS [oM 22 3,oM 23 0,oP 24 (.lens (.t 23)),oB 25 22 24 .lss] u152_11 [0,3]
abbrev u152_15:=qS [oV 2 (.bool false)] .ret []
abbrev u152_14:=qK u152_15 .skip (.t 45) [0,3,45]
abbrev u152_13:=qS [oM 28 0,oM 29 3,oP 30 (.idx (.t 28) (.t 29)),oC 31 108 [.t 30],oY 32 31,oM 33 32,gM 34 0 33,gM 35 3 33,oG 36 (.idx (.t 34) (.t 35)) 33,⟨some 37,.call 110 [.t 36],some (33,true)⟩,oG 38 (.un .not (.t 37)) 33,oJ 39 33 38,oM 40 39,gM 41 0 40,gM 42 3 40,oG 43 (.idx (.t 41) (.t 42)) 40,oG 44 (.bin .neq (.t 43) (.k (.int .u8 95))) 40,oJ 45 40 44] u152_14 [0,3]
abbrev u152_16:=qE [oM 26 3,oK 27 26 .add 1,oM 3 27] [0,3]
abbrev u152_12:=qB u152_13 u152_16 1 [0,3]
abbrev u152_9:=qQ u152_10 u152_12 [0,3]
abbrev u152_8:=qJ (.loop u152_9) 0 [0,3]
abbrev u152_7:=qS [oI 3 0] u152_8 [0]
abbrev u152_17:=qS [oV 2 (.bool true)] .ret []
abbrev u152_6:=qQ u152_7 u152_17 [0]
abbrev u152_2:=qQ u152_3 u152_6 [0]
abbrev u152_1:=qS [oV 2 (.bool false)] u152_2 [0]
def u152:IFn:=⟨46,u152_1,[.tmp 2]⟩
theorem isU152:A7 Tryz.prog 152 u152:=by unfold A7;kernel_rfl
abbrev u70_5:=qK .skip (.exit 0) (.t 9) [0,1,9]
abbrev u70_4:=qS [oM 6 1,oM 7 0,oP 8 (.lens (.t 7)),oB 9 6 8 .lss] u70_5 [0,1]
abbrev u70_13:=qK .skip (.exit 2) (.t 24) [0,1,24]
abbrev u70_12:=qS [oM 15 1,oM 16 0,oP 17 (.lens (.t 16)),oB 18 15 17 .lss,oM 19 18,gM 20 0 19,gM 21 1 19,oG 22 (.idx (.t 20) (.t 21)) 19,oG 23 (.bin .neq (.t 22) (.k (.int .u8 10))) 19,oJ 24 19 23] u70_13 [0,1]
abbrev u70_15:=qE [oM 25 1,oK 26 25 .add 1,oM 1 26] [0,1]
abbrev u70_14:=qJ u70_15 3 [0,1]
abbrev u70_11:=qQ u70_12 u70_14 [0,1]
abbrev u70_10:=qJ (.loop u70_11) 2 [0,1]
abbrev u70_18:=qE [oM 41 1,oK 42 41 .add 1,oM 1 42] [0,1]
abbrev u70_19:=qS [oM 43 1,oM 4 43] .ret [1]
abbrev u70_17:=qK u70_18 u70_19 (.t 40) [0,1,40]
abbrev u70_16:=qS [oM 27 5,oP 28 (.bin .eql (.t 27) (.k (.int .u8 9))),oM 29 28,hM 30 5 29,oR 31 (.bin .eql (.t 30) (.k (.int .u8 10))) 29,oO 32 29 31,oM 33 32,hM 34 5 33,oR 35 (.bin .eql (.t 34) (.k (.int .u8 13))) 33,oO 36 33 35,oM 37 36,hM 38 5 37,oR 39 (.bin .eql (.t 38) (.k (.int .u8 32))) 37,oO 40 37 39] u70_17 [0,1,5]
abbrev u70_9:=qK u70_10 u70_16 (.t 14) [0,1,5,14]
abbrev u70_8:=qS [oM 13 5,oP 14 (.bin .eql (.t 13) (.k (.int .u8 35)))] u70_9 [0,1,5]
abbrev u70_7:=qS [oM 10 0,oM 11 1,oP 12 (.idx (.t 10) (.t 11)),oM 5 12] u70_8 [0,1]
abbrev u70_6:=qJ u70_7 1 [0,1]
abbrev u70_3:=qQ u70_4 u70_6 [0,1]
abbrev u70_20:=qS [oM 44 1,oM 4 44] .ret [1]
abbrev u70_2:=qB (.loop u70_3) u70_20 0 [0,1]
abbrev u70_1:=qS [oI 4 0] u70_2 [0,1]
def u70:IFn:=⟨45,u70_1,[.tmp 4]⟩
theorem isU70:A7 Tryz.prog 70 u70:=by unfold A7;kernel_rfl
abbrev u109_6:=qK .skip (.exit 0) (.t 31) [0,1,4,7,31]
abbrev u109_5:=qS [oM 10 7,oM 11 0,oP 12 (.lens (.t 11)),oB 13 10 12 .lss,oM 14 13,gM 15 0 14,gM 16 7 14,oG 17 (.idx (.t 15) (.t 16)) 14,⟨some 18,.call 108 [.t 17],some (14,true)⟩,gM 19 18 14,hM 20 0 19,hM 21 7 19,oR 22 (.idx (.t 20) (.t 21)) 19,⟨some 23,.call 110 [.t 22],some (19,false)⟩,oG 24 (.pick (.t 19) (.k (.bool true)) (.t 23)) 14,gM 25 24 14,hM 26 0 25,hM 27 7 25,oR 28 (.idx (.t 26) (.t 27)) 25,oR 29 (.bin .eql (.t 28) (.k (.int .u8 95))) 25,oG 30 (.pick (.t 25) (.k (.bool true)) (.t 29)) 14,oJ 31 14 30] u109_6 [0,1,4,7]
abbrev u109_8:=qE [oM 32 7,oK 33 32 .add 1,oM 7 33] [0,1,4,7]
abbrev u109_7:=qJ u109_8 1 [0,1,4,7]
abbrev u109_4:=qQ u109_5 u109_7 [0,1,4,7]
abbrev u109_12:=qS [oP 38 (.bld #[.int .i64 0,.string ⟨#[]⟩,.int .i64 0,.int .i64 0] [(0,1),(1,1),(2,1),(3,1)] []),oM 39 1,oS 4 38 4,oM 5 39,oI 6 9] .ret [1,4]
abbrev u109_11:=qK u109_12 .skip (.t 37) [0,1,4,7,37]
abbrev u109_10:=qS [oM 34 7,oM 35 1,oB 36 34 35 .sub,oK 37 36 .gtr 12] u109_11 [0,1,4,7]
abbrev u109_17:=qE [oF 49 8 0,⟨none,.eff (.st 1 (.t 49) (.k (.int .i64 2))),none⟩] [4,7,8]
abbrev u109_16:=qK u109_17 .skip (.t 48) [4,7,8,48]
abbrev u109_15:=qS [oF 46 8 1,oL 47 46,oC 48 140 [.t 47]] u109_16 [4,7,8]
abbrev u109_18:=qS [oD 50 8 4,oM 51 7,oS 4 50 4,oM 5 51,oI 6 0] .ret [4,7,8]
abbrev u109_14:=qQ u109_15 u109_18 [4,7,8]
abbrev u109_13:=qS [oM 40 0,oM 41 1,oM 42 7,oP 43 (.sls (.t 40) (some (.t 41)) (some (.t 42))),oM 44 1,oP 45 (.bld #[.int .i64 0,.string ⟨#[]⟩,.int .i64 0,.int .i64 0] [(0,1),(1,1),(2,1),(3,1)] [(0,.k (.int .i64 1)),(1,.t 43),(3,.t 44)]),oW 8 (.agg #[.int .i64 0,.string ⟨#[]⟩,.int .i64 0,.int .i64 0]),oS 8 45 4] u109_14 [0,1,4,7]
abbrev u109_9:=qQ u109_10 u109_13 [0,1,4,7]
abbrev u109_3:=qB (.loop u109_4) u109_9 0 [0,1,4,7]
abbrev u109_2:=qS [oM 9 1,oM 7 9] u109_3 [0,1,4]
abbrev u109_1:=qS [oW 4 (.agg #[.int .i64 0,.string ⟨#[]⟩,.int .i64 0,.int .i64 0]),oI 5 0,oI 6 0] u109_2 [0,1]
def u109:IFn:=⟨52,u109_1,[.cell 4 4 true,.tmp 5,.tmp 6]⟩
theorem isU109:A7 Tryz.prog 109 u109:=by unfold A7;kernel_rfl
abbrev u111_6:=qK .skip (.exit 0) (.t 20) [0,1,4,7,8,9,20]
abbrev u111_5:=qS [oM 11 7,oM 12 0,oP 13 (.lens (.t 12)),oB 14 11 13 .lss,oM 15 14,gM 16 0 15,gM 17 7 15,oG 18 (.idx (.t 16) (.t 17)) 15,⟨some 19,.call 110 [.t 18],some (15,true)⟩,oJ 20 15 19] u111_6 [0,1,4,7,8,9]
abbrev u111_13:=qE [oI 8 0] [0,1,4,7,9]
abbrev u111_12:=qK u111_13 .skip (.t 34) [0,1,4,7,8,9,34]
abbrev u111_11:=qS [oM 34 9] u111_12 [0,1,4,7,8,9]
abbrev u111_14:=qE [oM 35 7,oK 36 35 .add 1,oM 7 36] [0,1,4,7,8,9]
abbrev u111_10:=qQ u111_11 u111_14 [0,1,4,7,8,9]
abbrev u111_9:=qS [oM 29 9,oM 30 29,hM 31 8 30,hK 32 31 30 .gtr 2147483647,oO 33 30 32,oM 9 33] u111_10 [0,1,4,7,8,9]
abbrev u111_8:=qS [oM 21 8,oP 22 (.bin .mul (.k (.int .i64 10)) (.t 21)),oM 23 0,oM 24 7,oP 25 (.idx (.t 23) (.t 24)),oP 26 (.bin .sub (.t 25) (.k (.int .u8 48))),oP 27 (.cvi .i64 (.t 26)),oB 28 22 27 .add,oM 8 28] u111_9 [0,1,4,7,8,9]
abbrev u111_7:=qJ u111_8 1 [0,1,4,7,8,9]
abbrev u111_4:=qQ u111_5 u111_7 [0,1,4,7,8,9]
abbrev u111_18:=qS [oP 48 (.bld #[.int .i64 0,.string ⟨#[]⟩,.int .i64 0,.int .i64 0] [(0,1),(1,1),(2,1),(3,1)] []),oM 49 1,oS 4 48 4,oM 5 49,oI 6 47] .ret [1,4]
abbrev u111_21:=qS [oP 52 (.bld #[.int .i64 0,.string ⟨#[]⟩,.int .i64 0,.int .i64 0] [(0,1),(1,1),(2,1),(3,1)] []),oM 53 1,oS 4 52 4,oM 5 53,oI 6 5] .ret [1,4]
abbrev u111_20:=qK u111_21 .skip (.t 50) [1,4,7,8,50]
abbrev u111_19:=qS [oM 51 9,oM 50 51] u111_20 [1,4,7,8,9]
abbrev u111_17:=qK u111_18 u111_19 (.t 37) [1,4,7,8,9,37]
abbrev u111_16:=qS [oM 38 0,oM 39 1,oP 40 (.idx (.t 38) (.t 39)),oP 41 (.bin .eql (.t 40) (.k (.int .u8 48))),oM 42 41,gM 43 7 42,gM 44 1 42,oG 45 (.bin .sub (.t 43) (.t 44)) 42,gK 46 45 42 .gtr 1,oJ 47 42 46,oM 37 47] u111_17 [0,1,4,7,8,9]
abbrev u111_22:=qS [oM 54 8,oM 55 1,oP 56 (.bld #[.int .i64 0,.string ⟨#[]⟩,.int .i64 0,.int .i64 0] [(0,1),(1,1),(2,1),(3,1)] [(0,.k (.int .i64 3)),(2,.t 54),(3,.t 55)]),oM 57 7,oS 4 56 4,oM 5 57,oI 6 0] .ret [1,4,7,8]
abbrev u111_15:=qB u111_16 u111_22 2 [0,1,4,7,8,9]
abbrev u111_3:=qB (.loop u111_4) u111_15 0 [0,1,4,7,8,9]
abbrev u111_2:=qS [oM 10 1,oM 7 10,oI 8 0,oV 9 (.bool false)] u111_3 [0,1,4]
abbrev u111_1:=qS [oW 4 (.agg #[.int .i64 0,.string ⟨#[]⟩,.int .i64 0,.int .i64 0]),oI 5 0,oI 6 0] u111_2 [0,1]
def u111:IFn:=⟨58,u111_1,[.cell 4 4 true,.tmp 5,.tmp 6]⟩
theorem isU111:A7 Tryz.prog 111 u111:=by unfold A7;kernel_rfl
abbrev u112_8:=qK .skip (.exit 0) (.t 15) [0,1,4,7,8,15]
abbrev u112_7:=qS [oM 12 8,oM 13 0,oP 14 (.lens (.t 13)),oB 15 12 14 .lss] u112_8 [0,1,4,7,8]
abbrev u112_17:=qS [oP 27 (.bld #[.int .i64 0,.string ⟨#[]⟩,.int .i64 0,.int .i64 0] [(0,1),(1,1),(2,1),(3,1)] []),oM 28 1,oS 4 27 4,oM 5 28,oI 6 9] .ret [1,4]
abbrev u112_16:=qK u112_17 .skip (.t 26) [1,4,7,8,26]
abbrev u112_15:=qS [oM 24 7,oH 25 24,oK 26 25 .gtr 32] u112_16 [1,4,7,8]
abbrev u112_18:=qS [oM 29 7,oP 30 (.cvbs (.t 29)),oM 31 1,oP 32 (.bld #[.int .i64 0,.string ⟨#[]⟩,.int .i64 0,.int .i64 0] [(0,1),(1,1),(2,1),(3,1)] [(0,.k (.int .i64 4)),(1,.t 30),(3,.t 31)]),oM 33 8,oK 34 33 .add 1,oS 4 32 4,oM 5 34,oI 6 0] .ret [1,4,7,8]
abbrev u112_14:=qQ u112_15 u112_18 [1,4,7,8]
abbrev u112_21:=qS [oP 42 (.bld #[.int .i64 0,.string ⟨#[]⟩,.int .i64 0,.int .i64 0] [(0,1),(1,1),(2,1),(3,1)] []),oM 43 1,oS 4 42 4,oM 5 43,oI 6 48] .ret [1,4]
abbrev u112_28:=qS [oP 65 (.bld #[.int .i64 0,.string ⟨#[]⟩,.int .i64 0,.int .i64 0] [(0,1),(1,1),(2,1),(3,1)] []),oM 66 1,oS 4 65 4,oM 5 66,oI 6 48] .ret [1,4]
abbrev u112_27:=qK u112_28 .skip (.t 64) [0,1,4,7,8,64]
abbrev u112_26:=qS [oM 49 8,oM 50 0,oP 51 (.lens (.t 50)),oB 52 49 51 .geq,oM 53 52,hM 54 0 53,hM 55 8 53,oR 56 (.idx (.t 54) (.t 55)) 53,oR 57 (.bin .neq (.t 56) (.k (.int .u8 34))) 53,hM 58 57 53,gM 59 0 58,gM 60 8 58,oG 61 (.idx (.t 59) (.t 60)) 58,oG 62 (.bin .neq (.t 61) (.k (.int .u8 92))) 58,oR 63 (.pick (.t 58) (.t 62) (.k (.bool false))) 53,oO 64 53 63] u112_27 [0,1,4,7,8]
abbrev u112_29:=qE [oM 67 0,oM 68 8,oP 69 (.idx (.t 67) (.t 68)),oM 9 69] [0,1,4,7,8]
abbrev u112_25:=qQ u112_26 u112_29 [0,1,4,7,8]
abbrev u112_24:=qS [oM 47 8,oK 48 47 .add 1,oM 8 48] u112_25 [0,1,4,7,8]
abbrev u112_23:=qK u112_24 .skip (.t 44) [0,1,4,7,8,9,44]
abbrev u112_22:=qS [oM 45 9,oP 46 (.bin .eql (.t 45) (.k (.int .u8 92))),oM 44 46] u112_23 [0,1,4,7,8,9]
abbrev u112_20:=qK u112_21 u112_22 (.t 35) [0,1,4,7,8,9,35]
abbrev u112_19:=qS [oM 36 9,oP 37 (.bin .lss (.t 36) (.k (.int .u8 32))),oM 38 37,hM 39 9 38,oR 40 (.bin .gtr (.t 39) (.k (.int .u8 126))) 38,oO 41 38 40,oM 35 41] u112_20 [0,1,4,7,8,9]
abbrev u112_13:=qK u112_14 u112_19 (.t 21) [0,1,4,7,8,9,21]
abbrev u112_12:=qS [oM 22 9,oP 23 (.bin .eql (.t 22) (.k (.int .u8 34))),oM 21 23] u112_13 [0,1,4,7,8,9]
abbrev u112_30:=qE [oM 70 7,oM 71 9,⟨some 72,.new (.bsl 1 1 #[.int .u8 0] [(0,.t 71)]),none⟩,oT 73 70 72 1 1,oM 7 73] [0,1,4,7,8,9]
abbrev u112_11:=qB u112_12 u112_30 2 [0,1,4,7,8,9]
abbrev u112_10:=qS [oM 18 0,oM 19 8,oP 20 (.idx (.t 18) (.t 19)),oM 9 20] u112_11 [0,1,4,7,8]
abbrev u112_31:=qE [oM 16 8,oK 17 16 .add 1,oM 8 17] [0,1,4,7,8]
abbrev u112_9:=qB u112_10 u112_31 1 [0,1,4,7,8]
abbrev u112_6:=qQ u112_7 u112_9 [0,1,4,7,8]
abbrev u112_5:=qJ (.loop u112_6) 0 [0,1,4,7,8]
abbrev u112_4:=qS [oM 10 1,oK 11 10 .add 1,oM 8 11] u112_5 [0,1,4,7]
abbrev u112_32:=qS [oP 74 (.bld #[.int .i64 0,.string ⟨#[]⟩,.int .i64 0,.int .i64 0] [(0,1),(1,1),(2,1),(3,1)] []),oM 75 1,oS 4 74 4,oM 5 75,oI 6 48] .ret [1,4]
abbrev u112_3:=qQ u112_4 u112_32 [0,1,4,7]
abbrev u112_2:=qS [oV 7 (.slice none 0 0)] u112_3 [0,1,4]
abbrev u112_1:=qS [oW 4 (.agg #[.int .i64 0,.string ⟨#[]⟩,.int .i64 0,.int .i64 0]),oI 5 0,oI 6 0] u112_2 [0,1]
def u112:IFn:=⟨76,u112_1,[.cell 4 4 true,.tmp 5,.tmp 6]⟩
theorem isU112:A7 Tryz.prog 112 u112:=by unfold A7;kernel_rfl
abbrev u71_7:=qS [oM 17 0,oM 18 1,oC 19 109 [.t 17,.t 18],oE 20 19 0,oE 21 19 1,oE 22 19 2,oS 4 20 4,oM 5 21,oM 6 22] .ret [0,1,4]
abbrev u71_10:=qS [oM 26 0,oM 27 1,oC 28 111 [.t 26,.t 27],oE 29 28 0,oE 30 28 1,oE 31 28 2,oS 4 29 4,oM 5 30,oM 6 31] .ret [0,1,4]
abbrev u71_13:=qS [oM 35 0,oM 36 1,oC 37 112 [.t 35,.t 36],oE 38 37 0,oE 39 37 1,oE 40 37 2,oS 4 38 4,oM 5 39,oM 6 40] .ret [0,1,4]
abbrev u71_12:=qK u71_13 .skip (.t 32) [0,1,4,32]
abbrev u71_11:=qS [oM 33 7,oP 34 (.bin .eql (.t 33) (.k (.int .u8 34))),oM 32 34] u71_12 [0,1,4,7]
abbrev u71_9:=qK u71_10 u71_11 (.t 23) [0,1,4,7,23]
abbrev u71_8:=qS [oM 24 7,oC 25 110 [.t 24],oM 23 25] u71_9 [0,1,4,7]
abbrev u71_6:=qK u71_7 u71_8 (.t 14) [0,1,4,7,14]
abbrev u71_5:=qS [oM 15 7,oC 16 108 [.t 15],oM 14 16] u71_6 [0,1,4,7]
abbrev u71_4:=qJ u71_5 0 [0,1,4,7]
abbrev u71_3:=qS [oM 11 0,oM 12 1,oP 13 (.idx (.t 11) (.t 12)),oM 7 13] u71_4 [0,1,4]
abbrev u71_20:=qK .skip (.exit 1) (.t 45) [0,1,4,8,9,45]
abbrev u71_19:=qS [oM 42 9,oM 43 8,oH 44 43,oB 45 42 44 .lss] u71_20 [0,1,4,8,9]
abbrev u71_25:=qS [oM 72 8,oM 73 9,oA 74 72 73 1,oL 75 74,oM 76 1,oP 77 (.bld #[.int .i64 0,.string ⟨#[]⟩,.int .i64 0,.int .i64 0] [(0,1),(1,1),(2,1),(3,1)] [(0,.k (.int .i64 5)),(1,.t 75),(3,.t 76)]),oM 78 1,oM 79 10,oB 80 78 79 .add,oS 4 77 4,oM 5 80,oI 6 0] .ret [1,4,8,9,10]
abbrev u71_24:=qK u71_25 .skip (.t 71) [0,1,4,8,9,10,71]
abbrev u71_23:=qP [oM 53 0,oP 54 (.lens (.t 53)),oM 55 1,oB 56 54 55 .sub,oM 57 10,oB 58 56 57 .geq,oM 59 58,gM 60 0 59,gM 61 1 59,gM 62 1 59,gM 63 10 59,oG 64 (.bin .add (.t 62) (.t 63)) 59,oG 65 (.sls (.t 60) (some (.t 61)) (some (.t 64))) 59,gM 66 8 59,gM 67 9 59,oG 68 (.iad 1 (.t 66) (.t 67)) 59,gL 69 68 59,oG 70 (.bin .eql (.t 65) (.t 69)) 59,oJ 71 59 70] u71_24 0 19 [0,1,4,8,9,10]
abbrev u71_22:=qS [oM 48 8,oM 49 9,oA 50 48 49 1,oL 51 50,oP 52 (.lens (.t 51)),oM 10 52] u71_23 [0,1,4,8,9]
abbrev u71_26:=qE [oM 46 9,oK 47 46 .add 1,oM 9 47] [0,1,4,8,9]
abbrev u71_21:=qB u71_22 u71_26 2 [0,1,4,8,9]
abbrev u71_18:=qQ u71_19 u71_21 [0,1,4,8,9]
abbrev u71_17:=qJ (.loop u71_18) 1 [0,1,4,8,9]
abbrev u71_16:=qS [oI 9 0] u71_17 [0,1,4,8]
abbrev u71_27:=qS [oP 81 (.bld #[.int .i64 0,.string ⟨#[]⟩,.int .i64 0,.int .i64 0] [(0,1),(1,1),(2,1),(3,1)] []),oM 82 1,oS 4 81 4,oM 5 82,oI 6 47] .ret [1,4]
abbrev u71_15:=qQ u71_16 u71_27 [0,1,4,8]
abbrev u71_14:=qS [oC 41 113 [],oM 8 41] u71_15 [0,1,4]
abbrev u71_2:=qQ u71_3 u71_14 [0,1,4]
abbrev u71_1:=qS [oW 4 (.agg #[.int .i64 0,.string ⟨#[]⟩,.int .i64 0,.int .i64 0]),oI 5 0,oI 6 0] u71_2 [0,1]
def u71:IFn:=⟨83,u71_1,[.cell 4 4 true,.tmp 5,.tmp 6]⟩
theorem isU71:A7 Tryz.prog 71 u71:=by unfold A7;kernel_rfl
abbrev u36_5:=qS [oV 2 (.slice none 0 0),oI 3 0,oI 4 9] .ret []
abbrev u36_4:=qK u36_5 .skip (.t 12) [0,12]
abbrev u36_3:=qS [oM 10 0,oP 11 (.lens (.t 10)),oK 12 11 .gtr 20000] u36_4 [0]
abbrev u36_12:=qK .skip (.exit 0) (.t 18) [0,5,6,18]
abbrev u36_11:=qS [oM 15 6,oM 16 0,oP 17 (.lens (.t 16)),oB 18 15 17 .lss] u36_12 [0,5,6]
abbrev u36_18:=qS [oM 31 6,oM 32 9,oV 2 (.slice none 0 0),oM 3 31,oM 4 32] .ret [6,9]
abbrev u36_17:=qK u36_18 .skip (.t 30) [0,5,6,7,8,9,30]
abbrev u36_16:=qS [oM 29 9,oK 30 29 .neq 0] u36_17 [0,5,6,7,8,9]
abbrev u36_20:=qE [oM 37 8,oM 6 37] [0,5,8]
abbrev u36_19:=qS [oM 33 5,oD 34 7 4,⟨some 35,.new (.bsl 4 1 #[.int .i64 0,.string ⟨#[]⟩,.int .i64 0,.int .i64 0] [(0,.t 34)]),none⟩,oT 36 33 35 4 40,oM 5 36] u36_20 [0,5,7,8]
abbrev u36_15:=qQ u36_16 u36_19 [0,5,6,7,8,9]
abbrev u36_14:=qS [oM 23 0,oM 24 6,oC 25 71 [.t 23,.t 24],oM 22 25,oE 26 22 0,oE 27 22 1,oE 28 22 2,oW 7 (.agg #[.int .i64 0,.string ⟨#[]⟩,.int .i64 0,.int .i64 0]),oS 7 26 4,oM 8 27,oM 9 28] u36_15 [0,5,6]
abbrev u36_21:=qE [oM 19 0,oM 20 6,oC 21 70 [.t 19,.t 20],oM 6 21] [0,5,6]
abbrev u36_13:=qB u36_14 u36_21 1 [0,5,6]
abbrev u36_10:=qQ u36_11 u36_13 [0,5,6]
abbrev u36_9:=qJ (.loop u36_10) 0 [0,5,6]
abbrev u36_8:=qS [oM 13 0,oC 14 70 [.t 13,.k (.int .i64 0)],oM 6 14] u36_9 [0,5]
abbrev u36_22:=qS [oM 38 5,oM 2 38,oI 3 0,oI 4 0] .ret [5]
abbrev u36_7:=qQ u36_8 u36_22 [0,5]
abbrev u36_6:=qS [oV 5 (.slice none 0 0)] u36_7 [0]
abbrev u36_2:=qQ u36_3 u36_6 [0]
abbrev u36_1:=qS [oV 2 (.slice none 0 0),oI 3 0,oI 4 0] u36_2 [0]
def u36:IFn:=⟨39,u36_1,[.tmp 2,.tmp 3,.tmp 4]⟩
theorem isU36:A7 Tryz.prog 36 u36:=by unfold A7;kernel_rfl
abbrev u55_9:=qS [oM 15 4,oP 16 (.bin .add (.k (.int .i64 48)) (.t 15)),oP 17 (.cvi .u8 (.t 16)),⟨some 18,.new (.bsl 1 1 #[.int .u8 0] [(0,.t 17)]),none⟩,oP 19 (.cvbs (.t 18)),oP 20 (.bin .add (.k (.string ⟨#[45]⟩)) (.t 19)),oM 2 20] .ret [4]
abbrev u55_8:=qK u55_9 .skip (.t 14) [3,4,14]
abbrev u55_7:=qS [oM 13 3,oK 14 13 .eql 0] u55_8 [3,4]
abbrev u55_10:=qD [oM 21 3,oC 22 55 [.t 21],oM 23 4,oP 24 (.bin .add (.k (.int .i64 48)) (.t 23)),oP 25 (.cvi .u8 (.t 24)),⟨some 26,.new (.bsl 1 1 #[.int .u8 0] [(0,.t 25)]),none⟩,oP 27 (.cvbs (.t 26)),oB 28 22 27 .add,oM 2 28] .ret [(0,none),(2,none),(3,none),(4,none),(5,none),(6,none),(1,some [2,3,4,5,6]),(7,none),(8,some [])] 9 [3,4]
abbrev u55_6:=qQ u55_7 u55_10 [3,4]
abbrev u55_5:=qS [oM 8 0,oK 9 8 .quo 10,oM 10 0,oK 11 10 .rem 10,oP 12 (.un .neg (.t 11)),oM 3 9,oM 4 12] u55_6 [0]
abbrev u55_4:=qK u55_5 .skip (.t 7) [0,7]
abbrev u55_3:=qS [oM 6 0,oK 7 6 .lss 0] u55_4 [0]
abbrev u55_15:=qS [oM 37 5,oM 2 37] .ret [5]
abbrev u55_14:=qK u55_15 .skip (.t 36) [0,5,36]
abbrev u55_13:=qS [oM 35 0,oK 36 35 .lss 10] u55_14 [0,5]
abbrev u55_16:=qS [oM 38 0,oK 39 38 .quo 10,oC 40 55 [.t 39],oM 41 5,oB 42 40 41 .add,oM 2 42] .ret [0,5]
abbrev u55_12:=qQ u55_13 u55_16 [0,5]
abbrev u55_11:=qS [oM 29 0,oK 30 29 .rem 10,oP 31 (.bin .add (.k (.int .i64 48)) (.t 30)),oP 32 (.cvi .u8 (.t 31)),⟨some 33,.new (.bsl 1 1 #[.int .u8 0] [(0,.t 32)]),none⟩,oP 34 (.cvbs (.t 33)),oM 5 34] u55_12 [0]
abbrev u55_2:=qQ u55_3 u55_11 [0]
abbrev u55_1:=qS [oV 2 (.string ⟨#[]⟩)] u55_2 [0]
def u55:IFn:=⟨43,u55_1,[.tmp 2]⟩
theorem isU55:A7 Tryz.prog 55 u55:=by unfold A7;kernel_rfl
abbrev u119_8:=qK .skip (.exit 0) (.t 9) [0,3,4,9]
abbrev u119_7:=qS [oM 6 4,oM 7 0,oP 8 (.lens (.t 7)),oB 9 6 8 .lss] u119_8 [0,3,4]
abbrev u119_13:=qE [oM 22 3,⟨some 23,.new (.bsl 1 1 #[.int .u8 0] [(0,.k (.int .u8 92))]),none⟩,oT 24 22 23 1 1,oM 3 24] [0,3,4]
abbrev u119_12:=qK u119_13 .skip (.t 21) [0,3,4,21]
abbrev u119_11:=qS [oM 12 0,oM 13 4,oP 14 (.idx (.t 12) (.t 13)),oP 15 (.bin .eql (.t 14) (.k (.int .u8 34))),oM 16 15,hM 17 0 16,hM 18 4 16,oR 19 (.idx (.t 17) (.t 18)) 16,oR 20 (.bin .eql (.t 19) (.k (.int .u8 92))) 16,oO 21 16 20] u119_12 [0,3,4]
abbrev u119_14:=qE [oM 25 3,oM 26 0,oM 27 4,oP 28 (.idx (.t 26) (.t 27)),⟨some 29,.new (.bsl 1 1 #[.int .u8 0] [(0,.t 28)]),none⟩,oT 30 25 29 1 1,oM 3 30] [0,3,4]
abbrev u119_10:=qQ u119_11 u119_14 [0,3,4]
abbrev u119_15:=qE [oM 10 4,oK 11 10 .add 1,oM 4 11] [0,3,4]
abbrev u119_9:=qB u119_10 u119_15 1 [0,3,4]
abbrev u119_6:=qQ u119_7 u119_9 [0,3,4]
abbrev u119_5:=qJ (.loop u119_6) 0 [0,3,4]
abbrev u119_4:=qS [oI 4 0] u119_5 [0,3]
abbrev u119_16:=qS [oM 31 3,⟨some 32,.new (.bsl 1 1 #[.int .u8 0] [(0,.k (.int .u8 34))]),none⟩,oT 33 31 32 1 1,oP 34 (.cvbs (.t 33)),oM 2 34] .ret [3]
abbrev u119_3:=qQ u119_4 u119_16 [0,3]
abbrev u119_2:=qS [⟨some 5,.new (.bsl 1 1 #[.int .u8 0] [(0,.k (.int .u8 34))]),none⟩,oM 3 5] u119_3 [0]
abbrev u119_1:=qS [oV 2 (.string ⟨#[]⟩)] u119_2 [0]
def u119:IFn:=⟨35,u119_1,[.tmp 2]⟩
theorem isU119:A7 Tryz.prog 119 u119:=by unfold A7;kernel_rfl
abbrev u78_10:=qE [oK 8 4 .eql 5,oM 5 8] [1,4]
abbrev u78_9:=qK .skip u78_10 (.t 5) [1,4,5]
abbrev u78_8:=qS [oK 7 4 .eql 2,oM 5 7] u78_9 [1,4]
abbrev u78_7:=qK .skip u78_8 (.t 5) [1,4,5]
abbrev u78_6:=qS [oK 6 4 .eql 1,oM 5 6] u78_7 [1,4]
abbrev u78_12:=qS [oF 9 1 1,oL 10 9,oM 2 10] .ret [1]
abbrev u78_15:=qS [oF 13 1 2,oL 14 13,oC 15 55 [.t 14],oM 2 15] .ret [1]
abbrev u78_18:=qS [oF 18 1 1,oL 19 18,oC 20 119 [.t 19],oM 2 20] .ret [1]
abbrev u78_17:=qK u78_18 .skip (.t 16) [1,16]
abbrev u78_16:=qS [oK 17 4 .eql 4,oM 16 17] u78_17 [1,4]
abbrev u78_14:=qK u78_15 u78_16 (.t 11) [1,4,11]
abbrev u78_13:=qS [oK 12 4 .eql 3,oM 11 12] u78_14 [1,4]
abbrev u78_11:=qK u78_12 u78_13 (.t 5) [1,4,5]
abbrev u78_5:=qQ u78_6 u78_11 [1,4]
abbrev u78_4:=qJ u78_5 0 [1,4]
abbrev u78_3:=qS [oF 3 1 0,oL 4 3] u78_4 [1]
abbrev u78_19:=qS [oV 2 (.string ⟨#[]⟩)] .ret []
abbrev u78_2:=qQ u78_3 u78_19 [1]
abbrev u78_1:=qS [oX 1 0,oV 2 (.string ⟨#[]⟩)] u78_2 [0]
def u78:IFn:=⟨21,u78_1,[.tmp 2]⟩
theorem isU78:A7 Tryz.prog 78 u78:=by unfold A7;kernel_rfl
abbrev u39_8:=qK .skip (.exit 0) (.t 8) [0,3,4,8]
abbrev u39_7:=qS [oM 5 4,oM 6 0,oH 7 6,oB 8 5 7 .lss] u39_8 [0,3,4]
abbrev u39_13:=qE [oM 13 3,oP 14 (.bin .add (.t 13) (.k (.string ⟨#[32]⟩))),oM 3 14] [0,3,4]
abbrev u39_12:=qK u39_13 .skip (.t 12) [0,3,4,12]
abbrev u39_11:=qS [oM 11 4,oK 12 11 .gtr 0] u39_12 [0,3,4]
abbrev u39_14:=qE [oM 15 3,oM 16 0,oM 17 4,oA 18 16 17 4,oD 19 18 4,oC 20 78 [.t 19],oB 21 15 20 .add,oM 3 21] [0,3,4]
abbrev u39_10:=qQ u39_11 u39_14 [0,3,4]
abbrev u39_15:=qE [oM 9 4,oK 10 9 .add 1,oM 4 10] [0,3,4]
abbrev u39_9:=qB u39_10 u39_15 1 [0,3,4]
abbrev u39_6:=qQ u39_7 u39_9 [0,3,4]
abbrev u39_5:=qJ (.loop u39_6) 0 [0,3,4]
abbrev u39_4:=qS [oI 4 0] u39_5 [0,3]
abbrev u39_16:=qS [oM 22 3,oM 2 22] .ret [3]
abbrev u39_3:=qQ u39_4 u39_16 [0,3]
abbrev u39_2:=qS [oV 3 (.string ⟨#[]⟩)] u39_3 [0]
abbrev u39_1:=qS [oV 2 (.string ⟨#[]⟩)] u39_2 [0]
def u39:IFn:=⟨23,u39_1,[.tmp 2]⟩
theorem isU39:A7 Tryz.prog 39 u39:=by unfold A7;kernel_rfl
abbrev u38_2:=qS [oM 3 0,oN 4 3,oF 5 4 3,oL 6 5,oK 7 6 .eql 0,oM 2 7] .ret [0]
abbrev u38_1:=qS [oV 2 (.bool false)] u38_2 [0]
def u38:IFn:=⟨8,u38_1,[.tmp 2]⟩
theorem isU38:A7 Tryz.prog 38 u38:=by unfold A7;kernel_rfl
abbrev u93_3:=qE [oM 11 0,oM 12 0,oM 13 2,oM 14 1,oN 15 11,oF 16 15 3,oS 16 13 1,oN 17 12,oF 18 17 4,oS 18 14 1] [0,1,2]
abbrev u93_2:=qK u93_3 .skip (.t 10) [0,1,2,10]
abbrev u93_1:=qS [oM 6 0,oN 7 6,oF 8 7 3,oL 9 8,oK 10 9 .eql 0] u93_2 [0,1,2]
def u93:IFn:=⟨19,u93_1,[]⟩
theorem isU93:A7 Tryz.prog 93 u93:=by unfold A7;kernel_rfl
abbrev u94_5:=qP [oM 13 0,oN 14 13,oF 15 14 0,oL 16 15,oM 17 0,oN 18 17,oF 19 18 2,oL 20 19,oA 21 16 20 4,oD 22 21 4,oS 2 22 4] .ret 0 11 [0,2]
abbrev u94_4:=qK u94_5 .skip (.t 12) [0,2,12]
abbrev u94_3:=qP [oM 3 0,oN 4 3,oF 5 4 2,oL 6 5,oM 7 0,oN 8 7,oF 9 8 0,oL 10 9,oH 11 10,oB 12 6 11 .lss] u94_4 0 10 [0,2]
abbrev u94_6:=qS [oM 23 0,oN 24 23,oF 25 24 1,oL 26 25,oP 27 (.bld #[.int .i64 0,.string ⟨#[]⟩,.int .i64 0,.int .i64 0] [(0,1),(1,1),(2,1),(3,1)] [(3,.t 26)]),oS 2 27 4] .ret [0,2]
abbrev u94_2:=qQ u94_3 u94_6 [0,2]
abbrev u94_1:=qS [oW 2 (.agg #[.int .i64 0,.string ⟨#[]⟩,.int .i64 0,.int .i64 0])] u94_2 [0]
def u94:IFn:=⟨28,u94_1,[.cell 2 4 true]⟩
theorem isU94:A7 Tryz.prog 94 u94:=by unfold A7;kernel_rfl
abbrev u76_3:=qS [oM 8 0,oC 9 38 [.t 8],oM 10 9,gF 11 5 0 10,gL 12 11 10,gK 13 12 10 .eql 5,gM 14 13 10,hF 15 5 0 14,hL 16 15 14,hK 17 16 14 .eql 2,oG 18 (.pick (.t 14) (.k (.bool true)) (.t 17)) 10,oJ 19 10 18,oM 20 19,gF 21 5 1 20,gL 22 21 20,gM 23 1 20,oG 24 (.bin .eql (.t 22) (.t 23)) 20,oJ 25 20 24,oM 4 25] .ret [0,1,5]
abbrev u76_2:=qS [oM 6 0,oC 7 94 [.t 6],oW 5 (.agg #[.int .i64 0,.string ⟨#[]⟩,.int .i64 0,.int .i64 0]),oS 5 7 4] u76_3 [0,1]
abbrev u76_1:=qS [oV 4 (.bool false)] u76_2 [0,1]
def u76:IFn:=⟨26,u76_1,[.tmp 4]⟩
theorem isU76:A7 Tryz.prog 76 u76:=by unfold A7;kernel_rfl
abbrev u141_2:=qS [oM 5 0,oC 6 38 [.t 5],oM 7 6,gM 8 0 7,⟨some 9,.call 94 [.t 8],some (7,true)⟩,oG 10 (.fld 0 1 false (.t 9)) 7,gM 11 1 7,oG 12 (.bin .eql (.t 10) (.t 11)) 7,oJ 13 7 12,oM 4 13] .ret [0,1]
abbrev u141_1:=qS [oV 4 (.bool false)] u141_2 [0,1]
def u141:IFn:=⟨14,u141_1,[.tmp 4]⟩
theorem isU141:A7 Tryz.prog 141 u141:=by unfold A7;kernel_rfl
abbrev u52_1:=qE [oM 2 0,oM 3 0,oC 4 94 [.t 3],oP 5 (.fld 3 1 false (.t 4)),oC 6 93 [.t 2,.t 5,.k (.int .i64 4)]] [0]
def u52:IFn:=⟨7,u52_1,[]⟩
theorem isU52:A7 Tryz.prog 52 u52:=by unfold A7;kernel_rfl
abbrev u74_3:=qE [oM 11 0,oM 12 0,oC 13 94 [.t 12],oP 14 (.fld 3 1 false (.t 13)),oM 15 3,oC 16 93 [.t 11,.t 14,.t 15]] [0,3]
abbrev u74_2:=qK u74_3 .skip (.t 10) [0,3,10]
abbrev u74_1:=qS [oM 8 1,oM 9 2,oB 10 8 9 .gtr] u74_2 [0,1,2,3]
def u74:IFn:=⟨17,u74_1,[]⟩
theorem isU74:A7 Tryz.prog 74 u74:=by unfold A7;kernel_rfl
abbrev u116_4:=qS [oM 8 0,oC 9 52 [.t 8]] .ret [0]
abbrev u116_3:=qK u116_4 .skip (.t 7) [0,7]
abbrev u116_2:=qS [oM 4 0,oM 5 1,oC 6 76 [.t 4,.t 5],oY 7 6] u116_3 [0,1]
abbrev u116_5:=qE [oM 10 0,oN 11 10,oF 12 11 2,oL 13 12,oK 14 13 .add 1,oN 15 10,oF 16 15 2,oS 16 14 1] [0]
abbrev u116_1:=qQ u116_2 u116_5 [0,1]
def u116:IFn:=⟨17,u116_1,[]⟩
theorem isU116:A7 Tryz.prog 116 u116:=by unfold A7;kernel_rfl
abbrev u115_7:=qS [oP 14 (.bld #[.int .i64 0,.string ⟨#[]⟩,.int .i64 0,.int .i64 0] [(0,1),(1,1),(2,1),(3,1)] []),oS 4 14 4] .ret [4]
abbrev u115_6:=qS [oM 12 0,oC 13 52 [.t 12]] u115_7 [0,4]
abbrev u115_5:=qK u115_6 .skip (.t 11) [0,4,5,11]
abbrev u115_4:=qS [oM 8 0,oM 9 1,oC 10 141 [.t 8,.t 9],oY 11 10] u115_5 [0,1,4,5]
abbrev u115_9:=qS [oD 22 5 4,oS 4 22 4] .ret [4,5]
abbrev u115_8:=qS [oM 15 0,oN 16 15,oF 17 16 2,oL 18 17,oK 19 18 .add 1,oN 20 15,oF 21 20 2,oS 21 19 1] u115_9 [0,4,5]
abbrev u115_3:=qQ u115_4 u115_8 [0,1,4,5]
abbrev u115_2:=qS [oM 6 0,oC 7 94 [.t 6],oW 5 (.agg #[.int .i64 0,.string ⟨#[]⟩,.int .i64 0,.int .i64 0]),oS 5 7 4] u115_3 [0,1,4]
abbrev u115_1:=qS [oW 4 (.agg #[.int .i64 0,.string ⟨#[]⟩,.int .i64 0,.int .i64 0])] u115_2 [0,1]
def u115:IFn:=⟨23,u115_1,[.cell 4 4 true]⟩
theorem isU115:A7 Tryz.prog 115 u115:=by unfold A7;kernel_rfl
abbrev u114_2:=qS [oM 3 0,oC 4 115 [.t 3,.k (.int .i64 1)],oP 5 (.fld 1 1 false (.t 4)),oM 2 5] .ret [0]
abbrev u114_1:=qS [oV 2 (.string ⟨#[]⟩)] u114_2 [0]
def u114:IFn:=⟨6,u114_1,[.tmp 2]⟩
theorem isU114:A7 Tryz.prog 114 u114:=by unfold A7;kernel_rfl
abbrev u72_7:=qK .skip (.exit 0) (.t 9) [0,1,5,9]
abbrev u72_6:=qS [oM 6 5,oM 7 1,oH 8 7,oB 9 6 8 .lss] u72_7 [0,1,5]
abbrev u72_11:=qS [oM 18 5,oM 4 18] .ret [5]
abbrev u72_10:=qK u72_11 .skip (.t 17) [0,1,5,17]
abbrev u72_9:=qS [oM 12 0,oM 13 1,oM 14 5,oA 15 13 14 1,oL 16 15,oC 17 76 [.t 12,.t 16]] u72_10 [0,1,5]
abbrev u72_12:=qE [oM 10 5,oK 11 10 .add 1,oM 5 11] [0,1,5]
abbrev u72_8:=qB u72_9 u72_12 1 [0,1,5]
abbrev u72_5:=qQ u72_6 u72_8 [0,1,5]
abbrev u72_4:=qJ (.loop u72_5) 0 [0,1,5]
abbrev u72_3:=qS [oI 5 0] u72_4 [0,1]
abbrev u72_13:=qS [oI 4 (-1)] .ret []
abbrev u72_2:=qQ u72_3 u72_13 [0,1]
abbrev u72_1:=qS [oI 4 0] u72_2 [0,1]
def u72:IFn:=⟨19,u72_1,[.tmp 4]⟩
theorem isU72:A7 Tryz.prog 72 u72:=by unfold A7;kernel_rfl
abbrev u73_2:=qS [⟨some 1,.new (.bsl 1 8 #[.string ⟨#[]⟩] [(0,.k (.string ⟨#[115,119,105,116,99,104]⟩)),(1,.k (.string ⟨#[99,111,105,108]⟩)),(2,.k (.string ⟨#[108,97,109,112]⟩)),(3,.k (.string ⟨#[115,111,117,110,100]⟩)),(4,.k (.string ⟨#[115,104,111,119]⟩)),(5,.k (.string ⟨#[118,97,114]⟩)),(6,.k (.string ⟨#[116,105,109,101,114]⟩)),(7,.k (.string ⟨#[101,118,101,110,116]⟩))]),none⟩,oM 0 1] .ret []
abbrev u73_1:=qS [oV 0 (.slice none 0 0)] u73_2 []
def u73:IFn:=⟨2,u73_1,[.tmp 0]⟩
theorem isU73:A7 Tryz.prog 73 u73:=by unfold A7;kernel_rfl
abbrev u117_2:=qS [⟨some 1,.new (.bsl 1 6 #[.string ⟨#[]⟩] [(0,.k (.string ⟨#[115,116,97,114,116]⟩)),(1,.k (.string ⟨#[115,116,111,112]⟩)),(2,.k (.string ⟨#[99,108,111,115,101]⟩)),(3,.k (.string ⟨#[111,112,101,110]⟩)),(4,.k (.string ⟨#[116,105,109,101,114]⟩)),(5,.k (.string ⟨#[101,118,101,110,116]⟩))]),none⟩,oM 0 1] .ret []
abbrev u117_1:=qS [oV 0 (.slice none 0 0)] u117_2 []
def u117:IFn:=⟨2,u117_1,[.tmp 0]⟩
theorem isU117:A7 Tryz.prog 117 u117:=by unfold A7;kernel_rfl
abbrev u142_2:=qS [⟨some 1,.new (.bsl 1 18 #[.string ⟨#[]⟩] [(0,.k (.string ⟨#[105,102]⟩)),(1,.k (.string ⟨#[114,101,112,101,97,116]⟩)),(2,.k (.string ⟨#[115,99,111,114,101]⟩)),(3,.k (.string ⟨#[102,105,114,101]⟩)),(4,.k (.string ⟨#[104,111,108,100]⟩)),(5,.k (.string ⟨#[114,101,108,101,97,115,101]⟩)),(6,.k (.string ⟨#[108,105,103,104,116]⟩)),(7,.k (.string ⟨#[98,108,105,110,107]⟩)),(8,.k (.string ⟨#[115,116,97,114,116]⟩)),(9,.k (.string ⟨#[115,116,111,112]⟩)),(10,.k (.string ⟨#[98,101,103,105,110]⟩)),(11,.k (.string ⟨#[101,110,100]⟩)),(12,.k (.string ⟨#[112,111,115,116]⟩)),(13,.k (.string ⟨#[112,108,97,121]⟩)),(14,.k (.string ⟨#[114,117,110]⟩)),(15,.k (.string ⟨#[104,97,108,116]⟩)),(16,.k (.string ⟨#[116,101,120,116]⟩)),(17,.k (.string ⟨#[99,111,110,115,117,109,101]⟩))]),none⟩,oM 0 1] .ret []
abbrev u142_1:=qS [oV 0 (.slice none 0 0)] u142_2 []
def u142:IFn:=⟨2,u142_1,[.tmp 0]⟩
theorem isU142:A7 Tryz.prog 142 u142:=by unfold A7;kernel_rfl
abbrev u125_2:=qS [⟨some 1,.new (.bsl 1 13 #[.string ⟨#[]⟩] [(0,.k (.string ⟨#[42]⟩)),(1,.k (.string ⟨#[47]⟩)),(2,.k (.string ⟨#[37]⟩)),(3,.k (.string ⟨#[43]⟩)),(4,.k (.string ⟨#[45]⟩)),(5,.k (.string ⟨#[60]⟩)),(6,.k (.string ⟨#[60,61]⟩)),(7,.k (.string ⟨#[62]⟩)),(8,.k (.string ⟨#[62,61]⟩)),(9,.k (.string ⟨#[61,61]⟩)),(10,.k (.string ⟨#[33,61]⟩)),(11,.k (.string ⟨#[38,38]⟩)),(12,.k (.string ⟨#[124,124]⟩))]),none⟩,oM 0 1] .ret []
abbrev u125_1:=qS [oV 0 (.slice none 0 0)] u125_2 []
def u125:IFn:=⟨2,u125_1,[.tmp 0]⟩
theorem isU125:A7 Tryz.prog 125 u125:=by unfold A7;kernel_rfl
abbrev u126_5:=qS [oI 2 1] .ret []
abbrev u126_8:=qS [oI 2 2] .ret []
abbrev u126_11:=qS [oI 2 3] .ret []
abbrev u126_14:=qS [oI 2 4] .ret []
abbrev u126_17:=qS [oI 2 5] .ret []
abbrev u126_20:=qS [oI 2 6] .ret []
abbrev u126_19:=qK u126_20 .skip (.t 30) [30]
abbrev u126_18:=qS [oM 31 0,oK 32 31 .eql 10,oM 33 32,hM 34 0 33,hK 35 34 33 .eql 11,oO 36 33 35,oM 30 36] u126_19 [0]
abbrev u126_16:=qK u126_17 u126_18 (.t 23) [0,23]
abbrev u126_15:=qS [oM 24 0,oK 25 24 .geq 12,oM 26 25,gM 27 0 26,gK 28 27 26 .leq 14,oJ 29 26 28,oM 23 29] u126_16 [0]
abbrev u126_13:=qK u126_14 u126_15 (.t 16) [0,16]
abbrev u126_12:=qS [oM 17 0,oK 18 17 .eql 15,oM 19 18,hM 20 0 19,hK 21 20 19 .eql 16,oO 22 19 21,oM 16 22] u126_13 [0]
abbrev u126_10:=qK u126_11 u126_12 (.t 9) [0,9]
abbrev u126_9:=qS [oM 10 0,oK 11 10 .geq 17,oM 12 11,gM 13 0 12,gK 14 13 12 .leq 22,oJ 15 12 14,oM 9 15] u126_10 [0]
abbrev u126_7:=qK u126_8 u126_9 (.t 6) [0,6]
abbrev u126_6:=qS [oM 7 0,oK 8 7 .eql 23,oM 6 8] u126_7 [0]
abbrev u126_4:=qK u126_5 u126_6 (.t 3) [0,3]
abbrev u126_3:=qS [oM 4 0,oK 5 4 .eql 24,oM 3 5] u126_4 [0]
abbrev u126_21:=qS [oI 2 7] .ret []
abbrev u126_2:=qB u126_3 u126_21 0 [0]
abbrev u126_1:=qS [oI 2 0] u126_2 [0]
def u126:IFn:=⟨37,u126_1,[.tmp 2]⟩
theorem isU126:A7 Tryz.prog 126 u126:=by unfold A7;kernel_rfl
abbrev u92_5:=qS [oM 10 0,oC 11 124 [.t 10],oS 4 11 5] .ret [0,4]
abbrev u92_4:=qK u92_5 .skip (.t 9) [0,1,4,9]
abbrev u92_3:=qS [oM 8 1,oK 9 8 .gtr 5] u92_4 [0,1,4]
abbrev u92_13:=qS [oD 28 5 5,oS 4 28 5] .ret [4,5]
abbrev u92_12:=qK u92_13 .skip (.t 27) [0,1,4,5,6,27]
abbrev u92_11:=qS [oM 19 6,oK 20 19 .lss 0,oM 21 20,hM 22 6 21,oR 23 (.bin .add (.k (.int .i64 12)) (.t 22)) 21,⟨some 24,.call 126 [.t 23],some (21,false)⟩,hM 25 1 21,oR 26 (.bin .neq (.t 24) (.t 25)) 21,oO 27 21 26] u92_12 [0,1,4,5,6]
abbrev u92_19:=qS [oD 51 5 5,oS 4 51 5] .ret [4,5]
abbrev u92_18:=qK u92_19 .skip (.t 50) [0,1,4,5,50]
abbrev u92_17:=qS [oM 49 1,oK 50 49 .eql 3] u92_18 [0,1,4,5]
abbrev u92_16:=qD [oM 39 6,oP 40 (.bin .add (.k (.int .i64 12)) (.t 39)),oD 41 5 5,oM 42 0,oM 43 1,oK 44 43 .add 1,oC 45 92 [.t 42,.t 44],⟨some 46,.new (.bsl 5 2 #[.int .i64 0,.int .i64 0,.string ⟨#[]⟩,.slice none 0 0,.int .i64 0] [(0,.t 41),(1,.t 45)]),none⟩,oM 47 7,oP 48 (.bld #[.int .i64 0,.int .i64 0,.string ⟨#[]⟩,.slice none 0 0,.int .i64 0] [(0,1),(1,1),(2,1),(3,1),(4,1)] [(0,.t 40),(3,.t 46),(4,.t 47)]),oS 5 48 5] u92_17 [(0,none),(1,none),(2,none),(3,none),(4,none),(5,none),(8,none),(6,some [0,1,2,8]),(7,none),(9,none),(10,some [])] 11 [0,1,4,5,6,7]
abbrev u92_15:=qS [oM 32 0,oN 33 32,oF 34 33 2,oL 35 34,oK 36 35 .add 1,oN 37 32,oF 38 37 2,oS 38 36 1] u92_16 [0,1,4,5,6,7]
abbrev u92_14:=qS [oM 29 0,oC 30 94 [.t 29],oP 31 (.fld 3 1 false (.t 30)),oM 7 31] u92_15 [0,1,4,5,6]
abbrev u92_10:=qQ u92_11 u92_14 [0,1,4,5,6]
abbrev u92_9:=qS [oM 16 0,oC 17 125 [],oC 18 72 [.t 16,.t 17],oM 6 18] u92_10 [0,1,4,5]
abbrev u92_8:=qJ u92_9 1 [0,1,4,5]
abbrev u92_7:=qJ (.loop u92_8) 0 [0,1,4,5]
abbrev u92_6:=qS [oM 12 0,oM 13 1,oK 14 13 .add 1,oC 15 92 [.t 12,.t 14],oW 5 (.agg #[.int .i64 0,.int .i64 0,.string ⟨#[]⟩,.slice none 0 0,.int .i64 0]),oS 5 15 5] u92_7 [0,1,4]
abbrev u92_2:=qQ u92_3 u92_6 [0,1,4]
abbrev u92_1:=qS [oW 4 (.agg #[.int .i64 0,.int .i64 0,.string ⟨#[]⟩,.slice none 0 0,.int .i64 0])] u92_2 [0,1]
def u92:IFn:=⟨52,u92_1,[.cell 4 5 true]⟩
theorem isU92:A7 Tryz.prog 92 u92:=by unfold A7;kernel_rfl
abbrev u124_7:=qS [oM 13 0,oC 14 151 [.t 13],oS 2 14 5] .ret [0,2]
abbrev u124_6:=qK u124_7 .skip (.t 12) [0,2,3,4,12]
abbrev u124_5:=qS [oM 11 4,oK 12 11 .lss 0] u124_6 [0,2,3,4]
abbrev u124_12:=qS [oP 25 (.bld #[.int .i64 0,.int .i64 0,.string ⟨#[]⟩,.slice none 0 0,.int .i64 0] [(0,1),(1,1),(2,1),(3,1),(4,1)] []),oS 2 25 5] .ret [2]
abbrev u124_11:=qK u124_12 .skip (.t 24) [0,2,3,4,24]
abbrev u124_10:=qS [oM 22 0,oC 23 38 [.t 22],oY 24 23] u124_11 [0,2,3,4]
abbrev u124_20:=qE [oM 44 0,oC 45 116 [.t 44,.k (.string ⟨#[41]⟩)]] [0,2,5]
abbrev u124_19:=qS [oM 42 0,oC 43 92 [.t 42,.k (.int .i64 1)],oS 5 43 5] u124_20 [0,2,5]
abbrev u124_21:=qG [oM 46 4,oP 47 (.bin .add (.k (.int .i64 10)) (.t 46)),oM 48 0,oC 49 124 [.t 48],⟨some 50,.new (.bsl 5 1 #[.int .i64 0,.int .i64 0,.string ⟨#[]⟩,.slice none 0 0,.int .i64 0] [(0,.t 49)]),none⟩,oF 51 3 3,oL 52 51,oP 53 (.bld #[.int .i64 0,.int .i64 0,.string ⟨#[]⟩,.slice none 0 0,.int .i64 0] [(0,1),(1,1),(2,1),(3,1),(4,1)] [(0,.t 47),(3,.t 50),(4,.t 52)]),oS 5 53 5] [(0,none),(1,none),(2,none),(5,none),(6,none),(3,some [0,1,5,6]),(4,none),(7,none),(8,some [])] 9 [0,2,3,4,5]
abbrev u124_18:=qK u124_19 u124_21 (.t 41) [0,2,3,4,5,41]
abbrev u124_17:=qS [oM 40 4,oK 41 40 .eql 2] u124_18 [0,2,3,4,5]
abbrev u124_23:=qS [oD 61 5 5,oS 2 61 5] .ret [2,5]
abbrev u124_22:=qS [oM 54 0,oN 55 54,oF 56 55 6,oL 57 56,oK 58 57 .sub 1,oN 59 54,oF 60 59 6,oS 60 58 1] u124_23 [0,2,5]
abbrev u124_16:=qQ u124_17 u124_22 [0,2,3,4,5]
abbrev u124_15:=qS [oW 5 (.agg #[.int .i64 0,.int .i64 0,.string ⟨#[]⟩,.slice none 0 0,.int .i64 0])] u124_16 [0,2,3,4]
abbrev u124_14:=qS [oM 33 0,oN 34 33,oF 35 34 6,oL 36 35,oK 37 36 .add 1,oN 38 33,oF 39 38 6,oS 39 37 1] u124_15 [0,2,3,4]
abbrev u124_13:=qS [oM 26 0,oN 27 26,oF 28 27 2,oL 29 28,oK 30 29 .add 1,oN 31 26,oF 32 31 2,oS 32 30 1] u124_14 [0,2,3,4]
abbrev u124_9:=qQ u124_10 u124_13 [0,2,3,4]
abbrev u124_8:=qS [oM 15 0,oM 16 0,oN 17 16,oF 18 17 6,oL 19 18,oK 20 19 .add 1,oC 21 74 [.t 15,.t 20,.k (.int .i64 16),.k (.int .i64 50)]] u124_9 [0,2,3,4]
abbrev u124_4:=qQ u124_5 u124_8 [0,2,3,4]
abbrev u124_3:=qS [oM 8 0,⟨some 9,.new (.bsl 1 3 #[.string ⟨#[]⟩] [(0,.k (.string ⟨#[45]⟩)),(1,.k (.string ⟨#[33]⟩)),(2,.k (.string ⟨#[40]⟩))]),none⟩,oC 10 72 [.t 8,.t 9],oM 4 10] u124_4 [0,2,3]
abbrev u124_2:=qS [oM 6 0,oC 7 94 [.t 6],oW 3 (.agg #[.int .i64 0,.string ⟨#[]⟩,.int .i64 0,.int .i64 0]),oS 3 7 4] u124_3 [0,2]
abbrev u124_1:=qS [oW 2 (.agg #[.int .i64 0,.int .i64 0,.string ⟨#[]⟩,.slice none 0 0,.int .i64 0])] u124_2 [0]
def u124:IFn:=⟨62,u124_1,[.cell 2 5 true]⟩
theorem isU124:A7 Tryz.prog 124 u124:=by unfold A7;kernel_rfl
abbrev u151_8:=qS [oP 25 (.bld #[.int .i64 0,.int .i64 0,.string ⟨#[]⟩,.slice none 0 0,.int .i64 0] [(0,1),(1,1),(2,1),(3,1),(4,1)] []),oS 2 25 5] .ret [2]
abbrev u151_7:=qS [oM 23 0,oC 24 52 [.t 23]] u151_8 [0,2]
abbrev u151_6:=qK u151_7 .skip (.t 22) [0,2,3,4,22]
abbrev u151_5:=qS [oM 11 4,oK 12 11 .lss 0,oM 13 12,gM 14 0 13,⟨some 15,.call 141 [.t 14,.k (.int .i64 3)],some (13,true)⟩,oG 16 (.un .not (.t 15)) 13,oJ 17 13 16,oM 18 17,gM 19 0 18,⟨some 20,.call 141 [.t 19,.k (.int .i64 1)],some (18,true)⟩,oG 21 (.un .not (.t 20)) 18,oJ 22 18 21] u151_6 [0,2,3,4]
abbrev u151_14:=qS [oP 42 (.bld #[.int .i64 0,.int .i64 0,.string ⟨#[]⟩,.slice none 0 0,.int .i64 0] [(0,1),(1,1),(2,1),(3,1),(4,1)] []),oS 2 42 5] .ret [2]
abbrev u151_13:=qK u151_14 .skip (.t 41) [0,2,3,4,41]
abbrev u151_12:=qS [oM 39 0,oC 40 38 [.t 39],oY 41 40] u151_13 [0,2,3,4]
abbrev u151_23:=qE [oM 61 0,oC 62 114 [.t 61],oF 63 5 2,oS 63 62 1] [0,2,5]
abbrev u151_22:=qK u151_23 .skip (.t 60) [0,2,5,60]
abbrev u151_21:=qS [oM 59 4,oK 60 59 .geq 4] u151_22 [0,2,4,5]
abbrev u151_24:=qS [oD 64 5 5,oS 2 64 5] .ret [2,5]
abbrev u151_20:=qQ u151_21 u151_24 [0,2,4,5]
abbrev u151_19:=qD [⟨some 52,.new (.bsl 1 7 #[.int .i64 0] [(0,.k (.int .i64 3)),(1,.k (.int .i64 4)),(2,.k (.int .i64 8)),(3,.k (.int .i64 9)),(4,.k (.int .i64 5)),(5,.k (.int .i64 6)),(6,.k (.int .i64 7))]),none⟩,oM 53 4,oA 54 52 53 1,oL 55 54,oF 56 3 3,oL 57 56,oP 58 (.bld #[.int .i64 0,.int .i64 0,.string ⟨#[]⟩,.slice none 0 0,.int .i64 0] [(0,1),(1,1),(2,1),(3,1),(4,1)] [(0,.t 55),(4,.t 57)]),oW 5 (.agg #[.int .i64 0,.int .i64 0,.string ⟨#[]⟩,.slice none 0 0,.int .i64 0]),oS 5 58 5] u151_20 [(0,none),(1,none),(2,none),(3,none),(4,none),(5,none),(6,none),(7,none),(8,some [])] 9 [0,2,3,4]
abbrev u151_18:=qK u151_19 .skip (.t 51) [0,2,3,4,51]
abbrev u151_17:=qS [oM 50 4,oK 51 50 .geq 0] u151_18 [0,2,3,4]
abbrev u151_28:=qS [oF 68 3 2,oL 69 68,oF 70 3 3,oL 71 70,oP 72 (.bld #[.int .i64 0,.int .i64 0,.string ⟨#[]⟩,.slice none 0 0,.int .i64 0] [(0,1),(1,1),(2,1),(3,1),(4,1)] [(0,.k (.int .i64 1)),(1,.t 69),(4,.t 71)]),oS 2 72 5] .ret [2,3]
abbrev u151_27:=qK u151_28 .skip (.t 67) [2,3,67]
abbrev u151_26:=qS [oF 65 3 0,oL 66 65,oK 67 66 .eql 3] u151_27 [2,3]
abbrev u151_29:=qS [oF 73 3 1,oL 74 73,oF 75 3 3,oL 76 75,oP 77 (.bld #[.int .i64 0,.int .i64 0,.string ⟨#[]⟩,.slice none 0 0,.int .i64 0] [(0,1),(1,1),(2,1),(3,1),(4,1)] [(0,.k (.int .i64 2)),(2,.t 74),(4,.t 76)]),oS 2 77 5] .ret [2,3]
abbrev u151_25:=qQ u151_26 u151_29 [2,3]
abbrev u151_16:=qQ u151_17 u151_25 [0,2,3,4]
abbrev u151_15:=qS [oM 43 0,oN 44 43,oF 45 44 2,oL 46 45,oK 47 46 .add 1,oN 48 43,oF 49 48 2,oS 49 47 1] u151_16 [0,2,3,4]
abbrev u151_11:=qQ u151_12 u151_15 [0,2,3,4]
abbrev u151_10:=qS [oM 33 0,oM 34 0,oN 35 34,oF 36 35 5,oL 37 36,oC 38 74 [.t 33,.t 37,.k (.int .i64 32),.k (.int .i64 9)]] u151_11 [0,2,3,4]
abbrev u151_9:=qS [oM 26 0,oN 27 26,oF 28 27 5,oL 29 28,oK 30 29 .add 1,oN 31 26,oF 32 31 5,oS 32 30 1] u151_10 [0,2,3,4]
abbrev u151_4:=qQ u151_5 u151_9 [0,2,3,4]
abbrev u151_3:=qS [oM 8 0,⟨some 9,.new (.bsl 1 7 #[.string ⟨#[]⟩] [(0,.k (.string ⟨#[116,114,117,101]⟩)),(1,.k (.string ⟨#[102,97,108,115,101]⟩)),(2,.k (.string ⟨#[112,108,97,121,101,114]⟩)),(3,.k (.string ⟨#[98,97,108,108]⟩)),(4,.k (.string ⟨#[99,108,111,115,101,100]⟩)),(5,.k (.string ⟨#[97,99,116,105,118,101]⟩)),(6,.k (.string ⟨#[108,101,102,116]⟩))]),none⟩,oC 10 72 [.t 8,.t 9],oM 4 10] u151_4 [0,2,3]
abbrev u151_2:=qS [oM 6 0,oC 7 94 [.t 6],oW 3 (.agg #[.int .i64 0,.string ⟨#[]⟩,.int .i64 0,.int .i64 0]),oS 3 7 4] u151_3 [0,2]
abbrev u151_1:=qS [oW 2 (.agg #[.int .i64 0,.int .i64 0,.string ⟨#[]⟩,.slice none 0 0,.int .i64 0])] u151_2 [0]
def u151:IFn:=⟨78,u151_1,[.cell 2 5 true]⟩
theorem isU151:A7 Tryz.prog 151 u151:=by unfold A7;kernel_rfl
abbrev u51_3:=qS [oM 9 0,oC 10 92 [.t 9,.k (.int .i64 1)],oS 2 10 5] .ret [0,2]
abbrev u51_2:=qS [oM 3 0,oM 4 0,oN 5 3,oF 6 5 5,⟨none,.eff (.st 1 (.t 6) (.k (.int .i64 0))),none⟩,oN 7 4,oF 8 7 6,⟨none,.eff (.st 1 (.t 8) (.k (.int .i64 0))),none⟩] u51_3 [0,2]
abbrev u51_1:=qS [oW 2 (.agg #[.int .i64 0,.int .i64 0,.string ⟨#[]⟩,.slice none 0 0,.int .i64 0])] u51_2 [0]
def u51:IFn:=⟨11,u51_1,[.cell 2 5 true]⟩
theorem isU51:A7 Tryz.prog 51 u51:=by unfold A7;kernel_rfl
abbrev u118_7:=qK .skip (.exit 0) (.t 14) [0,1,5,14]
abbrev u118_6:=qS [oM 8 0,oC 9 38 [.t 8],oM 10 9,gM 11 0 10,⟨some 12,.call 76 [.t 11,.k (.string ⟨#[125]⟩)],some (10,true)⟩,oG 13 (.un .not (.t 12)) 10,oJ 14 10 13] u118_7 [0,1,5]
abbrev u118_13:=qS [oV 4 (.slice none 0 0)] .ret []
abbrev u118_12:=qS [oM 24 0,oC 25 52 [.t 24]] u118_13 [0]
abbrev u118_11:=qK u118_12 .skip (.t 23) [0,1,5,23]
abbrev u118_10:=qS [oM 15 0,oC 16 142 [],oC 17 72 [.t 15,.t 16],oK 18 17 .lss 0,oM 19 18,gM 20 0 19,⟨some 21,.call 141 [.t 20,.k (.int .i64 1)],some (19,true)⟩,oG 22 (.un .not (.t 21)) 19,oJ 23 19 22] u118_11 [0,1,5]
abbrev u118_15:=qE [oM 31 5,oM 32 0,oM 33 1,oC 34 143 [.t 32,.t 33],⟨some 35,.new (.bsl 7 1 #[.int .i64 0,.string ⟨#[]⟩,.string ⟨#[]⟩,.slice none 0 0,.slice none 0 0,.slice none 0 0,.int .i64 0] [(0,.t 34)]),none⟩,oT 36 31 35 7 120,oM 5 36] [0,1,5]
abbrev u118_14:=qS [oM 26 0,oM 27 5,oH 28 27,oK 29 28 .add 1,oC 30 74 [.t 26,.t 29,.k (.int .i64 64),.k (.int .i64 9)]] u118_15 [0,1,5]
abbrev u118_9:=qQ u118_10 u118_14 [0,1,5]
abbrev u118_8:=qJ u118_9 1 [0,1,5]
abbrev u118_5:=qQ u118_6 u118_8 [0,1,5]
abbrev u118_17:=qS [oM 39 5,oM 4 39] .ret [5]
abbrev u118_16:=qS [oM 37 0,oC 38 116 [.t 37,.k (.string ⟨#[125]⟩)]] u118_17 [0,5]
abbrev u118_4:=qB (.loop u118_5) u118_16 0 [0,1,5]
abbrev u118_3:=qS [oM 6 0,oC 7 116 [.t 6,.k (.string ⟨#[123]⟩)]] u118_4 [0,1,5]
abbrev u118_2:=qS [oV 5 (.slice none 0 0)] u118_3 [0,1]
abbrev u118_1:=qS [oV 4 (.slice none 0 0)] u118_2 [0,1]
def u118:IFn:=⟨40,u118_1,[.tmp 4]⟩
theorem isU118:A7 Tryz.prog 118 u118:=by unfold A7;kernel_rfl
abbrev u143_6:=qS [oP 13 (.bld #[.int .i64 0,.string ⟨#[]⟩,.string ⟨#[]⟩,.slice none 0 0,.slice none 0 0,.slice none 0 0,.int .i64 0] [(0,1),(1,1),(2,1),(3,1),(4,1),(5,1),(6,1)] []),oS 4 13 7] .ret [4]
abbrev u143_5:=qK u143_6 .skip (.t 12) [0,1,4,12]
abbrev u143_4:=qS [oM 10 0,oC 11 38 [.t 10],oY 12 11] u143_5 [0,1,4]
abbrev u143_16:=qS [oD 35 5 7,oS 4 35 7] .ret [4,5]
abbrev u143_15:=qS [oM 33 0,oC 34 116 [.t 33,.k (.string ⟨#[59]⟩)]] u143_16 [0,4,5]
abbrev u143_14:=qS [oM 29 0,oC 30 51 [.t 29],⟨some 31,.new (.bsl 5 1 #[.int .i64 0,.int .i64 0,.string ⟨#[]⟩,.slice none 0 0,.int .i64 0] [(0,.t 30)]),none⟩,oF 32 5 3,oS 32 31 1] u143_15 [0,4,5]
abbrev u143_13:=qS [oM 27 0,oC 28 116 [.t 27,.k (.string ⟨#[61]⟩)]] u143_14 [0,4,5]
abbrev u143_12:=qS [oM 23 0,oC 24 114 [.t 23],oF 25 5 0,⟨none,.eff (.st 1 (.t 25) (.k (.int .i64 1))),none⟩,oF 26 5 1,oS 26 24 1] u143_13 [0,4,5]
abbrev u143_11:=qK u143_12 .skip (.t 22) [0,1,4,5,6,22]
abbrev u143_10:=qS [oM 21 6,oK 22 21 .lss 0] u143_11 [0,1,4,5,6]
abbrev u143_25:=qE [oK 82 47 .eql 3,oM 80 82] [0,1,4,5,47]
abbrev u143_24:=qK .skip u143_25 (.t 80) [0,1,4,5,47,80]
abbrev u143_23:=qS [oK 81 47 .eql 2,oM 80 81] u143_24 [0,1,4,5,47]
abbrev u143_33:=qE [oM 106 0,oM 107 1,oC 108 155 [.t 106,.t 107],oF 109 5 5,oS 109 108 1] [0,1,4,5]
abbrev u143_32:=qS [oM 99 0,oN 100 99,oF 101 100 2,oL 102 101,oK 103 102 .add 1,oN 104 99,oF 105 104 2,oS 105 103 1] u143_33 [0,1,4,5]
abbrev u143_31:=qK u143_32 .skip (.t 98) [0,1,4,5,98]
abbrev u143_30:=qS [oF 92 5 0,oL 93 92,oK 94 93 .eql 2,oM 95 94,gM 96 0 95,⟨some 97,.call 76 [.t 96,.k (.string ⟨#[101,108,115,101]⟩)],some (95,true)⟩,oJ 98 95 97] u143_31 [0,1,4,5]
abbrev u143_34:=qS [oD 110 5 7,oS 4 110 7] .ret [4,5]
abbrev u143_29:=qQ u143_30 u143_34 [0,1,4,5]
abbrev u143_28:=qS [oM 87 0,oM 88 1,oK 89 88 .add 1,oC 90 118 [.t 87,.t 89],oF 91 5 4,oS 91 90 1] u143_29 [0,1,4,5]
abbrev u143_27:=qS [oM 83 0,oC 84 51 [.t 83],⟨some 85,.new (.bsl 5 1 #[.int .i64 0,.int .i64 0,.string ⟨#[]⟩,.slice none 0 0,.int .i64 0] [(0,.t 84)]),none⟩,oF 86 5 3,oS 86 85 1] u143_28 [0,1,4,5]
abbrev u143_37:=qE [oM 113 0,oC 114 51 [.t 113],⟨some 115,.new (.bsl 5 1 #[.int .i64 0,.int .i64 0,.string ⟨#[]⟩,.slice none 0 0,.int .i64 0] [(0,.t 114)]),none⟩,oF 116 5 3,oS 116 115 1] [0,4,5]
abbrev u143_42:=qE [oM 125 0,oC 126 51 [.t 125],⟨some 127,.new (.bsl 5 1 #[.int .i64 0,.int .i64 0,.string ⟨#[]⟩,.slice none 0 0,.int .i64 0] [(0,.t 126)]),none⟩,oF 128 5 3,oS 128 127 1] [0,4,5]
abbrev u143_41:=qS [oM 123 0,oC 124 116 [.t 123,.k (.string ⟨#[44]⟩)]] u143_42 [0,4,5]
abbrev u143_40:=qS [oM 119 0,oC 120 115 [.t 119,.k (.int .i64 4)],oP 121 (.fld 1 1 false (.t 120)),oF 122 5 2,oS 122 121 1] u143_41 [0,4,5]
abbrev u143_49:=qE [oM 64 0,oC 65 51 [.t 64],⟨some 66,.new (.bsl 5 1 #[.int .i64 0,.int .i64 0,.string ⟨#[]⟩,.slice none 0 0,.int .i64 0] [(0,.t 65)]),none⟩,oF 67 5 3,oS 67 66 1] [0,4,5]
abbrev u143_48:=qK u143_49 .skip (.t 63) [0,4,5,63]
abbrev u143_47:=qS [oF 51 5 0,oL 52 51,oK 53 52 .eql 8,oM 54 53,hF 55 5 0 54,hL 56 55 54,hK 57 56 54 .eql 9,oO 58 54 57,oM 59 58,hF 60 5 0 59,hL 61 60 59,hK 62 61 59 .eql 10,oO 63 59 62] u143_48 [0,4,5]
abbrev u143_53:=qG [oF 73 5 3,oL 74 73,oM 75 0,oC 76 51 [.t 75],⟨some 77,.new (.bsl 5 1 #[.int .i64 0,.int .i64 0,.string ⟨#[]⟩,.slice none 0 0,.int .i64 0] [(0,.t 76)]),none⟩,oT 78 74 77 5 64,oF 79 5 3,oS 79 78 1] [(0,none),(1,none),(2,none),(3,some [0,1]),(4,none),(5,some []),(6,none),(7,some [])] 8 [0,4,5]
abbrev u143_52:=qS [oM 71 0,oC 72 116 [.t 71,.k (.string ⟨#[44]⟩)]] u143_53 [0,4,5]
abbrev u143_51:=qK u143_52 .skip (.t 70) [0,4,5,70]
abbrev u143_50:=qS [oF 68 5 0,oL 69 68,oK 70 69 .eql 9] u143_51 [0,4,5]
abbrev u143_46:=qQ u143_47 u143_50 [0,4,5]
abbrev u143_45:=qS [oM 48 0,oC 49 114 [.t 48],oF 50 5 1,oS 50 49 1] u143_46 [0,4,5]
abbrev u143_44:=qK .skip u143_45 (.t 129) [0,4,5,129]
abbrev u143_43:=qS [oK 130 47 .eql 19,oM 129 130] u143_44 [0,4,5,47]
abbrev u143_39:=qK u143_40 u143_43 (.t 117) [0,4,5,47,117]
abbrev u143_38:=qS [oK 118 47 .eql 18,oM 117 118] u143_39 [0,4,5,47]
abbrev u143_36:=qK u143_37 u143_38 (.t 111) [0,4,5,47,111]
abbrev u143_35:=qS [oK 112 47 .eql 4,oM 111 112] u143_36 [0,4,5,47]
abbrev u143_26:=qK u143_27 u143_35 (.t 80) [0,1,4,5,47,80]
abbrev u143_22:=qQ u143_23 u143_26 [0,1,4,5,47]
abbrev u143_21:=qJ u143_22 0 [0,1,4,5,47]
abbrev u143_20:=qS [oF 46 5 0,oL 47 46] u143_21 [0,1,4,5]
abbrev u143_55:=qS [oD 133 5 7,oS 4 133 7] .ret [4,5]
abbrev u143_54:=qS [oM 131 0,oC 132 116 [.t 131,.k (.string ⟨#[59]⟩)]] u143_55 [0,4,5]
abbrev u143_19:=qQ u143_20 u143_54 [0,1,4,5]
abbrev u143_18:=qS [oM 43 6,oP 44 (.bin .add (.k (.int .i64 2)) (.t 43)),oF 45 5 0,oS 45 44 1] u143_19 [0,1,4,5,6]
abbrev u143_17:=qS [oM 36 0,oN 37 36,oF 38 37 2,oL 39 38,oK 40 39 .add 1,oN 41 36,oF 42 41 2,oS 42 40 1] u143_18 [0,1,4,5,6]
abbrev u143_9:=qQ u143_10 u143_17 [0,1,4,5,6]
abbrev u143_8:=qS [oM 18 0,oC 19 142 [],oC 20 72 [.t 18,.t 19],oM 6 20] u143_9 [0,1,4,5]
abbrev u143_7:=qS [oM 14 0,oC 15 94 [.t 14],oP 16 (.fld 3 1 false (.t 15)),oP 17 (.bld #[.int .i64 0,.string ⟨#[]⟩,.string ⟨#[]⟩,.slice none 0 0,.slice none 0 0,.slice none 0 0,.int .i64 0] [(0,1),(1,1),(2,1),(3,1),(4,1),(5,1),(6,1)] [(6,.t 16)]),oW 5 (.agg #[.int .i64 0,.string ⟨#[]⟩,.string ⟨#[]⟩,.slice none 0 0,.slice none 0 0,.slice none 0 0,.int .i64 0]),oS 5 17 7] u143_8 [0,1,4]
abbrev u143_3:=qQ u143_4 u143_7 [0,1,4]
abbrev u143_2:=qS [oM 7 0,oM 8 1,oC 9 74 [.t 7,.t 8,.k (.int .i64 8),.k (.int .i64 50)]] u143_3 [0,1,4]
abbrev u143_1:=qS [oW 4 (.agg #[.int .i64 0,.string ⟨#[]⟩,.string ⟨#[]⟩,.slice none 0 0,.slice none 0 0,.slice none 0 0,.int .i64 0])] u143_2 [0,1]
def u143:IFn:=⟨134,u143_1,[.cell 4 7 true]⟩
theorem isU143:A7 Tryz.prog 143 u143:=by unfold A7;kernel_rfl
abbrev u75_12:=qE [oM 34 0,oN 35 34,oF 36 35 2,oL 37 36,oK 38 37 .add 1,oN 39 34,oF 40 39 2,oS 40 38 1] [0,4,5,6]
abbrev u75_11:=qK u75_12 .skip (.t 33) [0,4,5,6,33]
abbrev u75_10:=qS [oM 33 6] u75_11 [0,4,5,6]
abbrev u75_16:=qE [oF 46 5 2,oL 47 46,oP 48 (.un .neg (.t 47)),oF 49 5 2,oS 49 48 1] [0,4,5]
abbrev u75_15:=qK u75_16 .skip (.t 45) [0,4,5,45]
abbrev u75_14:=qS [oM 45 6] u75_15 [0,4,5,6]
abbrev u75_13:=qS [oM 41 0,oC 42 115 [.t 41,.k (.int .i64 3)],oP 43 (.fld 2 1 false (.t 42)),oF 44 5 2,oS 44 43 1] u75_14 [0,4,5,6]
abbrev u75_9:=qQ u75_10 u75_13 [0,4,5,6]
abbrev u75_8:=qS [oF 26 5 0,oL 27 26,oK 28 27 .eql 6,oM 29 28,gM 30 0 29,⟨some 31,.call 76 [.t 30,.k (.string ⟨#[45]⟩)],some (29,true)⟩,oJ 32 29 31,oM 6 32] u75_9 [0,4,5]
abbrev u75_7:=qK u75_8 .skip (.t 25) [0,4,5,25]
abbrev u75_6:=qS [oF 23 5 0,oL 24 23,oK 25 24 .leq 6] u75_7 [0,4,5]
abbrev u75_18:=qS [oD 52 5 4,oS 4 52 4] .ret [4,5]
abbrev u75_17:=qS [oM 50 0,oC 51 116 [.t 50,.k (.string ⟨#[59]⟩)]] u75_18 [0,4,5]
abbrev u75_5:=qQ u75_6 u75_17 [0,4,5]
abbrev u75_4:=qS [oM 20 0,oC 21 114 [.t 20],oF 22 5 1,oS 22 21 1] u75_5 [0,4,5]
abbrev u75_3:=qS [oM 13 0,oN 14 13,oF 15 14 2,oL 16 15,oK 17 16 .add 1,oN 18 13,oF 19 18 2,oS 19 17 1] u75_4 [0,4,5]
abbrev u75_2:=qS [oM 7 1,oP 8 (.bin .add (.k (.int .i64 1)) (.t 7)),oM 9 0,oC 10 94 [.t 9],oP 11 (.fld 3 1 false (.t 10)),oP 12 (.bld #[.int .i64 0,.string ⟨#[]⟩,.int .i64 0,.int .i64 0] [(0,1),(1,1),(2,1),(3,1)] [(0,.t 8),(3,.t 11)]),oW 5 (.agg #[.int .i64 0,.string ⟨#[]⟩,.int .i64 0,.int .i64 0]),oS 5 12 4] u75_3 [0,1,4]
abbrev u75_1:=qS [oW 4 (.agg #[.int .i64 0,.string ⟨#[]⟩,.int .i64 0,.int .i64 0])] u75_2 [0,1]
def u75:IFn:=⟨53,u75_1,[.cell 4 4 true]⟩
theorem isU75:A7 Tryz.prog 75 u75:=by unfold A7;kernel_rfl
abbrev u77_10:=qK .skip (.exit 0) (.t 27) [0,2,3,27]
abbrev u77_9:=qS [oM 21 0,oC 22 38 [.t 21],oM 23 22,gM 24 0 23,⟨some 25,.call 76 [.t 24,.k (.string ⟨#[125]⟩)],some (23,true)⟩,oG 26 (.un .not (.t 25)) 23,oJ 27 23 26] u77_10 [0,2,3]
abbrev u77_16:=qS [oD 33 3 4,oS 2 33 4] .ret [2,3]
abbrev u77_15:=qS [oM 31 0,oC 32 52 [.t 31]] u77_16 [0,2,3]
abbrev u77_14:=qK u77_15 .skip (.t 30) [0,2,3,30]
abbrev u77_13:=qS [oM 28 0,oC 29 76 [.t 28,.k (.string ⟨#[111,110]⟩)],oY 30 29] u77_14 [0,2,3]
abbrev u77_25:=qS [oD 53 3 4,oS 2 53 4] .ret [2,3]
abbrev u77_24:=qS [oM 51 0,oC 52 52 [.t 51]] u77_25 [0,2,3]
abbrev u77_23:=qK u77_24 .skip (.t 50) [0,2,3,4,5,50]
abbrev u77_22:=qS [oM 49 5,oK 50 49 .lss 0] u77_23 [0,2,3,4,5]
abbrev u77_31:=qE [oM 66 0,oC 67 114 [.t 66],oF 68 4 1,oS 68 67 1] [0,2,3,4]
abbrev u77_30:=qK u77_31 .skip (.t 65) [0,2,3,4,65]
abbrev u77_29:=qS [oM 64 5,oK 65 64 .geq 2] u77_30 [0,2,3,4,5]
abbrev u77_33:=qE [oF 72 3 2,oL 73 72,oD 74 4 4,⟨some 75,.new (.bsl 4 1 #[.int .i64 0,.string ⟨#[]⟩,.slice none 0 0,.int .i64 0] [(0,.t 74)]),none⟩,oT 76 73 75 4 56,oF 77 3 2,oS 77 76 1] [0,2,3,4]
abbrev u77_32:=qS [oM 69 0,oC 70 118 [.t 69,.k (.int .i64 1)],oF 71 4 2,oS 71 70 1] u77_33 [0,2,3,4]
abbrev u77_28:=qQ u77_29 u77_32 [0,2,3,4,5]
abbrev u77_27:=qS [oM 61 5,oP 62 (.bin .add (.k (.int .i64 1)) (.t 61)),oF 63 4 0,oS 63 62 1] u77_28 [0,2,3,4,5]
abbrev u77_26:=qS [oM 54 0,oN 55 54,oF 56 55 2,oL 57 56,oK 58 57 .add 1,oN 59 54,oF 60 59 2,oS 60 58 1] u77_27 [0,2,3,4,5]
abbrev u77_21:=qQ u77_22 u77_26 [0,2,3,4,5]
abbrev u77_20:=qS [oM 46 0,oC 47 117 [],oC 48 72 [.t 46,.t 47],oM 5 48] u77_21 [0,2,3,4]
abbrev u77_19:=qS [oM 44 0,oC 45 116 [.t 44,.k (.string ⟨#[111,110]⟩)]] u77_20 [0,2,3,4]
abbrev u77_18:=qS [oM 40 0,oC 41 94 [.t 40],oP 42 (.fld 3 1 false (.t 41)),oP 43 (.bld #[.int .i64 0,.string ⟨#[]⟩,.slice none 0 0,.int .i64 0] [(0,1),(1,1),(2,1),(3,1)] [(3,.t 42)]),oW 4 (.agg #[.int .i64 0,.string ⟨#[]⟩,.slice none 0 0,.int .i64 0]),oS 4 43 4] u77_19 [0,2,3]
abbrev u77_17:=qS [oM 34 0,oF 35 3 2,oL 36 35,oH 37 36,oK 38 37 .add 1,oC 39 74 [.t 34,.t 38,.k (.int .i64 32),.k (.int .i64 9)]] u77_18 [0,2,3]
abbrev u77_12:=qQ u77_13 u77_17 [0,2,3]
abbrev u77_11:=qJ u77_12 1 [0,2,3]
abbrev u77_8:=qQ u77_9 u77_11 [0,2,3]
abbrev u77_35:=qS [oD 80 3 4,oS 2 80 4] .ret [2,3]
abbrev u77_34:=qS [oM 78 0,oC 79 116 [.t 78,.k (.string ⟨#[125]⟩)]] u77_35 [0,2,3]
abbrev u77_7:=qB (.loop u77_8) u77_34 0 [0,2,3]
abbrev u77_6:=qS [oM 19 0,oC 20 116 [.t 19,.k (.string ⟨#[123]⟩)]] u77_7 [0,2,3]
abbrev u77_5:=qS [oM 15 0,oC 16 115 [.t 15,.k (.int .i64 3)],oP 17 (.fld 2 1 false (.t 16)),oF 18 3 1,oS 18 17 1] u77_6 [0,2,3]
abbrev u77_4:=qS [oM 12 0,oC 13 114 [.t 12],oF 14 3 0,oS 14 13 1] u77_5 [0,2,3]
abbrev u77_3:=qS [oM 10 0,oC 11 116 [.t 10,.k (.string ⟨#[109,111,100,101]⟩)]] u77_4 [0,2,3]
abbrev u77_2:=qS [oM 6 0,oC 7 94 [.t 6],oP 8 (.fld 3 1 false (.t 7)),oP 9 (.bld #[.string ⟨#[]⟩,.int .i64 0,.slice none 0 0,.int .i64 0] [(0,1),(1,1),(2,1),(3,1)] [(3,.t 8)]),oW 3 (.agg #[.string ⟨#[]⟩,.int .i64 0,.slice none 0 0,.int .i64 0]),oS 3 9 4] u77_3 [0,2]
abbrev u77_1:=qS [oW 2 (.agg #[.string ⟨#[]⟩,.int .i64 0,.slice none 0 0,.int .i64 0])] u77_2 [0]
def u77:IFn:=⟨81,u77_1,[.cell 2 4 true]⟩
theorem isU77:A7 Tryz.prog 77 u77:=by unfold A7;kernel_rfl
abbrev u37_8:=qK .skip (.exit 0) (.t 9) [0,2,3,4,9]
abbrev u37_7:=qS [oM 8 4,oK 9 8 .geq 0] u37_8 [0,2,3,4]
abbrev u37_13:=qG [oF 21 3 0,oL 22 21,oM 23 0,oM 24 4,oC 25 75 [.t 23,.t 24],⟨some 26,.new (.bsl 4 1 #[.int .i64 0,.string ⟨#[]⟩,.int .i64 0,.int .i64 0] [(0,.t 25)]),none⟩,oT 27 22 26 4 40,oF 28 3 0,oS 28 27 1] [(0,none),(1,none),(2,none),(3,none),(4,some [0,1]),(5,none),(6,some []),(7,none),(8,some [])] 9 [0,2,3,4]
abbrev u37_12:=qK u37_13 .skip (.t 20) [0,2,3,4,20]
abbrev u37_11:=qS [oM 19 0,oC 20 38 [.t 19]] u37_12 [0,2,3,4]
abbrev u37_10:=qS [oM 13 0,oF 14 3 0,oL 15 14,oH 16 15,oK 17 16 .add 1,oC 18 74 [.t 13,.t 17,.k (.int .i64 128),.k (.int .i64 9)]] u37_11 [0,2,3,4]
abbrev u37_14:=qE [oM 10 0,oC 11 73 [],oC 12 72 [.t 10,.t 11],oM 4 12] [0,2,3]
abbrev u37_9:=qB u37_10 u37_14 1 [0,2,3,4]
abbrev u37_6:=qQ u37_7 u37_9 [0,2,3,4]
abbrev u37_5:=qJ (.loop u37_6) 0 [0,2,3,4]
abbrev u37_4:=qS [oM 5 0,oC 6 73 [],oC 7 72 [.t 5,.t 6],oM 4 7] u37_5 [0,2,3]
abbrev u37_18:=qK .skip (.exit 2) (.t 42) [0,2,3,42]
abbrev u37_17:=qP [oM 29 0,oC 30 38 [.t 29],oM 31 30,gM 32 0 31,gN 33 32 31,gF 34 33 2 31,gL 35 34 31,gM 36 0 31,gN 37 36 31,gF 38 37 0 31,gL 39 38 31,oG 40 (.len (.t 39)) 31,oG 41 (.bin .lss (.t 35) (.t 40)) 31,oJ 42 31 41] u37_18 0 14 [0,2,3]
abbrev u37_24:=qS [oD 48 3 2,oS 2 48 2] .ret [2,3]
abbrev u37_23:=qS [oM 46 0,oC 47 52 [.t 46]] u37_24 [0,2,3]
abbrev u37_22:=qK u37_23 .skip (.t 45) [0,2,3,45]
abbrev u37_21:=qS [oM 43 0,oC 44 76 [.t 43,.k (.string ⟨#[109,111,100,101]⟩)],oY 45 44] u37_22 [0,2,3]
abbrev u37_28:=qG [oF 57 3 1,oL 58 57,oM 59 0,oC 60 77 [.t 59],⟨some 61,.new (.bsl 4 1 #[.string ⟨#[]⟩,.int .i64 0,.slice none 0 0,.int .i64 0] [(0,.t 60)]),none⟩,oT 62 58 61 4 56,oF 63 3 1,oS 63 62 1] [(0,none),(1,none),(2,none),(3,some [0,1]),(4,none),(5,some []),(6,none),(7,some [])] 8 [0,2,3]
abbrev u37_27:=qK u37_28 .skip (.t 56) [0,2,3,56]
abbrev u37_26:=qS [oM 55 0,oC 56 38 [.t 55]] u37_27 [0,2,3]
abbrev u37_25:=qS [oM 49 0,oF 50 3 1,oL 51 50,oH 52 51,oK 53 52 .add 1,oC 54 74 [.t 49,.t 53,.k (.int .i64 16),.k (.int .i64 9)]] u37_26 [0,2,3]
abbrev u37_20:=qQ u37_21 u37_25 [0,2,3]
abbrev u37_19:=qJ u37_20 3 [0,2,3]
abbrev u37_16:=qQ u37_17 u37_19 [0,2,3]
abbrev u37_29:=qS [oD 64 3 2,oS 2 64 2] .ret [2,3]
abbrev u37_15:=qB (.loop u37_16) u37_29 2 [0,2,3]
abbrev u37_3:=qQ u37_4 u37_15 [0,2,3]
abbrev u37_2:=qS [oW 3 (.agg #[.slice none 0 0,.slice none 0 0])] u37_3 [0,2]
abbrev u37_1:=qS [oW 2 (.agg #[.slice none 0 0,.slice none 0 0])] u37_2 [0]
def u37:IFn:=⟨65,u37_1,[.cell 2 2 true]⟩
theorem isU37:A7 Tryz.prog 37 u37:=by unfold A7;kernel_rfl
abbrev u15_6:=qS [oP 18 (.bld #[.slice none 0 0,.slice none 0 0] [(0,1),(1,1)] []),oM 19 6,oM 20 7,oS 2 18 2,oM 3 19,oM 4 20] .ret [2,6,7]
abbrev u15_5:=qK u15_6 .skip (.t 17) [0,2,5,6,7,17]
abbrev u15_4:=qS [oM 16 7,oK 17 16 .neq 0] u15_5 [0,2,5,6,7]
abbrev u15_12:=qD [oP 31 (.bld #[.slice none 0 0,.slice none 0 0] [(0,1),(1,1)] []),oM 32 8,oN 33 32,oF 34 33 4,oL 35 34,oM 36 8,oN 37 36,oF 38 37 3,oL 39 38,oS 2 31 2,oM 3 35,oM 4 39] .ret [(0,none),(1,none),(2,none),(3,none),(4,none),(5,none),(6,none),(7,none),(8,none),(9,some [1,2,3,4,5,6,7,8]),(10,some [5,6,7,8]),(11,some [])] 12 [2,8]
abbrev u15_11:=qK u15_12 .skip (.t 30) [2,8,9,30]
abbrev u15_10:=qS [oM 28 8,oC 29 38 [.t 28],oY 30 29] u15_11 [2,8,9]
abbrev u15_13:=qS [oD 40 9 2,oS 2 40 2,oI 3 0,oI 4 0] .ret [2,9]
abbrev u15_9:=qQ u15_10 u15_13 [2,8,9]
abbrev u15_8:=qS [oM 26 8,oC 27 37 [.t 26],oW 9 (.agg #[.slice none 0 0,.slice none 0 0]),oS 9 27 2] u15_9 [2,8]
abbrev u15_7:=qS [oM 21 5,oM 22 0,oP 23 (.lens (.t 22)),oP 24 (.bld #[.slice none 0 0,.int .i64 0,.int .i64 0,.int .i64 0,.int .i64 0,.int .i64 0,.int .i64 0] [(0,1),(1,1),(2,1),(3,1),(4,1),(5,1),(6,1)] [(0,.t 21),(1,.t 23)]),oX 25 24,oM 8 25] u15_8 [0,2,5]
abbrev u15_3:=qQ u15_4 u15_7 [0,2,5,6,7]
abbrev u15_2:=qS [oM 11 0,oC 12 36 [.t 11],oM 10 12,oE 13 10 0,oE 14 10 1,oE 15 10 2,oM 5 13,oM 6 14,oM 7 15] u15_3 [0,2]
abbrev u15_1:=qS [oW 2 (.agg #[.slice none 0 0,.slice none 0 0]),oI 3 0,oI 4 0] u15_2 [0]
def u15:IFn:=⟨41,u15_1,[.cell 2 2 true,.tmp 3,.tmp 4]⟩
theorem isU15:A7 Tryz.prog 15 u15:=by unfold A7;kernel_rfl
end Go.Proofs.YtnmkkggfgdfmeaaGreatDoor
namespace Go.Pb
variable [Go.Sym.Tab]
open Go.Sym
def C9m (n:Nat) (s:List UInt8):Nat:=s.foldl (fun n c=>10 * n+(c.toNat-48)) n
theorem B5v:∀ (s:List UInt8) (n:Nat),n<=C9m n s
 | [],n=>A0I _
 | c :: r,n=>by
  have:=B5v r (10 * n+(c.toNat-48));simp only [C9m,A3Y] at this ⊢;omega
theorem B1k {p:UInt8->Bool}:∀ (s:List UInt8), ∀ c∈s.take (D0 p s),p c=true
 | [],c,h=>by simp at h
 | x :: r,c,h=>by
  simp only [D0] at h;split at h
  ·rename_i hx;rw [A0U] at h;rcases A2L.1 h with rfl|h
   ·exact hx
   ·exact B1k r c h
  ·simp at h
end Go.Pb
namespace Go.Pb
variable [Go.Sym.Tab]
open Go.Sym
theorem I4 (l:List (List UInt8)):∀ x∈l.map DV.str,x.cells.length=1:=by
 intro x hx;obtain ⟨y, -,rfl⟩:=A1Z.1 hx;rfl
end Go.Pb
namespace Go.Pb
variable [Go.Sym.Tab]
open Go.Sym
def H9 (H:Hp):Option Nat->Hp
 | none=>H
 | some i=>H.del i
theorem A4f {o:Option Nat} {n:Nat} (h:o=none->n=0):A5h (B3 o n)=some (I64 (n:Int)):=by
 cases o with
 | none=>rw [h rfl];rfl
 | some i=>rfl
theorem F0 {H:Hp} {c sz bytes n m:Nat} {o:Option Nat} {cs src:List DV} (hn:o=none->n=0/\cs=[]) (hb:∀ i,o=some i->H i=some ⟨sz,true,cs⟩) (hl:cs.length=n * sz) (hm:1<=m) (h2:(n+m) * bytes<=140737488355328) (h3:n+m<=9223372036854775807) :
  A3s H c sz bytes (B3 o n) m src=some (.slc c 0 (n+m),(H9 H o).upd c ⟨sz,true,cs++src⟩,c+1):=by
 cases o with
 | none =>
  obtain ⟨rfl,rfl⟩:=hn rfl;rw [A9p,A3a (by omega) (by simpa using h2) (by omega)];simp [H9]
 | some i=>rw [A3x,B3w,hb i rfl,V4 hl h2 h3];rfl
theorem E9 {H:Hp} {o:Option Nat} {j:Nat} (h:∀ i,o=some i->¬ j=i):H9 H o j=H j:=by
 cases o with
 | none=>rfl
 | some i=>exact F5 (h i rfl)
theorem C7 {H:Hp} {o:Option Nat} {b:Blk} {j:Nat} (h:∀ i,o=some i->¬ j=i):C0 H o b j=H j:=by
 cases o with
 | none=>rfl
 | some i=>exact A2 (h i rfl)
section
variable {l:List UInt8} {k p:Nat} {S P V:DV} {I:List Ins} {E:List Ent} {o1 o2:Option Nat} {cc:Nat}
end
end Go.Pb
namespace Go.Pb
variable [Go.Sym.Tab]
open Go.Sym
theorem A8d {a b:Nat} (h:((a:Int) == (b:Int))=true):a=b:=by have:=A1I.1 h;omega
theorem A3r {a b:Nat} (h:((a:Int) == (b:Int))=false):a≠b:=fun e=>by rw [e] at h;simp at h
theorem C6f {a b:Nat} (h:((a:Int) != (b:Int))=true):a≠b:=fun e=>by rw [e] at h;simp at h
theorem D1d {a b:Nat} (h:((a:Int) != (b:Int))=false):a=b:=by
 have:(a:Int)=b:=by simpa using h
 omega
theorem B7x {a b:Nat} (h:decide ((a:Int)>(b:Int))=true):b<a:=by have:=of_decide_eq_true h;omega
theorem A8a {a b:Nat} (h:decide ((a:Int)>(b:Int))=false):¬ b<a:=by have:=of_decide_eq_false h;omega
theorem L0 {α : Type} {s:List α} {i:Nat} {c : α} (h:s[i]? = some c):s.drop i=c :: s.drop (i+1):=by
 obtain ⟨hi,rfl⟩:=A0K.1 h;exact A1B hi
theorem C8i {s:List UInt8} {i:Nat} {c:UInt8} (h:s[i]? = some c) (hc:A5e c=true):skM false (s.drop i)=skM false (s.drop (i+1))+1:=by
 rw [L0 h];simp only [skM];rw [if_pos hc]
theorem C8k {s:List UInt8} {i:Nat} {c:UInt8} (h:s[i]? = some c) (hc:c.toNat=35) :
  skM false (s.drop i)=D0 (fun c=>decide (c.toNat≠10)) (s.drop i)+skM false (s.drop (i+D0 (fun c=>decide (c.toNat≠10)) (s.drop i))):=by
 have hs:¬ A5e c=true:=by simp [A5e,hc]
 have e1:skM false (s.drop i)=skM true (s.drop i):=by
  rw [L0 h];simp only [skM];rw [if_neg hs,if_pos hc,if_neg (by omega)]
 rw [e1,B1n,A3G]
theorem C3w {s:List UInt8} {i:Nat} {c:UInt8} (h:s[i]? = some c) (h1:¬ A5e c=true) (h2:¬ c.toNat=35):skM false (s.drop i)=0:=by
 rw [L0 h];simp only [skM];rw [if_neg h1,if_neg h2]
theorem C8j {s:List UInt8} {i:Nat} (h:s.length<=i):skM false (s.drop i)=0:=by
 rw [A3N h];rfl
theorem C3x {s:List UInt8} {i:Nat} {c:UInt8} (h:s[i]? = some c) (hc:c.toNat=35):1<=D0 (fun c=>decide (c.toNat≠10)) (s.drop i):=by
 rw [L0 h];simp only [D0];rw [if_pos (by simp [hc])];omega
def quA (acc:List UInt8) (k:Nat) (q:Option (List UInt8 × Nat)):Option (List UInt8 × Nat):=q.map fun x=>(acc++x.1,x.2+k)
theorem S0 (c:UInt8) (r:List UInt8):quM (c :: r)=if c.toNat=34 then some ([],1)
  else if c.toNat<32\/126<c.toNat then none
  else if c.toNat=92 then match r with
   | []=>none
   | d :: q=>if d.toNat=34\/d.toNat=92 then (quM q).map fun x=>(d :: x.1,x.2+2) else none
  else (quM r).map fun x=>(c :: x.1,x.2+1):=by rw [quM.eq_def];try rfl
theorem A3b {s acc:List UInt8} {k:Nat} {c:UInt8} (h:s[k]? = some c) (hc:c.toNat=34):quA acc k (quM (s.drop k))=some (acc,k+1):=by
 rw [L0 h,S0,if_pos hc];simp [quA];omega
theorem A9x {s acc:List UInt8} {k:Nat} {c:UInt8} (h:s[k]? = some c) (h0:c.toNat≠34) (hc:c.toNat<32\/126<c.toNat):quA acc k (quM (s.drop k))=none:=by
 rw [L0 h,S0,if_neg h0,if_pos hc];rfl
theorem C9g {s acc:List UInt8} {k:Nat} (h:s.length<=k):quA acc k (quM (s.drop k))=none:=by
 rw [A3N h,quM];rfl
theorem B5q {s acc:List UInt8} {k:Nat} {c:UInt8} (h:s[k]? = some c) (h0:c.toNat≠34) (h1:32<=c.toNat) (h2:c.toNat<=126) (h3:c.toNat≠92) :
  quA acc k (quM (s.drop k))=quA (acc++[c]) (k+1) (quM (s.drop (k+1))):=by
 rw [L0 h,S0,if_neg h0,if_neg (by omega),if_neg h3];cases quM (s.drop (k+1)) with
 | none=>rfl
 | some x=>simp [quA];omega
theorem C0a {s acc:List UInt8} {k:Nat} {c d:UInt8} (h:s[k]? = some c) (h3:c.toNat=92) (hd:s[k+1]? = some d) (h4:d.toNat=34\/d.toNat=92) :
  quA acc k (quM (s.drop k))=quA (acc++[d]) (k+2) (quM (s.drop (k+2))):=by
 rw [L0 h,L0 hd,S0,if_neg (by omega),if_neg (by omega),if_pos h3];simp only;rw [if_pos h4];cases quM (s.drop (k+1+1)) with
 | none=>rfl
 | some x=>simp [quA];omega
theorem B5p {s acc:List UInt8} {k:Nat} {c:UInt8} (h:s[k]? = some c) (h3:c.toNat=92) (hd:∀ d,s[k+1]? = some d->d.toNat≠34/\d.toNat≠92) :
  quA acc k (quM (s.drop k))=none:=by
 rw [L0 h];cases hq:s.drop (k+1) with
 | nil=>rw [S0,if_neg (by omega),if_neg (by omega),if_pos h3];rfl
 | cons d q =>
  have h5:s[k+1]? = some d:=by
   have:=congrArg List.head? hq
   rwa [List.head?_drop] at this
  have h6:=hd d h5;rw [S0,if_neg (by omega),if_neg (by omega),if_pos h3];simp only;rw [if_neg (by omega)];rfl
theorem B9z {H:Hp} {o:Option Nat} {u:Nat} {acc:List UInt8} (hn:o=none->acc=[]) (hb:∀ i,o=some i->H i=some ⟨u,true,bytesC acc⟩):Y4 H (B3 o acc.length)=some (.str acc):=by
 cases o with
 | none=>rw [hn rfl];rfl
 | some i=>exact A4t (hb i rfl) rfl rfl
theorem R4 {X:Hp} {id:Nat} {b b':Blk} (h:b=b'):Sub (C0 Sym.nil (some id) b) (X.upd id b'):=by
 intro j q hj;simp only [C0] at hj;by_cases e:j=id
 ·subst e;rw [A0] at hj ⊢;rw [<- h];exact hj
 ·rw [A2 e] at hj;cases hj
theorem B7g {X:Hp} {o:Option Nat} {c sz bytes n m:Nat} {cs src:List DV} {b2:Blk} (hn:o=none->n=0/\cs=[]) (ho:∀ i,o=some i->i<c) (hl:cs.length=n * sz) (hm:1<=m)
  (h2:(n+m) * bytes<=140737488355328) (h3:n+m<=9223372036854775807) :
  A3s ((C0 X o ⟨sz,true,cs⟩).upd c b2) (c+1) sz bytes (B3 o n) m src=some (.slc (c+1) 0 (n+m),(H9 ((C0 X o ⟨sz,true,cs⟩).upd c b2) o).upd (c+1) ⟨sz,true,cs++src⟩,c+1+1) :=
 F0 hn (fun i hi=>by have:=ho i hi;rw [A2 (by omega)];subst hi;exact A0) hl hm h2 h3
theorem B1u {X:Hp} {o:Option Nat} {c:Nat} {acc:List UInt8} (hn:o=none->acc=[]) (ho:∀ i,o=some i->i<c) (hl:acc.length<=10000000) (b2:Blk) (x:UInt8) :
  A3s ((C0 X o ⟨1,true,bytesC acc⟩).upd c b2) (c+1) 1 1 (B3 o acc.length) 1 [.int .u8 (x.toNat:Int)]=some (.slc (c+1) 0 (acc.length+1),(H9 ((C0 X o ⟨1,true,bytesC acc⟩).upd c b2) o).upd (c+1) ⟨1,true,bytesC (acc++[x])⟩,c+1+1):=by
 rw [A7r];exact B7g (fun e=>by rw [hn e];exact ⟨rfl,rfl⟩) ho (B2z acc) (by omega) (by omega) (by omega)
def quB (c:UInt8):List UInt8:=if c.toNat=34\/c.toNat=92 then [92,c] else [c]
def A4g (s:List UInt8):List UInt8:=[34]++s.flatMap quB
def A6v (s:List UInt8):List UInt8:=A4g s++[34]
theorem B7i {s:List UInt8} {k:Nat} {c:UInt8} (h:s[k]? = some c):A4g (s.take (k+1))=A4g (s.take k)++quB c:=by
 unfold A4g;rw [A0X,h,A2S,A0T];simp
theorem B5r:∀ s:List UInt8,(s.flatMap quB).length<=2 * s.length
 | []=>by simp
 | c :: r=>by
  have:=B5r r;rw [A1V,A0A,A0E];have:(quB c).length<=2:=by unfold quB;split<;>simp
  omega
theorem B1v (s:List UInt8):(A4g s).length<=2 * s.length+1:=by
 have:=B5r s;unfold A4g;rw [A0A,A0H];omega
theorem C6i {H:Hp} {c id n:Nat} {acc:List UInt8} {x:UInt8} (hn:n=acc.length) (hl:n<=10000000) :
  apB H c id 1 1 n 1 [.int .u8 (x.toNat:Int)] (some ⟨1,true,bytesC acc⟩)=some (.slc c 0 (n+1),(H.del id).upd c ⟨1,true,bytesC (acc++[x])⟩,c+1):=by
 rw [A7r];exact V4 (by rw [Z9,hn];omega) (by omega) (by omega)
theorem B9t (q:List Tok × Int × Int):(B9u q).nl=true:=by
 simp only [DV.nl,DV.nlL,J5,A2E]
theorem B1y {H:Hp} {a b:DV}:∃ H2,GL H [.tup [.snil,a,b]] H2 [.tup [.lst [],a,b]] :=
 ⟨H,GL.view fun ρ vs hA=>⟨hA.1,fun i x y hx hy=>by
  match i with
  | 0 =>
   cases hx;have:=hA.2 0 _ y rfl hy;obtain ⟨b',rfl,k1,k2⟩:=this.tup_inv;refine .tup _ _ k1 fun j x' y' hx' hy'=>?_
   match j with
   | 0=>cases hx';exact (k2 0 _ y' rfl hy').snil_lst
   | 1=>cases hx';exact k2 1 _ y' rfl hy'
   | 2=>cases hx';exact k2 2 _ y' rfl hy'
   | _+3=>cases hx'
  | _+1=>cases hx⟩⟩
theorem B1o {H:Hp} {a b:Int}:∃ H2,GL H [.tup [.snil,I64 a,I64 b]] H2 [B9u ([],a,b)]:=B1y
theorem C0f {o:Option Nat} {xs:List DV} {u n:Nat} {a b:DV} (hno:o=none->xs=[]) (hl:xs.length=n) (hu:∀ x∈xs,x.cells.length=u) :
  ∃ H2,GL (C0 Sym.nil o ⟨u,true,A4 xs⟩) [.tup [B3 o n,a,b]] H2 [.tup [.lst xs,a,b]]:=by
 cases o with
 | none=>rw [hno rfl];exact B1y
 | some i=>exact ⟨nil,GL.one (id:=i) A0 rfl (.cons _ _ _ _ (.tup _ _ (.cons _ _ _ _ (P1 hl hu ⟨[],by simp⟩) (.cons _ _ _ _ (.same _) (.cons _ _ _ _ (.same _) .nil)))) .nil)⟩
theorem A0p {X:Hp} {o:Option Nat} {b:Blk} {i:Nat} (hi:o=some i):C0 X o b i=some b:=by subst hi;exact A0
theorem u8_eq (c:UInt8) (n:Nat) (h:n<256):(c == UInt8.ofNat n)=decide (c.toNat=n):=by
 rw [A1W,A1I,decide_eq_true_iff, <- UInt8.toNat_inj];simp;omega
theorem C3j (c d:UInt8):A9n c d=([c,d] == [60,61] || [c,d] == [62,61] || [c,d] == [61,61] || [c,d] == [33,61] || [c,d] == [38,38] || [c,d] == [124,124]):=by
 have hk:∀ a b:UInt8,([c,d] == [a,b])=(c == a && d == b):=fun a b=>by simp [List.cons_beq_cons]
 rw [hk,hk,hk,hk,hk,hk];have hu:∀ (x:UInt8) (n:Nat),n<256->(x == UInt8.ofNat n)=(x.toNat == n):=fun x n h=>by rw [u8_eq x n h];rfl
 have e:∀ n:Nat,(OfNat.ofNat n:UInt8)=UInt8.ofNat n:=fun _=>rfl;show ([(60,61),(62,61),(61,61),(33,61),(38,38),(124,124)]:List (Nat × Nat)).contains (c.toNat,d.toNat)=(c == UInt8.ofNat 60 && d == UInt8.ofNat 61 || c == UInt8.ofNat 62 && d == UInt8.ofNat 61 || c == UInt8.ofNat 61 && d == UInt8.ofNat 61 || c == UInt8.ofNat 33 && d == UInt8.ofNat 61 || c == UInt8.ofNat 38 && d == UInt8.ofNat 38 || c == UInt8.ofNat 124 && d == UInt8.ofNat 124);rw [hu c 60 (by omega),hu c 61 (by omega),hu c 62 (by omega),hu c 33 (by omega),hu c 38 (by omega),hu c 124 (by omega),hu d 61 (by omega),hu d 38 (by omega),hu d 124 (by omega)];rw [A1W];simp;omega
end Go.Pb
namespace Go.Pb
variable [Go.Sym.Tab]
open Go.Sym
inductive Ex where
 | mk (kind value:Int) (name:List UInt8) (args:List Ex) (pos:Int)
def Ex.kind:Ex->Int | .mk k _ _ _ _=>k
def Ex.value:Ex->Int | .mk _ v _ _ _=>v
def Ex.name:Ex->List UInt8 | .mk _ _ n _ _=>n
def Ex.args:Ex->List Ex | .mk _ _ _ a _=>a
def Ex.pos:Ex->Int | .mk _ _ _ _ p=>p
mutual
def Ex.v:Ex->DV
 | .mk k v n a p=>.agg [I64 k,I64 v,.str n,.lst (Ex.vs a),I64 p]
def Ex.vs:List Ex->List DV
 | []=>[]
 | e :: l=>Ex.v e :: Ex.vs l
end
theorem Ex.vs_map:∀ l:List Ex,Ex.vs l=l.map Ex.v
 | []=>rfl
 | e :: l=>by rw [Ex.vs,Ex.vs_map l];rfl
abbrev H7 (l:List Ex):DV:=.lst (l.map Ex.v)
abbrev Ex.w (e:Ex):DV:=.agg [I64 e.kind,I64 e.value,.str e.name,H7 e.args,I64 e.pos]
theorem Ex.v_w (e:Ex):e.v=e.w:=by
 cases e with|mk k v n a p=>rw [Ex.v,Ex.vs_map];rfl
theorem A3m (l:List Ex):∀ x∈l.map Ex.v,x.cells.length=5:=fun x hx=>by
 obtain ⟨y, -,rfl⟩:=A1Z.1 hx;rw [Ex.v_w];rfl
mutual
@[simp]theorem Ex.nl:∀ e:Ex,e.v.nl=true
 | .mk k v n a p=>by
  have:=Ex.nls a;rw [Ex.v];simp only [DV.nl,DV.nlL,this,A2E]
theorem Ex.nls:∀ l:List Ex,DV.nlL (Ex.vs l)=true
 | []=>rfl
 | e :: l=>by rw [Ex.vs,DV.nlL,Ex.nl e,Ex.nls l];rfl
end
@[simp]theorem W5 (l:List Ex):DV.nlL (l.map Ex.v)=true:=by rw [<- Ex.vs_map];exact Ex.nls l
def Ex0:Ex:=.mk 0 0 [] [] 0
inductive St where
 | mk (kind:Int) (name text:List UInt8) (args:List Ex) (thn els:List St) (pos:Int)
def St.kind:St->Int | .mk k _ _ _ _ _ _=>k
def St.name:St->List UInt8 | .mk _ n _ _ _ _ _=>n
def St.text:St->List UInt8 | .mk _ _ t _ _ _ _=>t
def St.args:St->List Ex | .mk _ _ _ a _ _ _=>a
def St.thn:St->List St | .mk _ _ _ _ t _ _=>t
def St.els:St->List St | .mk _ _ _ _ _ e _=>e
def St.pos:St->Int | .mk _ _ _ _ _ _ p=>p
mutual
def St.v:St->DV
 | .mk k n t a x y p=>.agg [I64 k,.str n,.str t,H7 a,.lst (St.vs x),.lst (St.vs y),I64 p]
def St.vs:List St->List DV
 | []=>[]
 | e :: l=>St.v e :: St.vs l
end
theorem St.vs_map:∀ l:List St,St.vs l=l.map St.v
 | []=>rfl
 | e :: l=>by rw [St.vs,St.vs_map l];rfl
abbrev F1 (l:List St):DV:=.lst (l.map St.v)
abbrev St.w (s:St):DV:=.agg [I64 s.kind,.str s.name,.str s.text,H7 s.args,F1 s.thn,F1 s.els,I64 s.pos]
theorem St.v_w (s:St):s.v=s.w:=by
 cases s with|mk k n t a x y p=>rw [St.v,St.vs_map,St.vs_map];rfl
theorem A5v (l:List St):∀ x∈l.map St.v,x.cells.length=7:=fun x hx=>by
 obtain ⟨y, -,rfl⟩:=A1Z.1 hx;rw [St.v_w];rfl
mutual
@[simp]theorem St.nl:∀ e:St,e.v.nl=true
 | .mk k n t a x y p=>by
  have h1:=W5 a;have h2:=St.nls x;have h3:=St.nls y;rw [St.v];simp only [DV.nl,DV.nlL,h1,h2,h3,A2E]
theorem St.nls:∀ l:List St,DV.nlL (St.vs l)=true
 | []=>rfl
 | e :: l=>by rw [St.vs,DV.nlL,St.nl e,St.nls l];rfl
end
@[simp]theorem O8 (l:List St):DV.nlL (l.map St.v)=true:=by rw [<- St.vs_map];exact St.nls l
def St0:St:=.mk 0 [] [] [] [] [] 0
structure Dc where
 kind:Int
 name:List UInt8
 value:Int
 pos:Int
deriving DecidableEq
abbrev Dc.v (d:Dc):DV:=.agg [I64 d.kind,.str d.name,I64 d.value,I64 d.pos]
abbrev D4 (l:List Dc):DV:=.lst (l.map Dc.v)
structure Hd where
 trig:Int
 name:List UInt8
 body:List St
 pos:Int
abbrev Hd.v (h:Hd):DV:=.agg [I64 h.trig,.str h.name,F1 h.body,I64 h.pos]
abbrev S5 (l:List Hd):DV:=.lst (l.map Hd.v)
structure Md where
 name:List UInt8
 prio:Int
 hds:List Hd
 pos:Int
abbrev Md.v (m:Md):DV:=.agg [.str m.name,I64 m.prio,S5 m.hds,I64 m.pos]
abbrev E0 (l:List Md):DV:=.lst (l.map Md.v)
structure Ru where
 decls:List Dc
 modes:List Md
abbrev Ru.v (r:Ru):DV:=.agg [D4 r.decls,E0 r.modes]
theorem A1q (l:List Dc):∀ x∈l.map Dc.v,x.cells.length=4:=fun x hx=>by obtain ⟨y, -,rfl⟩:=A1Z.1 hx;rfl
theorem A1l (l:List Hd):∀ x∈l.map Hd.v,x.cells.length=4:=fun x hx=>by obtain ⟨y, -,rfl⟩:=A1Z.1 hx;rfl
theorem A6c (l:List Md):∀ x∈l.map Md.v,x.cells.length=4:=fun x hx=>by obtain ⟨y, -,rfl⟩:=A1Z.1 hx;rfl
@[simp]theorem G6 (l:List Dc):DV.nlL (l.map Dc.v)=true:=K8 (fun _=>rfl) l
@[simp]theorem A5z (l:List Hd):DV.nlL (l.map Hd.v)=true:=K8 (fun h=>by simp [DV.nl,DV.nlL,O8]) l
@[simp]theorem G5 (l:List Md):DV.nlL (l.map Md.v)=true:=K8 (fun h=>by simp [DV.nl,DV.nlL,A5z]) l
theorem Ru.nl (r:Ru):r.v.nl=true:=by simp [DV.nl,DV.nlL,G6,G5]
structure Rd where
 i:Nat
 e:Int
 pos:Int
 ops:Int
 par:Int
section
variable (L:List Tok) (E:Int)
abbrev csR (s:Rd):List DV:=[C9 L,I64 E,I64 s.i,I64 s.e,I64 s.pos,I64 s.ops,I64 s.par]
abbrev rdR (s:Rd):Blk:=⟨0,true,csR L E s⟩
def okR (s:Rd):Bool:=s.e == 0
def K9 (s:Rd) (p e:Int):Rd:=if okR s=true then { s with e:=e,pos:=p } else s
def B8 (s:Rd):Tok:=L.getD s.i ⟨0,[],0,E⟩
def isR (s:Rd) (t:List UInt8):Bool:=okR s && ((B8 L E s).kind == 5 || (B8 L E s).kind == 2) && (B8 L E s).text == t
def I9 (s:Rd) (k:Int):Bool:=okR s && (B8 L E s).kind == k
def M7 (s:Rd):Rd:=K9 s (B8 L E s).pos 4
def C8 (s:Rd) (n most e:Int):Rd:=if most<n then K9 s (B8 L E s).pos e else s
def B1 (s:Rd):Rd:={ s with i:=s.i+1 }
def D6 (s:Rd) (t:List UInt8):Rd:=if isR L E s t=false then M7 L E s else B1 s
def Q3:Tok:=⟨0,[],0,0⟩
def B2 (s:Rd) (k:Int):Tok × Rd:=if I9 L E s k=false then (Q3,M7 L E s) else (B8 L E s,B1 s)
def Y8 (s:Rd):Nat->List (List UInt8)->Int
 | _,[] => -1
 | k,t :: l=>if isR L E s t=true then (k:Int) else Y8 s (k+1) l
def C4 (s:Rd) (l:List (List UInt8)):Int:=Y8 L E s 0 l
end
def E1:List (List UInt8):=[[115,119,105,116,99,104],[99,111,105,108],[108,97,109,112],[115,111,117,110,100],[115,104,111,119],[118,97,114],[116,105,109,101,114],[101,118,101,110,116]]
def E6:List (List UInt8):=[[115,116,97,114,116],[115,116,111,112],[99,108,111,115,101],[111,112,101,110],[116,105,109,101,114],[101,118,101,110,116]]
def C3:List (List UInt8):=[[105,102],[114,101,112,101,97,116],[115,99,111,114,101],[102,105,114,101],[104,111,108,100],[114,101,108,101,97,115,101],[108,105,103,104,116],[98,108,105,110,107],[115,116,97,114,116],[115,116,111,112],[98,101,103,105,110],[101,110,100],[112,111,115,116],[112,108,97,121],[114,117,110],[104,97,108,116],[116,101,120,116],[99,111,110,115,117,109,101]]
def D3:List (List UInt8):=[[42],[47],[37],[43],[45],[60],[60,61],[62],[62,61],[61,61],[33,61],[38,38],[124,124]]
def B4 (k:Int):Int:=if k=24 then 1 else if k=23 then 2 else if 17<=k/\k<=22 then 3 else if k=15\/k=16 then 4 else if 12<=k/\k<=14 then 5 else if k=10\/k=11 then 6 else 7
section
variable (L:List Tok) (E:Int)
def A4i:List Int:=[3,4,8,9,5,6,7]
def R1:List (List UInt8):=[[116,114,117,101],[102,97,108,115,101],[112,108,97,121,101,114],[98,97,108,108],[99,108,111,115,101,100],[97,99,116,105,118,101],[108,101,102,116]]
def O3:List (List UInt8):=[[45],[33],[40]]
def I5 (s:Rd):Ex × Rd :=
 let t:=B8 L E s
 let k:=C4 L E s R1
 if k<0/\I9 L E s 3=false/\I9 L E s 1=false then (Ex0,M7 L E s)
 else
  let s1:Rd:={ s with ops:=s.ops+1 }
  let s2:=C8 L E s1 s1.ops 32 9
  if okR s2=false then (Ex0,s2)
  else
   let s3:=B1 s2
   if 0<=k then
    if 4<=k then (.mk (A4i.getD k.toNat 0) 0 (B2 L E s3 1).1.text [] t.pos,(B2 L E s3 1).2)
    else (.mk (A4i.getD k.toNat 0) 0 [] [] t.pos,s3)
   else if t.kind=3 then (.mk 1 t.value [] [] t.pos,s3)
   else (.mk 2 0 t.text [] t.pos,s3)
mutual
def I0:Nat->Int->Rd->Option (Ex × Rd)
 | 0,_,_=>none
 | f+1,n,s=>if 5<n then Q9 f s else
  match I0 f (n+1) s with
  | none=>none
  | some (e,s)=>N2 f n e s
def N2:Nat->Int->Ex->Rd->Option (Ex × Rd)
 | 0,_,_,_=>none
 | f+1,n,e,s =>
  let k:=C4 L E s D3
  if k<0\/B4 (12+k)≠n then some (e,s) else
  match I0 f (n+1) (B1 s) with
  | none=>none
  | some (x,s1) =>
   let y:=Ex.mk (12+k) 0 [] [e,x] (B8 L E s).pos
   if n=3 then some (y,s1) else N2 f n y s1
def Q9:Nat->Rd->Option (Ex × Rd)
 | 0,_=>none
 | f+1,s =>
  let t:=B8 L E s
  let k:=C4 L E s O3
  if k<0 then some (I5 L E s) else
  let s1:=C8 L E s (s.par+1) 16 50
  if okR s1=false then some (Ex0,s1) else
  let s2:Rd:={ s1 with i:=s1.i+1,par:=s1.par+1 }
  if k=2 then
   match I0 f 1 s2 with
   | none=>none
   | some (e,s3)=>let s4:=D6 L E s3 [41];some (e, { s4 with par:=s4.par-1 })
  else
   match Q9 f s2 with
   | none=>none
   | some (e,s3)=>some (.mk (10+k) 0 [] [e] t.pos, { s3 with par:=s3.par-1 })
end
def P3 (f:Nat) (s:Rd):Option (Ex × Rd):=I0 L E f 1 { s with ops:=0,par:=0 }
def L4 (f:Nat) (k p:Int) (s:Rd):Option (St × Rd) :=
 if k=4 then
  match P3 L E f s with
  | none=>none
  | some (e,s1)=>some (.mk k [] [] [e] [] [] p,D6 L E s1 [59])
 else if k=18 then
  match P3 L E f (D6 L E (B2 L E s 4).2 [44]) with
  | none=>none
  | some (e,s1)=>some (.mk k [] (B2 L E s 4).1.text [e] [] [] p,D6 L E s1 [59])
 else if k=19 then some (.mk k [] [] [] [] [] p,D6 L E s [59])
 else
  let n:=(B2 L E s 1).1.text
  let s0:=(B2 L E s 1).2
  if k=8\/k=9\/k=10 then
   match P3 L E f s0 with
   | none=>none
   | some (e,s1) =>
    if k=9 then
     match P3 L E f (D6 L E s1 [44]) with
     | none=>none
     | some (e2,s2)=>some (.mk k n [] [e,e2] [] [] p,D6 L E s2 [59])
    else some (.mk k n [] [e] [] [] p,D6 L E s1 [59])
  else some (.mk k n [] [] [] [] p,D6 L E s0 [59])
mutual
def L1:Nat->Int->Rd->Option (List St × Rd)
 | 0,_,_=>none
 | f+1,d,s=>O1 f d [] (D6 L E s [123])
def O1:Nat->Int->List St->Rd->Option (List St × Rd)
 | 0,_,_,_=>none
 | f+1,d,l,s =>
  if okR s=true/\isR L E s [125]=false then
   if C4 L E s C3<0/\I9 L E s 1=false then some ([],M7 L E s) else
   match Q4 f d (C8 L E s ((l.length:Int)+1) 64 9) with
   | none=>none
   | some (x,s1)=>O1 f d (l++[x]) s1
  else some (l,D6 L E s [125])
def Q4:Nat->Int->Rd->Option (St × Rd)
 | 0,_,_=>none
 | f+1,d,s0 =>
  let s:=C8 L E s0 d 8 50
  if okR s=false then some (St0,s) else
  let p:=(B8 L E s).pos
  let k:=C4 L E s C3
  if k<0 then
   match P3 L E f (D6 L E (B2 L E s 1).2 [61]) with
   | none=>none
   | some (e,s1)=>some (.mk 1 (B2 L E s 1).1.text [] [e] [] [] p,D6 L E s1 [59])
  else
   let s1:=B1 s
   if k=0\/k=1 then
    match P3 L E f s1 with
    | none=>none
    | some (e,s2) =>
     match L1 f (d+1) s2 with
     | none=>none
     | some (t,s3) =>
      if k=0/\isR L E s3 [101,108,115,101]=true then
       match O7 f d (B1 s3) with
       | none=>none
       | some (o,s4)=>some (.mk 2 [] [] [e] t o p,s4)
      else some (.mk (2+k) [] [] [e] t [] p,s3)
   else L4 L E f (2+k) p s1
def O7:Nat->Int->Rd->Option (List St × Rd)
 | 0,_,_=>none
 | f+1,d,s =>
  if isR L E s [105,102]=true then
   match Q4 f (d+1) s with
   | none=>none
   | some (x,s1)=>some ([x],s1)
  else L1 f (d+1) s
end
def R3 (k:Int) (s:Rd):Dc × Rd :=
 let p:=(B8 L E s).pos
 let s1:=B1 s
 let n:=(B2 L E s1 1).1.text
 let s2:=(B2 L E s1 1).2
 if k+1<=6 then
  let m:=k+1 == 6 && isR L E s2 [45]
  let s3:=if m=true then B1 s2 else s2
  let v:=(B2 L E s3 3).1.value
  (⟨1+k,n,if m=true then -v else v,p⟩,D6 L E (B2 L E s3 3).2 [59])
 else (⟨1+k,n,0,p⟩,D6 L E s2 [59])
def U9:Nat->List Hd->Rd->Option (List Hd × Rd)
 | 0,_,_=>none
 | f+1,l,s =>
  if okR s=true/\isR L E s [125]=false then
   if isR L E s [111,110]=false then some (l,M7 L E s) else
   let s1:=C8 L E s ((l.length:Int)+1) 32 9
   let p:=(B8 L E s1).pos
   let s2:=D6 L E s1 [111,110]
   let k:=C4 L E s2 E6
   if k<0 then some (l,M7 L E s2) else
   let s3:=B1 s2
   let n:=if 2<=k then (B2 L E s3 1).1.text else []
   let s4:=if 2<=k then (B2 L E s3 1).2 else s3
   match L1 L E f 1 s4 with
   | none=>none
   | some (b,s5)=>U9 f (l++[⟨1+k,n,b,p⟩]) s5
  else some (l,D6 L E s [125])
def A3g (f:Nat) (s:Rd):Option (Md × Rd) :=
 let p:=(B8 L E s).pos
 let s1:=D6 L E s [109,111,100,101]
 let n:=(B2 L E s1 1).1.text
 let s2:=(B2 L E s1 1).2
 let v:=(B2 L E s2 3).1.value
 match U9 L E f [] (D6 L E (B2 L E s2 3).2 [123]) with
 | none=>none
 | some (l,s3)=>some (⟨n,v,l,p⟩,s3)
def T2:Nat->List Dc->Rd->Option (List Dc × Rd)
 | 0,_,_=>none
 | f+1,l,s =>
  let k:=C4 L E s E1
  if k<0 then some (l,s) else
  let s1:=C8 L E s ((l.length:Int)+1) 128 9
  if okR s1=true then T2 f (l++[(R3 L E k s1).1]) (R3 L E k s1).2 else T2 f l s1
def R9:Nat->List Md->Rd->Option (List Md × Rd)
 | 0,_,_=>none
 | f+1,l,s =>
  if okR s=true/\s.i<L.length then
   if isR L E s [109,111,100,101]=false then some (l,M7 L E s) else
   let s1:=C8 L E s ((l.length:Int)+1) 16 9
   if okR s1=true then
    match A3g L E f s1 with
    | none=>none
    | some (m,s2)=>R9 f (l++[m]) s2
   else R9 f l s1
  else some (l,s)
def A4a (f:Nat) (s:Rd):Option (Ru × Rd) :=
 match T2 L E f [] s with
 | none=>none
 | some (d,s1) =>
  match R9 L E f [] s1 with
  | none=>none
  | some (m,s2)=>some (⟨d,m⟩,s2)
end
end Go.Pb
namespace Go.Sym
variable [Go.Sym.Tab]
open Go.Eng (IC)
def A5n (p:Prop):Prop:=p
theorem G8 {p:Prop} (h:A5n p):p:=h
theorem IW.stage {P:Program} {N:Nat} {x:IC} {T:Tm} {H:Hp} {c:Nat} {Q:Exit->St->Prop} {L:List (Nat × DV)} (hT:C1 L T) (h:IW P N x ⟨tm L,H,c⟩ Q):A5n (IW P N x ⟨T,H,c⟩ Q):=IW.weaken (C6m hT) (Sub.refl _) h
end Go.Sym
namespace Go.Sym
variable [Go.Sym.Tab]
open Go.Eng (KKey)
inductive Mz (id:Nat) (r:DV):DV->DV->Prop where
 | same (d:DV):Mz id r d d
 | mid:Mz id r (.mid id) r
 | agg (a a':List DV) (hl:a.length=a'.length) (h:∀ (i:Nat) x y,a[i]? = some x->a'[i]? = some y->Mz id r x y):Mz id r (.agg a) (.agg a')
 | tup (a a':List DV) (hl:a.length=a'.length) (h:∀ (i:Nat) x y,a[i]? = some x->a'[i]? = some y->Mz id r x y):Mz id r (.tup a) (.tup a')
theorem Mz.rel {ρ ρ':Ren} {id:Nat} {r:DV} (hl : ρ.le ρ') (hr:∀ v,VRel ρ (.mid id) v->VRel ρ' r v) {d d':DV} (h:Mz id r d d'):∀ v,VRel ρ d v->VRel ρ' d' v:=by
 induction h with
 | same d=>exact fun v hv=>hv.mono hl
 | mid=>exact hr
 | agg a a' hl' _ ih =>
  intro v hv;obtain ⟨b,rfl,h1,h2⟩:=hv.agg_inv;refine .agg _ _ (hl'▸h1) fun i x y hx hy=>?_;have hi:i<a.length:=by have:=(A0K.1 hx).1;omega
  exact ih i a[i] x (A0C hi) hx y (h2 i _ y (A0C hi) hy)
 | tup a a' hl' _ ih =>
  intro v hv;obtain ⟨b,rfl,h1,h2⟩:=hv.tup_inv;refine .tup _ _ (hl'▸h1) fun i x y hx hy=>?_;have hi:i<a.length:=by have:=(A0K.1 hx).1;omega
  exact ih i a[i] x (A0C hi) hx y (h2 i _ y (A0C hi) hy)
theorem GL.frzm {H H':Hp} {ds ds':List DV} {id u:Nat} {kd:KKey} {ks vs:List DV} (hb:H id=some ⟨u,true,[.mpc kd ks vs]⟩) (hH:∀ j,H' j=none\/(j≠id/\H' j=H j))
  (hl:ds.length=ds'.length) (hd:∀ (i:Nat) x y,ds[i]? = some x->ds'[i]? = some y->Mz id (.mp kd ks vs) x y):GL H ds H' ds':=by
 refine ⟨fun j hj=>?_,fun ρ w a2 hR hA=>?_⟩
 ·rcases hH j with h0|⟨-,h0⟩
  ·exact absurd h0 hj
  ·rw [<- h0];exact hj
 have back:∀ j bj,H' j=some bj->j≠id/\H j=some bj:=by
  intro j bj hj;rcases hH j with h0|⟨hne,h0⟩
  ·rw [h0] at hj;cases hj
  ·exact ⟨hne,by rw [<- h0];exact hj⟩
 obtain ⟨t,ht,hB⟩:=hR.blk id _ hb;rcases hB with ⟨hm,c,e,fr, -, -, -, -,g5, -⟩|⟨hm, -,hs,es,cl,kd',ks',vs',g1,g2,g3⟩
 ·have:=(g5 0 _ rfl).1;simp [DV.one] at this
 cases g2;have hnone : ρ.fm t.block=none:=by
  cases hf : ρ.fm t.block with
  | none=>rfl
  | some es'=>exact absurd rfl ((hR.frm _ _ hf).2 id _ t hb rfl ht)
 obtain ⟨ρ2,hρ⟩:∃ ρ2:Ren, ρ2=⟨ρ.nm, ρ.fz, ρ.tab,fun k=>if k=t.block then some es else ρ.fm k⟩:=⟨_,rfl⟩;have n1 : ρ2.nm = ρ.nm:=by rw [hρ]
 have n2 : ρ2.fz = ρ.fz:=by rw [hρ]
 have n3:∀ k r, ρ2.fm k=some r->(k=t.block/\r=es) \/ ρ.fm k=some r:=by
  intro k r hk;rw [hρ] at hk;simp only at hk;split at hk
  ·rename_i h;cases hk;exact .inl ⟨h,rfl⟩
  ·exact .inr hk
 have n4 : ρ2.fm t.block=some es:=by rw [hρ];simp
 have hle : ρ.le ρ2:=⟨fun i x h=>by rw [n1];exact h,fun b r h=>by rw [n2];exact h,fun b r h=>by
  rw [hρ];simp only;rw [if_neg (fun e=>by rw [e,hnone] at h;cases h)];exact h⟩
 have hval:∀ v,VRel ρ (.mid id) v->VRel ρ2 (.mp kd ks vs) v:=by
  intro v hv;obtain ⟨t',ht', -,rfl⟩:=hv.mid_inv;rw [ht] at ht';cases ht';obtain ⟨a1,a2,a3,a4,a5⟩:=g3;exact .mp kd ks vs t.block es n4 a1 a2 a3 (fun i x e hx he=>(a4 i x e hx he).mono hle) (fun i x e hx he=>(a5 i x e hx he).mono hle)
 refine ⟨ρ2,n1,⟨fun j bj hj=>?_,fun i j bi bj ti tj hi hj hij h1 h2 ho=>?_,fun k r hk=>?_,fun j bj tj hj ho hjt=>?_,fun k r hk=>?_⟩,⟨hl▸hA.1,fun i x y hx hy=>?_⟩,?_⟩
 ·rw [n1];obtain ⟨-,h1⟩:=back j bj hj;obtain ⟨tj,q1,q2⟩:=hR.blk j bj h1;exact ⟨tj,q1,q2.mono hle⟩
 ·rw [n1] at h1 h2;exact hR.sep i j bi bj ti tj (back i bi hi).2 (back j bj hj).2 hij h1 h2 ho
 ·rw [n2] at hk;exact hR.frz k r hk
 ·rw [n1] at hjt;rw [n2];exact hR.dis j bj tj (back j bj hj).2 ho hjt
 ·rcases n3 k r hk with ⟨rfl,rfl⟩|h1
  ·refine ⟨⟨cl,g1⟩,fun j bj tj hj ho hjt=>?_⟩;rw [n1] at hjt;obtain ⟨hne,h2⟩:=back j bj hj;exact hR.sep j id bj _ tj t h2 hb hne hjt ht ho
  ·refine ⟨(hR.frm k r h1).1,fun j bj tj hj ho hjt=>?_⟩;rw [n1] at hjt;exact (hR.frm k r h1).2 j bj tj (back j bj hj).2 ho hjt
 ·have hi:i<ds.length:=by have:=(A0K.1 hx).1;omega
  exact (hd i ds[i] x (A0C hi) hx).rel hle hval y (hA.2 i _ y (A0C hi) hy)
 ·refine ⟨hle,rfl,rfl,rfl,A0I _,fun _ _ _=>rfl,fun j bj tj hj hjt=>?_,fun k r hk=>.inl (by rw [<- n2];exact hk),fun k r hk=>?_⟩
  ·rw [n1] at hjt;exact .inr ⟨j,bj,tj,(back j bj hj).2,fun h=>h,hjt,rfl⟩
  ·rcases n3 k r hk with ⟨rfl,rfl⟩|h1
   ·exact .inr (.inr ⟨id,_,t,hb,rfl,ht,rfl⟩)
   ·exact .inl h1
theorem C0i {H:Hp} {id u:Nat} {kd:KKey} {ks vs:List DV} (hb:H id=some ⟨u,true,[.mpc kd ks vs]⟩):∃ H2,GL H [.mid id] H2 [.mp kd ks vs] :=
 ⟨nil,GL.frzm hb (fun j=>.inl rfl) rfl (fun i x y hx hy=>by
  match i with
  | 0=>cases hx;cases hy;exact .mid
  | _+1=>cases hx)⟩
theorem A4o {a b:List UInt8}:A7f (.str a) (.str b)=(a == b):=id rfl
theorem A4m {s:List UInt8}:∀ (l:List (List UInt8)) (i:Nat),(E4 (.str s) (l.map DV.str) i).isSome=l.contains s
 | [],i=>rfl
 | x :: r,i=>by
  simp only [A0Z,E4,A4o,List.contains_cons];cases h:s == x with
  | true=>simp
  | false=>simp [A4m r (i+1)]
theorem A7a {s:List UInt8} {l:List (List UInt8)} (h:l.contains s=false) (i:Nat):E4 (.str s) (l.map DV.str) i=none:=by
 have:=A4m (s:=s) l i;rw [h] at this;cases hm:E4 (.str s) (l.map DV.str) i with
 | none=>rfl
 | some j=>rw [hm] at this;cases this
theorem B4g {s:List UInt8} {l:List (List UInt8)} (h:l.contains s=true) (i:Nat):∃ j,E4 (.str s) (l.map DV.str) i=some j:=by
 have:=A4m (s:=s) l i;rw [h] at this;cases hm:E4 (.str s) (l.map DV.str) i with
 | none=>rw [hm] at this;cases this
 | some j=>exact ⟨j,rfl⟩
theorem A7b {k:DV}:∀ {ks:List DV} {i j:Nat},E4 k ks i=some j->i<=j/\j<i+ks.length
 | [],i,j,h=>by cases h
 | x :: r,i,j,h=>by
  simp only [E4] at h;split at h
  ·cases h;simp
  ·have:=A7b h;simp only [A0E];omega
end Go.Sym
namespace Go.Sym
variable [Go.Sym.Tab]
open Go.Eng (I1)
open Go.RowKit
variable {P:Program}
theorem PC.of_callsF {f:Nat} {args:List DV} {r:DV} (hc:I1 P f=true) (na:DV.nlL args=true) (nr:r.nl=true)
  (h:∀ (ρ : Ren) (w:World) (vs:Array Value),(∀ b r, ρ.fz b=some r->∃ e fr,w.heap[b]? = some (.cells r e fr))->F2 ρ args vs ->
   Calls P f vs w fun e w' => ∃ v' b row ty fr,e=.returned v'/\w.heap.size<=b/\w'.heap[b]? = some (.cells row ty fr)/\(∀ ρ':Ren, ρ'.fz b=some row->VRel ρ' r v')/\Below w.heap.size w w'):PC P f args r:=by
 refine ⟨na,nr,hc,fun ρ w vs hR hf hA=>?_⟩;refine (h ρ w vs hR.frz hA).mono ?_;rintro e w' ⟨v',b,row,ty,fr,rfl,hb,hrow,hv,b1,b2,b3,b4,b5⟩;have hnone : ρ.fz b=none:=by
  cases hz : ρ.fz b with
  | none=>rfl
  | some r=>have:=hR.flt hz;omega
 have hfz:(ρ.frz b row hnone).fz b=some row:=by simp [Ren.frz]
 refine ⟨r,v',nil,0, ρ.frz b row hnone,rfl,rfl,hv _ hfz,⟨fun id b h=>(by cases h),fun i j bi bj ti tj h=>(by cases h),fun k r' hk=>?_,fun id b t h=>(by cases h),fun k r' hk=>⟨?_,fun id b t h=>(by cases h)⟩⟩,hf,A0I _,fun id hid h=>absurd rfl h,fun _ _=>rfl,
  ⟨Ren.le_frz hnone,b1,b2,b3,b4,fun k hk _=>b5 k hk,fun id b t h1=>(by cases h1),fun k r' hk=>?_,fun k r h=>.inl h⟩⟩
 ·simp only [Ren.frz] at hk;split at hk
  ·rename_i hkb;cases hk;rw [hkb];exact ⟨ty,fr,hrow⟩
  ·obtain ⟨e,fr,h1⟩:=hR.frz k r' hk;exact ⟨e,fr,by rw [b5 k (hR.flt hk)];exact h1⟩
 ·obtain ⟨⟨cl,h1⟩, -⟩:=hR.frm k r' hk;exact ⟨cl,by rw [b5 k (A0Y.1 h1).1];exact h1⟩
 ·simp only [Ren.frz] at hk;split at hk
  ·rename_i hkb;subst hkb;exact .inr (.inl hb)
  ·exact .inl hk
theorem VRel.strs {ρ : Ren} {l:List (List UInt8)} {b n c:Nat} (h : ρ.fz b=some ((l.map fun s=>Value.string ⟨s.toArray⟩).toArray)) (hn:n=l.length) (hc:n<=c) (hm:c<=maxLen) :
  VRel ρ (.lst (l.map DV.str)) (.slice (some ⟨b,0,none⟩) n c):=by
 have hcl:A4 (l.map DV.str)=l.map DV.str:=by
  clear h hn
  induction l with
  | nil=>rfl
  | cons x r ih =>
   have:A4 ((x :: r).map DV.str)=[DV.str x]++A4 (r.map DV.str):=rfl;rw [this,ih];rfl
 refine .lst _ n 1 b 0 c _ h (by simpa using hn) hc hm (fun x hx=>by obtain ⟨y, -,rfl⟩:=A1Z.1 hx;rfl) ?_ ?_ ?_
 ·rw [hcl];simp
 ·rw [hcl];intro d hd;obtain ⟨y, -,rfl⟩:=A1Z.1 hd;rfl
 ·rw [hcl];intro k d v hd hv;rw [A2F] at hd;obtain ⟨s,hs,rfl⟩:=A0Q.1 hd;simp only [A1N,A1F,A2F,hs,A3D,Option.some.injEq] at hv;subst hv;exact .mkStr
end Go.Sym
namespace Go.Proofs.YtnmkkggfgdfmeaaGreatDoor
open Go.Eng (IC IOper DReg IFn A7)
open Go.Sym Go.Pb
theorem B0h {H:Hp} {cc j:Nat} {b:Blk} (hfr:∀ i,cc<=i->H i=none) (h:H j=some b):j≠cc:=by
 rintro rfl;rw [hfr _ (A0I _)] at h;cases h
theorem A4p {H:Hp} {cc:Nat} {b:Blk} {ds:List DV} (hfr:∀ i,cc<=i->H i=none):GL (H.upd cc b) ds H ds:=GL.less' fun j b hj=>by rw [A2 (B0h hfr hj)];exact hj
theorem Q8 {K H':Hp} {cc:Nat} {ds:List DV} (hK:∀ i,cc<=i->K i=none) (h:∀ j,j<cc->H' j=K j):GL H' ds K ds:=GL.less fun j=>by
 by_cases hj:j<cc
 ·exact .inr (h j hj).symm
 ·exact .inl (hK j (by omega))
theorem D5 {H:Hp} {cc t:Nat} {b:Blk} (hfr:∀ i,cc<=i->H i=none) (htc:t<cc):∀ i,cc<=i->H.upd t b i=none:=fun i hi=>by rw [A2 (by omega)];exact hfr i hi
theorem rv4 {s:Sym.St} {x i u:Nat} {a b c d:DV} {o:Bool} (h:s.T x=.ptr i 0) (hb:s.H i=some ⟨u,o,[a,b,c,d]⟩):A4e s [.cell x 4 true]=some (.agg [a,b,c,d]):=by
 simp only [A4e,A2h,h,ldv,ldB,hb];rfl
theorem c_rdok (L:List Tok) (E:Int) (s:Rd) (H:Hp) (cc t:Nat) (ht:H t=some (rdR L E s)) (htc:t<cc):AC Tryz.prog 38 [.ptr t 0] H cc (fun v H' c'=>v=.bool (okR s)/\H'=H):=by
 refine AC.body A9 isU38 (A0B rfl) fun hfr=>?_;show IW Tryz.prog 8 u38_1 ⟨B7 _,_,_⟩ (rt [.tmp 2] _);repeat' ((with_reducible apply wr)<;>try simp only [go_sem,seval,ht])
 exact ⟨_,_,GL.refl _ _,rfl,rfl⟩
theorem c_peek (L:List Tok) (E:Int) (s:Rd) (H:Hp) (cc t:Nat) (ht:H t=some (rdR L E s)) (htc:t<cc):AC Tryz.prog 94 [.ptr t 0] H cc (fun v H' c'=>v=(B8 L E s).v/\H'=H):=by
 refine AC.body A9 isU94 (A0B rfl) fun hfr=>?_;show IW Tryz.prog 28 u94_1 ⟨B7 _,_,_⟩ (rt [.cell 2 4 true] _);have ne0:=L2 t cc (by omega);by_cases hlt:s.i<L.length
 ·have hd:decide ((s.i:Int)<L.length)=true:=by simpa using hlt
  have hg:=A0C hlt;have e:B8 L E s=L[s.i]:=by unfold B8;rw [A1C,hg];rfl
  rw [e];generalize L[s.i]=a at hg;repeat' ((with_reducible apply wr)<;>try simp only [go_sem,seval,ht,hd,hg,ne0,A0,A1])
  rw [E7 (v:=a.v) (rv4 rfl A0)];exact ⟨_,_,A4p hfr,rfl,rfl⟩
 ·have hd:decide ((s.i:Int)<L.length)=false:=by simpa using hlt
  have e:B8 L E s=⟨0,[],0,E⟩:=by unfold B8;rw [A1C,A2J (by omega)];rfl
  rw [e];repeat' ((with_reducible apply wr)<;>try simp only [go_sem,seval,ht,hd,ne0,A0,A1])
  rw [E7 (v:=Tok.v ⟨0,[],0,E⟩) (rv4 rfl A0)];exact ⟨_,_,A4p hfr,rfl,rfl⟩
theorem c_fail (L:List Tok) (E:Int) (s:Rd) (H:Hp) (cc t:Nat) (ht:H t=some (rdR L E s)) (htc:t<cc) (p e:Int):AC Tryz.prog 93 [.ptr t 0,I64 p,I64 e] H cc (fun v H' c'=>v=.tup []/\H'=H.upd t (rdR L E (K9 s p e))):=by
 refine AC.body A9 isU93 (A0B rfl) fun hfr=>?_;show IW Tryz.prog 19 u93_1 ⟨B7 _,_,_⟩ (rt [] _);cases h:okR s with
 | true =>
  have e0:K9 s p e = { s with e:=e,pos:=p }:=by rw [K9,if_pos h]
  have h':(s.e == 0)=true:=h;rw [e0];repeat' ((with_reducible apply wr)<;>try simp only [go_sem,seval,ht,h',h,A0,A1])
  exact ⟨_,_,GL.refl _ _,rfl,rfl⟩
 | false =>
  have e0:K9 s p e=s:=by rw [K9,if_neg (by simp [h])]
  have h':(s.e == 0)=false:=h;rw [e0];repeat' ((with_reducible apply wr)<;>try simp only [go_sem,seval,ht,h',h,A0,A1])
  refine ⟨_,_,GL.refl _ _,rfl,?_⟩
  funext j
  by_cases ej:j=t
  ·subst ej;rw [A0,ht]
  ·rw [A2 ej]
theorem upd_same {H:Hp} {t:Nat} {b:Blk} (h:H t=some b):H.upd t b=H:=by
 funext j
 by_cases ej:j=t
 ·subst ej;rw [A0,h]
 ·rw [A2 ej]
theorem c_is (L:List Tok) (E:Int) (s:Rd) (H:Hp) (cc t:Nat) (ht:H t=some (rdR L E s)) (htc:t<cc) (x:List UInt8):AC Tryz.prog 76 [.ptr t 0,.str x] H cc (fun v H' c'=>v=.bool (isR L E s x)/\H'=H):=by
 refine AC.body A9 isU76 (A0B rfl) fun hfr=>?_;show IW Tryz.prog 26 u76_1 ⟨B7 _,_,_⟩ (rt [.tmp 4] _);repeat' ((with_reducible apply wr)<;>try simp only [go_sem,seval])
 refine AC.call (c_peek L E s _ _ t ht (by omega)) ?_;rintro v H' c1 ⟨rfl,rfl⟩ hc;have ne0:=L2 t c1 (by omega);simp only [go_sem,seval,ne0,A0,A1];repeat' ((with_reducible apply wr)<;>try simp only [go_sem,seval,ne0,A0,A1])
 refine AC.call (c_rdok L E s _ _ t (by rw [A2 (by omega)];exact ht) (by omega)) ?_;rintro v H' c2 ⟨rfl,rfl⟩ hc2;simp only [go_sem,seval,ne0,A0,A1];repeat' ((with_reducible first|refine wr ?_|refine wb2 ?_ ?_<;>(intro hb;try simp only [hb])|fail)<;>try simp only [go_sem,seval,ne0,A0,A1])
 all_goals exact ⟨_,_,A4p (fun i hi=>hfr i (by omega)),by simp_all [isR],rfl⟩
theorem c_isKind (L:List Tok) (E:Int) (s:Rd) (H:Hp) (cc t:Nat) (ht:H t=some (rdR L E s)) (htc:t<cc) (k:Int):AC Tryz.prog 141 [.ptr t 0,I64 k] H cc (fun v H' c'=>v=.bool (I9 L E s k)/\H'=H):=by
 refine AC.body A9 isU141 (A0B rfl) fun hfr=>?_;show IW Tryz.prog 14 u141_1 ⟨B7 _,_,_⟩ (rt [.tmp 4] _);repeat' ((with_reducible apply wr)<;>try simp only [go_sem,seval])
 refine AC.call (c_rdok L E s _ _ t ht (by omega)) ?_;rintro v H' c1 ⟨rfl,rfl⟩ hc;by_cases h:okR s=true
 ·simp only [go_sem,seval,h];repeat' ((with_reducible apply wr)<;>try simp only [go_sem,seval,h])
  refine AC.call (c_peek L E s _ _ t ht (by omega)) ?_;rintro v H' c2 ⟨rfl,rfl⟩ hc2;simp only [go_sem,seval,h];repeat' ((with_reducible apply wr)<;>try simp only [go_sem,seval,h])
  exact ⟨_,_,GL.refl _ _,by rw [I9,h];rfl,rfl⟩
 ·have h:okR s=false:=by simpa using h
  simp only [go_sem,seval,h];repeat' ((with_reducible apply wr)<;>try simp only [go_sem,seval,h])
  exact ⟨_,_,GL.refl _ _,by rw [I9,h];rfl,rfl⟩
theorem c_syntax (L:List Tok) (E:Int) (s:Rd) (H:Hp) (cc t:Nat) (ht:H t=some (rdR L E s)) (htc:t<cc):AC Tryz.prog 52 [.ptr t 0] H cc (fun v H' c'=>v=.tup []/\H'=H.upd t (rdR L E (M7 L E s))):=by
 refine AC.body A9 isU52 (A0B rfl) fun hfr=>?_;show IW Tryz.prog 7 u52_1 ⟨B7 _,_,_⟩ (rt [] _);repeat' ((with_reducible apply wr)<;>try simp only [go_sem,seval])
 refine AC.call (c_peek L E s _ _ t ht (by omega)) ?_;rintro v H' c1 ⟨rfl,rfl⟩ hc;simp only [go_sem,seval];repeat' ((with_reducible apply wr)<;>try simp only [go_sem,seval])
 refine AC.call (c_fail L E s _ _ t ht (by omega) _ _) ?_;rintro v H' c2 ⟨rfl,rfl⟩ hc2;simp only [go_sem,seval];repeat' ((with_reducible apply wr)<;>try simp only [go_sem,seval])
 exact ⟨_,_,GL.refl _ _,rfl,rfl⟩
theorem c_limit (L:List Tok) (E:Int) (s:Rd) (H:Hp) (cc t:Nat) (ht:H t=some (rdR L E s)) (htc:t<cc) (n m e:Int):AC Tryz.prog 74 [.ptr t 0,I64 n,I64 m,I64 e] H cc (fun v H' c'=>v=.tup []/\H'=H.upd t (rdR L E (C8 L E s n m e))):=by
 refine AC.body A9 isU74 (A0B rfl) fun hfr=>?_;show IW Tryz.prog 17 u74_1 ⟨B7 _,_,_⟩ (rt [] _);by_cases h:m<n
 ·have hd:decide (n>m)=true:=by simpa using h
  have e0:C8 L E s n m e=K9 s (B8 L E s).pos e:=by rw [C8,if_pos h]
  rw [e0];repeat' ((with_reducible apply wr)<;>try simp only [go_sem,seval,hd])
  refine AC.call (c_peek L E s _ _ t ht (by omega)) ?_;rintro v H' c1 ⟨rfl,rfl⟩ hc;simp only [go_sem,seval];repeat' ((with_reducible apply wr)<;>try simp only [go_sem,seval])
  refine AC.call (c_fail L E s _ _ t ht (by omega) _ _) ?_;rintro v H' c2 ⟨rfl,rfl⟩ hc2;simp only [go_sem,seval];repeat' ((with_reducible apply wr)<;>try simp only [go_sem,seval])
  exact ⟨_,_,GL.refl _ _,rfl,rfl⟩
 ·have hd:decide (n>m)=false:=by simpa using h
  have e0:C8 L E s n m e=s:=by rw [C8,if_neg h]
  rw [e0];repeat' ((with_reducible apply wr)<;>try simp only [go_sem,seval,hd])
  exact ⟨_,_,GL.refl _ _,rfl,(upd_same ht).symm⟩
theorem c_expect (L:List Tok) (E:Int) (s:Rd) (H:Hp) (cc t:Nat) (ht:H t=some (rdR L E s)) (htc:t<cc) (hi:s.i<=10000000000) (x:List UInt8):AC Tryz.prog 116 [.ptr t 0,.str x] H cc (fun v H' c'=>v=.tup []/\H'=H.upd t (rdR L E (D6 L E s x))):=by
 refine AC.body A9 isU116 (A0B rfl) fun hfr=>?_;show IW Tryz.prog 17 u116_1 ⟨B7 _,_,_⟩ (rt [] _);repeat' ((with_reducible apply wr)<;>try simp only [go_sem,seval])
 refine AC.call (c_is L E s _ _ t ht (by omega) x) ?_;rintro v H' c1 ⟨rfl,rfl⟩ hc;cases h:isR L E s x with
 | false =>
  have e0:D6 L E s x=M7 L E s:=by rw [D6,if_pos h]
  rw [e0];simp only [go_sem,seval,h];repeat' ((with_reducible apply wr)<;>try simp only [go_sem,seval,h])
  refine AC.call (c_syntax L E s _ _ t ht (by omega)) ?_;rintro v H' c2 ⟨rfl,rfl⟩ hc2;simp only [go_sem,seval];repeat' ((with_reducible apply wr)<;>try simp only [go_sem,seval])
  exact ⟨_,_,GL.refl _ _,rfl,rfl⟩
 | true =>
  have hw:IntKind.i64.wrap ((s.i:Int)+1)=((s.i+1:Nat):Int):=by rw [w64 (by omega) (by omega)];omega
  have e0:D6 L E s x=B1 s:=by rw [D6,if_neg (by simp [h])]
  rw [e0];simp only [go_sem,seval,h];repeat' ((with_reducible apply wr)<;>try simp only [go_sem,seval,h,ht,hw,A0,A1])
  exact ⟨_,_,GL.refl _ _,rfl,rfl⟩
theorem c_take (L:List Tok) (E:Int) (s:Rd) (H:Hp) (cc t:Nat) (ht:H t=some (rdR L E s)) (htc:t<cc) (hi:s.i<=10000000000) (k:Int):AC Tryz.prog 115 [.ptr t 0,I64 k] H cc (fun v H' c'=>v=(B2 L E s k).1.v/\H'=H.upd t (rdR L E (B2 L E s k).2)):=by
 refine AC.body A9 isU115 (A0B rfl) fun hfr=>?_;show IW Tryz.prog 23 u115_1 ⟨B7 _,_,_⟩ (rt [.cell 4 4 true] _);repeat' ((with_reducible apply wr)<;>try simp only [go_sem,seval])
 refine AC.call (c_peek L E s _ _ t (by rw [A2 (by omega)];exact ht) (by omega)) ?_;rintro v H' c1 ⟨rfl,rfl⟩ hc;have ne0:=T8 t cc c1 (by omega);simp only [go_sem,seval,ne0,A0];repeat' ((with_reducible apply wr)<;>try simp only [go_sem,seval,ne0,A0])
 refine AC.call (c_isKind L E s _ _ t (by rw [A2 (by omega),A2 (by omega),A2 (by omega)];exact ht) (by omega) k) ?_;rintro v H' c2 ⟨rfl,rfl⟩ hc2;cases h:I9 L E s k with
 | false =>
  have e0:B2 L E s k=(Q3,M7 L E s):=by rw [B2,if_pos h]
  rw [e0];simp only [go_sem,seval,ne0,h,A0,A1];repeat' ((with_reducible apply wr)<;>try simp only [go_sem,seval,ne0,h,A0,A1])
  refine AC.call (c_syntax L E s _ _ t (by rw [A2 (by omega),A2 (by omega)];exact ht) (by omega)) ?_;rintro v H' c3 ⟨rfl,rfl⟩ hc3;simp only [go_sem,seval,ne0,A0,A1];repeat' ((with_reducible apply wr)<;>try simp only [go_sem,seval,ne0,A0,A1])
  rw [E7 (v:=Q3.v) (rv4 rfl A0)];exact ⟨_,_,Q8 (D5 hfr htc) (fun j hj=>by simp [Hp.upd,show ¬j=cc by omega,show ¬j=c1 by omega]),rfl,rfl⟩
 | true =>
  have hw:IntKind.i64.wrap ((s.i:Int)+1)=((s.i+1:Nat):Int):=by rw [w64 (by omega) (by omega)];omega
  have e0:B2 L E s k=(B8 L E s,B1 s):=by rw [B2,if_neg (by simp [h])]
  rw [e0];simp only [go_sem,seval,ne0,h,A0,A1];repeat' ((with_reducible apply wr)<;>try simp only [go_sem,seval,ne0,ht,hw,h,A0,A1])
  rw [E7 (v:=(B8 L E s).v) (rv4 rfl A0)];exact ⟨_,_,Q8 (D5 hfr htc) (fun j hj=>by simp [Hp.upd,show ¬j=cc by omega,show ¬j=c1 by omega];rfl),rfl,rfl⟩
theorem c_name (L:List Tok) (E:Int) (s:Rd) (H:Hp) (cc t:Nat) (ht:H t=some (rdR L E s)) (htc:t<cc) (hi:s.i<=10000000000):AC Tryz.prog 114 [.ptr t 0] H cc (fun v H' c'=>v=.str (B2 L E s 1).1.text/\H'=H.upd t (rdR L E (B2 L E s 1).2)):=by
 refine AC.body A9 isU114 (A0B rfl) fun hfr=>?_;show IW Tryz.prog 6 u114_1 ⟨B7 _,_,_⟩ (rt [.tmp 2] _);repeat' ((with_reducible apply wr)<;>try simp only [go_sem,seval])
 refine AC.call (c_take L E s _ _ t ht (by omega) hi 1) ?_;rintro v H' c1 ⟨rfl,rfl⟩ hc;simp only [go_sem,seval];repeat' ((with_reducible apply wr)<;>try simp only [go_sem,seval])
 exact ⟨_,_,GL.refl _ _,rfl,rfl⟩
abbrev A1y (l:List (List UInt8)):DV:=.lst (l.map DV.str)
theorem c_among (L:List Tok) (E:Int) (s:Rd) (H:Hp) (cc t:Nat) (ht:H t=some (rdR L E s)) (htc:t<cc) (l:List (List UInt8)) (hl:l.length<=1000000):AC Tryz.prog 72 [.ptr t 0,A1y l] H cc (fun v H' c'=>v=I64 (C4 L E s l)/\H'=H):=by
 refine AC.body A9 isU72 (A0B rfl) fun hfr=>?_;show IW Tryz.prog 19 u72_1 ⟨B7 _,_,_⟩ (rt [.tmp 4] _);repeat' ((with_reducible apply wr)<;>try simp only [go_sem,seval])
 refine B9 (fun k:Nat=>[(0,.ptr t 0),(1,A1y l),(5,I64 k)]) (fun _=>H) (fun k c=>cc<=c/\k<=l.length/\C4 L E s l=Y8 L E s k (l.drop k)) (fun k=>l.length-k) 0 (by simp [C1,tm,Tm.upd]) (Sub.refl _) ⟨by omega,by simp,rfl⟩ ?_;rintro k c ⟨hc,hk,hv⟩;by_cases hlt:k<l.length
 ·have hd:decide ((k:Int)<l.length)=true:=by simpa using hlt
  have hg:=A0C hlt;have hw:IntKind.i64.wrap ((k:Int)+1)=((k+1:Nat):Int):=by rw [w64 (by omega) (by omega)];omega
  rw [A1B hlt,Y8] at hv;generalize l[k]=a at hg hv;repeat' ((with_reducible apply wr)<;>try simp only [go_sem,seval,hd,hg])
  refine AC.call (c_is L E s _ _ t ht (by omega) a) ?_;rintro v H' c1 ⟨rfl,rfl⟩ hc1;cases h:isR L E s a with
  | true =>
   rw [if_pos h] at hv;rw [hv];simp only [go_sem,seval,h];repeat' ((with_reducible apply wr)<;>try simp only [go_sem,seval,h])
   exact ⟨_,_,GL.refl _ _,rfl,rfl⟩
  | false =>
   rw [if_neg (by simp [h])] at hv;simp only [go_sem,seval,h,hw];repeat' ((with_reducible apply wr)<;>try simp only [go_sem,seval,h,hw])
   exact ⟨k+1,rfl,Sub.refl _,inv ⟨by omega,hlt,hv⟩,by omega⟩
 ·have hd:decide ((k:Int)<l.length)=false:=by simpa using hlt
  have hk:k=l.length:=by omega
  rw [hk,List.drop_length,Y8] at hv;rw [hv];repeat' ((with_reducible apply wr)<;>try simp only [go_sem,seval,hd])
  exact ⟨_,_,GL.refl _ _,rfl,rfl⟩
theorem B4w (l:List (List UInt8)):A4 (l.map DV.str)=l.map DV.str:=A0x (fun _=>rfl) l
theorem c_amongO (L:List Tok) (E:Int) (s:Rd) (K:Hp) (cc t b:Nat) (hK:K b=none) (ht:K t=some (rdR L E s)) (htc:t<cc) (l:List (List UInt8)) (hl:l.length<=1000000) :
  AC Tryz.prog 72 [.ptr t 0,.slc b 0 l.length] (K.upd b ⟨1,true,l.map DV.str⟩) cc (fun v H' c'=>v=I64 (C4 L E s l)/\H'=K) :=
 AC.ghost (GL.frzS (id:=b) A0 rfl (fun j=>by
  by_cases e:j=b
  ·subst e;exact .inl hK
  ·exact .inr ⟨e,(A2 e).symm⟩) (.cons _ _ _ _ (.same _) (.cons _ _ _ _ (P1 (u:=1) (by simp) (I4 _) ⟨[],by rw [A1T,B4w]⟩) .nil))) (c_among L E s K cc t ht htc l hl)
theorem v_ex {ρ : Ren} {v:Value} {a b c e:DV} (h:VRel ρ (.agg [a,b,c,.snil,e]) v):VRel ρ (.agg [a,b,c,.lst [],e]) v:=by
 obtain ⟨bb,rfl,k1,k2⟩:=h.agg_inv;refine .agg _ _ k1 fun j x y hx hy=>?_
 match j with
 | 0=>cases hx;exact k2 0 _ y rfl hy
 | 1=>cases hx;exact k2 1 _ y rfl hy
 | 2=>cases hx;exact k2 2 _ y rfl hy
 | 3=>cases hx;exact (k2 3 _ y rfl hy).snil_lst
 | 4=>cases hx;exact k2 4 _ y rfl hy
 | _+5=>cases hx
theorem A7i {K H':Hp} {cc:Nat} {a b c e:DV} (hK:∀ i,cc<=i->K i=none) (h:∀ j,j<cc->H' j=K j):GL H' [.agg [a,b,c,.snil,e]] K [.agg [a,b,c,.lst [],e]] :=
 (Q8 hK h).trans (GL.view fun ρ vs hA=>P8 (fun v h=>v_ex h) vs hA)
theorem rv5 {s:Sym.St} {x i u:Nat} {a b c d e:DV} {o:Bool} (h:s.T x=.ptr i 0) (hb:s.H i=some ⟨u,o,[a,b,c,d,e]⟩):A4e s [.cell x 5 true]=some (.agg [a,b,c,d,e]):=by
 simp only [A4e,A2h,h,ldv,hb];rfl
theorem A2p (L:List Tok) (E:Int) (s:Rd):∀ (l:List (List UInt8)) (k:Nat), -1<=Y8 L E s k l/\Y8 L E s k l<((k+l.length:Nat):Int)
 | [],k=>by simp [Y8];omega
 | x :: l,k=>by
  have:=A2p L E s l (k+1);unfold Y8;split
  ·simp only [A0E];omega
  ·simp only [A0E];omega
theorem D2o {L:List Tok} {E:Int} {s:Rd} {n m e:Int}:(C8 L E s n m e).i=s.i:=by unfold C8 K9;split<;>(try split)<;>rfl
abbrev tkB (a:Tok):Blk:=⟨0,true,[I64 a.kind,.str a.text,I64 a.value,I64 a.pos]⟩
abbrev C1x:Blk:=⟨0,true,[I64 0,I64 0,.str [],.snil,I64 0]⟩
theorem c_primary (L:List Tok) (E:Int) (s:Rd) (H:Hp) (cc t:Nat) (ht:H t=some (rdR L E s)) (htc:t<cc) (hi:s.i<=9999999999) (ho:0<=s.ops/\s.ops<=100):AC Tryz.prog 151 [.ptr t 0] H cc (fun v H' c'=>v=(I5 L E s).1.v/\H'=H.upd t (rdR L E (I5 L E s).2)):=by
 refine AC.body A9 isU151 (A0B rfl) fun hfr=>?_;show IW Tryz.prog 78 u151_1 ⟨B7 _,_,_⟩ (rt [.cell 2 5 true] _);repeat' ((with_reducible apply wr)<;>try simp only [go_sem,seval])
 refine AC.call (c_peek L E s _ _ t (by rw [A2 (by omega)];exact ht) (by omega)) ?_;rintro v H' c1 ⟨rfl,rfl⟩ hc;have ne0:=W0 t cc c1 (c1+1) (by omega);simp only [go_sem,seval,ne0,A0,A1];repeat' ((with_reducible apply wr)<;>try simp only [go_sem,seval,ne0,A0,A1])
 have ham:=c_amongO L E s ((H.upd cc ⟨0,true,[I64 0,I64 0,.str [],.snil,I64 0]⟩).upd c1 ⟨0,true,[I64 (B8 L E s).kind,.str (B8 L E s).text,I64 (B8 L E s).value,I64 (B8 L E s).pos]⟩) (c1+1+1) t (c1+1) (by rw [A2 (by omega),A2 (by omega)];exact hfr _ (by omega)) (by rw [A2 (by omega),A2 (by omega)];exact ht) (by omega) R1 (by decide);refine AC.call ham ?_;rintro v H' c2 ⟨rfl,rfl⟩ hc2;have hpr:I5 L E s=I5 L E s:=rfl
 conv at hpr=>rhs;unfold I5
 have hkr : -1<=C4 L E s R1/\C4 L E s R1<7:=A2p L E s R1 0;generalize C4 L E s R1=k at hpr hkr;have hk0 : -1<=k/\k<7:=hkr;have hw:IntKind.i64.wrap (s.ops+1)=s.ops+1:=w64 (by omega) (by omega);have tail:∀ c3,c2<=c3->¬(k<0/\I9 L E s 3=false/\I9 L E s 1=false)->IW Tryz.prog 78 u151_9 ⟨tm [(0,.ptr t 0),(2,.ptr cc 0),(3,.ptr c1 0),(4,I64 k),(22,.bool false)],(H.upd cc C1x).upd c1 (tkB (B8 L E s)),c3⟩ (rt [.cell 2 5 true] fun v H' c' => ∃ v2 H2,GL H' [v] H2 [v2]/\v2=(I5 L E s).1.v/\H2=H.upd t (rdR L E (I5 L E s).2)):=by
  intro c3 hc3 hcd;rw [if_neg hcd] at hpr;dsimp only at hpr;repeat' ((with_reducible apply wr)<;>try simp only [go_sem,seval,ht,hw,ne0,A0,A1])
  refine AC.call (c_limit L E { s with ops:=s.ops+1 } _ _ t A0 (by omega) _ _ _) ?_;rintro v H' c4 ⟨rfl,rfl⟩ hc4;have hi2:(C8 L E { s with ops:=s.ops+1 } (s.ops+1) 32 9).i=s.i:=D2o;generalize C8 L E { s with ops:=s.ops+1 } (s.ops+1) 32 9=s2 at *;simp only [go_sem,seval,A1];repeat' ((with_reducible apply wr)<;>try simp only [go_sem,seval,A1])
  refine AC.call (c_rdok L E s2 _ _ t A0 (by omega)) ?_;rintro v H' c5 ⟨rfl,rfl⟩ hc5;have hG:∀ (b5:Blk) (j:Nat),j<cc->(((H.upd cc b5).upd c1 (tkB (B8 L E s))).upd t (rdR L E s2)) j=(H.upd t (rdR L E s2)) j:=fun b5 j hj=>by simp [Hp.upd,show ¬j=cc by omega,show ¬j=c1 by omega]
  cases h2:okR s2 with
  | false =>
   rw [if_pos h2] at hpr;rw [hpr];simp only [go_sem,seval,h2];repeat' ((with_reducible apply wr)<;>try simp only [go_sem,seval,h2,ne0,A0,A1])
   rw [E7 (v:=.agg [I64 0,I64 0,.str [],.snil,I64 0]) (rv5 rfl A0)];refine ⟨_,_,A7i (cc:=cc) (D5 hfr htc) (fun j hj=>?_),rfl,rfl⟩;simp [Hp.upd,show ¬j=cc by omega,show ¬j=c1 by omega]
  | true =>
   rw [if_neg (by simp [h2])] at hpr;have hw2:IntKind.i64.wrap ((s2.i:Int)+1)=((s2.i+1:Nat):Int):=by rw [w64 (by omega) (by omega)];omega
   simp only [go_sem,seval,h2];by_cases hk1:0<=k
   ·rw [if_pos hk1] at hpr;have hd1:decide (k≥0)=true:=by simpa using hk1
    have ne0:=A0q t cc c1 c5 (c5+7) (by omega);by_cases h4:4<=k
    ·rw [if_pos h4] at hpr;rw [hpr];rcases (show k=4\/k=5\/k=6 by omega) with rfl|rfl|rfl
     all_goals
      repeat' ((with_reducible apply wr)<;>try simp only [go_sem,seval,h2,hw2,hd1,ne0,A0,A1])
      refine AC.call (c_name L E (B1 s2) _ _ t (by repeat (first|exact A0|rw [A2 (by omega)])) (by omega) (by show s2.i+1<=10000000000;omega)) ?_;rintro v H' c6 ⟨rfl,rfl⟩ hc6;simp only [go_sem,seval,ne0,A0,A1];repeat' ((with_reducible apply wr)<;>try simp only [go_sem,seval,ne0,A0,A1])
      rw [E7 (rv5 rfl A0)];refine ⟨_,_,A7i (cc:=cc) (D5 hfr htc) (fun j hj=>?_),rfl,rfl⟩;simp [Hp.upd,show ¬j=cc by omega,show ¬j=c1 by omega,show ¬j=c5 by omega,show ¬j=c5+7 by omega];try (split<;>rfl)
    ·rw [if_neg h4] at hpr;rw [hpr];rcases (show k=0\/k=1\/k=2\/k=3 by omega) with rfl|rfl|rfl|rfl
     all_goals
      repeat' ((with_reducible apply wr)<;>try simp only [go_sem,seval,h2,hw2,hd1,ne0,A0,A1])
      rw [E7 (rv5 rfl A0)];refine ⟨_,_,A7i (cc:=cc) (D5 hfr htc) (fun j hj=>?_),rfl,rfl⟩;simp [Hp.upd,show ¬j=cc by omega,show ¬j=c1 by omega,show ¬j=c5 by omega,show ¬j=c5+7 by omega];rfl
   ·rw [if_neg hk1] at hpr;have hd1:decide (k≥0)=false:=by simpa using hk1
    by_cases h3:(B8 L E s).kind=3
    ·rw [if_pos h3] at hpr;rw [hpr];have hd3:((B8 L E s).kind == 3)=true:=by simpa using h3
     repeat' ((with_reducible apply wr)<;>try simp only [go_sem,seval,h2,hw2,hd1,hd3,ne0,A0,A1])
     rw [E7 (v:=.agg [I64 1,I64 (B8 L E s).value,.str [],.snil,I64 (B8 L E s).pos]) (rv5 rfl A0)];refine ⟨_,_,A7i (cc:=cc) (D5 hfr htc) (fun j hj=>?_),rfl,rfl⟩;simp [Hp.upd,show ¬j=cc by omega,show ¬j=c1 by omega];rfl
    ·rw [if_neg h3] at hpr;rw [hpr];have hd3:((B8 L E s).kind == 3)=false:=by simpa using h3
     repeat' ((with_reducible apply wr)<;>try simp only [go_sem,seval,h2,hw2,hd1,hd3,ne0,A0,A1])
     rw [E7 (v:=.agg [I64 2,I64 0,.str (B8 L E s).text,.snil,I64 (B8 L E s).pos]) (rv5 rfl A0)];refine ⟨_,_,A7i (cc:=cc) (D5 hfr htc) (fun j hj=>?_),rfl,rfl⟩;simp [Hp.upd,show ¬j=cc by omega,show ¬j=c1 by omega];rfl
 have hGt:∀ b5:Blk,((H.upd cc b5).upd c1 (tkB (B8 L E s))) t=some (rdR L E s):=fun b5=>by rw [A2 (by omega),A2 (by omega)];exact ht
 by_cases hk1:k<0
 ·have hd:decide (k<0)=true:=by simpa using hk1
  simp only [go_sem,seval,ne0,hd];repeat' ((with_reducible apply wr)<;>try simp only [go_sem,seval,ne0,hd])
  refine AC.call (c_isKind L E s _ _ t (hGt _) (by omega) 3) ?_;rintro v H' c3 ⟨rfl,rfl⟩ hc3;cases h3:I9 L E s 3 with
  | true =>
   simp only [go_sem,seval,h3];repeat' ((with_reducible first|refine G8 (p:=IW _ _ u151_9 _ _) ?_|refine wr ?_|fail)<;>try simp only [go_sem,seval,h3])
   exact tail _ (by omega) (by simp [h3])
  | false =>
   simp only [go_sem,seval,h3];repeat' ((with_reducible apply wr)<;>try simp only [go_sem,seval,h3])
   refine AC.call (c_isKind L E s _ _ t (hGt _) (by omega) 1) ?_;rintro v H' c4 ⟨rfl,rfl⟩ hc4;cases h1:I9 L E s 1 with
   | true =>
    simp only [go_sem,seval,h1];repeat' ((with_reducible first|refine G8 (p:=IW _ _ u151_9 _ _) ?_|refine wr ?_|fail)<;>try simp only [go_sem,seval,h1])
    exact tail _ (by omega) (by simp [h1])
   | false =>
    rw [if_pos ⟨hk1,h3,h1⟩] at hpr;rw [hpr];simp only [go_sem,seval,h1];repeat' ((with_reducible apply wr)<;>try simp only [go_sem,seval,h1])
    refine AC.call (c_syntax L E s _ _ t (hGt _) (by omega)) ?_;rintro v H' c5 ⟨rfl,rfl⟩ hc5;simp only [go_sem,seval,ne0,A0];repeat' ((with_reducible apply wr)<;>try simp only [go_sem,seval,ne0,A0])
    rw [E7 (rv5 rfl A0)];refine ⟨_,_,A7i (cc:=cc) (D5 hfr htc) (fun j hj=>?_),rfl,rfl⟩;simp [Hp.upd,show ¬j=cc by omega,show ¬j=c1 by omega]
 ·have hd:decide (k<0)=false:=by simpa using hk1
  simp only [go_sem,seval,ne0,hd];repeat' ((with_reducible first|refine G8 (p:=IW _ _ u151_9 _ _) ?_|refine wr ?_|fail)<;>try simp only [go_sem,seval,hd])
  exact tail _ (by omega) fun h=>hk1 h.1
end Go.Proofs.YtnmkkggfgdfmeaaGreatDoor
namespace Go.Pb
variable [Go.Sym.Tab]
open Go.Sym
section
variable {L:List Tok} {E:Int}
theorem B0p {s:Rd} {p e:Int} (he:e≠0):okR (K9 s p e)=false:=by
 unfold K9;split
 ·simp [okR,he]
 ·rename_i h;simpa using h
theorem Z1 {s:Rd}:okR (M7 L E s)=false:=B0p (by decide)
theorem F9 {s:Rd} {n m e:Int} (he:e≠0) (h:okR (C8 L E s n m e)=true):okR s=true/\n<=m/\C8 L E s n m e=s:=by
 unfold C8 at h ⊢;split at h
 ·rw [B0p he] at h;cases h
 ·rename_i hn;rw [if_neg hn];exact ⟨h,by omega,rfl⟩
theorem A0r {s:Rd} {t:List UInt8} (h:isR L E s t=true):okR s=true/\s.i<L.length:=by
 unfold isR at h;simp only [A0G,A1A,A1I] at h;refine ⟨h.1.1,?_⟩;by_cases hi:s.i<L.length
 ·exact hi
 ·have e:B8 L E s=⟨0,[],0,E⟩:=by unfold B8;rw [A1C,A2J (by omega)];rfl
  rw [e] at h;simp at h
theorem H4 {s:Rd} {k:Int} (h:I9 L E s k=true):okR s=true/\(B8 L E s).kind=k:=by
 unfold I9 at h;simp only [A0G,A1I] at h;exact h
theorem I8 {s:Rd} {k:Int} (hk:k≠0) (h:(B8 L E s).kind=k):B8 L E s∈L/\s.i<L.length:=by
 by_cases hi:s.i<L.length
 ·refine ⟨?_,hi⟩;unfold B8;rw [A1C,A0C hi];exact A0M hi
 ·exfalso;have e:B8 L E s=⟨0,[],0,E⟩:=by unfold B8;rw [A1C,A2J (by omega)];rfl
  rw [e] at h;exact hk h.symm
theorem B0q {s:Rd} {t:List UInt8} (h:okR (D6 L E s t)=true):isR L E s t=true/\D6 L E s t=B1 s:=by
 unfold D6 at h ⊢;cases hi:isR L E s t with
 | false=>rw [hi] at h;simp only [if_true] at h;rw [Z1] at h;cases h
 | true=>simp
theorem A2v {s:Rd} {k:Int} (h:okR (B2 L E s k).2=true):I9 L E s k=true/\B2 L E s k=(B8 L E s,B1 s):=by
 unfold B2 at h ⊢;cases hi:I9 L E s k with
 | false=>rw [hi] at h;simp only [if_true] at h;rw [Z1] at h;cases h
 | true=>simp
theorem G3 {s:Rd}:∀ {l:List (List UInt8)} {k:Nat},0<=Y8 L E s k l->okR s=true/\s.i<L.length/\(k:Int)<=Y8 L E s k l/\Y8 L E s k l<(k+l.length:Nat)
 | [],k,h=>by simp [Y8] at h
 | t :: l,k,h=>by
  unfold Y8 at h ⊢;cases hi:isR L E s t with
  | true =>
   rw [if_pos rfl];obtain ⟨h1,h2⟩:=A0r hi;exact ⟨h1,h2,A3X _,by simp only [A0E];omega⟩
  | false =>
   rw [hi] at h;simp only [A1J,if_false] at h ⊢;obtain ⟨h1,h2,h3,h4⟩:=G3 h;exact ⟨h1,h2,by omega,by simp only [A0E];omega⟩
end
structure RI (L:List Tok) (s:Rd):Prop where
 i:s.i<=L.length
 o0:0<=s.ops
 o1:s.ops<=33
 o2:okR s=true->s.ops<=32
 p0:0<=s.par
 p1:s.par<=16
section
variable {L:List Tok} {E:Int}
theorem RI.fail {s:Rd} {p e:Int} (he:e≠0) (h:RI L s):RI L (K9 s p e)/\(K9 s p e).par=s.par:=by
 have hk:=B0p (s:=s) (p:=p) he;have e1:(K9 s p e).i=s.i:=by unfold K9;split<;>rfl
 have e2:(K9 s p e).ops=s.ops:=by unfold K9;split<;>rfl
 have e3:(K9 s p e).par=s.par:=by unfold K9;split<;>rfl
 exact ⟨⟨by rw [e1];exact h.i,by rw [e2];exact h.o0,by rw [e2];exact h.o1,(fun k=>by rw [hk] at k;cases k),by rw [e3];exact h.p0,by rw [e3];exact h.p1⟩,e3⟩
theorem RI.syn {s:Rd} (h:RI L s):RI L (M7 L E s)/\(M7 L E s).par=s.par:=h.fail (by decide)
theorem RI.lim {s:Rd} {n m e:Int} (he:e≠0) (h:RI L s):RI L (C8 L E s n m e)/\(C8 L E s n m e).par=s.par:=by
 unfold C8;split
 ·exact h.fail he
 ·exact ⟨h,rfl⟩
theorem RI.nxt {s:Rd} (h:RI L s) (hi:s.i<L.length):RI L (B1 s):=⟨hi,h.o0,h.o1,h.o2,h.p0,h.p1⟩
theorem RI.exp {s:Rd} {x:List UInt8} (h:RI L s):RI L (D6 L E s x)/\(D6 L E s x).par=s.par:=by
 unfold D6;cases k:isR L E s x with
 | false=>rw [if_pos rfl];exact h.syn
 | true=>rw [if_neg (by simp)];exact ⟨h.nxt (A0r k).2,rfl⟩
theorem RI.take {s:Rd} {x:Int} (hx:x≠0) (h:RI L s):RI L (B2 L E s x).2/\(B2 L E s x).2.par=s.par:=by
 unfold B2;cases k:I9 L E s x with
 | false=>rw [if_pos rfl];exact h.syn
 | true=>rw [if_neg (by simp)];exact ⟨h.nxt (I8 hx (H4 k).2).2,rfl⟩
theorem RI.prim {s:Rd} (h:RI L s):RI L (I5 L E s).2/\(I5 L E s).2.par=s.par:=by
 unfold I5;dsimp only;split
 ·exact h.syn
 ·rename_i hc;have hok:okR s=true/\s.i<L.length:=by
   by_cases hk:0<=C4 L E s R1
   ·obtain ⟨h1,h2, -⟩:=G3 hk;exact ⟨h1,h2⟩
   ·cases h3:I9 L E s 3 with
    | true=>exact ⟨(H4 h3).1,(I8 (by decide) (H4 h3).2).2⟩
    | false =>
     cases h1:I9 L E s 1 with
     | true=>exact ⟨(H4 h1).1,(I8 (by decide) (H4 h1).2).2⟩
     | false=>exact absurd ⟨by omega,h3,h1⟩ hc
  have h32:=h.o2 hok.1;have ho:=h.o0;obtain ⟨s2,hs2⟩:∃ s2,s2=C8 L E { s with ops:=s.ops+1 } (s.ops+1) 32 9:=⟨_,rfl⟩;rw [<- hs2];cases h2:okR s2 with
  | false =>
   rw [if_pos rfl];have e1:s2.i=s.i:=by rw [hs2];unfold C8 K9;split<;>(try split)<;>rfl
   have e2:s2.ops=s.ops+1:=by rw [hs2];unfold C8 K9;split<;>(try split)<;>rfl
   have e3:s2.par=s.par:=by rw [hs2];unfold C8 K9;split<;>(try split)<;>rfl
   refine ⟨⟨?_,?_,?_,(fun k=>by rw [h2] at k;cases k),?_,?_⟩,e3⟩<;>dsimp only
   ·rw [e1];exact h.i
   ·omega
   ·omega
   ·rw [e3];exact h.p0
   ·rw [e3];exact h.p1
  | true =>
   rw [if_neg (by simp)];rw [hs2] at h2;obtain ⟨-,h4,h5⟩:=F9 (by decide) h2;rw [h5] at hs2;have h3:RI L (B1 s2):=by
    rw [hs2];exact ⟨hok.2,by show 0<=s.ops+1;omega,by show s.ops+1<=33;omega,fun _=>h4,h.p0,h.p1⟩
   have hp:(B1 s2).par=s.par:=by rw [hs2];rfl
   repeat' split
   ·exact ⟨(h3.take (by decide)).1,(h3.take (by decide)).2.trans hp⟩
   all_goals exact ⟨h3,hp⟩
theorem RI.all:∀ f:Nat,(∀ n s r,I0 L E f n s=some r->RI L s->RI L r.2/\r.2.par=s.par)/\(∀ n e s r,N2 L E f n e s=some r->RI L s->RI L r.2/\r.2.par=s.par)/\(∀ s r,Q9 L E f s=some r->RI L s->RI L r.2/\r.2.par=s.par)
 | 0=>⟨fun n s r h=>by simp [I0] at h,fun n e s r h=>by simp [N2] at h,fun s r h=>by simp [Q9] at h⟩
 | f+1=>by
  obtain ⟨i1,i2,i3⟩:=RI.all f;refine ⟨fun n s r h k=>?_,fun n e s r h k=>?_,fun s r h k=>?_⟩
  ·unfold I0 at h;split at h
   ·exact i3 _ _ h k
   ·cases hb:I0 L E f (n+1) s with
    | none=>rw [hb] at h;cases h
    | some q =>
     obtain ⟨e,s1⟩:=q;rw [hb] at h;obtain ⟨a1,a2⟩:=i1 _ _ _ hb k;obtain ⟨b1,b2⟩:=i2 _ _ _ _ h a1;exact ⟨b1,b2.trans a2⟩
  ·unfold N2 at h;dsimp only at h;split at h
   ·cases h;exact ⟨k,rfl⟩
   ·rename_i hk;have hk0:0<=C4 L E s D3:=Classical.byContradiction fun g=>hk (.inl (by omega));obtain ⟨-,hi, -⟩:=G3 hk0;cases hb:I0 L E f (n+1) (B1 s) with
    | none=>rw [hb] at h;cases h
    | some q =>
     obtain ⟨x,s1⟩:=q;rw [hb] at h;obtain ⟨a1,a2⟩:=i1 _ _ _ hb (k.nxt hi);dsimp only at h;split at h
     ·cases h;exact ⟨a1,a2⟩
     ·obtain ⟨b1,b2⟩:=i2 _ _ _ _ h a1;exact ⟨b1,b2.trans a2⟩
  ·unfold Q9 at h;dsimp only at h;split at h
   ·cases h;exact k.prim
   ·rename_i hk;have hk0:0<=C4 L E s O3:=by omega
    obtain ⟨-,hi, -⟩:=G3 hk0;split at h
    ·cases h;exact k.lim (by decide)
    ·rename_i hl;have hl:okR (C8 L E s (s.par+1) 16 50)=true:=by simpa using hl
     obtain ⟨h1,h2,h3⟩:=F9 (by decide) hl;rw [h3] at h;have k2:RI L { s with i:=s.i+1,par:=s.par+1 }:=⟨hi,k.o0,k.o1,k.o2,by have:=k.p0;show 0<=s.par+1;omega,h2⟩;have fin:∀ z:Rd,RI L z->z.par=s.par+1->RI L { z with par:=z.par-1 }/\z.par-1=s.par:=fun z hz hp =>
      ⟨⟨hz.i,hz.o0,hz.o1,hz.o2,by have:=k.p0;show 0<=z.par-1;omega,by have:=k.p1;show z.par-1<=16;omega⟩,by omega⟩
     split at h
     ·cases hb:I0 L E f 1 { s with i:=s.i+1,par:=s.par+1 } with
      | none=>rw [hb] at h;cases h
      | some q =>
       obtain ⟨e,s3⟩:=q;rw [hb] at h;cases h;obtain ⟨a1,a2⟩:=i1 _ _ _ hb k2;obtain ⟨b1,b2⟩:=a1.exp (E:=E) (x:=[41]);exact fin _ b1 (b2.trans a2)
     ·cases hb:Q9 L E f { s with i:=s.i+1,par:=s.par+1 } with
      | none=>rw [hb] at h;cases h
      | some q =>
       obtain ⟨e,s3⟩:=q;rw [hb] at h;cases h;obtain ⟨a1,a2⟩:=i3 _ _ hb k2;exact fin _ a1 a2
theorem C1u {s:Rd} {p e:Int}:(K9 s p e).i=s.i:=by unfold K9;split<;>rfl
theorem R8 {s:Rd}:(M7 L E s).i=s.i:=C1u
theorem F6 {s:Rd} {n m e:Int}:(C8 L E s n m e).i=s.i:=by unfold C8;split;exact C1u;rfl
theorem J0 {s:Rd} {x:List UInt8} (h:s.i<=L.length):(D6 L E s x).i<=L.length:=by
 unfold D6;cases k:isR L E s x with
 | false=>rw [if_pos rfl,R8];exact h
 | true=>rw [if_neg (by simp)];exact (A0r k).2
theorem K4 {s:Rd} {x:Int} (hx:x≠0) (h:s.i<=L.length):(B2 L E s x).2.i<=L.length:=by
 unfold B2;cases k:I9 L E s x with
 | false=>rw [if_pos rfl,R8];exact h
 | true=>rw [if_neg (by simp)];exact (I8 hx (H4 k).2).2
theorem P2 {f:Nat} {s:Rd} {r:Ex × Rd} (h:P3 L E f s=some r) (hi:s.i<=L.length):r.2.i<=L.length :=
 ((RI.all f).1 1 { s with ops:=0,par:=0 } r h ⟨hi,A3X 0,(by decide:(0:Int)<=33),fun _=>(by decide:(0:Int)<=32),A3X 0,(by decide:(0:Int)<=16)⟩).1.i
theorem C8e {f:Nat} {k p:Int} {s:Rd} {r:St × Rd} (h:L4 L E f k p s=some r) (hi:s.i<=L.length):r.2.i<=L.length:=by
 unfold L4 at h;dsimp only at h;split at h
 ·split at h
  ·cases h
  ·rename_i he;cases h;exact J0 (P2 he hi)
 split at h
 ·split at h
  ·cases h
  ·rename_i he;cases h;exact J0 (P2 he (J0 (K4 (by decide) hi)))
 split at h
 ·cases h;exact J0 hi
 have h0:=K4 (E:=E) (x:=1) (by decide) hi;split at h
 ·split at h
  ·cases h
  ·rename_i he;split at h
   ·split at h
    ·cases h
    ·rename_i he2;cases h;exact J0 (P2 he2 (J0 (P2 he h0)))
   ·cases h;exact J0 (P2 he h0)
 ·cases h;exact J0 h0
theorem C8g {f:Nat} {d:Int} {s:Rd} {r:St × Rd} (h:Q4 L E f d s=some r) (ho:okR s=false):okR r.2=false:=by
 cases f with
 | zero=>simp [Q4] at h
 | succ f =>
  have hl:okR (C8 L E s d 8 50)=false:=by
   cases k:okR (C8 L E s d 8 50) with
   | false=>rfl
   | true=>rw [(F9 (by decide) k).1] at ho;cases ho
  unfold Q4 at h;dsimp only at h;rw [if_pos hl] at h;cases h;exact hl
theorem II.all:∀ f:Nat,(∀ d s r,L1 L E f d s=some r->s.i<=L.length->r.2.i<=L.length)/\(∀ d l s r,O1 L E f d l s=some r->s.i<=L.length->r.2.i<=L.length)/\(∀ d s r,Q4 L E f d s=some r->s.i<=L.length->r.2.i<=L.length)/\(∀ d s r,O7 L E f d s=some r->s.i<=L.length->r.2.i<=L.length)
 | 0=>⟨fun d s r h=>by simp [L1] at h,fun d l s r h=>by simp [O1] at h,fun d s r h=>by simp [Q4] at h,fun d s r h=>by simp [O7] at h⟩
 | f+1=>by
  obtain ⟨i1,i2,i3,i4⟩:=II.all f;refine ⟨fun d s r h k=>?_,fun d l s r h k=>?_,fun d s r h k=>?_,fun d s r h k=>?_⟩
  ·unfold L1 at h;exact i2 _ _ _ _ h (J0 k)
  ·unfold O1 at h;split at h
   ·split at h
    ·cases h;rw [R8];exact k
    ·split at h
     ·cases h
     ·rename_i he;exact i2 _ _ _ _ h (i3 _ _ _ he (by rw [F6];exact k))
   ·cases h;exact J0 k
  ·unfold Q4 at h;dsimp only at h;split at h
   ·cases h;rw [F6];exact k
   ·split at h
    ·split at h
     ·cases h
     ·rename_i he;cases h;exact J0 (P2 he (J0 (K4 (by decide) (by rw [F6];exact k))))
    ·rename_i hk;have hn:(B1 (C8 L E s d 8 50)).i<=L.length:=(G3 (show 0<=C4 L E (C8 L E s d 8 50) C3 by omega)).2.1;split at h
     ·split at h
      ·cases h
      ·rename_i he;split at h
       ·cases h
       ·rename_i hb;have h3:=i1 _ _ _ hb (P2 he hn);split at h
        ·rename_i hc;split at h
         ·cases h
         ·rename_i ho;cases h;exact i4 _ _ _ ho (A0r hc.2).2
        ·cases h;exact h3
     ·exact C8e h hn
  ·unfold O7 at h;split at h
   ·split at h
    ·cases h
    ·rename_i he;cases h;exact i3 _ _ _ he k
   ·exact i1 _ _ _ h k
end
end Go.Pb
namespace Go.Sym
variable [Go.Sym.Tab]
variable {P:Program}
section
open Go.Eng (IC)
variable {N:Nat} {x:IC} {T:Tm} {H:Hp} {c:Nat} {Q:Exit->St->Prop}
theorem IW.gl {s:St} (h:IW P N x s (fun e s'=>Q e s'\/∃ (ks:List Nat) (ds':List DV) (H2:Hp),GL s'.H (ks.map s'.T) H2 ds'/\Q e ⟨tm (ks.zip ds'),H2,s'.c⟩)):IW P N x s Q:=by
 intro hm cd hc ρ a w hS;refine wp_mono (h hm cd hc ρ a w hS) fun e a' w' hq=>?_;obtain ⟨ρ2,s2,q,hS2,hst⟩:=hq;rcases q with q|⟨ks,ds',H2,g,q⟩
 ·exact ⟨ρ2,s2,q,hS2,hst⟩
 have hA:F2 ρ2 (ks.map s2.T) ((ks.map fun k=>a'.tmps.getD k undef)).toArray:=by
  refine ⟨by simp,fun i x y hx hy=>?_⟩;simp only [A2F,A0Q,A1F] at hx hy;obtain ⟨k,hk,rfl⟩:=hx;obtain ⟨k',hk',rfl⟩:=hy;rw [hk] at hk';cases hk';exact hS2.tm k
 obtain ⟨ρ1,e1,r1,a1,x1⟩:=g.2 ρ2 w' _ hS2.rep hA;refine ⟨ρ1,⟨tm (ks.zip ds'),H2,s2.c⟩,q,⟨B8z fun i k d hk hd=>a1.2 i d _ hd (by simp [hk]),r1,by rw [e1];exact hS2.fresh,hS2.size,hS2.dfr⟩,?_⟩;exact ⟨hst.up,fun id hid hne=>hst.dom id hid (g.1 id hne),fun id hid=>by rw [e1];exact hst.same id hid,hst.ext.trans x1⟩
theorem B1d:∀ {L:List (Nat × DV)} {T:Tm},C1 L T->(L.map Prod.fst).map T=L.map Prod.snd
 | [],_,_=>rfl
 | (k,v) :: r,T,⟨h1,h2⟩=>by simp only [A0Z,h1,B1d h2]
theorem C7l (L:List (Nat × DV)):(L.map Prod.fst).zip (L.map Prod.snd)=L:=by
 induction L with
 | nil=>rfl
 | cons a r ih=>simp [ih]
def lpG {σ : Type} (L : σ -> List (Nat × DV)) (h : σ -> Hp) (I : σ -> Nat->Prop) (μ : σ -> Nat) (m:Nat) (Q:Exit->St->Prop):Exit->St->Prop
 | .normal,⟨T,H,c⟩ => ∃ b,C1 (L b) T/\GL H ((L b).map Prod.snd) (h b) ((L b).map Prod.snd)/\I b c /\ μ b<m
 | e,s=>Q e s
theorem C5o {σ : Type} (L : σ -> List (Nat × DV)) (h : σ -> Hp) (I : σ -> Nat->Prop) (μ : σ -> Nat) (a : σ) (hL:∀ b,C1 (L b) (tm (L b))) (h0:C1 (L a) T) (hH:Sub (h a) H) (hI:I a c)
  (step:∀ a c,I a c->IW P N x ⟨tm (L a),h a,c⟩ (lpG L h I μ (μ a) Q)):IW P N (.loop x) ⟨T,H,c⟩ Q:=by
 refine B9 L h I μ a h0 hH hI fun a c hI=>IW.gl ((step a c hI).mono fun e s' q=>?_);obtain ⟨T',H',c'⟩:=s';cases e with
 | normal =>
  obtain ⟨b,q1,q2,q3,q4⟩:=q;refine .inr ⟨(L b).map Prod.fst,(L b).map Prod.snd,h b,by rw [B1d q1];exact q2,?_⟩;rw [C7l];exact ⟨b,hL b,Sub.refl _,q3,q4⟩
 | _=>exact .inl q
theorem D2t {σ : Type} {L : σ -> List (Nat × DV)} {h : σ -> Hp} {I : σ -> Nat->Prop} {μ : σ -> Nat} {m:Nat}:lpG L h I μ m Q .normal ⟨T,H,c⟩ = ∃ b,C1 (L b) T/\GL H ((L b).map Prod.snd) (h b) ((L b).map Prod.snd)/\B3c I b c /\ μ b<m:=propext Iff.rfl
theorem D2s {σ : Type} {L : σ -> List (Nat × DV)} {h : σ -> Hp} {I : σ -> Nat->Prop} {μ : σ -> Nat} {m:Nat}:lpG L h I μ m Q .ret ⟨T,H,c⟩=Q .ret ⟨T,H,c⟩:=propext Iff.rfl
end
section
open Go.Eng (AOp)
variable {c0:Nat} {T:Tm} {H:Hp}
def agN (T:Tm) (H:Hp) (d n:Nat):Option (Option Nat × Blk)->Prop
 | some (k,b)=>T d=mkv n k/\H n=some b
 | none=>False
theorem D4v {j d:Nat} {f:AOp}:agK c0 j T H (some d) (.new f) (some true)=agN T H d (c0+j) (aev (ev T) f):=by
 simp only [agK,agN];cases aev (ev T) f with
 | none=>simp
 | some x=>obtain ⟨k,b⟩:=x;simp
theorem D4w {d n:Nat} {k:Option Nat} {b:Blk}:agN T H d n (some (k,b))=(T d=mkv n k/\H n=some b):=propext Iff.rfl
end
attribute [go_sem] D4v D4w
attribute [go_sem] D2t D2s
end Go.Sym
namespace Go.Proofs.YtnmkkggfgdfmeaaGreatDoor
open Go.Eng (IC IOper DReg IFn A7)
open Go.Sym Go.Pb
theorem c_level (k:Int):PC Tryz.prog 126 [I64 k] (I64 (B4 k)):=by
 refine PC.of A9 isU126 (A0B rfl) (by simp [DV.nlL,DV.nl]) (by simp [DV.nlL,DV.nl]) ?_;show IW Tryz.prog 37 u126_1 ⟨B7 _,_,_⟩ (rt [.tmp 2] _);repeat' ((with_reducible first|refine wr ?_|refine wb2 ?_ ?_<;>(intro hb;try simp only [hb])|fail)<;>try simp only [go_sem,seval])
 all_goals
  refine A6 (congrArg I64 ?_);simp only [A1I,beq_eq_false_iff_ne,A0L,A1S,A0G,A1A,Bool.and_eq_false_iff,Bool.or_eq_false_iff] at *;unfold B4;repeat' split
  all_goals omega
theorem c_signs31:PC Tryz.prog 125 [] (A1y D3):=by
 refine PC.of A9 isU125 (A0B rfl) rfl (N0 _) ?_;show IW Tryz.prog 2 u125_1 ⟨B7 _,_,_⟩ (rt [.tmp 0] _);repeat' ((with_reducible apply wr)<;>try simp only [go_sem,seval])
 exact L6 (xs:=D3.map DV.str) (u:=1) A0 rfl rfl (I4 _) ⟨[],rfl⟩
theorem c_decls31:PC Tryz.prog 73 [] (A1y E1):=by
 refine PC.of A9 isU73 (A0B rfl) rfl (N0 _) ?_;show IW Tryz.prog 2 u73_1 ⟨B7 _,_,_⟩ (rt [.tmp 0] _);repeat' ((with_reducible apply wr)<;>try simp only [go_sem,seval])
 exact L6 (xs:=E1.map DV.str) (u:=1) A0 rfl rfl (I4 _) ⟨[],rfl⟩
theorem c_trigs31:PC Tryz.prog 117 [] (A1y E6):=by
 refine PC.of A9 isU117 (A0B rfl) rfl (N0 _) ?_;show IW Tryz.prog 2 u117_1 ⟨B7 _,_,_⟩ (rt [.tmp 0] _);repeat' ((with_reducible apply wr)<;>try simp only [go_sem,seval])
 exact L6 (xs:=E6.map DV.str) (u:=1) A0 rfl rfl (I4 _) ⟨[],rfl⟩
theorem c_stmts31:PC Tryz.prog 142 [] (A1y C3):=by
 refine PC.of A9 isU142 (A0B rfl) rfl (N0 _) ?_;show IW Tryz.prog 2 u142_1 ⟨B7 _,_,_⟩ (rt [.tmp 0] _);repeat' ((with_reducible apply wr)<;>try simp only [go_sem,seval])
 exact L6 (xs:=C3.map DV.str) (u:=1) A0 rfl rfl (I4 _) ⟨[],rfl⟩
theorem C7c {K H':Hp} {cc b:Nat} {a b' c e:DV} (l:List Ex) (hK:∀ i,cc<=i->K i=none) (hb0:cc<=b) (hb:H' b=some ⟨5,true,A4 (l.map Ex.v)⟩) (h:∀ j,j<cc->H' j=K j) :
  GL H' [.agg [a,b',c,.slc b 0 l.length,e]] K [.agg [a,b',c,H7 l,e]] :=
 GL.frzS (id:=b) hb rfl (fun j=>by
  by_cases hj:j<cc
  ·exact .inr ⟨by omega,(h j hj).symm⟩
  ·exact .inl (hK j (by omega))) (.cons _ _ _ _ (.agg _ _ (.cons _ _ _ _ (.same _) (.cons _ _ _ _ (.same _) (.cons _ _ _ _ (.same _) (.cons _ _ _ _ (P1 (u:=5) (by simp) (A3m l) ⟨[],by simp⟩) (.cons _ _ _ _ (.same _) .nil)))))) .nil)
theorem A3n (e:Ex):A4 ([e].map Ex.v)=[I64 e.kind,I64 e.value,.str e.name,H7 e.args,I64 e.pos]:=by
 rw [A0Z,Ex.v_w];rfl
theorem C1v (e x:Ex):A4 ([e,x].map Ex.v)=[I64 e.kind,I64 e.value,.str e.name,H7 e.args,I64 e.pos,I64 x.kind,I64 x.value,.str x.name,H7 x.args,I64 x.pos]:=by
 rw [A0Z,A0Z,Ex.v_w,Ex.v_w];rfl
abbrev RdC (L:List Tok) (E:Int) (f:Nat) (vs:List DV) (s:Rd) (r:DV × Rd):Prop :=
 ∀ (H:Hp) (cc t:Nat),H t=some (rdR L E s)->t<cc->AC Tryz.prog f (.ptr t 0 :: vs) H cc (fun v H' c'=>v=r.1/\H'=H.upd t (rdR L E r.2))
theorem c_unary (L:List Tok) (E:Int) (hL:L.length<=1000000000) (f:Nat)
  (ib:∀ n s r,1<=n->n<=6->I0 L E f n s=some r->RI L s->RdC L E 92 [I64 n] s (r.1.v,r.2))
  (iu:∀ s r,Q9 L E f s=some r->RI L s->RdC L E 124 [] s (r.1.v,r.2))
  (s:Rd) (r:Ex × Rd) (h:Q9 L E (f+1) s=some r) (hR:RI L s):RdC L E 124 [] s (r.1.v,r.2):=by
 intro H cc t ht htc;have hri:=hR.i;have hro:=hR.o0;have hro1:=hR.o1;have hp0:=hR.p0;have hp1:=hR.p1;refine AC.body A9 isU124 (A0B rfl) fun hfr=>?_;show IW Tryz.prog 62 u124_1 ⟨B7 _,_,_⟩ (rt [.cell 2 5 true] _);repeat' ((with_reducible apply wr)<;>try simp only [go_sem,seval])
 refine AC.call (c_peek L E s _ _ t (by rw [A2 (by omega)];exact ht) (by omega)) ?_;rintro v H' c1 ⟨rfl,rfl⟩ hc;have ne0:=W0 t cc c1 (c1+1) (by omega);simp only [go_sem,seval,ne0,A0,A1];repeat' ((with_reducible apply wr)<;>try simp only [go_sem,seval,ne0,A0,A1])
 have ham:=c_amongO L E s ((H.upd cc C1x).upd c1 (tkB (B8 L E s))) (c1+1+1) t (c1+1) (by rw [A2 (by omega),A2 (by omega)];exact hfr _ (by omega)) (by rw [A2 (by omega),A2 (by omega)];exact ht) (by omega) O3 (by decide);refine AC.call ham ?_;rintro v H' c2 ⟨rfl,rfl⟩ hc2;unfold Q9 at h;dsimp only at h;have hkr : -1<=C4 L E s O3/\C4 L E s O3<3:=A2p L E s O3 0;have hnn:0<=C4 L E s O3->s.i<L.length:=fun h=>(G3 h).2.1;generalize C4 L E s O3=k at h hkr hnn;have hGt:((H.upd cc C1x).upd c1 (tkB (B8 L E s))) t=some (rdR L E s):=by rw [A2 (by omega),A2 (by omega)];exact ht
 by_cases hk:k<0
 ·rw [if_pos hk] at h;cases h;have hd:decide (k<0)=true:=by simpa using hk
  simp only [go_sem,seval,ne0,hd];repeat' ((with_reducible apply wr)<;>try simp only [go_sem,seval,ne0,hd])
  refine AC.call (c_primary L E s _ _ t hGt (by omega) (by omega) (by omega)) ?_;rintro v H' c3 ⟨rfl,rfl⟩ hc3;simp only [go_sem,seval,ne0,A0,A1,Ex.v_w];repeat' ((with_reducible apply wr)<;>try simp only [go_sem,seval,ne0,A0,A1])
  rw [E7 (rv5 rfl A0)];refine ⟨_,_,Q8 (cc:=cc) (D5 hfr htc) (fun j hj=>?_),rfl,rfl⟩;simp [Hp.upd,show ¬j=cc by omega,show ¬j=c1 by omega]
 ·rw [if_neg hk] at h;have hd:decide (k<0)=false:=by simpa using hk
  have hw:IntKind.i64.wrap (s.par+1)=s.par+1:=w64 (by omega) (by omega);have hw2:IntKind.i64.wrap ((s.i:Int)+1)=((s.i+1:Nat):Int):=by rw [w64 (by omega) (by omega)];omega
  have hw3:IntKind.i64.wrap (10+k)=10+k:=w64 (by omega) (by omega);simp only [go_sem,seval,ne0,hd];repeat' ((with_reducible apply wr)<;>try simp only [go_sem,seval,ne0,hd,ht,hw])
  refine AC.call (c_limit L E s _ _ t hGt (by omega) _ _ _) ?_;rintro v H' c3 ⟨rfl,rfl⟩ hc3;simp only [go_sem,seval,ne0];repeat' ((with_reducible apply wr)<;>try simp only [go_sem,seval,ne0])
  refine AC.call (c_rdok L E _ _ _ t A0 (by omega)) ?_;rintro v H' c4 ⟨rfl,rfl⟩ hc4;cases h2:okR (C8 L E s (s.par+1) 16 50) with
  | false =>
   rw [if_pos h2] at h;cases h;simp only [go_sem,seval,h2];repeat' ((with_reducible apply wr)<;>try simp only [go_sem,seval,h2,ne0,A0,A1])
   rw [E7 (rv5 rfl A0)];refine ⟨_,_,A7i (cc:=cc) (D5 hfr htc) (fun j hj=>?_),rfl,rfl⟩;simp [Hp.upd,show ¬j=cc by omega,show ¬j=c1 by omega]
  | true =>
   rw [if_neg (by simp [h2])] at h;obtain ⟨h3,h4,h5⟩:=F9 (by decide) h2;rw [h5] at h h2 ⊢;simp only [go_sem,seval,h2];have ne0:=W0 t cc c1 c4 (by omega);have k2:RI L { s with i:=s.i+1,par:=s.par+1 }:=⟨hnn (by omega),hro,hro1,hR.o2,by show 0<=s.par+1;omega,h4⟩;by_cases hk2:k=2
   ·subst hk2;rw [if_pos rfl] at h;cases hb:I0 L E f 1 { s with i:=s.i+1,par:=s.par+1 } with
    | none=>rw [hb] at h;cases h
    | some q =>
     obtain ⟨e,s3⟩:=q;rw [hb] at h;dsimp only at h;obtain ⟨a1,a2⟩:=(RI.all f).1 _ _ _ hb k2;obtain ⟨b1,b2⟩:=a1.exp (E:=E) (x:=[41]);have hi3:=a1.i;dsimp only at a2 b2 hi3;repeat' ((with_reducible apply wr)<;>try simp only [go_sem,seval,h2,hw,hw2,ne0,A0,A1])
     refine AC.call (ib 1 _ (e,s3) (by decide) (by decide) hb k2 _ _ t (by rw [A2 (by omega),A0]) (by omega)) ?_;rintro v H' c5 ⟨rfl,rfl⟩ hc5;dsimp only;simp only [go_sem,seval,ne0,A0,A1,Ex.v_w];repeat' ((with_reducible apply wr)<;>try simp only [go_sem,seval,ne0,A0,A1])
     refine AC.call (c_expect L E s3 _ _ t (by repeat (first|exact A0|rw [A2 (by omega)])) (by omega) (by omega) _) ?_;rintro v H' c6 ⟨rfl,rfl⟩ hc6;obtain ⟨s4,hs4⟩:∃ s4,s4=D6 L E s3 [41]:=⟨_,rfl⟩;rw [<- hs4] at h b1 b2 ⊢;have hw5:IntKind.i64.wrap (s4.par-1)=s4.par-1:=w64 (by omega) (by omega);cases h;simp only [go_sem,seval,ne0,A0,A1,Ex.v_w];repeat' ((with_reducible apply wr)<;>try simp only [go_sem,seval,hw5,ne0,A0,A1])
     rw [E7 (rv5 rfl A0)];refine ⟨_,_,Q8 (cc:=cc) (D5 hfr htc) (fun j hj=>?_),rfl,rfl⟩;simp [Hp.upd,show ¬j=cc by omega,show ¬j=c1 by omega,show ¬j=c4 by omega];try (split<;>rfl)
   ·rw [if_neg hk2] at h;have hd2:(k == 2)=false:=by simpa using hk2
    cases hb:Q9 L E f { s with i:=s.i+1,par:=s.par+1 } with
    | none=>rw [hb] at h;cases h
    | some q =>
     obtain ⟨e,s3⟩:=q;rw [hb] at h;dsimp only at h;obtain ⟨a1,a2⟩:=(RI.all f).2.2 _ _ hb k2;dsimp only at a2;repeat' ((with_reducible apply wr)<;>try simp only [go_sem,seval,h2,hw,hw2,hw3,hd2,ne0,A0,A1])
     refine AC.call (iu _ (e,s3) hb k2 _ _ t (by rw [A2 (by omega),A0]) (by omega)) ?_;rintro v H' c5 ⟨rfl,rfl⟩ hc5;have hw5:IntKind.i64.wrap (s3.par-1)=s3.par-1:=w64 (by omega) (by omega);cases h;have ne0:=A0q t cc c1 c4 (c4+1+4) (by omega);simp only [go_sem,seval,ne0,A0,A1,Ex.v_w];repeat' ((with_reducible apply wr)<;>try simp only [go_sem,seval,ne0,A0,A1])
     and_intros
     all_goals try (first|rw [hw3]|((repeat rw [A2 (by omega)]);exact hfr _ (by omega)))
     repeat' ((with_reducible apply wr)<;>try simp only [go_sem,seval,hw5,ne0,A0,A1])
     rw [E7 (rv5 rfl A0)];refine ⟨_,_,C7c (cc:=cc) (b:=c4+1+4) [e] (D5 hfr htc) (by omega) ?_ (fun j hj=>?_),rfl,rfl⟩
     ·rw [A3n];dsimp only
      repeat (first|exact A0|rw [A2 (by omega)])
     simp [Hp.upd,show ¬j=cc by omega,show ¬j=c1 by omega,show ¬j=c4 by omega,show ¬j=c4+1+4 by omega];try (split<;>rfl)
abbrev exB (e:Ex):Blk:=⟨0,true,[I64 e.kind,I64 e.value,.str e.name,H7 e.args,I64 e.pos]⟩
theorem c_binary (L:List Tok) (E:Int) (hL:L.length<=1000000000) (f:Nat)
  (ib:∀ g,g<=f->∀ n s r,1<=n->n<=6->I0 L E g n s=some r->RI L s->RdC L E 92 [I64 n] s (r.1.v,r.2))
  (iu:∀ s r,Q9 L E f s=some r->RI L s->RdC L E 124 [] s (r.1.v,r.2))
  (n:Int) (s:Rd) (r:Ex × Rd) (hn1:1<=n) (hn6:n<=6) (h:I0 L E (f+1) n s=some r) (hR:RI L s):RdC L E 92 [I64 n] s (r.1.v,r.2):=by
 intro H cc t ht htc;refine AC.body A9 isU92 (A0B rfl) fun hfr=>?_;show IW Tryz.prog 52 u92_1 ⟨B7 _,_,_⟩ (rt [.cell 4 5 true] _);unfold I0 at h;have ne0:=L2 t cc (by omega);by_cases h5:5<n
 ·rw [if_pos h5] at h;have hd:decide (n>5)=true:=by simpa using h5
  repeat' ((with_reducible apply wr)<;>try simp only [go_sem,seval,hd])
  refine AC.call (iu _ _ h hR _ _ t (by rw [A2 (by omega)];exact ht) (by omega)) ?_;rintro v H' c1 ⟨rfl,rfl⟩ hc1;dsimp only;simp only [go_sem,seval,ne0,A0,A1,Ex.v_w];repeat' ((with_reducible apply wr)<;>try simp only [go_sem,seval,ne0,A0,A1])
  rw [E7 (rv5 rfl A0)];refine ⟨_,_,Q8 (cc:=cc) (D5 hfr htc) (fun j hj=>?_),rfl,rfl⟩;simp [Hp.upd,show ¬j=cc by omega]
 rw [if_neg h5] at h;have hd:decide (n>5)=false:=by simpa using h5
 have hw:IntKind.i64.wrap (n+1)=n+1:=w64 (by omega) (by omega);cases hb:I0 L E f (n+1) s with
 | none=>rw [hb] at h;cases h
 | some q =>
  obtain ⟨e,s1⟩:=q;rw [hb] at h;dsimp only at h;obtain ⟨a1,a2⟩:=(RI.all f).1 _ _ _ hb hR;dsimp only at a1;repeat' ((with_reducible apply wr)<;>try simp only [go_sem,seval,hd,hw])
  refine AC.call (ib f (A0I _) (n+1) _ _ (by omega) (by omega) hb hR _ _ t (by rw [A2 (by omega)];exact ht) (by omega)) ?_;rintro v H' c1 ⟨rfl,rfl⟩ hc1;dsimp only;have ne0:=T8 t cc c1 (by omega);simp only [go_sem,seval,ne0,A0,A1,Ex.v_w];repeat' ((with_reducible apply wr)<;>try simp only [go_sem,seval,ne0,A0,A1])
  refine C5o (fun _:Nat × Ex × Rd=>[(0,.ptr t 0),(1,I64 n),(4,.ptr cc 0),(5,.ptr c1 0)]) (fun q=>((H.upd cc C1x).upd t (rdR L E q.2.2)).upd c1 (exB q.2.1))
   (fun q c=>c1+1<=c/\q.1<=f/\N2 L E q.1 n q.2.1 q.2.2=some r/\RI L q.2.2) (fun q=>q.1) (f,e,s1) (fun b=>by simp [C1,tm,Tm.upd]) (by simp [C1,tm,Tm.upd]) (Sub.refl _) ⟨A0I _,A0I _,h,a1⟩ ?_
  clear h hb a1 a2 s1 e;rintro ⟨g,e,s1⟩ c ⟨hc,hg,hv,k1⟩;dsimp only at hc hg hv k1 ⊢;have hri:=k1.i;cases g with
  | zero=>simp [N2] at hv
  | succ g =>
  unfold N2 at hv;dsimp only at hv;have hTt:∀ b:Blk,(((H.upd cc C1x).upd t (rdR L E s1)).upd c1 b) t=some (rdR L E s1):=fun b=>by rw [A2 (by omega),A0]
  repeat' ((with_reducible first|apply wr|refine cpc c_signs31 ?_|fail)<;>try simp only [go_sem,seval])
  refine AC.call (c_among L E s1 _ _ t (hTt _) (by omega) D3 (by decide)) ?_;rintro v H' c2 ⟨rfl,rfl⟩ hc2;have hkr : -1<=C4 L E s1 D3/\C4 L E s1 D3<13:=A2p L E s1 D3 0;have hnn:0<=C4 L E s1 D3->s1.i<L.length:=fun h=>(G3 h).2.1;generalize C4 L E s1 D3=k at hv hkr hnn;have hwk:IntKind.i64.wrap (12+k)=12+k:=w64 (by omega) (by omega);by_cases hk:k<0
  ·rw [if_pos (.inl hk)] at hv;cases hv;have hdk:decide (k<0)=true:=by simpa using hk
   simp only [go_sem,seval,ne0,hdk];repeat' ((with_reducible apply wr)<;>try simp only [go_sem,seval,ne0,hdk,A0,A1])
   rw [E7 (rv5 rfl A0)];refine ⟨_,_,Q8 (cc:=cc) (D5 hfr htc) (fun j hj=>?_),rfl,rfl⟩;simp [Hp.upd,show ¬j=cc by omega,show ¬j=c1 by omega]
  have hdk:decide (k<0)=false:=by simpa using hk
  by_cases hl:B4 (12+k)=n
  ·rw [if_neg (by omega)] at hv;have hdl:(B4 (12+k) != n)=false:=by simp [hl]
   simp only [go_sem,seval,ne0,hdk];repeat' ((with_reducible first|refine wr ?_|refine cpc (c_level _) ?_|fail)<;>try simp only [go_sem,seval,ne0,hdk,hwk,hdl,A0,A1])
   cases hb:I0 L E g (n+1) (B1 s1) with
   | none=>rw [hb] at hv;cases hv
   | some q =>
    obtain ⟨x,s2⟩:=q;rw [hb] at hv;dsimp only at hv;have k2:=k1.nxt (hnn (by omega));obtain ⟨b1,b2⟩:=(RI.all g).1 _ _ _ hb k2;dsimp only at b1;have hw2:IntKind.i64.wrap ((s1.i:Int)+1)=((s1.i+1:Nat):Int):=by rw [w64 (by omega) (by omega)];omega
    refine AC.call (c_peek L E s1 _ _ t (hTt _) (by omega)) ?_;rintro v H' c3 ⟨rfl,rfl⟩ hc3;have ne0:=A0q t cc c1 c3 (c3+7) (by omega);simp only [go_sem,seval,ne0];repeat' ((with_reducible apply wr)<;>try simp only [go_sem,seval,hw2,hwk,hw,ne0,A0,A1])
    refine AC.call (ib g (by omega) (n+1) (B1 s1) (x,s2) (by omega) (by omega) hb k2 _ _ t (by repeat (first|exact A0|rw [A2 (by omega)])) (by omega)) ?_;rintro v H' c4 ⟨rfl,rfl⟩ hc4;dsimp only;simp only [go_sem,seval,ne0,A0,A1,Ex.v_w];repeat' ((with_reducible apply wr)<;>try simp only [go_sem,seval,ne0,A0,A1])
    and_intros
    all_goals try (first|rw [hwk]|((repeat rw [A2 (by omega)]);exact hfr _ (by omega)))
    by_cases h3:n=3
    ·rw [if_pos h3] at hv;cases hv;have hd3:(n == 3)=true:=by simpa using h3
     repeat' ((with_reducible apply wr)<;>try simp only [go_sem,seval,hd3,ne0,A0,A1])
     rw [E7 (rv5 rfl A0)];refine ⟨_,_,C7c (cc:=cc) (b:=c3+7) [e,x] (D5 hfr htc) (by omega) ?_ (fun j hj=>?_),rfl,rfl⟩
     ·rw [C1v];dsimp only
      repeat (first|exact A0|rw [A2 (by omega)])
     simp [Hp.upd,show ¬j=cc by omega,show ¬j=c1 by omega,show ¬j=c3+7 by omega];try (split<;>rfl)
    ·rw [if_neg h3] at hv;have hd3:(n == 3)=false:=by simpa using h3
     repeat' ((with_reducible apply wr)<;>try simp only [go_sem,seval,hd3,ne0,A0,A1])
     refine ⟨(g,.mk (12+k) 0 [] [e,x] (B8 L E s1).pos,s2),?_,inv ⟨by omega,by simp only;omega,hv,b1⟩,by simp only;omega⟩;refine GL.frzT (id:=c3+7) (b:=⟨5,true,A4 ([e,x].map Ex.v)⟩) ?_ rfl (fun j=>?_) (FzL.refl _)
     ·rw [C1v]
      repeat (first|exact A0|rw [A2 (by omega)])
     by_cases j1:j=c1
     ·subst j1;refine .inr ⟨by omega,.inr ⟨_,_,A0,A0,rfl,rfl,.cons _ _ _ _ (.same _) (.cons _ _ _ _ (.same _) (.cons _ _ _ _ (.same _) (.cons _ _ _ _ (P1 (u:=5) (xs:=[e,x].map Ex.v) (by simp) (A3m _) ⟨[],by simp⟩) (.cons _ _ _ _ (.same _) .nil)))),by simp [DV.one]⟩⟩
     ·by_cases j2:j=c3+7
      ·subst j2;left
       repeat rw [A2 (by omega)]
       exact hfr _ (by omega)
      ·refine .inr ⟨j2,.inl ?_⟩;simp [Hp.upd,j1,j2];try (split<;>rfl)
  ·rw [if_pos (.inr hl)] at hv;cases hv;have hdl:(B4 (12+k) != n)=true:=by simpa using hl
   simp only [go_sem,seval,ne0,hdk];repeat' ((with_reducible first|refine wr ?_|refine cpc (c_level _) ?_|fail)<;>try simp only [go_sem,seval,ne0,hdk,hwk,hdl,A0,A1])
   rw [E7 (rv5 rfl A0)];refine ⟨_,_,Q8 (cc:=cc) (D5 hfr htc) (fun j hj=>?_),rfl,rfl⟩;simp [Hp.upd,show ¬j=cc by omega,show ¬j=c1 by omega]
theorem c_bu (L:List Tok) (E:Int) (hL:L.length<=1000000000):∀ f:Nat,(∀ n s r,1<=n->n<=6->I0 L E f n s=some r->RI L s->RdC L E 92 [I64 n] s (r.1.v,r.2))/\(∀ s r,Q9 L E f s=some r->RI L s->RdC L E 124 [] s (r.1.v,r.2)):=by
 intro f
 induction f using Nat.strongRecOn with
 | _ f ih =>
  cases f with
  | zero=>exact ⟨fun n s r _ _ h=>by simp [I0] at h,fun s r h=>by simp [Q9] at h⟩
  | succ f =>
   exact ⟨fun n s r h1 h2 h hR=>c_binary L E hL f (fun g hg=>(ih g (by omega)).1) (ih f (by omega)).2 n s r h1 h2 h hR,
    fun s r h hR=>c_unary L E hL f (ih f (by omega)).1 (ih f (by omega)).2 s r h hR⟩
theorem c_expression (L:List Tok) (E:Int) (hL:L.length<=1000000000) (f:Nat) (s:Rd) (r:Ex × Rd) (h:P3 L E f s=some r) (hi:s.i<=L.length):RdC L E 51 [] s (r.1.v,r.2):=by
 intro H cc t ht htc;refine AC.body A9 isU51 (A0B rfl) fun hfr=>?_;show IW Tryz.prog 11 u51_1 ⟨B7 _,_,_⟩ (rt [.cell 2 5 true] _);have ne0:=L2 t cc (by omega);repeat' ((with_reducible apply wr)<;>try simp only [go_sem,seval,ht,ne0,A0,A1])
 refine AC.call ((c_bu L E hL f).1 1 { s with ops:=0,par:=0 } r (by decide) (by decide) h ⟨hi,A3X 0,(by decide:(0:Int)<=33),fun _=>(by decide:(0:Int)<=32),A3X 0,(by decide:(0:Int)<=16)⟩ _ _ t (by exact A0) (by omega)) ?_;rintro v H' c1 ⟨rfl,rfl⟩ hc1;dsimp only;simp only [go_sem,seval,ne0,A0,A1,Ex.v_w];repeat' ((with_reducible apply wr)<;>try simp only [go_sem,seval,ne0,A0,A1])
 rw [E7 (rv5 rfl A0)];refine ⟨_,_,Q8 (cc:=cc) (D5 hfr htc) (fun j hj=>?_),rfl,rfl⟩;simp [Hp.upd,show ¬j=cc by omega];try (split<;>rfl)
abbrev u155_5:=qS [oM 7 0,oM 8 1,oK 9 8 .add 1,oC 10 143 [.t 7,.t 9],⟨some 11,.new (.bsl 7 1 #[.int .i64 0,.string ⟨#[]⟩,.string ⟨#[]⟩,.slice none 0 0,.slice none 0 0,.slice none 0 0,.int .i64 0] [(0,.t 10)]),none⟩,oM 4 11] .ret [0,1]
abbrev u155_4:=qK u155_5 .skip (.t 6) [0,1,6]
abbrev u155_3:=qS [oM 5 0,oC 6 76 [.t 5,.k (.string ⟨#[105,102]⟩)]] u155_4 [0,1]
abbrev u155_6:=qS [oM 12 0,oM 13 1,oK 14 13 .add 1,oC 15 118 [.t 12,.t 14],oM 4 15] .ret [0,1]
abbrev u155_2:=qQ u155_3 u155_6 [0,1]
abbrev u155_1:=qS [oV 4 (.slice none 0 0)] u155_2 [0,1]
def u155:IFn:=⟨16,u155_1,[.tmp 4]⟩
theorem isU155:A7 Tryz.prog 155 u155:=by unfold A7;kernel_rfl
theorem C1r {K H':Hp} {cc b:Nat} (l:List Pb.St) (hK:∀ i,cc<=i->K i=none) (hb0:cc<=b) (hb:H' b=some ⟨7,true,A4 (l.map Pb.St.v)⟩) (h:∀ j,j<cc->H' j=K j) :
  GL H' [.slc b 0 l.length] K [F1 l] :=
 GL.frzS (id:=b) hb rfl (fun j=>by
  by_cases hj:j<cc
  ·exact .inr ⟨by omega,(h j hj).symm⟩
  ·exact .inl (hK j (by omega))) (.cons _ _ _ _ (P1 (u:=7) (by simp) (A5v l) ⟨[],by simp⟩) .nil)
theorem B9h (e:Pb.St):A4 ([e].map Pb.St.v)=[I64 e.kind,.str e.name,.str e.text,H7 e.args,F1 e.thn,F1 e.els,I64 e.pos]:=by
 rw [A0Z,Pb.St.v_w];rfl
theorem c_other (L:List Tok) (E:Int) (hL:L.length<=1000000000) (f:Nat)
  (is:∀ d s r,0<=d->d<=100->Q4 L E f d s=some r->s.i<=L.length->RdC L E 143 [I64 d] s (r.1.v,r.2))
  (ib:∀ d s r,0<=d->d<=100->L1 L E f d s=some r->s.i<=L.length->RdC L E 118 [I64 d] s (F1 r.1,r.2))
  (d:Int) (s:Rd) (r:List Pb.St × Rd) (hd0:0<=d) (hd:d<=99) (h:O7 L E (f+1) d s=some r) (hi:s.i<=L.length):RdC L E 155 [I64 d] s (F1 r.1,r.2):=by
 intro H cc t ht htc;refine AC.body A9 isU155 (A0B rfl) fun hfr=>?_;show IW Tryz.prog 16 u155_1 ⟨B7 _,_,_⟩ (rt [.tmp 4] _);unfold O7 at h;have hw:IntKind.i64.wrap (d+1)=d+1:=w64 (by omega) (by omega);repeat' ((with_reducible apply wr)<;>try simp only [go_sem,seval])
 refine AC.call (c_is L E s _ _ t ht (by omega) _) ?_;rintro v H' c1 ⟨rfl,rfl⟩ hc1;cases hq:isR L E s [105,102] with
 | true =>
  rw [if_pos hq] at h;cases hs:Q4 L E f (d+1) s with
  | none=>rw [hs] at h;cases h
  | some q =>
   obtain ⟨x,s1⟩:=q;rw [hs] at h;cases h;simp only [go_sem,seval,hq];repeat' ((with_reducible apply wr)<;>try simp only [go_sem,seval,hq,hw])
   refine AC.call (is (d+1) s (x,s1) (by omega) (by omega) hs hi _ _ t ht (by omega)) ?_;rintro v H' c2 ⟨rfl,rfl⟩ hc2;dsimp only;simp only [go_sem,seval,Pb.St.v_w];repeat' ((with_reducible apply wr)<;>try simp only [go_sem,seval])
   exact ⟨_,_,C1r (cc:=cc) [x] (D5 hfr htc) (by omega) (by rw [B9h];exact A0) (fun j hj=>by rw [A2 (by omega)]),rfl,rfl⟩
 | false =>
  rw [if_neg (by simp [hq])] at h;simp only [go_sem,seval,hq];repeat' ((with_reducible apply wr)<;>try simp only [go_sem,seval,hq,hw])
  refine AC.call (ib (d+1) s r (by omega) (by omega) h hi _ _ t ht (by omega)) ?_;rintro v H' c2 ⟨rfl,rfl⟩ hc2;simp only [go_sem,seval];repeat' ((with_reducible apply wr)<;>try simp only [go_sem,seval])
  exact ⟨_,_,GL.refl _ _,rfl,rfl⟩
theorem B2l {K H':Hp} {cc:Nat} {o:Option Nat} (l:List Pb.St) (hK:∀ i,cc<=i->K i=none) (ho:∀ i,o=some i->cc<=i) (hno:o=none->l=[]) (hb:∀ i,o=some i->H' i=some ⟨7,true,A4 (l.map Pb.St.v)⟩) (h:∀ j,j<cc->H' j=K j) :
  GL H' [B3 o l.length] K [F1 l]:=by
 cases o with
 | none =>
  obtain rfl:=hno rfl;exact (Q8 hK h).trans (GL.view fun ρ vs hA=>P8 (fun v h=>h.snil_lst) vs hA)
 | some b=>exact C1r l hK (ho b rfl) (hb b rfl) h
theorem c_block (L:List Tok) (E:Int) (hL:L.length<=1000000000) (f:Nat)
  (is:∀ g,g<=f->∀ d s r,0<=d->d<=100->Q4 L E g d s=some r->s.i<=L.length->RdC L E 143 [I64 d] s (r.1.v,r.2))
  (d:Int) (s:Rd) (r:List Pb.St × Rd) (hd0:0<=d) (hd:d<=100) (h:L1 L E (f+1) d s=some r) (hi:s.i<=L.length):RdC L E 118 [I64 d] s (F1 r.1,r.2):=by
 intro H cc t ht htc;refine AC.body A9 isU118 (A0B rfl) fun hfr=>?_;show IW Tryz.prog 40 u118_1 ⟨B7 _,_,_⟩ (rt [.tmp 4] _);unfold L1 at h;repeat' ((with_reducible apply wr)<;>try simp only [go_sem,seval])
 refine AC.call (c_expect L E s _ _ t ht (by omega) (by omega) _) ?_;rintro v H' c1 ⟨rfl,rfl⟩ hc1;simp only [go_sem,seval];repeat' ((with_reducible apply wr)<;>try simp only [go_sem,seval])
 refine B9 (fun q:Nat × Option Nat × List Pb.St × Rd=>[(0,.ptr t 0),(1,I64 d),(5,B3 q.2.1 q.2.2.1.length)]) (fun q=>C0 (H.upd t (rdR L E q.2.2.2)) q.2.1 ⟨7,true,A4 (q.2.2.1.map Pb.St.v)⟩)
  (fun q c=>cc<=c/\q.1<=f/\q.2.2.2.i<=L.length/\(q.2.1=none->q.2.2.1=[])/\(∀ i,q.2.1=some i->cc<=i/\i<c)/\q.2.2.1.length<=65/\(okR q.2.2.2=true->q.2.2.1.length<=64)/\O1 L E q.1 d q.2.2.1 q.2.2.2=some r) (fun q=>q.1) (f,none,[],D6 L E s [123])
  (by simp [C1,tm,Tm.upd,B3]) (Sub.refl _) ⟨hc1,A0I _,J0 hi,fun _=>rfl,(fun i hi=>by cases hi),by simp,fun _=>by simp,h⟩ ?_
 clear h hi;rintro ⟨g,o,l,u⟩ c ⟨hc,hg,hi,hno,ho,hl1,hl2,hv⟩;dsimp only at hc hg hi hno ho hl1 hl2 hv ⊢;have hHt:C0 (H.upd t (rdR L E u)) o ⟨7,true,A4 (l.map Pb.St.v)⟩ t=some (rdR L E u):=by rw [C7 (fun i hi=>by have:=ho i hi;omega),A0]
 have hfin:∀ (z:Rd) (j:Nat),j<cc->((C0 (H.upd t (rdR L E u)) o ⟨7,true,A4 (l.map Pb.St.v)⟩).upd t (rdR L E z)) j=(H.upd t (rdR L E z)) j:=fun z j hj=>by
  by_cases ej:j=t
  ·subst ej;rw [A0,A0]
  ·rw [A2 ej,A2 ej,C7 (fun i hi=>by have:=ho i hi;omega),A2 ej]
 have hbo:∀ (z:Rd) (i:Nat),o=some i->((C0 (H.upd t (rdR L E u)) o ⟨7,true,A4 (l.map Pb.St.v)⟩).upd t (rdR L E z)) i=some ⟨7,true,A4 (l.map Pb.St.v)⟩:=fun z i hi=>by
  have:=ho i hi;rw [A2 (by omega)];subst hi;exact A0
 cases g with
 | zero=>simp [O1] at hv
 | succ g =>
 unfold O1 at hv;repeat' ((with_reducible apply wr)<;>try simp only [go_sem,seval])
 refine AC.call (c_rdok L E u _ _ t hHt (by omega)) ?_;rintro v H' c2 ⟨rfl,rfl⟩ hc2;cases hok:okR u with
 | false =>
  rw [if_neg (by simp [hok])] at hv;cases hv;simp only [go_sem,seval,hok];repeat' ((with_reducible apply wr)<;>try simp only [go_sem,seval,hok])
  refine AC.call (c_expect L E u _ _ t hHt (by omega) (by omega) _) ?_;rintro v H' c3 ⟨rfl,rfl⟩ hc3;simp only [go_sem,seval];repeat' ((with_reducible apply wr)<;>try simp only [go_sem,seval])
  exact ⟨_,_,B2l (cc:=cc) l (D5 hfr htc) (fun i hi=>(ho i hi).1) hno (hbo _) (hfin _),rfl,rfl⟩
 | true =>
  simp only [go_sem,seval,hok];repeat' ((with_reducible apply wr)<;>try simp only [go_sem,seval,hok])
  refine AC.call (c_is L E u _ _ t hHt (by omega) _) ?_;rintro v H' c3 ⟨rfl,rfl⟩ hc3;cases hq:isR L E u [125] with
  | true =>
   rw [if_neg (by simp [hq])] at hv;cases hv;simp only [go_sem,seval,hq];repeat' ((with_reducible apply wr)<;>try simp only [go_sem,seval,hq])
   refine AC.call (c_expect L E u _ _ t hHt (by omega) (by omega) _) ?_;rintro v H' c4 ⟨rfl,rfl⟩ hc4;simp only [go_sem,seval];repeat' ((with_reducible apply wr)<;>try simp only [go_sem,seval])
   exact ⟨_,_,B2l (cc:=cc) l (D5 hfr htc) (fun i hi=>(ho i hi).1) hno (hbo _) (hfin _),rfl,rfl⟩
  | false =>
   rw [if_pos ⟨hok,hq⟩] at hv;simp only [go_sem,seval,hq];repeat' ((with_reducible first|apply wr|refine cpc c_stmts31 ?_|fail)<;>try simp only [go_sem,seval,hq])
   refine AC.call (c_among L E u _ _ t hHt (by omega) C3 (by decide)) ?_;rintro v H' c4 ⟨rfl,rfl⟩ hc4;generalize C4 L E u C3=k at hv;have hlen:A5h (B3 o l.length)=some (I64 l.length):=by
    cases o with
    | none=>rw [hno rfl];rfl
    | some b=>rfl
   have hwl:IntKind.i64.wrap ((l.length:Int)+1)=(l.length:Int)+1:=w64 (by omega) (by omega);by_cases hsy:k<0/\I9 L E u 1=false
   ·rw [if_pos hsy] at hv;cases hv;have hdk:decide (k<0)=true:=by simpa using hsy.1
    have h1:=hsy.2;simp only [go_sem,seval,hdk];repeat' ((with_reducible apply wr)<;>try simp only [go_sem,seval,hdk])
    refine AC.call (c_isKind L E u _ _ t hHt (by omega) 1) ?_;rintro v H' c5 ⟨rfl,rfl⟩ hc5;simp only [go_sem,seval,h1];repeat' ((with_reducible apply wr)<;>try simp only [go_sem,seval,h1])
    refine AC.call (c_syntax L E u _ _ t hHt (by omega)) ?_;rintro v H' c6 ⟨rfl,rfl⟩ hc6;simp only [go_sem,seval];repeat' ((with_reducible apply wr)<;>try simp only [go_sem,seval])
    exact ⟨_,_,(Q8 (cc:=cc) (D5 hfr htc) (hfin _)).trans (GL.view fun ρ vs hA=>P8 (fun v h=>h.snil_lst) vs hA),rfl,rfl⟩
   rw [if_neg hsy] at hv;cases hs:Q4 L E g d (C8 L E u ((l.length:Int)+1) 64 9) with
   | none=>rw [hs] at hv;cases hv
   | some q =>
   obtain ⟨x,s1⟩:=q;rw [hs] at hv;dsimp only at hv;have hix:=(II.all g).2.2.1 _ _ _ hs (by rw [F6];exact hi);have hnok:=C8g hs;have hll:=hl2 hok;have hlk:okR s1=true->l.length+1<=64:=fun h=>by
    cases hz:okR (C8 L E u ((l.length:Int)+1) 64 9) with
    | false=>rw [hnok hz] at h;cases h
    | true=>have:=(F9 (by decide) hz).2.1;omega
   rcases (show ¬ k<0\/(k<0/\I9 L E u 1=true) by
    by_cases hk:k<0
    ·exact .inr ⟨hk,by cases h1:I9 L E u 1 with|true=>rfl|false=>exact absurd ⟨hk,h1⟩ hsy⟩
    ·exact .inl hk) with hk|⟨hk,h1⟩
   case' inl =>
    have hdk:decide (k<0)=false:=by simpa using hk
    simp only [go_sem,seval,hdk];repeat' ((with_reducible first|refine G8 (p:=IW _ _ u118_14 _ _) ?_|refine wr ?_|fail)<;>try simp only [go_sem,seval,hdk])
    obtain ⟨c5,hc5,e5⟩:∃ c5,c4<=c5/\c5=c4:=⟨c4,A0I _,rfl⟩;rw [<- e5];clear e5 hdk hk
   case' inr =>
    have hdk:decide (k<0)=true:=by simpa using hk
    simp only [go_sem,seval,hdk];repeat' ((with_reducible apply wr)<;>try simp only [go_sem,seval,hdk])
    refine AC.call (c_isKind L E u _ _ t hHt (by omega) 1) ?_;rintro v H' c5 ⟨rfl,rfl⟩ hc5;simp only [go_sem,seval,h1];repeat' ((with_reducible first|refine G8 (p:=IW _ _ u118_14 _ _) ?_|refine wr ?_|fail)<;>try simp only [go_sem,seval,h1])
    clear hdk hk h1
   all_goals
    unfold A5n;repeat' ((with_reducible apply wr)<;>try simp only [go_sem,seval,hlen,hwl])
    refine AC.call (c_limit L E u _ _ t hHt (by omega) _ _ _) ?_;rintro v H' c6 ⟨rfl,rfl⟩ hc6;simp only [go_sem,seval];repeat' ((with_reducible apply wr)<;>try simp only [go_sem,seval])
    refine AC.call (is g (by omega) d _ (x,s1) hd0 hd hs (by rw [F6];exact hi) _ _ t A0 (by omega)) ?_;rintro v H' c7 ⟨rfl,rfl⟩ hc7;dsimp only;have ne0:=T8 t c7 (c7+1) (by omega);simp only [go_sem,seval,ne0,A1,Pb.St.v_w];repeat' ((with_reducible apply wr)<;>try simp only [go_sem,seval,ne0])
    refine F3 (F0 (cs:=A4 (l.map Pb.St.v)) (fun e=>by rw [hno e];exact ⟨rfl,rfl⟩) (fun i hi=>?_) (by rw [C2 (u:=7) (A5v _)];simp) (by omega) (by omega) (by omega)) ?_
    ·have:=ho i hi;rw [A2 (by omega)];exact hbo _ i hi
    simp only [go_sem,seval,ne0];repeat' ((with_reducible apply wr)<;>try simp only [go_sem,seval,ne0])
    refine ⟨(g,some (c7+1),l++[x],s1),by simp only [A0A,A0H];rfl,?_,inv ⟨by omega,by simp only;omega,hix,(fun h=>by cases h),(fun i hi=>by cases hi;omega),by simp only [A0A,A0H];omega,(fun h=>by have:=hlk h;simp only [A0A,A0H];omega),hv⟩,by simp only;omega⟩;intro jj b hj;simp only [C0] at hj;by_cases e1:jj=c7+1
    ·subst e1;rw [A0] at hj ⊢;rw [<- hj,A0W,C5,B9h]
    ·rw [A2 e1] at hj ⊢;by_cases e2:jj=t
     ·subst e2;rw [A0] at hj;rw [E9 (fun i hi=>by have:=ho i hi;omega),A2 (by omega),A0];exact hj
     ·rw [A2 e2] at hj;have hjc:jj<cc:=Classical.byContradiction fun h=>by rw [hfr jj (by omega)] at hj;cases hj
      rw [E9 (fun i hi=>by have:=ho i hi;omega),A2 (by omega),A2 e2,C7 (fun i hi=>by have:=ho i hi;omega),A2 e2];exact hj
end Go.Proofs.YtnmkkggfgdfmeaaGreatDoor
set_option maxHeartbeats 8000000
namespace Go.Proofs.YtnmkkggfgdfmeaaGreatDoor
open Go.Eng (IC IOper DReg IFn A7)
open Go.Sym Go.Pb
def NlR (a b:DV):Prop:=b=a\/(a=.snil/\b=.lst [])
theorem NlR.v {ρ : Ren} {v:Value} {a b:DV} (h:NlR a b) (k:VRel ρ a v):VRel ρ b v:=by
 rcases h with rfl|⟨rfl,rfl⟩
 ·exact k
 ·exact k.snil_lst
theorem D1l {ρ : Ren} {v:Value} {a b c d e f g d' e' f':DV} (hd:NlR d d') (he:NlR e e') (hf:NlR f f') (h:VRel ρ (.agg [a,b,c,d,e,f,g]) v):VRel ρ (.agg [a,b,c,d',e',f',g]) v:=by
 obtain ⟨bb,rfl,k1,k2⟩:=h.agg_inv;refine .agg _ _ k1 fun j x y hx hy=>?_
 match j with
 | 0=>cases hx;exact k2 0 _ y rfl hy
 | 1=>cases hx;exact k2 1 _ y rfl hy
 | 2=>cases hx;exact k2 2 _ y rfl hy
 | 3=>cases hx;exact hd.v (k2 3 _ y rfl hy)
 | 4=>cases hx;exact he.v (k2 4 _ y rfl hy)
 | 5=>cases hx;exact hf.v (k2 5 _ y rfl hy)
 | 6=>cases hx;exact k2 6 _ y rfl hy
 | _+7=>cases hx
theorem C1q {K H':Hp} {cc:Nat} {a b c d e f g d' e' f':DV} (hd:NlR d d') (he:NlR e e') (hf:NlR f f') (hK:∀ i,cc<=i->K i=none) (h:∀ j,j<cc->H' j=K j):GL H' [.agg [a,b,c,d,e,f,g]] K [.agg [a,b,c,d',e',f',g]] :=
 (Q8 hK h).trans (GL.view fun ρ vs hA=>P8 (fun v h=>D1l hd he hf h) vs hA)
theorem A0v {K H':Hp} {cc i:Nat} {a b c e f g e' f':DV} (l:List Ex) (he:NlR e e') (hf:NlR f f') (hK:∀ i,cc<=i->K i=none) (hi0:cc<=i) (hb:H' i=some ⟨5,true,A4 (l.map Ex.v)⟩) (h:∀ j,j<cc->H' j=K j):GL H' [.agg [a,b,c,.slc i 0 l.length,e,f,g]] K [.agg [a,b,c,H7 l,e',f',g]] :=
 (GL.frzS (id:=i) hb rfl (fun j=>by
  by_cases hj:j<cc
  ·exact .inr ⟨by omega,(h j hj).symm⟩
  ·exact .inl (hK j (by omega))) (.cons _ _ _ _ (.agg _ _ (.cons _ _ _ _ (.same _) (.cons _ _ _ _ (.same _) (.cons _ _ _ _ (.same _) (.cons _ _ _ _ (P1 (u:=5) (by simp) (A3m l) ⟨[],by simp⟩) (.cons _ _ _ _ (.same _) (.cons _ _ _ _ (.same _) (.cons _ _ _ _ (.same _) .nil)))))))) .nil)).trans (GL.view fun ρ vs hA=>P8 (fun v h=>D1l (.inl rfl) he hf h) vs hA)
theorem rv7 {s:Sym.St} {x i u:Nat} {a b c d e f g:DV} {o:Bool} (h:s.T x=.ptr i 0) (hb:s.H i=some ⟨u,o,[a,b,c,d,e,f,g]⟩):A4e s [.cell x 7 true]=some (.agg [a,b,c,d,e,f,g]):=by
 simp only [A4e,A2h,h,ldv,hb];rfl
theorem c_statement (L:List Tok) (E:Int) (hL:L.length<=1000000000) (f:Nat)
  (ib:∀ d s r,0<=d->d<=100->L1 L E f d s=some r->s.i<=L.length->RdC L E 118 [I64 d] s (F1 r.1,r.2))
  (io:∀ d s r,0<=d->d<=99->O7 L E f d s=some r->s.i<=L.length->RdC L E 155 [I64 d] s (F1 r.1,r.2))
  (d:Int) (s0:Rd) (r:Pb.St × Rd) (hd0:0<=d) (hd:d<=100) (h:Q4 L E (f+1) d s0=some r) (hi:s0.i<=L.length):RdC L E 143 [I64 d] s0 (r.1.v,r.2):=by
 intro H cc t ht htc;refine AC.body A9 isU143 (A0B rfl) fun hfr=>?_;show IW Tryz.prog 134 u143_1 ⟨B7 _,_,_⟩ (rt [.cell 4 7 true] _);unfold Q4 at h;dsimp only at h;repeat' ((with_reducible apply wr)<;>try simp only [go_sem,seval])
 refine AC.call (c_limit L E s0 _ _ t (by rw [A2 (by omega)];exact ht) (by omega) _ _ _) ?_;rintro v H' c1 ⟨rfl,rfl⟩ hc1;have his:(C8 L E s0 d 8 50).i<=L.length:=by rw [F6];exact hi
 generalize hsq:C8 L E s0 d 8 50=s at *;have ne0:=L2 t cc (by omega);simp only [go_sem,seval];repeat' ((with_reducible apply wr)<;>try simp only [go_sem,seval])
 refine AC.call (c_rdok L E s _ _ t A0 (by omega)) ?_;rintro v H' c2 ⟨rfl,rfl⟩ hc2;cases hok:okR s with
 | false =>
  rw [if_pos hok] at h;cases h;simp only [go_sem,seval,hok];repeat' ((with_reducible apply wr)<;>try simp only [go_sem,seval,hok,ne0,A0,A1])
  rw [E7 (rv7 rfl A0)];refine ⟨_,_,C1q (cc:=cc) (.inr ⟨rfl,rfl⟩) (.inr ⟨rfl,rfl⟩) (.inr ⟨rfl,rfl⟩) (D5 hfr htc) (fun j hj=>?_),rfl,rfl⟩;simp [Hp.upd,show ¬j=cc by omega]
 | true =>
  rw [if_neg (by simp [hok])] at h;have hd8:d<=8:=by rw [<- hsq] at hok;exact (F9 (by decide) hok).2.1
  simp only [go_sem,seval,hok];repeat' ((with_reducible apply wr)<;>try simp only [go_sem,seval,hok])
  refine AC.call (c_peek L E s _ _ t A0 (by omega)) ?_;rintro v H' c3 ⟨rfl,rfl⟩ hc3;have ne0:=T8 t cc c3 (by omega);simp only [go_sem,seval,ne0];repeat' ((with_reducible first|apply wr|refine cpc c_stmts31 ?_|fail)<;>try simp only [go_sem,seval,ne0,A0,A1])
  refine AC.call (c_among L E s _ _ t (by rw [A2 (by omega)];exact A0) (by omega) C3 (by decide)) ?_;rintro v H' c4 ⟨rfl,rfl⟩ hc4;have hkr : -1<=C4 L E s C3/\C4 L E s C3<18:=A2p L E s C3 0;have hnn:0<=C4 L E s C3->s.i<L.length:=fun h=>(G3 h).2.1;generalize C4 L E s C3=k at h hkr hnn;generalize (B8 L E s).pos=p at h ⊢;have hti:=K4 (E:=E) (x:=1) (by decide) his;by_cases hk:k<0
  ·rw [if_pos hk] at h;have hdk:decide (k<0)=true:=by simpa using hk
   cases hz5:P3 L E f (D6 L E (B2 L E s 1).2 [61]) with
   | none=>rw [hz5] at h;cases h
   | some qhz5 =>
    obtain ⟨e,s1⟩:=qhz5;rw [hz5] at h;dsimp only at h;cases h;simp only [go_sem,seval,hdk,ne0,A0,A1];repeat' ((with_reducible apply wr)<;>try simp only [go_sem,seval,hdk,ne0,A0,A1])
    refine AC.call (c_name L E s _ _ t (by repeat (first|exact A0|rw [A2 (by omega)]|rw [F5 (by omega)])) (by omega) (by have:=his;omega)) ?_;rintro v H' c6 ⟨rfl,rfl⟩ hc6;try dsimp only
    simp only [go_sem,seval,ne0,A0,A1];repeat' ((with_reducible apply wr)<;>try simp only [go_sem,seval,ne0,A0,A1])
    refine AC.call (c_expect L E (B2 L E s 1).2 _ _ t (by repeat (first|exact A0|rw [A2 (by omega)]|rw [F5 (by omega)])) (by omega) (by have:=hti;omega) _) ?_;rintro v H' c7 ⟨rfl,rfl⟩ hc7;try dsimp only
    simp only [go_sem,seval,ne0,A0,A1];repeat' ((with_reducible apply wr)<;>try simp only [go_sem,seval,ne0,A0,A1])
    refine AC.call (c_expression L E hL f (D6 L E (B2 L E s 1).2 [61]) (e,s1) hz5 (J0 hti) _ _ t (by repeat (first|exact A0|rw [A2 (by omega)]|rw [F5 (by omega)])) (by omega)) ?_;rintro v H' c8 ⟨rfl,rfl⟩ hc8;have ne0:=W0 t cc c3 c8 (by omega);try dsimp only
    simp only [go_sem,seval,Ex.v_w,ne0,A0,A1];repeat' ((with_reducible apply wr)<;>try simp only [go_sem,seval,ne0,A0,A1])
    have h1i:=P2 hz5 (J0 hti);dsimp only at h1i;refine AC.call (c_expect L E s1 _ _ t (by repeat (first|exact A0|rw [A2 (by omega)]|rw [F5 (by omega)])) (by omega) (by have:=h1i;omega) _) ?_;rintro v H' c9 ⟨rfl,rfl⟩ hc9;try dsimp only
    simp only [go_sem,seval,ne0,A0,A1];repeat' ((with_reducible apply wr)<;>try simp only [go_sem,seval,ne0,A0,A1])
    rw [E7 (rv7 rfl A0)];refine ⟨_,_,A0v (cc:=cc) (i:=c8) [e] (.inr ⟨rfl,rfl⟩) (.inr ⟨rfl,rfl⟩) (D5 hfr htc) (by omega) ?_ (fun j hj=>?_),(by first|rfl|(rw [Pb.St.v_w];done)|(rw [Pb.St.v_w];rfl)),rfl⟩
    ·rw [A3n];dsimp only
     repeat (first|exact A0|rw [A2 (by omega)]|rw [F5 (by omega)])
    simp [Hp.upd,Hp.del,show ¬j=cc by omega,show ¬j=c3 by omega,show ¬j=c8 by omega];try (split<;>rfl)
  rw [if_neg hk] at h;have hdk:decide (k<0)=false:=by simpa using hk
  have hw2:IntKind.i64.wrap ((s.i:Int)+1)=((s.i+1:Nat):Int):=by rw [w64 (by omega) (by omega)];omega
  have hwk:IntKind.i64.wrap (2+k)=2+k:=w64 (by omega) (by omega);have hwd:IntKind.i64.wrap (d+1)=d+1:=w64 (by omega) (by omega);have hn:(B1 s).i<=L.length:=hnn (by omega);simp only [go_sem,seval,hdk,ne0,A0,A1];have u2:IntKind.i64.wrap 2=2:=w64 (by omega) (by omega);have u3:IntKind.i64.wrap 3=3:=w64 (by omega) (by omega);have u4:IntKind.i64.wrap 4=4:=w64 (by omega) (by omega);have u8:IntKind.i64.wrap 8=8:=w64 (by omega) (by omega);have u9:IntKind.i64.wrap 9=9:=w64 (by omega) (by omega);have u10:IntKind.i64.wrap 10=10:=w64 (by omega) (by omega);have u18:IntKind.i64.wrap 18=18:=w64 (by omega) (by omega);have u19:IntKind.i64.wrap 19=19:=w64 (by omega) (by omega);by_cases hb:k=0\/k=1
  ·rw [if_pos hb] at h;cases hz10:P3 L E f (B1 s) with
   | none=>rw [hz10] at h;cases h
   | some qhz10 =>
    obtain ⟨e,s2⟩:=qhz10;rw [hz10] at h;dsimp only at h;cases hz11:L1 L E f (d+1) s2 with
    | none=>rw [hz11] at h;cases h
    | some qhz11 =>
     obtain ⟨tt,s3⟩:=qhz11;rw [hz11] at h;dsimp only at h;have h2i:=P2 hz10 hn;dsimp only at h2i;have h3i:=(II.all f).1 _ _ _ hz11 h2i;dsimp only at h3i;have hw3:IntKind.i64.wrap ((s3.i:Int)+1)=((s3.i+1:Nat):Int):=by rw [w64 (by omega) (by omega)];omega
     rcases hb with rfl|rfl
     ·repeat' ((with_reducible apply wr)<;>try simp only [go_sem,seval,hdk,hw2,hwk,u2,u3,u4,u8,u9,u10,u18,u19,ne0,A0,A1])
      refine AC.call (c_expression L E hL f (B1 s) (e,s2) hz10 (hn) _ _ t (by repeat (first|exact A0|rw [A2 (by omega)]|rw [F5 (by omega)])) (by omega)) ?_;rintro v H' c12 ⟨rfl,rfl⟩ hc12;have ne0:=W0 t cc c3 c12 (by omega);try dsimp only
      simp only [go_sem,seval,Ex.v_w,ne0,A0,A1];repeat' ((with_reducible apply wr)<;>try simp only [go_sem,seval,ne0,A0,A1])
      try simp only [hwd]
      refine AC.call (ib (d+1) s2 (tt,s3) (by omega) (by omega) hz11 h2i _ _ t (by repeat (first|exact A0|rw [A2 (by omega)]|rw [F5 (by omega)])) (by omega)) ?_;rintro v H' c13 ⟨rfl,rfl⟩ hc13;try dsimp only
      simp only [go_sem,seval,ne0,A0,A1];repeat' ((with_reducible apply wr)<;>try simp only [go_sem,seval,ne0,A0,A1])
      refine AC.call (c_is L E s3 _ _ t (by repeat (first|exact A0|rw [A2 (by omega)]|rw [F5 (by omega)])) (by omega) _) ?_;rintro v H' c14 ⟨rfl,rfl⟩ hc14;cases hq:isR L E s3 [101,108,115,101] with
      | true =>
       rw [if_pos ⟨rfl,hq⟩] at h;cases hz15:O7 L E f d (B1 s3) with
       | none=>rw [hz15] at h;cases h
       | some qhz15 =>
        obtain ⟨oo,s4⟩:=qhz15;rw [hz15] at h;dsimp only at h;cases h;simp only [go_sem,seval,hq,hw3,ne0,A0,A1];repeat' ((with_reducible apply wr)<;>try simp only [go_sem,seval,hq,hw3,ne0,A0,A1])
        refine AC.call (io d (B1 s3) (oo,s4) hd0 (by omega) hz15 (A0r hq).2 _ _ t (by repeat (first|exact A0|rw [A2 (by omega)]|rw [F5 (by omega)])) (by omega)) ?_;rintro v H' c16 ⟨rfl,rfl⟩ hc16;try dsimp only
        simp only [go_sem,seval,ne0,A0,A1];repeat' ((with_reducible apply wr)<;>try simp only [go_sem,seval,ne0,A0,A1])
        rw [E7 (rv7 rfl A0)];refine ⟨_,_,A0v (cc:=cc) (i:=c12) [e] (.inl rfl) (.inl rfl) (D5 hfr htc) (by omega) ?_ (fun j hj=>?_),(by first|rfl|(rw [Pb.St.v_w];done)|(rw [Pb.St.v_w];rfl)),rfl⟩
        ·rw [A3n];dsimp only
         repeat (first|exact A0|rw [A2 (by omega)]|rw [F5 (by omega)])
        simp [Hp.upd,Hp.del,show ¬j=cc by omega,show ¬j=c3 by omega,show ¬j=c12 by omega];try (split<;>rfl)
      | false =>
       rw [if_neg (by simp [hq])] at h;cases h;simp only [go_sem,seval,hq,ne0,A0,A1];repeat' ((with_reducible apply wr)<;>try simp only [go_sem,seval,hq,ne0,A0,A1])
       rw [E7 (rv7 rfl A0)];refine ⟨_,_,A0v (cc:=cc) (i:=c12) [e] (.inl rfl) (.inr ⟨rfl,rfl⟩) (D5 hfr htc) (by omega) ?_ (fun j hj=>?_),(by first|rfl|(rw [Pb.St.v_w];done)|(rw [Pb.St.v_w];rfl)),rfl⟩
       ·rw [A3n];dsimp only
        repeat (first|exact A0|rw [A2 (by omega)]|rw [F5 (by omega)])
       simp [Hp.upd,Hp.del,show ¬j=cc by omega,show ¬j=c3 by omega,show ¬j=c12 by omega];try (split<;>rfl)
     ·repeat' ((with_reducible apply wr)<;>try simp only [go_sem,seval,hdk,hw2,hwk,u2,u3,u4,u8,u9,u10,u18,u19,ne0,A0,A1])
      refine AC.call (c_expression L E hL f (B1 s) (e,s2) hz10 (hn) _ _ t (by repeat (first|exact A0|rw [A2 (by omega)]|rw [F5 (by omega)])) (by omega)) ?_;rintro v H' c17 ⟨rfl,rfl⟩ hc17;have ne0:=W0 t cc c3 c17 (by omega);try dsimp only
      simp only [go_sem,seval,Ex.v_w,ne0,A0,A1];repeat' ((with_reducible apply wr)<;>try simp only [go_sem,seval,ne0,A0,A1])
      try simp only [hwd]
      refine AC.call (ib (d+1) s2 (tt,s3) (by omega) (by omega) hz11 h2i _ _ t (by repeat (first|exact A0|rw [A2 (by omega)]|rw [F5 (by omega)])) (by omega)) ?_;rintro v H' c18 ⟨rfl,rfl⟩ hc18;try dsimp only
      simp only [go_sem,seval,ne0,A0,A1];repeat' ((with_reducible apply wr)<;>try simp only [go_sem,seval,ne0,A0,A1])
      rw [if_neg (by simp)] at h;cases h;rw [E7 (rv7 rfl A0)];refine ⟨_,_,A0v (cc:=cc) (i:=c17) [e] (.inl rfl) (.inr ⟨rfl,rfl⟩) (D5 hfr htc) (by omega) ?_ (fun j hj=>?_),(by first|rfl|(rw [Pb.St.v_w];done)|(rw [Pb.St.v_w];rfl)),rfl⟩
      ·rw [A3n];dsimp only
       repeat (first|exact A0|rw [A2 (by omega)]|rw [F5 (by omega)])
      simp [Hp.upd,Hp.del,show ¬j=cc by omega,show ¬j=c3 by omega,show ¬j=c17 by omega];try (split<;>rfl)
  rw [if_neg hb] at h;unfold L4 at h;dsimp only at h;by_cases k2:k=2
  ·subst k2;rw [if_pos (by decide)] at h;cases hz19:P3 L E f (B1 s) with
   | none=>rw [hz19] at h;cases h
   | some qhz19 =>
    obtain ⟨e,s1⟩:=qhz19;rw [hz19] at h;dsimp only at h;cases h;have h1i:=P2 hz19 hn;dsimp only at h1i;repeat' ((with_reducible apply wr)<;>try simp only [go_sem,seval,hdk,hw2,hwk,u2,u3,u4,u8,u9,u10,u18,u19,ne0,A0,A1])
    refine AC.call (c_expression L E hL f (B1 s) (e,s1) hz19 (hn) _ _ t (by repeat (first|exact A0|rw [A2 (by omega)]|rw [F5 (by omega)])) (by omega)) ?_;rintro v H' c20 ⟨rfl,rfl⟩ hc20;have ne0:=W0 t cc c3 c20 (by omega);try dsimp only
    simp only [go_sem,seval,Ex.v_w,ne0,A0,A1];repeat' ((with_reducible apply wr)<;>try simp only [go_sem,seval,ne0,A0,A1])
    refine AC.call (c_expect L E s1 _ _ t (by repeat (first|exact A0|rw [A2 (by omega)]|rw [F5 (by omega)])) (by omega) (by have:=h1i;omega) _) ?_;rintro v H' c21 ⟨rfl,rfl⟩ hc21;try dsimp only
    simp only [go_sem,seval,ne0,A0,A1];repeat' ((with_reducible apply wr)<;>try simp only [go_sem,seval,ne0,A0,A1])
    rw [E7 (rv7 rfl A0)];refine ⟨_,_,A0v (cc:=cc) (i:=c20) [e] (.inr ⟨rfl,rfl⟩) (.inr ⟨rfl,rfl⟩) (D5 hfr htc) (by omega) ?_ (fun j hj=>?_),(by first|rfl|(rw [Pb.St.v_w];done)|(rw [Pb.St.v_w];rfl)),rfl⟩
    ·rw [A3n];dsimp only
     repeat (first|exact A0|rw [A2 (by omega)]|rw [F5 (by omega)])
    simp [Hp.upd,Hp.del,show ¬j=cc by omega,show ¬j=c3 by omega,show ¬j=c20 by omega];try (split<;>rfl)
  rw [if_neg (by omega)] at h;by_cases k16:k=16
  ·subst k16;rw [if_pos (by decide)] at h;have h4i:=K4 (E:=E) (x:=4) (by decide) hn;cases hz22:P3 L E f (D6 L E (B2 L E (B1 s) 4).2 [44]) with
   | none=>rw [hz22] at h;cases h
   | some qhz22 =>
    obtain ⟨e,s1⟩:=qhz22;rw [hz22] at h;dsimp only at h;cases h;have h1i:=P2 hz22 (J0 h4i);dsimp only at h1i;repeat' ((with_reducible apply wr)<;>try simp only [go_sem,seval,hdk,hw2,hwk,u2,u3,u4,u8,u9,u10,u18,u19,ne0,A0,A1])
    refine AC.call (c_take L E (B1 s) _ _ t (by repeat (first|exact A0|rw [A2 (by omega)]|rw [F5 (by omega)])) (by omega) (by omega) 4) ?_;rintro v H' c23 ⟨rfl,rfl⟩ hc23;try dsimp only
    simp only [go_sem,seval,ne0,A0,A1];repeat' ((with_reducible apply wr)<;>try simp only [go_sem,seval,ne0,A0,A1])
    refine AC.call (c_expect L E (B2 L E (B1 s) 4).2 _ _ t (by repeat (first|exact A0|rw [A2 (by omega)]|rw [F5 (by omega)])) (by omega) (by have:=h4i;omega) _) ?_;rintro v H' c24 ⟨rfl,rfl⟩ hc24;try dsimp only
    simp only [go_sem,seval,ne0,A0,A1];repeat' ((with_reducible apply wr)<;>try simp only [go_sem,seval,ne0,A0,A1])
    refine AC.call (c_expression L E hL f (D6 L E (B2 L E (B1 s) 4).2 [44]) (e,s1) hz22 (J0 h4i) _ _ t (by repeat (first|exact A0|rw [A2 (by omega)]|rw [F5 (by omega)])) (by omega)) ?_;rintro v H' c25 ⟨rfl,rfl⟩ hc25;have ne0:=W0 t cc c3 c25 (by omega);try dsimp only
    simp only [go_sem,seval,Ex.v_w,ne0,A0,A1];repeat' ((with_reducible apply wr)<;>try simp only [go_sem,seval,ne0,A0,A1])
    refine AC.call (c_expect L E s1 _ _ t (by repeat (first|exact A0|rw [A2 (by omega)]|rw [F5 (by omega)])) (by omega) (by have:=h1i;omega) _) ?_;rintro v H' c26 ⟨rfl,rfl⟩ hc26;try dsimp only
    simp only [go_sem,seval,ne0,A0,A1];repeat' ((with_reducible apply wr)<;>try simp only [go_sem,seval,ne0,A0,A1])
    rw [E7 (rv7 rfl A0)];refine ⟨_,_,A0v (cc:=cc) (i:=c25) [e] (.inr ⟨rfl,rfl⟩) (.inr ⟨rfl,rfl⟩) (D5 hfr htc) (by omega) ?_ (fun j hj=>?_),(by first|rfl|(rw [Pb.St.v_w];done)|(rw [Pb.St.v_w];rfl)),rfl⟩
    ·rw [A3n];dsimp only
     repeat (first|exact A0|rw [A2 (by omega)]|rw [F5 (by omega)])
    simp [Hp.upd,Hp.del,show ¬j=cc by omega,show ¬j=c3 by omega,show ¬j=c25 by omega];try (split<;>rfl)
  rw [if_neg (by omega)] at h;by_cases k17:k=17
  ·subst k17;rw [if_pos (by decide)] at h;cases h;repeat' ((with_reducible apply wr)<;>try simp only [go_sem,seval,hdk,hw2,hwk,u2,u3,u4,u8,u9,u10,u18,u19,ne0,A0,A1])
   refine AC.call (c_expect L E (B1 s) _ _ t (by repeat (first|exact A0|rw [A2 (by omega)]|rw [F5 (by omega)])) (by omega) (by have:=hn;omega) _) ?_;rintro v H' c27 ⟨rfl,rfl⟩ hc27;try dsimp only
   simp only [go_sem,seval,ne0,A0,A1];repeat' ((with_reducible apply wr)<;>try simp only [go_sem,seval,ne0,A0,A1])
   rw [E7 (rv7 rfl A0)];refine ⟨_,_,C1q (cc:=cc) (.inr ⟨rfl,rfl⟩) (.inr ⟨rfl,rfl⟩) (.inr ⟨rfl,rfl⟩) (D5 hfr htc) (fun j hj=>?_),(by first|rfl|(rw [Pb.St.v_w];done)|(rw [Pb.St.v_w];rfl)),rfl⟩;simp [Hp.upd,Hp.del,show ¬j=cc by omega,show ¬j=c3 by omega];try (split<;>rfl)
  rw [if_neg (by omega)] at h;have hti2:=K4 (E:=E) (x:=1) (by decide) hn;by_cases k7:k=7
  ·subst k7;rw [if_pos (by omega)] at h;cases hz28:P3 L E f (B2 L E (B1 s) 1).2 with
   | none=>rw [hz28] at h;cases h
   | some qhz28 =>
    obtain ⟨e,s1⟩:=qhz28;rw [hz28] at h;dsimp only at h;rw [if_pos (by decide)] at h;have h1i:=P2 hz28 hti2;dsimp only at h1i;cases hz29:P3 L E f (D6 L E s1 [44]) with
    | none=>rw [hz29] at h;cases h
    | some qhz29 =>
     obtain ⟨e2,s2⟩:=qhz29;rw [hz29] at h;dsimp only at h;cases h;have h2i:=P2 hz29 (J0 h1i);dsimp only at h2i;repeat' ((with_reducible apply wr)<;>try simp only [go_sem,seval,hdk,hw2,hwk,u2,u3,u4,u8,u9,u10,u18,u19,ne0,A0,A1])
     refine AC.call (c_name L E (B1 s) _ _ t (by repeat (first|exact A0|rw [A2 (by omega)]|rw [F5 (by omega)])) (by omega) (by have:=hn;omega)) ?_;rintro v H' c30 ⟨rfl,rfl⟩ hc30;try dsimp only
     simp only [go_sem,seval,ne0,A0,A1];repeat' ((with_reducible apply wr)<;>try simp only [go_sem,seval,ne0,A0,A1])
     refine AC.call (c_expression L E hL f (B2 L E (B1 s) 1).2 (e,s1) hz28 (hti2) _ _ t (by repeat (first|exact A0|rw [A2 (by omega)]|rw [F5 (by omega)])) (by omega)) ?_;rintro v H' c31 ⟨rfl,rfl⟩ hc31;have ne0:=W0 t cc c3 c31 (by omega);try dsimp only
     simp only [go_sem,seval,Ex.v_w,ne0,A0,A1];repeat' ((with_reducible apply wr)<;>try simp only [go_sem,seval,ne0,A0,A1])
     refine AC.call (c_expect L E s1 _ _ t (by repeat (first|exact A0|rw [A2 (by omega)]|rw [F5 (by omega)])) (by omega) (by have:=h1i;omega) _) ?_;rintro v H' c32 ⟨rfl,rfl⟩ hc32;try dsimp only
     simp only [go_sem,seval,ne0,A0,A1];repeat' ((with_reducible apply wr)<;>try simp only [go_sem,seval,ne0,A0,A1])
     have hgx:=J0 (E:=E) (x:=[44]) h1i;refine AC.call (c_expression L E hL f (D6 L E s1 [44]) (e2,s2) hz29 (J0 h1i) _ _ t (by repeat (first|exact A0|rw [A2 (by omega)]|rw [F5 (by omega)])) (by omega)) ?_;rintro v H' c33 ⟨rfl,rfl⟩ hc33;have ne0:=A0q t cc c3 c31 (c32+4) (by omega);try dsimp only
     simp only [go_sem,seval,Ex.v_w,ne0,A0,A1];repeat' ((with_reducible apply wr)<;>try simp only [go_sem,seval,ne0,A0,A1])
     refine ⟨?_,?_⟩
     ·and_intros
      all_goals ((repeat rw [A2 (by omega)]);exact hfr _ (by omega))
     have ne0:=A7z t cc c3 c31 (c32+4) c33 (by omega);try simp only [go_sem,seval,H9,F5,A1m,ne0,A0,A1]
     repeat' ((with_reducible apply wr)<;>try simp only [go_sem,seval,H9,F5,A1m,ne0,A0,A1])
     refine C7m (V4 (by rfl) (by omega) (by omega)) ?_;try simp only [go_sem,seval,F5,A1m,ne0,A0,A1]
     repeat' ((with_reducible apply wr)<;>try simp only [go_sem,seval,F5,A1m,ne0,A0,A1])
     refine AC.call (c_expect L E s2 _ _ t (by repeat (first|exact A0|rw [A2 (by omega)]|rw [F5 (by omega)])) (by omega) (by have:=h2i;omega) _) ?_;rintro v H' c34 ⟨rfl,rfl⟩ hc34;try dsimp only
     simp only [go_sem,seval,ne0,A0,A1];repeat' ((with_reducible apply wr)<;>try simp only [go_sem,seval,ne0,A0,A1])
     rw [E7 (rv7 rfl A0)];refine ⟨_,_,A0v (cc:=cc) (i:=c33) [e,e2] (.inr ⟨rfl,rfl⟩) (.inr ⟨rfl,rfl⟩) (D5 hfr htc) (by omega) ?_ (fun j hj=>?_),(by first|rfl|(rw [Pb.St.v_w];done)|(rw [Pb.St.v_w];rfl)),rfl⟩
     ·rw [C1v];dsimp only
      repeat (first|exact A0|rw [A2 (by omega)]|rw [F5 (by omega)])
     simp [Hp.upd,Hp.del,show ¬j=cc by omega,show ¬j=c3 by omega,show ¬j=c31 by omega,show ¬j=c32+4 by omega,show ¬j=c33 by omega];try (split<;>rfl)
  by_cases k68:k=6\/k=8
  ·rw [if_pos (by omega)] at h;cases hz35:P3 L E f (B2 L E (B1 s) 1).2 with
   | none=>rw [hz35] at h;cases h
   | some qhz35 =>
    obtain ⟨e,s1⟩:=qhz35;rw [hz35] at h;dsimp only at h;rw [if_neg (by omega)] at h;cases h;have h1i:=P2 hz35 hti2;dsimp only at h1i;rcases k68 with rfl|rfl
    all_goals
     repeat' ((with_reducible apply wr)<;>try simp only [go_sem,seval,hdk,hw2,hwk,u2,u3,u4,u8,u9,u10,u18,u19,ne0,A0,A1])
     refine AC.call (c_name L E (B1 s) _ _ t (by repeat (first|exact A0|rw [A2 (by omega)]|rw [F5 (by omega)])) (by omega) (by have:=hn;omega)) ?_;rintro v H' c36 ⟨rfl,rfl⟩ hc36;try dsimp only
     simp only [go_sem,seval,ne0,A0,A1];repeat' ((with_reducible apply wr)<;>try simp only [go_sem,seval,ne0,A0,A1])
     refine AC.call (c_expression L E hL f (B2 L E (B1 s) 1).2 (e,s1) hz35 (hti2) _ _ t (by repeat (first|exact A0|rw [A2 (by omega)]|rw [F5 (by omega)])) (by omega)) ?_;rintro v H' c37 ⟨rfl,rfl⟩ hc37;have ne0:=W0 t cc c3 c37 (by omega);try dsimp only
     simp only [go_sem,seval,Ex.v_w,ne0,A0,A1];repeat' ((with_reducible apply wr)<;>try simp only [go_sem,seval,ne0,A0,A1])
     refine AC.call (c_expect L E s1 _ _ t (by repeat (first|exact A0|rw [A2 (by omega)]|rw [F5 (by omega)])) (by omega) (by have:=h1i;omega) _) ?_;rintro v H' c38 ⟨rfl,rfl⟩ hc38;try dsimp only
     simp only [go_sem,seval,ne0,A0,A1];repeat' ((with_reducible apply wr)<;>try simp only [go_sem,seval,ne0,A0,A1])
     rw [E7 (rv7 rfl A0)];refine ⟨_,_,A0v (cc:=cc) (i:=c37) [e] (.inr ⟨rfl,rfl⟩) (.inr ⟨rfl,rfl⟩) (D5 hfr htc) (by omega) ?_ (fun j hj=>?_),(by first|rfl|(rw [Pb.St.v_w];done)|(rw [Pb.St.v_w];rfl)),rfl⟩
     ·rw [A3n];dsimp only
      repeat (first|exact A0|rw [A2 (by omega)]|rw [F5 (by omega)])
     simp [Hp.upd,Hp.del,show ¬j=cc by omega,show ¬j=c3 by omega,show ¬j=c37 by omega];try (split<;>rfl)
  rw [if_neg (by omega)] at h;cases h;have e2:(2+k == 2)=false:=by simp;omega
  have e3:(2+k == 3)=false:=by simp;omega
  have e4:(2+k == 4)=false:=by simp;omega
  have e18:(2+k == 18)=false:=by simp;omega
  have e19:(2+k == 19)=false:=by simp;omega
  have e8:(2+k == 8)=false:=by simp;omega
  have e9:(2+k == 9)=false:=by simp;omega
  have e10:(2+k == 10)=false:=by simp;omega
  repeat' ((with_reducible apply wr)<;>try simp only [go_sem,seval,hdk,hw2,hwk,u2,u3,u4,u8,u9,u10,u18,u19,e2,e3,e4,e18,e19,e8,e9,e10,ne0,A0,A1])
  refine AC.call (c_name L E (B1 s) _ _ t (by repeat (first|exact A0|rw [A2 (by omega)]|rw [F5 (by omega)])) (by omega) (by have:=hn;omega)) ?_;rintro v H' c39 ⟨rfl,rfl⟩ hc39;try dsimp only
  simp only [go_sem,seval,e8,e9,e10,ne0,A0,A1];repeat' ((with_reducible apply wr)<;>try simp only [go_sem,seval,e8,e9,e10,ne0,A0,A1])
  refine AC.call (c_expect L E (B2 L E (B1 s) 1).2 _ _ t (by repeat (first|exact A0|rw [A2 (by omega)]|rw [F5 (by omega)])) (by omega) (by have:=hti2;omega) _) ?_;rintro v H' c40 ⟨rfl,rfl⟩ hc40;try dsimp only
  simp only [go_sem,seval,ne0,A0,A1];repeat' ((with_reducible apply wr)<;>try simp only [go_sem,seval,ne0,A0,A1])
  rw [E7 (rv7 rfl A0)];refine ⟨_,_,C1q (cc:=cc) (.inr ⟨rfl,rfl⟩) (.inr ⟨rfl,rfl⟩) (.inr ⟨rfl,rfl⟩) (D5 hfr htc) (fun j hj=>?_),(by first|rfl|(rw [Pb.St.v_w];done)|(rw [Pb.St.v_w];rfl)),rfl⟩;simp [Hp.upd,Hp.del,show ¬j=cc by omega,show ¬j=c3 by omega];try (split<;>rfl)
end Go.Proofs.YtnmkkggfgdfmeaaGreatDoor
set_option maxHeartbeats 4000000
namespace Go.Proofs.YtnmkkggfgdfmeaaGreatDoor
open Go.Eng (IC IOper DReg IFn A7)
open Go.Sym Go.Pb
theorem c_stm (L:List Tok) (E:Int) (hL:L.length<=1000000000):∀ f:Nat,
  (∀ d s r,0<=d->d<=100->Q4 L E f d s=some r->s.i<=L.length->RdC L E 143 [I64 d] s (r.1.v,r.2)) /\
  (∀ d s r,0<=d->d<=100->L1 L E f d s=some r->s.i<=L.length->RdC L E 118 [I64 d] s (F1 r.1,r.2)) /\
  (∀ d s r,0<=d->d<=99->O7 L E f d s=some r->s.i<=L.length->RdC L E 155 [I64 d] s (F1 r.1,r.2)):=by
 intro f
 induction f using Nat.strongRecOn with
 | _ f ih =>
  cases f with
  | zero=>exact ⟨fun d s r _ _ h=>by simp [Q4] at h,fun d s r _ _ h=>by simp [L1] at h,fun d s r _ _ h=>by simp [O7] at h⟩
  | succ f =>
   have i0:=ih f (by omega);exact ⟨fun d s r h1 h2 h hi=>c_statement L E hL f i0.2.1 i0.2.2 d s r h1 h2 h hi,
    fun d s r h1 h2 h hi=>c_block L E hL f (fun g hg=>(ih g (by omega)).1) d s r h1 h2 h hi,
    fun d s r h1 h2 h hi=>c_other L E hL f i0.1 i0.2.1 d s r h1 h2 h hi⟩
theorem c_declaration (L:List Tok) (E:Int) (s:Rd) (H:Hp) (cc t:Nat) (ht:H t=some (rdR L E s)) (htc:t<cc) (hL:L.length<=1000000000) (hv:∀ x∈L,0<=x.value/\x.value<=9223372036854775807) (k:Int) (hk0:0<=k) (hk:k<8) (hi:s.i<L.length):AC Tryz.prog 75 [.ptr t 0,I64 k] H cc (fun v H' c'=>v=(R3 L E k s).1.v/\H'=H.upd t (rdR L E (R3 L E k s).2)):=by
 refine AC.body A9 isU75 (A0B rfl) fun hfr=>?_;show IW Tryz.prog 53 u75_1 ⟨B7 _,_,_⟩ (rt [.cell 4 4 true] _);have hwk:IntKind.i64.wrap (1+k)=1+k:=w64 (by omega) (by omega);have hw:IntKind.i64.wrap ((s.i:Int)+1)=((s.i+1:Nat):Int):=by rw [w64 (by omega) (by omega)];omega
 have hn:(B1 s).i<=L.length:=hi;have hti:=K4 (E:=E) (x:=1) (by decide) hn;repeat' ((with_reducible apply wr)<;>try simp only [go_sem,seval])
 refine AC.call (c_peek L E s _ _ t (by rw [A2 (by omega)];exact ht) (by omega)) ?_;rintro v H' c1 ⟨rfl,rfl⟩ hc1;have ne0:=T8 t cc c1 (by omega);simp only [go_sem,seval,ne0,hwk];repeat' ((with_reducible apply wr)<;>try simp only [go_sem,seval,ht,hw,hwk,ne0,A0,A1])
 refine AC.call (c_name L E (B1 s) _ _ t (by repeat (first|exact A0|rw [A2 (by omega)])) (by omega) (by omega)) ?_;rintro v H' c2 ⟨rfl,rfl⟩ hc2;have hval:∀ z,0<=(B2 L E z 3).1.value/\(B2 L E z 3).1.value<=9223372036854775807:=fun z=>by
  unfold B2;split
  ·exact ⟨A3X 0,(by decide:(0:Int)<=9223372036854775807)⟩
  ·show 0<=(B8 L E z).value/\(B8 L E z).value<=9223372036854775807;unfold B8;rw [A1C];cases hg:L[z.i]? with
   | none=>exact ⟨A3X 0,(by decide:(0:Int)<=9223372036854775807)⟩
   | some x=>exact hv x (A0V hg)
 obtain ⟨D,hD⟩:∃ D,D=R3 L E k s:=⟨_,rfl⟩;rw [<- hD];unfold R3 at hD;dsimp only at hD;generalize (B8 L E s).pos=p at hD ⊢;generalize (B2 L E (B1 s) 1).1.text=n at hD ⊢;generalize (B2 L E (B1 s) 1).2=s2 at hD hti ⊢;by_cases h6:k+1<=6
 ·rw [if_pos h6] at hD;have hd6:decide (1+k<=6)=true:=by simp;omega
  have hw2:IntKind.i64.wrap ((s2.i:Int)+1)=((s2.i+1:Nat):Int):=by rw [w64 (by omega) (by omega)];omega
  by_cases h5:k=5
  ·subst h5;simp only [go_sem,seval,hd6,ne0,A0,A1];repeat' ((with_reducible apply wr)<;>try simp only [go_sem,seval,hd6,ne0,A0,A1])
   refine AC.call (c_is L E s2 _ _ t (by repeat (first|exact A0|rw [A2 (by omega)])) (by omega) _) ?_;rintro v H' c3 ⟨rfl,rfl⟩ hc3;cases hq:isR L E s2 [45] with
   | true =>
    rw [hq] at hD;have hn2:(B1 s2).i<=L.length:=(A0r hq).2;have hv2:=hval (B1 s2);have hneg:IntKind.i64.wrap (0-(B2 L E (B1 s2) 3).1.value) = -(B2 L E (B1 s2) 3).1.value:=by rw [w64 (by omega) (by omega)];omega
    simp only [go_sem,seval,hq,hw2,ne0,A0,A1];repeat' ((with_reducible apply wr)<;>try simp only [go_sem,seval,hw2,ne0,A0,A1])
    have h4i:=K4 (E:=E) (x:=3) (by decide) hn2;subst hD;refine AC.call (c_take L E (B1 s2) _ _ t (by repeat (first|exact A0|rw [A2 (by omega)])) (by omega) (by omega) 3) ?_;rintro v H' c4 ⟨rfl,rfl⟩ hc4;try dsimp only
    simp only [go_sem,seval,hneg,ne0,A0,A1];repeat' ((with_reducible apply wr)<;>try simp only [go_sem,seval,hneg,ne0,A0,A1])
    refine AC.call (c_expect L E (B2 L E (B1 s2) 3).2 _ _ t (by repeat (first|exact A0|rw [A2 (by omega)])) (by omega) (by omega) _) ?_;rintro v H' c9 ⟨rfl,rfl⟩ hc9;simp only [go_sem,seval,ne0,A0,A1];repeat' ((with_reducible apply wr)<;>try simp only [go_sem,seval,ne0,A0,A1])
    rw [E7 (rv4 rfl A0)];refine ⟨_,_,Q8 (cc:=cc) (D5 hfr htc) (fun j hj=>?_),rfl,rfl⟩;simp [Hp.upd,show ¬j=cc by omega,show ¬j=c1 by omega];try (split<;>rfl)
   | false =>
    rw [hq] at hD;simp only [go_sem,seval,hq,ne0,A0,A1];repeat' ((with_reducible apply wr)<;>try simp only [go_sem,seval,ne0,A0,A1])
    have h4i:=K4 (E:=E) (x:=3) (by decide) hti;subst hD;refine AC.call (c_take L E s2 _ _ t (by repeat (first|exact A0|rw [A2 (by omega)])) (by omega) (by omega) 3) ?_;rintro v H' c4 ⟨rfl,rfl⟩ hc4;try dsimp only
    simp only [go_sem,seval,ne0,A0,A1];repeat' ((with_reducible apply wr)<;>try simp only [go_sem,seval,ne0,A0,A1])
    refine AC.call (c_expect L E (B2 L E s2 3).2 _ _ t (by repeat (first|exact A0|rw [A2 (by omega)])) (by omega) (by omega) _) ?_;rintro v H' c9 ⟨rfl,rfl⟩ hc9;simp only [go_sem,seval,ne0,A0,A1];repeat' ((with_reducible apply wr)<;>try simp only [go_sem,seval,ne0,A0,A1])
    rw [E7 (rv4 rfl A0)];refine ⟨_,_,Q8 (cc:=cc) (D5 hfr htc) (fun j hj=>?_),rfl,rfl⟩;simp [Hp.upd,show ¬j=cc by omega,show ¬j=c1 by omega];try (split<;>rfl)
  ·have hd5:(1+k == 6)=false:=by simp;omega
   have hm:(k+1 == 6)=false:=by simp;omega
   rw [hm] at hD;simp only [go_sem,seval,hd6,hd5,ne0,A0,A1];repeat' ((with_reducible apply wr)<;>try simp only [go_sem,seval,hd6,hd5,ne0,A0,A1])
   have h4i:=K4 (E:=E) (x:=3) (by decide) hti;subst hD;refine AC.call (c_take L E s2 _ _ t (by repeat (first|exact A0|rw [A2 (by omega)])) (by omega) (by omega) 3) ?_;rintro v H' c4 ⟨rfl,rfl⟩ hc4;try dsimp only
   simp only [go_sem,seval,ne0,A0,A1];repeat' ((with_reducible apply wr)<;>try simp only [go_sem,seval,ne0,A0,A1])
   refine AC.call (c_expect L E (B2 L E s2 3).2 _ _ t (by repeat (first|exact A0|rw [A2 (by omega)])) (by omega) (by omega) _) ?_;rintro v H' c9 ⟨rfl,rfl⟩ hc9;simp only [go_sem,seval,ne0,A0,A1];repeat' ((with_reducible apply wr)<;>try simp only [go_sem,seval,ne0,A0,A1])
   rw [E7 (rv4 rfl A0)];refine ⟨_,_,Q8 (cc:=cc) (D5 hfr htc) (fun j hj=>?_),rfl,rfl⟩;simp [Hp.upd,show ¬j=cc by omega,show ¬j=c1 by omega];try (split<;>rfl)
 ·rw [if_neg h6] at hD;have hd6:decide (1+k<=6)=false:=by simp;omega
  subst hD;simp only [go_sem,seval,hd6,ne0,A0,A1];repeat' ((with_reducible apply wr)<;>try simp only [go_sem,seval,hd6,ne0,A0,A1])
  refine AC.call (c_expect L E s2 _ _ t (by repeat (first|exact A0|rw [A2 (by omega)])) (by omega) (by omega) _) ?_;rintro v H' c3 ⟨rfl,rfl⟩ hc3;simp only [go_sem,seval,ne0,A0,A1];repeat' ((with_reducible apply wr)<;>try simp only [go_sem,seval,ne0,A0,A1])
  rw [E7 (rv4 rfl A0)];refine ⟨_,_,Q8 (cc:=cc) (D5 hfr htc) (fun j hj=>?_),rfl,rfl⟩;simp [Hp.upd,show ¬j=cc by omega,show ¬j=c1 by omega];try (split<;>rfl)
end Go.Proofs.YtnmkkggfgdfmeaaGreatDoor
namespace Go.Pb
variable [Go.Sym.Tab]
open Go.Sym
section
variable {L:List Tok} {E:Int}
theorem C7g {k:Int} {s:Rd} (hi:s.i<L.length):(R3 L E k s).2.i<=L.length:=by
 have hn:(B1 s).i<=L.length:=hi;have h2:=K4 (E:=E) (x:=1) (by decide) hn;unfold R3;dsimp only;split
 ·refine J0 (K4 (by decide) ?_);split
  ·rename_i hm;rw [A0G] at hm;exact (A0r hm.2).2
  ·exact h2
 ·exact J0 h2
theorem C6v:∀ (f:Nat) (l:List Hd) (s:Rd) (r:List Hd × Rd),U9 L E f l s=some r->s.i<=L.length->r.2.i<=L.length
 | 0,l,s,r,h,hi=>by simp [U9] at h
 | f+1,l,s,r,h,hi=>by
  unfold U9 at h;dsimp only at h;split at h
  ·split at h
   ·cases h;rw [R8];exact hi
   ·have h1:(C8 L E s ((l.length:Int)+1) 32 9).i<=L.length:=by rw [F6];exact hi
    have h2:=J0 (E:=E) (x:=[111,110]) h1;split at h
    ·cases h;rw [R8];exact h2
    ·rename_i hk;have h3:(B1 (D6 L E (C8 L E s ((l.length:Int)+1) 32 9) [111,110])).i<=L.length:=(G3 (show 0<=C4 L E (D6 L E (C8 L E s ((l.length:Int)+1) 32 9) [111,110]) E6 by omega)).2.1;split at h
     ·cases h
     ·rename_i hb;refine C6v f _ _ _ h ((II.all f).1 _ _ _ hb ?_);split
      ·exact K4 (by decide) h3
      ·exact h3
  ·cases h;exact J0 hi
theorem C6u {f:Nat} {s:Rd} {r:Md × Rd} (h:A3g L E f s=some r) (hi:s.i<=L.length):r.2.i<=L.length:=by
 unfold A3g at h;dsimp only at h;split at h
 ·cases h
 ·rename_i hm;cases h;exact C6v f _ _ _ hm (J0 (K4 (by decide) (K4 (by decide) (J0 hi))))
theorem B9w:∀ (f:Nat) (l:List Dc) (s:Rd) (r:List Dc × Rd),T2 L E f l s=some r->s.i<=L.length->r.2.i<=L.length
 | 0,l,s,r,h,hi=>by simp [T2] at h
 | f+1,l,s,r,h,hi=>by
  unfold T2 at h;dsimp only at h;split at h
  ·cases h;exact hi
  ·rename_i hk;have hlt:=(G3 (show 0<=C4 L E s E1 by omega)).2.1;split at h
   ·exact B9w f _ _ _ h (C7g (by rw [F6];exact hlt))
   ·exact B9w f _ _ _ h (by rw [F6];exact hi)
theorem B9v:∀ (f:Nat) (l:List Md) (s:Rd) (r:List Md × Rd),R9 L E f l s=some r->s.i<=L.length->r.2.i<=L.length
 | 0,l,s,r,h,hi=>by simp [R9] at h
 | f+1,l,s,r,h,hi=>by
  unfold R9 at h;dsimp only at h;split at h
  ·split at h
   ·cases h;rw [R8];exact hi
   ·split at h
    ·split at h
     ·cases h
     ·rename_i hm;exact B9v f _ _ _ h (C6u hm (by rw [F6];exact hi))
    ·exact B9v f _ _ _ h (by rw [F6];exact hi)
  ·cases h;exact hi
end
end Go.Pb
end
