/-
  HELPERS of the claim: part 4 of its texts.
-/
import Derived.ReadAgain
import Derived.ChangeBears
import Derived.Deep.Slices
import Derived.Below
import Derived.OpenShut
import Derived.Lib.LaidTab
import Derived.Lib.ItoaNum
import Derived.Lib.Space
import Derived.Test.YthlpinppaclofaaGreatDoorProg
import Derived.Lib.ParseIntB
import Derived.Lib.Bytealg
import Derived.Test.YthlpinppaclofaaGreatDoorSyfc
noncomputable section
set_option linter.unusedVariables false
set_option linter.unusedSectionVars false
set_option linter.unusedSimpArgs false
namespace Go.Sym
variable [Go.Sym.Tab]
open Go.RowKit Go.Pb Go.Deep
section
variable {H:Type} {enc:TypeId × Value->H} {P:Program} {T:TypeId->Prop} {W W':World} {hT:TabOk W}
theorem arg_kept (K:Kids P T) (hz:∀ t e,T t->P.underlying t=some (.slice e)->0<P.cellsOf e) (hb:Below W.heap.size W W') {sp:Nat->Bool} :
  ∀ {ts:List TypeId} {vs:List Value} {ds:List (DataW H)} {ps:List MemPlace},(∀ t∈ts,T t)->DataW.TrodAll enc P W 0 (fun _=>true) true ts vs ds ps->(∀ p∈ps,sp p.block=true)->DataW.TrodAll enc P W' 0 sp true ts vs ds ps
 | [],[],[],_,_,h,_=>h
 | t :: ts,v :: vs,d :: ds,ps,hT,⟨p,q,h1,h2,e⟩,hs=>by
  have hlt:=h1;refine ⟨p,q,?_,arg_kept K hz hb (fun t ht=>hT t (A1S.2 (Or.inr ht))) h2 (fun x hx=>hs x (by rw [e];exact A3I _ hx)),e⟩;have h3:=h1.respare K hz (hT _ (A1S.2 (Or.inl rfl))) (spare':=sp) (fun x hx=>hs x (by rw [e];exact A3K _ hx));obtain ⟨n,hn⟩:=h3;obtain ⟨m,hm⟩:=h1;exact ⟨n,DataW.trod_carry n _ _ _ hn fun x hx=>hb.same (DataW.trod_lt m _ _ _ hm x hx)⟩
end
end Go.Sym
namespace Go.Pb
variable [Go.Sym.Tab]
open Go.Sym
theorem C9c {s t:List UInt8} (h:s.length+t.length<=9223372036854775807):binR .add (.str s) (.str t)=some (.str (s++t)):=A4e (by simpa [maxLen] using h)
end Go.Pb
namespace Go.Pb
variable [Go.Sym.Tab]
open Go.Sym
def Y0 (d:Nat):UInt8:=UInt8.ofNat (48+d)
def A6y (n:Nat):List UInt8:=if n<10 then [Y0 n] else A6y (n / 10)++[Y0 (n % 10)]
termination_by n
decreasing_by omega
theorem A3m {n:Nat} (h:n<10):A6y n=[Y0 n]:=by rw [A6y,if_pos h]
theorem A5k {n:Nat} (h:¬n<10):A6y n=A6y (n / 10)++[Y0 (n % 10)]:=by rw [A6y,if_neg h]
theorem B4d:∀ (k n:Nat),n<10 ^ (k+1)->(A6y n).length<=k+1
 | 0,n,h=>by rw [A3m (by omega)];simp
 | k+1,n,h=>by
  by_cases h0:n<10
  ·rw [A3m h0];simp
  ·rw [A5k h0,A0A];have:=B4d k (n / 10) (by rw [Nat.pow_succ] at h;omega);simp only [A0F];omega
def M0 (n:Int):List UInt8:=if n<0 then 45 :: A6y n.natAbs else A6y n.natAbs
theorem A5j {n:Int} (h1 : -9223372036854775808<=n) (h2:n<=9223372036854775807):(M0 n).length<=21:=by
 have:=B4d 19 n.natAbs (by omega);unfold M0;split
 ·rw [A0U];omega
 ·omega
theorem D1x {d:Nat} (h:d<10):IntKind.u8.wrap (IntKind.i64.wrap (48+(d:Int)))=((Y0 d).toNat:Int):=by
 rw [w64 (by omega) (by omega),wu8 (by omega) (by omega),Y0];simp;omega
def W7 (n:Int):Nat:=n.natAbs % 10
def A0c (n:Int):Nat:=n.natAbs / 10
theorem B7t (n:Int):W7 n<10:=by unfold W7;omega
theorem B7x {n:Int} (h:n≠0):A0c n<n.natAbs:=by unfold A0c;omega
theorem C5g {n:Int} (h:n<0):n.tdiv 10 = -((A0c n:Nat):Int):=by
 unfold A0c;obtain ⟨k,rfl⟩:∃ k:Nat,n = -(k:Int):=⟨n.natAbs,by omega⟩;rw [Int.neg_tdiv];simp [Int.tdiv]
theorem C5f {n:Int} (h:n<0):n.tmod 10 = -((W7 n:Nat):Int):=by
 unfold W7;obtain ⟨k,rfl⟩:∃ k:Nat,n = -(k:Int):=⟨n.natAbs,by omega⟩;rw [Int.neg_tmod];simp [Int.tmod]
theorem C4w {n:Int} (h:0<=n):n.tdiv 10=((A0c n:Nat):Int):=by
 unfold A0c;obtain ⟨k,rfl⟩:∃ k:Nat,n=(k:Int):=⟨n.natAbs,by omega⟩;simp [Int.tdiv]
theorem C4v {n:Int} (h:0<=n):n.tmod 10=((W7 n:Nat):Int):=by
 unfold W7;obtain ⟨k,rfl⟩:∃ k:Nat,n=(k:Int):=⟨n.natAbs,by omega⟩;simp [Int.tmod]
theorem B9j {n:Int} (h:n<0) (h1:A0c n=0):M0 n=[45]++[Y0 (W7 n)]:=by
 unfold A0c at h1;have h2:n.natAbs<10:=by omega
 have h3:W7 n=n.natAbs:=by unfold W7;omega
 rw [M0,if_pos h,A3m h2,h3];rfl
theorem C3e {n:Int} (h:n<0) (h1:A0c n≠0):M0 n=M0 (-(A0c n:Int))++[Y0 (W7 n)]:=by
 have h2:¬n.natAbs<10:=by unfold A0c at h1;omega
 rw [M0,if_pos h,A5k h2,M0,if_pos (by omega),Int.natAbs_neg,Int.natAbs_natCast];rfl
theorem C6r {n:Int} (h:0<=n) (h1:n<10):M0 n=[Y0 (W7 n)]:=by
 have h3:W7 n=n.natAbs:=by unfold W7;omega
 rw [M0,if_neg (by omega),A3m (by omega),h3]
theorem C6s {n:Int} (h:¬n<10):M0 n=M0 (A0c n:Int)++[Y0 (W7 n)]:=by
 rw [M0,if_neg (by omega),A5k (by omega),M0,if_neg (by omega),Int.natAbs_natCast];rfl
abbrev I6 (n:Int):Prop := -9223372036854775808<=n/\n<=9223372036854775807
end Go.Pb
namespace Go.Sym
variable [Go.Sym.Tab]
open Go.RowKit Go.Pb Go.Deep
theorem A8g:∀ {xs:List DV} {d:DV},d∈A4 xs->∃ y∈xs,d∈y.cells
 | [],d,h=>by cases h
 | x :: r,d,h=>by
  rcases A1T.1 h with h|h
  ·exact ⟨x,A0K,h⟩
  ·obtain ⟨y,h1,h2⟩:=A8g h;exact ⟨y,A0J _ h1,h2⟩
section
variable {H:Type} {enc:TypeId × Value->H} {P:Program} {W W':World} {hT:TabOk W}
end
end Go.Sym
namespace Go.Pb
variable [Go.Sym.Tab]
open Go.Sym
structure Tok where
 kind:Int
 text:List UInt8
 value:Int
 pos:Int
deriving DecidableEq
abbrev Tok.v (t:Tok):DV:=.agg [I64 t.kind,.str t.text,I64 t.value,I64 t.pos]
abbrev E4 (l:List Tok):DV:=.lst (l.map Tok.v)
theorem F0 (l:List Tok):∀ x∈l.map Tok.v,x.cells.length=4:=by
 intro x hx;obtain ⟨y, -,rfl⟩:=A1M.1 hx;rfl
@[simp]theorem N5 (l:List Tok):DV.nlL (l.map Tok.v)=true:=Q4 (fun _=>rfl) l
def ltB (c:UInt8):Bool:=(decide (97<=c.toNat) && decide (c.toNat<=122)) || (decide (65<=c.toNat) && decide (c.toNat<=90))
def dgB (c:UInt8):Bool:=decide (48<=c.toNat) && decide (c.toNat<=57)
def ptB (c:UInt8):Bool:=ltB c || dgB c || decide (c.toNat=95)
def F2 (p:UInt8->Bool):List UInt8->Nat
 | []=>0
 | c :: r=>if p c=true then F2 p r+1 else 0
theorem X6 (p:UInt8->Bool):∀ s:List UInt8,F2 p s<=s.length
 | []=>A0E _
 | c :: r=>by
  have:=X6 p r;simp only [F2,A0U];split<;>omega
theorem B1e {p:UInt8->Bool}:∀ {s:List UInt8} {k:Nat} {c:UInt8},s[k]? = some c->k<=F2 p s->(p c=true->k+1<=F2 p s)/\(p c=false->F2 p s=k)
 | [],k,c,h,_=>by cases h
 | x :: r,0,c,h,_=>by
  cases h;simp only [F2];exact ⟨fun h=>by rw [if_pos h];omega,fun h=>by rw [if_neg (by rw [h];simp)]⟩
 | x :: r,k+1,c,h,hk=>by
  simp only [F2] at hk ⊢;split at hk
  ·rename_i hx;rw [if_pos hx];have:=B1e (p:=p) (s:=r) (k:=k) (c:=c) (by simpa using h) (by omega);exact ⟨fun h=>by have:=this.1 h;omega,fun h=>by have:=this.2 h;omega⟩
  ·omega
theorem C0h {p:UInt8->Bool} {s:List UInt8} {k:Nat} (h:s.length<=k) (hk:k<=F2 p s):F2 p s=k:=by
 have:=X6 p s;omega
def A6u (c:UInt8):Bool:=decide (c.toNat=9) || decide (c.toNat=10) || decide (c.toNat=13) || decide (c.toNat=32)
def skM:Bool->List UInt8->Nat
 | _,[]=>0
 | true,c :: r=>if c.toNat=10 then skM false r+1 else skM true r+1
 | false,c :: r=>if A6u c=true then skM false r+1 else if c.toNat=35 then skM true r+1 else 0
theorem A1p:∀ (b:Bool) (s:List UInt8),skM b s<=s.length
 | _,[]=>by simp [skM]
 | true,c :: r=>by
  have h1:=A1p true r;have h2:=A1p false r;simp only [skM,A0U];split<;>omega
 | false,c :: r=>by
  have h1:=A1p true r;have h2:=A1p false r;simp only [skM,A0U];split
  ·omega
  ·split<;>omega
theorem B2x:∀ (s:List UInt8),skM true s=F2 (fun c=>decide (c.toNat≠10)) s+skM false (s.drop (F2 (fun c=>decide (c.toNat≠10)) s))
 | []=>by simp [skM,F2]
 | c :: r=>by
  by_cases h:c.toNat=10
  ·simp [skM,F2,h,A6u]
  ·have ih:=B2x r;simp only [skM,F2,h,if_false,ne_eq,not_false_eq_true,decide_true,if_true,List.drop_succ_cons] at ih ⊢;omega
def w8 (l:List Nat):List UInt8:=l.map UInt8.ofNat
def E9:List (List UInt8):=[w8 [115,119,105,116,99,104],w8 [99,111,105,108],w8 [108,97,109,112],w8 [115,111,117,110,100],w8 [115,104,111,119],w8 [118,97,114],w8 [116,105,109,101,114],w8 [101,118,101,110,116],w8 [109,111,100,101],w8 [111,110],w8 [115,116,97,114,116],w8 [115,116,111,112],w8 [99,108,111,115,101],w8 [111,112,101,110],w8 [105,102],w8 [101,108,115,101],w8 [114,101,112,101,97,116],w8 [115,99,111,114,101],w8 [102,105,114,101],w8 [104,111,108,100],w8 [114,101,108,101,97,115,101],w8 [108,105,103,104,116],w8 [98,108,105,110,107],w8 [98,101,103,105,110],w8 [101,110,100],w8 [112,111,115,116],w8 [112,108,97,121],w8 [114,117,110],w8 [104,97,108,116],w8 [116,101,120,116],w8 [99,111,110,115,117,109,101],w8 [99,108,111,115,101,100],w8 [97,99,116,105,118,101],w8 [108,101,102,116],w8 [112,108,97,121,101,114],w8 [98,97,108,108],w8 [116,114,117,101],w8 [102,97,108,115,101]]
def F6 (s:List UInt8):Bool:=E9.contains s
def C8 (s:List UInt8):Bool:=decide (1<=s.length) && decide (s.length<=12) && (match s with|c :: _=>ltB c | []=>false) && decide (F2 ptB s=s.length) && !F6 s
def quM:List UInt8->Option (List UInt8 × Nat)
 | []=>none
 | c :: r =>
  if c.toNat=34 then some ([],1)
  else if c.toNat<32\/126<c.toNat then none
  else if c.toNat=92 then match r with
   | []=>none
   | d :: q=>if d.toNat=34\/d.toNat=92 then (quM q).map fun x=>(d :: x.1,x.2+2) else none
  else (quM r).map fun x=>(c :: x.1,x.2+1)
def A2q (s:List UInt8):Nat:=s.foldl (fun n c=>10 * n+(c.toNat-48)) 0
def D2r (c d:UInt8):Bool:=[(60,61),(62,61),(61,61),(33,61),(38,38),(124,124)].contains (c.toNat,d.toNat)
def C1o (c:UInt8):Bool:=[123,125,40,41,59,44,61,43,45,42,47,37,33,60,62].contains c.toNat
def S2:List UInt8->Nat
 | c :: d :: _=>if D2r c d=true then 2 else if C1o c=true then 1 else 0
 | [c]=>if C1o c=true then 1 else 0
 | []=>0
structure Nx where
 kind:Int
 text:List UInt8
 value:Int
 n:Nat
 err:Int
def nxE (e:Int):Nx:=⟨0,[],0,0,e⟩
def D0:List UInt8->Nx
 | []=>nxE 47
 | c :: r =>
  if ltB c=true then
   if 12<F2 ptB (c :: r) then nxE 9 else ⟨if F6 ((c :: r).take (F2 ptB (c :: r)))=true then 2 else 1,(c :: r).take (F2 ptB (c :: r)),0,F2 ptB (c :: r),0⟩
  else if dgB c=true then
   if 1<F2 dgB (c :: r)/\c.toNat=48 then nxE 47
   else if 2147483647<A2q ((c :: r).take (F2 dgB (c :: r))) then nxE 5
   else ⟨3,[],(A2q ((c :: r).take (F2 dgB (c :: r))):Int),F2 dgB (c :: r),0⟩
  else if c.toNat=34 then match quM r with
   | none=>nxE 48
   | some x=>if 32<x.1.length then nxE 9 else ⟨4,x.1,0,x.2+1,0⟩
  else if S2 (c :: r)=0 then nxE 47 else ⟨5,(c :: r).take (S2 (c :: r)),0,S2 (c :: r),0⟩
def S9:Nat->List UInt8->Nat->List Tok->List Tok × Int × Int
 | 0,_,_,acc=>(acc,0,0)
 | f+1,src,at_,acc =>
  if src.length<=at_ then (acc,0,0)
  else if (D0 (src.drop at_)).err≠0 then ([],(at_:Int),(D0 (src.drop at_)).err)
  else S9 f src (at_+(D0 (src.drop at_)).n+skM false (src.drop (at_+(D0 (src.drop at_)).n)))
   (acc++[⟨(D0 (src.drop at_)).kind,(D0 (src.drop at_)).text,(D0 (src.drop at_)).value,(at_:Int)⟩])
def E7 (s:List UInt8):List Tok × Int × Int:=if 20000<s.length then ([],0,9) else S9 (s.length+1) s (skM false s) []
abbrev C0l (q:List Tok × Int × Int):DV:=.tup [E4 q.1,I64 q.2.1,I64 q.2.2]
theorem C0x:∀ {s t:List UInt8} {n:Nat},quM s=some (t,n)->1<=n/\n<=s.length/\t.length<=n
 | [],t,n,h=>by simp [quM] at h
 | c :: r,t,n,h=>by
  unfold quM at h;split at h
  ·cases h;simp
  ·split at h
   ·cases h
   ·split at h
    ·cases r with
     | nil=>cases h
     | cons d q =>
      simp only at h;split at h
      ·obtain ⟨⟨t',n'⟩,h1,h2⟩:=A0R.1 h;have:=C0x h1;cases h2;simp only [A0U];omega
      ·cases h
    ·obtain ⟨⟨t',n'⟩,h1,h2⟩:=A0R.1 h;have:=C0x h1;cases h2;simp only [A0U];omega
theorem B2y:∀ s:List UInt8,S2 s<=s.length
 | []=>by simp [S2]
 | [c]=>by simp only [S2];split<;>simp
 | c :: d :: r=>by simp only [S2,A0U];split<;>(try split)<;>omega
theorem B1s {s:List UInt8} (h:(D0 s).err=0):1<=(D0 s).n/\(D0 s).n<=s.length:=by
 cases s with
 | nil=>simp [D0,nxE] at h
 | cons c r =>
  have hp:=X6 ptB (c :: r);have hd:=X6 dgB (c :: r);have hs:=B2y (c :: r);simp only [D0] at h ⊢;split
  ·rename_i hc;rw [if_pos hc] at h;split
   ·rename_i h1;rw [if_pos h1] at h;simp [nxE] at h
   ·have:1<=F2 ptB (c :: r):=by simp [F2,ptB,hc]
    exact ⟨this,hp⟩
  ·rename_i hc;rw [if_neg hc] at h;split
   ·rename_i hc2;rw [if_pos hc2] at h;split
    ·rename_i h1;rw [if_pos h1] at h;simp [nxE] at h
    ·rename_i h1;rw [if_neg h1] at h;split
     ·rename_i h2;rw [if_pos h2] at h;simp [nxE] at h
     ·have:1<=F2 dgB (c :: r):=by simp [F2,hc2]
      exact ⟨this,hd⟩
   ·rename_i hc2;rw [if_neg hc2] at h;split
    ·rename_i hc3;rw [if_pos hc3] at h;cases hq:quM r with
     | none=>rw [hq] at h;simp [nxE] at h
     | some x =>
      obtain ⟨t,n⟩:=x;rw [hq] at h;simp only at h ⊢;have:=C0x hq;split
      ·rename_i h1;rw [if_pos h1] at h;simp [nxE] at h
      ·simp only [A0U];omega
    ·rename_i hc3;rw [if_neg hc3] at h;split
     ·rename_i h1;rw [if_pos h1] at h;simp [nxE] at h
     ·simp only;omega
end Go.Pb
namespace Go.Sym
variable [Go.Sym.Tab]
open Go.RowKit Go.Pb Go.Deep Go.ChangeShapes
theorem B2n {P:Program} {w:World} {n:String} {g:Nat} {cs:Array Value} (e1:P.globalNamed n=some g) (e3:w.var? P n=some cs):B2o w g=some cs:=by
 unfold World.var? at e3;rw [e1,Option.bind_some] at e3;unfold B2o;split at e3
 ·rename_i r ty fr hh;cases e3;rw [hh]
 ·cases e3
theorem A8j {P:Program} {w:World} {n:String} {d:DataW Unit}:∀ {l:List (String × DataW Unit)} {ps:List MemPlace},DataW.LaidVars P w l ps->(n,d)∈l ->
  ∃ g t cs fuel p,P.globalNamed n=some g/\(P.globals[g]?).map (·.type)=some t/\w.var? P n=some cs/\DataW.trod (fun _=>()) P w 0 (fun _=>true) false fuel t cs.toList=some (d,p)
 | [],ps,_,hm=>by cases hm
 | (n',d') :: l,ps,h,hm=>by
  obtain ⟨g,t,cs,fuel,p,q,h1,h2,h3,h4,h5, -⟩:=h;rcases A1S.1 hm with e|hm
  ·cases e;exact ⟨g,t,cs,fuel,p,h1,h2,h3,h4⟩
  ·exact A8j h5 hm
theorem laid_tab {P:Program} {w:World} {n:String} {d:DataW Unit} {l:List (String × DataW Unit)} {g t e m:Nat} {k:IntKind} {zs:List Int} (h:laidMet P l w) (hm:(n,d)∈l) (hg:P.globalNamed n=some g)
  (ht:(P.globals[g]?).map (·.type)=some t) (hu:P.underlying t=some (.array m e)) (he:P.underlying e=some (.int k)) (hce:P.cellsOf e=1) (hct:P.cellsOf t=m) (hd:d=Lib.tabData k zs) :
  ∃ r,B2o w g=some r/\r=(zs.map fun z=>Value.int k z).toArray:=by
 obtain ⟨ps,h1, -⟩:=h;obtain ⟨g',t',cs,fuel,p,e1,e2,e3,e4⟩:=A8j h1 hm;rw [hg] at e1;cases e1;rw [ht] at e2;cases e2;rw [hd] at e4;have hc:=Lib.cells_of_tab hu he hce hct e4;exact ⟨cs,B2n hg e3,Array.toList_inj.1 (hc.trans (by simp))⟩
theorem B2k {P:Program} {w:World} {fuel:Nat} {t:TypeId} {ms} {cs:List Value} {nm:String} {d:DataW Unit} {p:List MemPlace} (hu:P.underlying t=some (.interface ms))
  (h:DataW.trod (fun _=>()) P w 0 (fun _=>true) false fuel t cs=some (.iface nm d,p)):∃ te pe,cs=[.iface te pe]:=by
 cases fuel with
 | zero=>simp [DataW.trod] at h
 | succ fuel =>
  simp only [DataW.trod,hu] at h;split at h<;>first|exact ⟨_,_,rfl⟩|(simp_all;done)
theorem laid_err {P:Program} {w:World} {n:String} {nm:String} {d:DataW Unit} {l:List (String × DataW Unit)} {g t:Nat} {ms} (h:laidMet P l w) (hm:(n,DataW.iface nm d)∈l) (hg:P.globalNamed n=some g)
  (ht:(P.globals[g]?).map (·.type)=some t) (hu:P.underlying t=some (.interface ms)):∃ r,B2o w g=some r/\∃ te pe,r = #[.iface te pe]:=by
 obtain ⟨ps,h1, -⟩:=h;obtain ⟨g',t',cs,fuel,p,e1,e2,e3,e4⟩:=A8j h1 hm;rw [hg] at e1;cases e1;rw [ht] at e2;cases e2;obtain ⟨te,pe,e5⟩:=B2k hu e4;exact ⟨cs,B2n hg e3,te,pe,Array.toList_inj.1 e5⟩
section
variable {H:Type} {enc:TypeId × Value->H} {P:Program} {W W':World} {hT:TabOk W}
end
end Go.Sym
namespace Go.Sym
variable [Go.Sym.Tab]
open Go.RowKit Go.Pb Go.Deep Go.ChangeShapes
def A3s (ρ : Ren) (ds:List DV) (cs:List Value):Prop:=ds.length=cs.length/\∀ (j:Nat) d v,ds[j]? = some d->cs[j]? = some v->VRel ρ d v
theorem A3s.app {ρ : Ren} {a b:List DV} {x y:List Value} (h:A3s ρ a x) (k:A3s ρ b y):A3s ρ (a++b) (x++y):=by
 refine ⟨by rw [A0A,A0A,h.1,k.1],fun j d v hd hv=>?_⟩;by_cases hj:j<a.length
 ·rw [A2O hj] at hd;rw [A2O (by rw [<- h.1];exact hj)] at hv;exact h.2 j d v hd hv
 ·rw [A2I (by omega)] at hd;rw [A2I (by rw [<- h.1];omega), <- h.1] at hv;exact k.2 _ d v hd hv
theorem A3s.one {ρ : Ren} {d:DV} {v:Value} (h:VRel ρ d v):A3s ρ [d] [v]:=⟨rfl,fun j d' v' hd hv=>by
 match j with
 | 0=>cases hd;cases hv;exact h
 | _+1=>cases hd⟩
theorem A3s.agg {ρ : Ren} {ds:List DV} {cs:Array Value} (h:A3s ρ ds cs.toList):VRel ρ (.agg ds) (.agg cs) :=
 .agg _ _ (by rw [h.1];simp) (fun i x y hx hy=>h.2 i x y hx (by simpa using hy))
section
variable {H:Type} {enc:TypeId × Value->H} {P:Program} {W W':World} {hT:TabOk W}
end
end Go.Sym
namespace Go.Sym
variable [Go.Sym.Tab]
open Go.RowKit Go.Pb Go.Deep Go.ChangeShapes
section
variable {H:Type} {enc:TypeId × Value->H} {P:Program} {W W':World} {hT:TabOk W}
structure Bulky (B:DataW H->Nat):Prop where
 pos:∀ d,1<=B d
 str:∀ l,B (.lit (.string l))=l.length+1
 slc:∀ xs ys,(xs.map B).sum+1<=B (.slice xs ys)
 agg:∀ xs,B (.agg xs)=(xs.map B).sum+1
def ReadsB (enc:TypeId × Value->H) (P:Program) (W:World) (hT:TabOk W) (B:DataW H->Nat) (t:TypeId) (N:Nat) {α : Type} (G : α -> DV) (sz : α -> Nat):Prop :=
 ∀ (n:Nat) (cs:List Value) (x:DataW H × List MemPlace),DataW.trod enc P W 0 (fun _=>true) true n t cs=some x->B x.1<=N->∃ a : α,sz a<=B x.1/\A3s (topR W hT) (G a).cells cs
theorem C9i {B:DataW H->Nat} (hB:Bulky B) {t:TypeId} {N:Nat} (ht:P.underlying t=some (.int .i64)):ReadsB enc P W hT B t N I64 (fun _=>1):=by
 intro n cs x h _;obtain ⟨k,rfl, -,w⟩:=DataW.trod_int ht h;exact ⟨k,hB.pos _,.one (.int _ _)⟩
theorem C9h {B:DataW H->Nat} (hB:Bulky B) {t:TypeId} {N:Nat} (ht:P.underlying t=some .string):ReadsB enc P W hT B t N DV.str (fun s=>s.length+1):=by
 intro n cs x h _;obtain ⟨s,rfl,rfl,w⟩:=DataW.trod_string ht h;refine ⟨s.data.toList,?_,.one (.str _)⟩;rw [hB.str];exact A0E _
theorem A4u {f g:Nat->Nat}:∀ {n:Nat},(∀ i,i<n->f i<=g i)->((List.range n).map f).sum<=((List.range n).map g).sum
 | 0,_=>A0E _
 | n+1,h=>by
  have:=A4u (f:=f) (g:=g) (n:=n) fun i hi=>h i (by omega);have:=h n (by omega);simp only [List.range_succ,A0M,List.sum_append,A0O,List.map_nil,A2F,A2V];omega
theorem A5c {g:Nat->Nat}:∀ {n i:Nat},i<n->g i<=((List.range n).map g).sum
 | 0,i,h=>by omega
 | n+1,i,h=>by
  simp only [List.range_succ,A0M,List.sum_append,A0O,List.map_nil,A2F,A2V];by_cases hi:i<n
  ·have:=A5c (g:=g) hi;omega
  ·obtain rfl:i=n:=by omega
   omega
theorem A2p {B:DataW H->Nat} (hB:Bulky B) {α : Type} {t e:TypeId} {u N:Nat} {G : α -> DV} {sz : α -> Nat} (hu0:0<u) (ht:P.underlying t=some (.slice e)) (hc:P.cellsOf e=u)
  (hF:∀ a,(G a).cells.length=u) (h1:∀ a, ∀ d∈(G a).cells,d.one=true)
  (elem:ReadsB enc P W hT B e N G sz):ReadsB enc P W hT B t (N+1) (fun l:List α => .lst (l.map G)) (fun l=>(l.map sz).sum):=by
 intro n cs x hn hx;rcases open_slice ht hn with ⟨h1',h2'⟩|⟨a,len,cap,m,n',D,Pl,g1,g2,g3,g4,g5,g6,g7⟩
 ·subst h1';exact ⟨[],A0Y _,.one .lnil0⟩
 subst g1;simp only [if_true] at g5;have hD:((List.range len).map fun i=>B (D i)).sum+1<=B x.1:=by
  rw [g6];have:=hB.slc ((List.range len).map D) ((List.range (m-len)).map fun j=>D (len+j));rw [A3H] at this;exact this
 by_cases hl0:len=0
 ·subst hl0;exact ⟨[],A0Y _,.one (.lnil a cap)⟩
 rw [hc] at g7;have E:∀ i,i<len->∃ (cs:List Value) (y : α),sz y<=B (D i)/\cs.length=u/\(∀ j,j<u->W.cell? ((a.add (i * u)).add j)=cs[j]?)/\∀ (j:Nat) d,(G y).cells[j]? = some d->∃ v,cs[j]? = some v/\VRel (topR W hT) d v:=by
  intro i hi;obtain ⟨cs,q1,q2⟩:=g7 i (by omega);obtain ⟨-,q3,q4⟩:=World.cells?_some q1;have hDi:B (D i)<=N:=by
   have:=A5c (g:=fun i=>B (D i)) hi;omega
  obtain ⟨y,q5,q6⟩:=elem n' cs _ q2 hDi;refine ⟨cs,y,q5,q3,q4,fun j d hd=>?_⟩;have hj:=(A0L.1 hd).1;rw [q6.1] at hj;exact ⟨cs[j],A0C hj,q6.2 j d _ hd (A0C hj)⟩
 obtain ⟨cs0,y0, -,z1,z2, -⟩:=E 0 (by omega);obtain ⟨v0,hv0⟩:∃ v0,cs0[0]? = some v0:=⟨_,A0C (by omega)⟩;have hcell:=z2 0 hu0;rw [hv0,Nat.zero_mul] at hcell;have hadd0:∀ b:Addr,b.add 0=b:=fun b=>by simp [Addr.add]
 rw [hadd0,hadd0] at hcell;obtain ⟨b,off,spot⟩:=a;have hspot:spot=none:=by
  simp only [World.cell?] at hcell;split at hcell
  ·split at hcell
   ·cases hcell
   ·rename_i h;cases spot with
    | none=>rfl
    | some s=>simp at h
  ·cases hcell
 subst hspot;have hrow:∃ row ty fr,W.heap[b]? = some (.cells row ty fr):=by
  simp only [World.cell?] at hcell;split at hcell
  ·rename_i row ty fr h;exact ⟨row,ty,fr,h⟩
  ·cases hcell
 obtain ⟨row,ty,fr,hb⟩:=hrow;have hadd:∀ o i,(⟨b,o,none⟩:Addr).add i=⟨b,o+i,none⟩:=by
  intro o i;unfold Addr.add;split
  ·rename_i h0;subst h0;rfl
  ·rfl
 have E2:∀ i, ∃ y : α,i<len->sz y<=B (D i)/\∀ (j:Nat) d,(G y).cells[j]? = some d->∃ v,row[off+i * u+j]? = some v/\VRel (topR W hT) d v:=by
  intro i;by_cases hi:i<len
  ·obtain ⟨cs,y,q1,q2,q3,q4⟩:=E i hi;refine ⟨y,fun _=>⟨q1,fun j d hd=>?_⟩⟩;have hj:j<u:=by have:=(A0L.1 hd).1;rw [hF] at this;exact this
   obtain ⟨v,e1,e2⟩:=q4 j d hd;have e3:=q3 j hj;rw [hadd,hadd,e1] at e3;simp only [World.cell?,hb] at e3;exact ⟨v,e3,e2⟩
  ·exact ⟨y0,fun h=>absurd h hi⟩
 obtain ⟨K,hK⟩:∃ K:Nat -> α, ∀ i,i<len->sz (K i)<=B (D i)/\∀ (j:Nat) d,(G (K i)).cells[j]? = some d->∃ v,row[off+i * u+j]? = some v/\VRel (topR W hT) d v :=
  ⟨fun i=>Classical.choose (E2 i),fun i hi=>Classical.choose_spec (E2 i) hi⟩
 have hU:∀ y∈((List.range len).map K).map G,y.cells.length=u:=fun y hy=>by obtain ⟨z, -,rfl⟩:=A1M.1 hy;exact hF z
 have hlen:(((List.range len).map K).map G).length=len:=by simp
 have hcl:(A4 (((List.range len).map K).map G)).length=len * u:=by rw [B5 hU,hlen]
 have hget:∀ i j,i<len->j<u->(A4 (((List.range len).map K).map G))[i * u+j]? = (G (K i)).cells[j]? := by
  intro i j hi hj;have e1:(((List.range len).map K).map G)[i]? = some (G (K i)):=by simp [hi]
  have e2:=A6t hU e1;rw [<- e2,A1H,if_pos hj,A1X]
 refine ⟨(List.range len).map K,?_,.one ?_⟩
 ·dsimp only;rw [A3H];have:=A4u (f:=sz∘K) (g:=fun i=>B (D i)) (n:=len) fun i hi=>(hK i hi).1;omega
 ·refine .lst _ len u b off cap row (B4u hb) hlen.symm g3 g4 hU ?_ ?_ ?_
  ·rw [hcl];obtain ⟨k,rfl⟩:∃ k,len=k+1:=⟨len-1,by omega⟩;obtain ⟨d,hd⟩:∃ d,(G (K k)).cells[u-1]? = some d:=⟨_,A0C (by rw [hF];omega)⟩;obtain ⟨v,e1, -⟩:=(hK k (by omega)).2 _ _ hd;have:=(A0Q.1 e1).1;rw [Nat.succ_mul];omega
  ·intro d hd;obtain ⟨y,hy,hd2⟩:=A8g hd;obtain ⟨z, -,rfl⟩:=A1M.1 hy;exact h1 z d hd2
  ·intro k d v hd hv;have hk:k<len * u:=by have:=(A0L.1 hd).1;rw [hcl] at this;exact this
   have hi:k / u<len:=Nat.div_lt_of_lt_mul (by rw [Nat.mul_comm];exact hk);have hj:=Nat.mod_lt k hu0;have hkk:k / u * u+k % u=k:=by rw [Nat.mul_comm];exact Nat.div_add_mod k u
   have e1:=hget (k / u) (k % u) hi hj;rw [hkk,hd] at e1;obtain ⟨v2,e2,e3⟩:=(hK (k / u) hi).2 _ _ e1.symm;rw [A2U,hkk,hv] at e2;cases e2;exact e3
theorem A3s.cons {ρ : Ren} {d:DV} {v:Value} {ds:List DV} {vs:List Value} (h:VRel ρ d v) (k:A3s ρ ds vs):A3s ρ (d :: ds) (v :: vs):=A3s.app (A3s.one h) k
theorem A3s.nil {ρ : Ren}:A3s ρ [] []:=⟨rfl,fun j d v hd=>by cases hd⟩
theorem A1a {B:DataW H->Nat} (hB:Bulky B) {t:TypeId} {fs:Array Field} {k:Nat} (ht:P.underlying t=some (.struct fs)) (hk:fs.size=k)
  (ho:∀ (j:Nat) f,fs[j]? = some f->f.offset=j/\P.cellsOf f.type=1) (hc:P.cellsOf t=k) {n:Nat} {cs:List Value} {x:DataW H × List MemPlace} (h:DataW.trod enc P W 0 (fun _=>true) true n t cs=some x) :
  ∃ (m:Nat) (ys:List (Value × DataW H × List MemPlace)),cs=ys.map (·.1)/\ys.length=k/\B x.1=(ys.map fun y=>B y.2.1).sum+1 /\
   ∀ (j:Nat) f y,fs[j]? = some f->ys[j]? = some y->DataW.trod enc P W 0 (fun _=>true) true m f.type [y.1]=some y.2:=by
 obtain ⟨xs,m, -,hx,hl,h3,h4⟩:=DataW.trod_struct ht h;rw [hc] at hl;have h3':xs.length=k:=h3.trans hk;refine ⟨m,cs.zip xs,?_,?_,?_,?_⟩
 ·rw [List.map_fst_zip (by omega)]
 ·rw [List.length_zip];omega
 ·rw [hx,hB.agg];have e:(cs.zip xs).map (fun y=>B y.2.1)=(xs.map (·.1)).map B:=by
   have:((cs.zip xs).map (·.2))=xs:=List.map_snd_zip (by omega);rw [A3H, <- this,A3H,this];rfl
  rw [e]
 ·intro j f y hf hy;obtain ⟨e1,e2⟩:=ho j f hf;have e3:=h4 j f hf;rw [e1,e2] at e3;obtain ⟨g1,g2⟩:=List.getElem?_zip_eq_some.1 hy;have hj:=(A0L.1 g1).1;have e4:(cs.drop j).take 1=[y.1]:=by
   rw [A0Z hj,A1U,List.take_zero];have:=(A0L.1 g1).2;rw [this]
  rw [e4,g2] at e3;exact e3
theorem ReadsB.arg1 {B:DataW H->Nat} {α : Type} {t:TypeId} {N:Nat} {G : α -> DV} {sz : α -> Nat} {v:Value} {d:DataW H} {ps:List MemPlace} (h:ReadsB enc P W hT B t N G sz) (hb:B d<=N) (hd:DataW.Trod enc P W 0 (fun _=>true) true t v d ps) (hv:∃ cs:Array Value,v=.agg cs) (hG:∀ a, ∃ ds,G a=.agg ds) :
  ∃ a,sz a<=B d/\VRel (topR W hT) (G a) v:=by
 obtain ⟨cs,rfl⟩:=hv;obtain ⟨n,hn⟩:=hd;obtain ⟨a,r,q⟩:=h _ _ _ hn hb;refine ⟨a,r,?_⟩;obtain ⟨ds,hds⟩:=hG a;rw [hds] at q ⊢;exact q.agg
end
end Go.Sym
namespace Go.Proofs.YthlpinppaclofaaGreatDoor
instance tabI:Go.Sym.Tab:=⟨[(1,fun r=>r=(Lib.pow10Tab.map fun z=>Value.int .u64 z).toArray),(0,fun r=>r=(Lib.asciiSpaceTab.map fun z=>Value.int .u8 z).toArray),(7,fun r => ∃ te pe,r = #[.iface te pe])]⟩
end Go.Proofs.YthlpinppaclofaaGreatDoor
namespace Go.Sym
variable [Go.Sym.Tab]
open Go.Eng (IC)
def X3 (p:Prop):Prop:=p
theorem F9 {p:Prop} (h:X3 p):p:=h
theorem IW.stage {P:Program} {N:Nat} {x:IC} {T:Tm} {H:Hp} {c:Nat} {Q:Exit->St->Prop} {L:List (Nat × DV)} (hT:C9 L T) (h:IW P N x ⟨tm L,H,c⟩ Q):X3 (IW P N x ⟨T,H,c⟩ Q):=IW.weaken (W5 hT) (Sub.refl _) h
end Go.Sym
namespace Go.Sym
variable [Go.Sym.Tab]
open Go.Eng (Opd FOp AOp EOp IOp IOper DReg IC RV IFn trC A7v C2 I8)
def pre:IC->List IC
 | .seq x y=>.seq x y :: (pre x++pre y)
 | .cond o x y=>.cond o x y :: (pre x++pre y)
 | .blk i x=>.blk i x :: pre x
 | .loop x=>.loop x :: pre x
 | x=>[x]
def szC:IC->Nat
 | .seq x y=>szC x+szC y+1
 | .cond o x y=>szC x+szC y+1
 | .blk i x=>szC x+1
 | .loop x=>szC x+1
 | x=>1
theorem C1e (t:IC):(pre t).length=szC t:=by
 induction t<;>simp_all [pre,szC]
def B6d (k:Nat):List Nat->List Nat
 | []=>[k]
 | a :: l=>match Nat.blt k a with
  | true=>k :: a :: l
  | false=>match Nat.beq k a with
   | true=>a :: l
   | false=>a :: B6d k l
def B8k:List Nat->List Nat->List Nat
 | [],m=>m
 | a :: l,m=>B6d a (B8k l m)
def rmS (k:Nat):List Nat->List Nat
 | []=>[]
 | a :: l=>match Nat.beq k a with
  | true=>l
  | false=>a :: rmS k l
def opS:Opd->List Nat
 | .t n=>[n]
 | _=>[]
def B1o:List IOper->List Nat->List Nat
 | [],out=>out
 | o :: r,out=>B8k o.sees (match o.dst with
  | some d=>rmS d (B1o r out)
  | none=>B1o r out)
def slR:List RV->List Nat
 | []=>[]
 | .tmp t :: r=>B6d t (slR r)
 | .cell a _ _ :: r=>B6d a (slR r)
def upE (ex:Nat->List Nat) (i:Nat) (L:List Nat) (j:Nat):List Nat:=match Nat.beq i j with
 | true=>L
 | false=>ex j
def rgS:Eng.Rg->List Nat->List Nat
 | .bad,_=>[]
 | .r1 io m it,out=>B1o io (B6d m (rmS it out))
 | .r2 it n io,out=>B6d it (rmS n (B1o io out))
 | .r3 it e io,out=>B6d it (rmS e (B1o io out))
def lvC (rl:List Nat):IC->List Nat->(Nat->List Nat)->List Nat
 | .skip,out,_=>out
 | .exit i,_,ex=>ex i
 | .ret,_,_=>rl
 | .bad,_,_=>[]
 | .rg r,out,_=>rgS r out
 | .reg r,out,_=>B1o r out
 | .drw _ d,out,_=>B1o d.ops out
 | .seq x y,out,ex=>lvC rl x (lvC rl y out ex) ex
 | .cond o x y,out,ex=>B8k (opS o) (B8k (lvC rl x out ex) (lvC rl y out ex))
 | .blk i x,out,ex=>lvC rl x out (upE ex i out)
 | .loop x,_,ex=>lvC rl x [] ex
def chC (h:Nat->IC) (k:Nat):IC->IC
 | .skip=>.skip
 | .exit i=>.exit i
 | .ret=>.ret
 | .bad=>.bad
 | .rg r=>.rg r
 | .loop _=>.loop (h (k+1))
 | _=>h k
def C5k:Nat->List (Nat × Option (List Nat))->List IOper->Nat
 | k,(_,some []) :: p,⟨_,.pur _,_⟩ :: r=>2 ^ k+C5k (k+1) p r
 | k,_ :: p,_ :: r=>C5k (k+1) p r
 | _,_,_=>0
def eqO:Option (List Nat)->Option (List Nat)->Bool
 | none,none=>true
 | some [],some []=>true
 | _,_=>false
def eqP:List (Nat × Option (List Nat))->List (Nat × Option (List Nat))->Bool
 | [],[]=>true
 | (a,x) :: p,(b,y) :: q=>Nat.beq a b && eqO x y && eqP p q
 | _,_=>false
theorem D1w {x y:Option (List Nat)} (h:eqO x y=true):x=y:=by
 unfold eqO at h;split at h<;>simp_all
theorem C2z:∀ {p q:List (Nat × Option (List Nat))},eqP p q=true->p=q
 | [],[],_=>rfl
 | (a,x) :: p,(b,y) :: q,h=>by
  simp only [eqP,A0D] at h;rw [Nat.eq_of_beq_eq_true h.1.1,D1w h.1.2,C2z h.2]
 | [],_ :: _,h=>by simp [eqP] at h
 | _ :: _,[],h=>by simp [eqP] at h
def asM (r:List IOper) (p:List (Nat × Option (List Nat))) (m:Nat):Option Nat:=match eqP (A6z m 0 r) p with
 | true=>some m
 | false=>none
inductive PD where
 | S (r:List IOper) (y:IC) (L:List Nat)
 | E (r:List IOper) (L:List Nat)
 | P (r:List IOper) (y:IC) (e n:Nat) (L:List Nat)
 | F (r:List IOper) (e n:Nat) (L:List Nat)
 | D (r:List IOper) (y:IC) (p:List (Nat × Option (List Nat))) (n:Nat) (L:List Nat)
 | G (r:List IOper) (p:List (Nat × Option (List Nat))) (n:Nat) (L:List Nat)
 | C (x y z:IC) (o:Opd) (L:List Nat)
 | K (x z:IC) (o:Opd) (L:List Nat)
 | B (x y:IC) (i:Nat) (L:List Nat)
 | J (x:IC) (i:Nat) (L:List Nat)
 | Q (x y:IC) (L:List Nat)
 | X (x:IC)
def PD.ic:PD->IC
 | .S r y _=>.seq (.reg r) y
 | .E r _=>.reg r
 | .P r y e n _=>.seq (.drw n (dQ r e)) y
 | .F r e n _=>.drw n (dQ r e)
 | .D r y p n _=>.seq (.drw n ⟨r,[],p⟩) y
 | .G r p n _=>.drw n ⟨r,[],p⟩
 | .C x y z o _=>.seq (.cond o x z) y
 | .K x z o _=>.cond o x z
 | .B x y i _=>.seq (.blk i x) y
 | .J x i _=>.blk i x
 | .Q x y _=>.seq x y
 | .X x=>x
def fuC (h:Nat->IC) (k:Nat) (x y:IC) (L:List Nat):PD:=match x with
 | .reg r=>.S r y L
 | .drw n ⟨r,[],p⟩=>match asM r p (C5k 0 p r) with
  | some m=>.P r y m n L
  | none=>.D r y p n L
 | .cond o a b=>.C (chC h (k+1) a) y (chC h (k+1+szC a) b) o L
 | .blk i a=>.B (chC h (k+1) a) y i L
 | x=>.Q (chC h k x) y L
def B8s (h:Nat->IC) (k:Nat) (x:IC) (L:List Nat):PD:=match x with
 | .reg r=>.E r L
 | .drw n ⟨r,[],p⟩=>match asM r p (C5k 0 p r) with
  | some m=>.F r m n L
  | none=>.G r p n L
 | .cond o a b=>.K (chC h (k+1) a) (chC h (k+1+szC a) b) o L
 | .blk i a=>.J (chC h (k+1) a) i L
 | x=>.X x
def D8t:IC->Bool
 | .reg _=>true
 | .drw _ _=>true
 | .cond _ _ _=>true
 | .blk _ _=>true
 | _=>false
def tlC (b:Bool) (l:List (Nat × PD)):List (Nat × PD):=match b with
 | true=>l.tail
 | false=>l
def flC (h:Nat->IC) (rl:List Nat):IC->Nat->List Nat->(Nat->List Nat)->List Nat × List (Nat × PD)
 | .skip,_,out,_=>(out,[])
 | .exit i,_,_,ex=>(ex i,[])
 | .ret,_,_,_=>(rl,[])
 | .bad,_,_,_=>([],[])
 | .rg r,_,out,_=>(rgS r out,[])
 | .reg r,k,out,_=>match B1o r out with
  | L=>(L,[(k,B8s h k (.reg r) L)])
 | .drw n d,k,out,_=>match B1o d.ops out with
  | L=>(L,[(k,B8s h k (.drw n d) L)])
 | .seq x y,k,out,ex=>match flC h rl y (k+1+szC x) out ex with
  | (Ly,ly)=>match flC h rl x (k+1) Ly ex with
   | (Lx,lx)=>(Lx,(k,fuC h (k+1) x (chC h (k+1+szC x) y) Lx) :: (tlC (D8t x) lx++ly))
 | .cond o x y,k,out,ex=>match flC h rl x (k+1) out ex with
  | (Lx,lx)=>match flC h rl y (k+1+szC x) out ex with
   | (Ly,ly)=>match B8k (opS o) (B8k Lx Ly) with
    | L=>(L,(k,B8s h k (.cond o x y) L) :: (lx++ly))
 | .blk i x,k,out,ex=>match flC h rl x (k+1) out (upE ex i out) with
  | (L,l)=>(L,(k,B8s h k (.blk i x) L) :: l)
 | .loop x,k,_,ex=>match lvC rl x [] ex with
  | L=>(L,(flC h rl x (k+1) L ex).2)
def Num (h:Nat->IC) (k:Nat) (t:IC):Prop:=∀ j x,(pre t)[j]? = some x->h (k+j)=x
section
variable {h:Nat->IC} {k:Nat} {x y t:IC}
theorem Num.self (n:Num h k t):h k=t:=by
 have:=n 0 t (by cases t<;>simp [pre]);simpa using this
theorem Num.sub {l:List IC} {i:Nat} (n:Num h k t) (e:∀ j x,(pre y)[j]? = some x->(pre t)[i+j]? = some x):Num h (k+i) y:=fun j x hx=>by
 rw [A2U];exact n (i+j) x (e j x hx)
theorem C7g {a:IC} {l r:List IC} (j:Nat) (z:IC) (hz:l[j]? = some z):(a :: (l++r))[1+j]? = some z:=by
 rw [Nat.add_comm,A2H,A2O (A0L.1 hz).1,hz]
theorem C7f {a:IC} {l r:List IC} {n:Nat} (hn:l.length=n) (j:Nat) (z:IC) (hz:r[j]? = some z):(a :: (l++r))[1+n+j]? = some z:=by
 rw [show 1+n+j=(l.length+j)+1 by omega,A2H,A2I (by omega),Nat.add_sub_cancel_left,hz]
theorem Num.s1 (n:Num h k (.seq x y)):Num h (k+1) x:=n.sub (l:=[]) fun j z hz=>by rw [pre];exact C7g j z hz
theorem Num.s2 (n:Num h k (.seq x y)):Num h (k+1+szC x) y:=by
 rw [A2U];exact n.sub (l:=[]) fun j z hz=>by rw [pre];exact C7f (C1e x) j z hz
theorem Num.c1 {o:Opd} (n:Num h k (.cond o x y)):Num h (k+1) x:=n.sub (l:=[]) fun j z hz=>by rw [pre];exact C7g j z hz
theorem Num.c2 {o:Opd} (n:Num h k (.cond o x y)):Num h (k+1+szC x) y:=by
 rw [A2U];exact n.sub (l:=[]) fun j z hz=>by rw [pre];exact C7f (C1e x) j z hz
theorem Num.b1 {i:Nat} (n:Num h k (.blk i x)):Num h (k+1) x:=n.sub (l:=[]) fun j z hz=>by rw [pre,Nat.add_comm,A2H,hz]
theorem Num.l1 (n:Num h k (.loop x)):Num h (k+1) x:=n.sub (l:=[]) fun j z hz=>by rw [pre,Nat.add_comm,A2H,hz]
theorem A5l (n:Num h k t):chC h k t=t:=by
 cases t<;>simp only [chC]<;>first|rfl|exact n.self|rw [n.l1.self]
theorem C3i {r:List IOper} {p:List (Nat × Option (List Nat))} {m m':Nat} (e:asM r p m=some m'):A6z m' 0 r=p:=by
 unfold asM at e;split at e<;>cases e;rename_i q;exact C2z q
theorem B1q {L:List Nat} (n:Num h k x):(B8s h k x L).ic=x:=by
 unfold B8s;split
 ·rfl
 ·split
  ·rename_i m e;simp only [PD.ic,dQ,C3i e]
  ·rfl
 ·simp only [PD.ic,A5l n.c1,A5l n.c2]
 ·simp only [PD.ic,A5l n.b1]
 ·rfl
theorem D5i {L:List Nat} (n:Num h k x):(fuC h k x y L).ic=.seq x y:=by
 unfold fuC;split
 ·rfl
 ·split
  ·rename_i m e;simp only [PD.ic,dQ,C3i e]
  ·rfl
 ·simp only [PD.ic,A5l n.c1,A5l n.c2]
 ·simp only [PD.ic,A5l n.b1]
 ·simp only [PD.ic,A5l n]
theorem C8t {b:Bool} {l:List (Nat × PD)} {e:Nat × PD} (hm:e∈tlC b l):e∈l:=by
 unfold tlC at hm;split at hm
 ·exact List.mem_of_mem_tail hm
 ·exact hm
theorem D5j (rl:List Nat):∀ (t:IC) (k:Nat) (out:List Nat) (ex:Nat->List Nat),Num h k t->∀ e∈(flC h rl t k out ex).2,h e.1=e.2.ic:=by
 intro t
 induction t with
 | skip=>intro k out ex n e he;simp [flC] at he
 | exit i=>intro k out ex n e he;simp [flC] at he
 | ret=>intro k out ex n e he;simp [flC] at he
 | bad=>intro k out ex n e he;simp [flC] at he
 | rg r=>intro k out ex n e he;simp [flC] at he
 | reg r=>intro k out ex n e he;simp only [flC,A0N] at he;subst he;simp only [B1q n];exact n.self
 | drw m d=>intro k out ex n e he;simp only [flC,A0N] at he;subst he;simp only [B1q n];exact n.self
 | seq x y ihx ihy =>
  intro k out ex n e he;simp only [flC,A1S,A1T] at he;rcases he with rfl|he|he
  ·simp only [D5i n.s1,A5l n.s2];exact n.self
  ·exact ihx _ _ _ n.s1 e (C8t he)
  ·exact ihy _ _ _ n.s2 e he
 | cond o x y ihx ihy =>
  intro k out ex n e he;simp only [flC,A1S,A1T] at he;rcases he with rfl|he|he
  ·simp only [B1q n];exact n.self
  ·exact ihx _ _ _ n.c1 e he
  ·exact ihy _ _ _ n.c2 e he
 | blk i x ih =>
  intro k out ex n e he;simp only [flC,A1S] at he;rcases he with rfl|he
  ·simp only [B1q n];exact n.self
  ·exact ih _ _ _ n.b1 e he
 | loop x ih =>
  intro k out ex n e he;simp only [flC] at he;exact ih _ _ _ n.l1 e he
end
inductive Ps where
 | h
 | o (p:Ps)
 | i (p:Ps)
def Ps.n:Ps->Nat
 | .h=>1
 | .o p=>2 * p.n
 | .i p=>2 * p.n+1
def Ps.s:Ps->Ps
 | .h=>.o .h
 | .o p=>.i p
 | .i p=>.o p.s
theorem Ps.s_n:∀ p:Ps,p.s.n=p.n+1
 | .h=>rfl
 | .o p=>rfl
 | .i p=>by simp only [Ps.s,Ps.n,Ps.s_n p];omega
def Ps.of:Nat->Ps
 | 0=>.h
 | k+1=>(Ps.of k).s
theorem Ps.of_n:∀ k:Nat,(Ps.of k).n=k+1
 | 0=>rfl
 | k+1=>by rw [Ps.of,Ps.s_n,Ps.of_n k]
def Ps.frc:Ps->(Ps->IC)->IC
 | .h,K=>K .h
 | .o p,K=>Ps.frc p fun q=>K (.o q)
 | .i p,K=>Ps.frc p fun q=>K (.i q)
theorem Ps.frc_eq:∀ (p:Ps) (K:Ps->IC),p.frc K=K p
 | .h,K=>rfl
 | .o p,K=>by rw [Ps.frc,Ps.frc_eq p]
 | .i p,K=>by rw [Ps.frc,Ps.frc_eq p]
def hk (h:Ps->IC) (k:Nat):IC:=(Ps.of k).frc h
inductive Tr where
 | e
 | d (x:Option PD) (l r:Tr)
def Tr.get:Tr->Ps->Option PD
 | .e,_=>none
 | .d x _ _,.h=>x
 | .d _ l _,.o p=>l.get p
 | .d _ _ r,.i p=>r.get p
def Tr.put (y:PD):Ps->Tr->Tr
 | .h,.e=>.d (some y) .e .e
 | .o p,.e=>.d none (Tr.put y p .e) .e
 | .i p,.e=>.d none .e (Tr.put y p .e)
 | .h,.d _ l r=>.d (some y) l r
 | .o p,.d x l r=>.d x (Tr.put y p l) r
 | .i p,.d x l r=>.d x l (Tr.put y p r)
theorem Tr.get_put (y:PD):∀ (p:Ps) (t:Tr) (q:Ps) (z:PD),(Tr.put y p t).get q=some z->(q=p/\z=y)\/t.get q=some z:=by
 intro p
 induction p with
 | h=>intro t q z h;cases t<;>cases q<;>simp_all [Tr.put,Tr.get]
 | o p ih =>
  intro t q z h;cases t<;>cases q<;>simp only [Tr.put,Tr.get] at h ⊢ <;> first|exact .inr h|(cases h;done)|skip
  ·rcases ih _ _ _ h with ⟨rfl,rfl⟩|h
   ·exact .inl ⟨rfl,rfl⟩
   ·cases h
  ·rcases ih _ _ _ h with ⟨rfl,rfl⟩|h
   ·exact .inl ⟨rfl,rfl⟩
   ·exact .inr h
 | i p ih =>
  intro t q z h;cases t<;>cases q<;>simp only [Tr.put,Tr.get] at h ⊢ <;> first|exact .inr h|(cases h;done)|skip
  ·rcases ih _ _ _ h with ⟨rfl,rfl⟩|h
   ·exact .inl ⟨rfl,rfl⟩
   ·cases h
  ·rcases ih _ _ _ h with ⟨rfl,rfl⟩|h
   ·exact .inl ⟨rfl,rfl⟩
   ·exact .inr h
def D0t:List (Nat × PD)->Tr->Tr
 | [],t=>t
 | e :: l,t=>D0t l (Tr.put e.2 (Ps.of e.1) t)
theorem B3o:∀ (l:List (Nat × PD)) (t:Tr) (q:Ps) (z:PD),(D0t l t).get q=some z->(∃ k,q=Ps.of k/\(k,z)∈l)\/t.get q=some z
 | [],t,q,z,h=>.inr h
 | e :: l,t,q,z,h=>by
  rcases B3o l _ q z h with ⟨k,h1,h2⟩|h
  ·exact .inl ⟨k,h1,A0J _ h2⟩
  ·rcases Tr.get_put _ _ _ _ _ h with ⟨rfl,rfl⟩|h
   ·exact .inl ⟨e.1,rfl,A0K⟩
   ·exact .inr h
def pz (P:Program) (f:Nat) (p:Ps):IC:=match (P.funcs[f]?).bind (A7v P) with
 | some i=>(pre i.body).getD (p.n-1) .bad
 | none=>.bad
theorem C0z {P:Program} {f:Nat} {i:IFn} (h:C2 P f i):Num (hk (pz P f)) 0 i.body:=fun j x hx=>by
 rw [hk,Ps.frc_eq];unfold pz;unfold C2 at h;rw [h];simp only [A1L,A0T,Ps.of_n,Nat.add_sub_cancel,hx,A3N]
inductive TD where
 | mk (n:Nat) (rs:List RV) (top:IC) (l:Tr)
 | no
def TD.l:TD->Tr
 | .mk _ _ _ l=>l
 | .no=>.e
def mkT (h:Ps->IC) (i:IFn):TD:=.mk i.n i.res (chC (hk h) 0 i.body) (D0t (flC (hk h) (slR i.res) i.body 0 (slR i.res) (fun _=>[])).2 .e)
structure XT (P:Program) (f:Nat) where
 d:(Ps->IC)->TD
 i:IFn
 hi:C2 P f i
 hd:∀ h,mkT h i=d h
class FT (P:Program) (f:Nat) (D:outParam ((Ps->IC)->TD)):Prop where
 of:∃ i,C2 P f i/\∀ h,mkT h i=D h
theorem XT.ft {P:Program} {f:Nat} (x:XT P f):FT P f x.d:=⟨⟨x.i,x.hi,x.hd⟩⟩
theorem u8n (n:Nat):UInt8.ofBitVec (BitVec.ofNat 8 n)=UInt8.ofNat n:=rfl
abbrev mkF {P:Program} {f:Nat} {i:IFn} {d:(Ps->IC)->TD} (hi:C2 P f i) (hd:∀ h,mkT h i=d h):XT P f:=⟨d,i,hi,hd⟩
class LkI (t:Tr) (p:Ps) (x:outParam PD):Prop where
 get:t.get p=some x
instance lkTh {x:PD} {l r:Tr}:LkI (.d (some x) l r) .h x:=⟨rfl⟩
instance lkTo {x:PD} {y:Option PD} {l r:Tr} {p:Ps} [k:LkI l p x]:LkI (.d y l r) (.o p) x:=⟨k.get⟩
instance lkTi {x:PD} {y:Option PD} {l r:Tr} {p:Ps} [k:LkI r p x]:LkI (.d y l r) (.i p) x:=⟨k.get⟩
class WDp (P:Program) (N:Nat) (u:PD) (r:outParam Rl):Prop where
 out:∀ {Q:Exit->St->Prop} {T:Tm} {H:Hp} {c:Nat},r P N Q T H c->IW P N u.ic ⟨T,H,c⟩ Q
section
variable {P:Program} {N n i e:Nat} {x y z:IC} {r:List IOper} {p:List (Nat × Option (List Nat))} {L:List Nat} {o:Opd}
instance dS:WDp P N (.S r y L) (rS r y L):=⟨mkS⟩
instance dE:WDp P N (.E r L) (rE r L):=⟨mkE⟩
instance dP:WDp P N (.P r y e n L) (rP r y n L):=⟨mkP (d:=dQ r e) (A1j e r 0)⟩
instance dD:WDp P N (.D r y p n L) (rD r p y n L):=⟨mkD (d:=⟨r,[],p⟩)⟩
instance dG:WDp P N (.G r p n L) (rDE r p n L):=⟨D7l (d:=⟨r,[],p⟩)⟩
instance dC:WDp P N (.C x y z o L) (rC o x z y L):=⟨mkC⟩
instance dK:WDp P N (.K x z o L) (rCE o x z L):=⟨D7m⟩
instance dB:WDp P N (.B x y i L) (rB i x y L):=⟨mkB⟩
instance dJ:WDp P N (.J x i L) (rBE i x L):=⟨D7n⟩
instance dQQ:WDp P N (.Q x y L) (rQ x y L):=⟨mkQ⟩
end
class LkD (t:TD) (p:Ps) (x:outParam PD):Prop where
 get:t.l.get p=some x
instance lkTd {n:Nat} {rs:List RV} {top:IC} {x:PD} {l:Tr} {p:Ps} [k:LkI l p x]:LkD (.mk n rs top l) p x:=⟨k.get⟩
section
variable {P:Program} {f:Nat} {D:(Ps->IC)->TD} [F:FT P f D]
theorem wz {p:Ps} {x:PD} (e:(D (pz P f)).l.get p=some x):pz P f p=x.ic:=by
 obtain ⟨i,hi,hd⟩:=F.of;rw [<- hd] at e;simp only [mkT,TD.l] at e;rcases B3o _ _ _ _ e with ⟨k,rfl,h⟩|h
 ·have:=D5j (slR i.res) i.body 0 (slR i.res) (fun _=>[]) (C0z hi) _ h;rw [hk,Ps.frc_eq] at this;exact this
 ·cases h
instance wZ {N:Nat} {p:Ps} {x:PD} {w:Rl} [g:LkD (D (pz P f)) p x] [k:WDp P N x w]:WR P N (pz P f p) w:=⟨fun h=>by rw [wz g.get];exact k.out h⟩
theorem FT.eqs {n:Nat} {rs:List RV} {top:IC} {l:Tr} (e:D (pz P f)=.mk n rs top l):C2 P f ⟨n,top,rs⟩:=by
 obtain ⟨i,hi,hd⟩:=F.of;rw [<- hd] at e;simp only [mkT,A5l (C0z hi),TD.mk.injEq] at e;rw [<- e.1, <- e.2.1, <- e.2.2.1];exact hi
theorem PC.ofT (hm:P.follows .mixedOrders=true) {n:Nat} {rs:List RV} {top:IC} {l:Tr} (e:D (pz P f)=.mk n rs top l) {args:List DV} (hn:args.length<=n) {r:DV} (na:DV.nlL args=true) (nr:r.nl=true)
  (h:IW P n top ⟨A9d args,nil,0⟩ (rt rs fun v H' _ => ∃ H2,GL H' [v] H2 [r])):PC P f args r :=
 PC.of hm (i:=⟨n,top,rs⟩) (FT.eqs e) hn na nr h
theorem AC.bodyT (hm:P.follows .mixedOrders=true) {n:Nat} {rs:List RV} {top:IC} {l:Tr} (e:D (pz P f)=.mk n rs top l) {args:List DV} (hn:args.length<=n) {H:Hp} {c:Nat} {Q:DV->Hp->Nat->Prop}
  (h:(∀ id,c<=id->H id=none)->IW P n top ⟨A9d args,H,c⟩ (rt rs fun v H' c' => ∃ v2 H2,GL H' [v] H2 [v2]/\Q v2 H2 c')):AC P f args H c Q :=
 AC.body hm (i:=⟨n,top,rs⟩) (FT.eqs e) hn h
end
end Go.Sym
set_option maxHeartbeats 4000000
set_option maxRecDepth 100000
namespace Go.Proofs.YthlpinppaclofaaGreatDoor
open Go.Eng (IC IOper DReg IFn C2)
open Go.Sym
theorem B1:Tryz.prog.follows .mixedOrders=true:=by kernel_rfl
abbrev x142:XT Tryz.prog 142:=mkF (by unfold C2;conv=>lhs;reduce;simp only [seval,u8n]) (fun h=>by conv=>lhs;cbv)
instance t142:FT Tryz.prog 142 x142.d:=x142.ft
abbrev x162:XT Tryz.prog 162:=mkF (by unfold C2;conv=>lhs;reduce;simp only [seval,u8n]) (fun h=>by conv=>lhs;cbv)
instance t162:FT Tryz.prog 162 x162.d:=x162.ft
abbrev x144:XT Tryz.prog 144:=mkF (by unfold C2;conv=>lhs;reduce;simp only [seval,u8n]) (fun h=>by conv=>lhs;cbv)
instance t144:FT Tryz.prog 144 x144.d:=x144.ft
abbrev x143:XT Tryz.prog 143:=mkF (by unfold C2;conv=>lhs;reduce;simp only [seval,u8n]) (fun h=>by conv=>lhs;cbv)
instance t143:FT Tryz.prog 143 x143.d:=x143.ft
abbrev x161:XT Tryz.prog 161:=mkF (by unfold C2;conv=>lhs;reduce;simp only [seval,u8n]) (fun h=>by conv=>lhs;cbv)
instance t161:FT Tryz.prog 161 x161.d:=x161.ft
abbrev x121:XT Tryz.prog 121:=mkF (by unfold C2;conv=>lhs;reduce;simp only [seval,u8n]) (fun h=>by conv=>lhs;cbv)
instance t121:FT Tryz.prog 121 x121.d:=x121.ft
abbrev x164:XT Tryz.prog 164:=mkF (by unfold C2;conv=>lhs;reduce;simp only [seval,u8n]) (fun h=>by conv=>lhs;cbv)
instance t164:FT Tryz.prog 164 x164.d:=x164.ft
abbrev x165:XT Tryz.prog 165:=mkF (by unfold C2;conv=>lhs;reduce;simp only [seval,u8n]) (fun h=>by conv=>lhs;cbv)
instance t165:FT Tryz.prog 165 x165.d:=x165.ft
abbrev x163:XT Tryz.prog 163:=mkF (by unfold C2;conv=>lhs;reduce;simp only [seval,u8n]) (fun h=>by conv=>lhs;cbv)
instance t163:FT Tryz.prog 163 x163.d:=x163.ft
abbrev x122:XT Tryz.prog 122:=mkF (by unfold C2;conv=>lhs;reduce;simp only [seval,u8n]) (fun h=>by conv=>lhs;cbv)
instance t122:FT Tryz.prog 122 x122.d:=x122.ft
abbrev x120:XT Tryz.prog 120:=mkF (by unfold C2;conv=>lhs;reduce;simp only [seval,u8n]) (fun h=>by conv=>lhs;cbv)
instance t120:FT Tryz.prog 120 x120.d:=x120.ft
abbrev x145:XT Tryz.prog 145:=mkF (by unfold C2;conv=>lhs;reduce;simp only [seval,u8n]) (fun h=>by conv=>lhs;cbv)
instance t145:FT Tryz.prog 145 x145.d:=x145.ft
abbrev x91:XT Tryz.prog 91:=mkF (by unfold C2;conv=>lhs;reduce;simp only [seval,u8n]) (fun h=>by conv=>lhs;cbv)
instance t91:FT Tryz.prog 91 x91.d:=x91.ft
abbrev x155:XT Tryz.prog 155:=mkF (by unfold C2;conv=>lhs;reduce;simp only [seval,u8n]) (fun h=>by conv=>lhs;cbv)
instance t155:FT Tryz.prog 155 x155.d:=x155.ft
abbrev x68:XT Tryz.prog 68:=mkF (by unfold C2;conv=>lhs;reduce;simp only [seval,u8n]) (fun h=>by conv=>lhs;cbv)
instance t68:FT Tryz.prog 68 x68.d:=x68.ft
abbrev x114:XT Tryz.prog 114:=mkF (by unfold C2;conv=>lhs;reduce;simp only [seval,u8n]) (fun h=>by conv=>lhs;cbv)
instance t114:FT Tryz.prog 114 x114.d:=x114.ft
abbrev x132:XT Tryz.prog 132:=mkF (by unfold C2;conv=>lhs;reduce;simp only [seval,u8n]) (fun h=>by conv=>lhs;cbv)
instance t132:FT Tryz.prog 132 x132.d:=x132.ft
abbrev x134:XT Tryz.prog 134:=mkF (by unfold C2;conv=>lhs;reduce;simp only [seval,u8n]) (fun h=>by conv=>lhs;cbv)
instance t134:FT Tryz.prog 134 x134.d:=x134.ft
abbrev x181:XT Tryz.prog 181:=mkF (by unfold C2;conv=>lhs;reduce;simp only [seval,u8n]) (fun h=>by conv=>lhs;cbv)
instance t181:FT Tryz.prog 181 x181.d:=x181.ft
abbrev x149:XT Tryz.prog 149:=mkF (by unfold C2;conv=>lhs;reduce;simp only [seval,u8n]) (fun h=>by conv=>lhs;cbv)
instance t149:FT Tryz.prog 149 x149.d:=x149.ft
abbrev x150:XT Tryz.prog 150:=mkF (by unfold C2;conv=>lhs;reduce;simp only [seval,u8n]) (fun h=>by conv=>lhs;cbv)
instance t150:FT Tryz.prog 150 x150.d:=x150.ft
abbrev x42:XT Tryz.prog 42:=mkF (by unfold C2;conv=>lhs;reduce;simp only [seval,u8n]) (fun h=>by conv=>lhs;cbv)
instance t42:FT Tryz.prog 42 x42.d:=x42.ft
abbrev x103:XT Tryz.prog 103:=mkF (by unfold C2;conv=>lhs;reduce;simp only [seval,u8n]) (fun h=>by conv=>lhs;cbv)
instance t103:FT Tryz.prog 103 x103.d:=x103.ft
abbrev x61:XT Tryz.prog 61:=mkF (by unfold C2;conv=>lhs;reduce;simp only [seval,u8n]) (fun h=>by conv=>lhs;cbv)
instance t61:FT Tryz.prog 61 x61.d:=x61.ft
abbrev x48:XT Tryz.prog 48:=mkF (by unfold C2;conv=>lhs;reduce;simp only [seval,u8n]) (fun h=>by conv=>lhs;cbv)
instance t48:FT Tryz.prog 48 x48.d:=x48.ft
abbrev x105:XT Tryz.prog 105:=mkF (by unfold C2;conv=>lhs;reduce;simp only [seval,u8n]) (fun h=>by conv=>lhs;cbv)
instance t105:FT Tryz.prog 105 x105.d:=x105.ft
abbrev x106:XT Tryz.prog 106:=mkF (by unfold C2;conv=>lhs;reduce;simp only [seval,u8n]) (fun h=>by conv=>lhs;cbv)
instance t106:FT Tryz.prog 106 x106.d:=x106.ft
abbrev x88:XT Tryz.prog 88:=mkF (by unfold C2;conv=>lhs;reduce;simp only [seval,u8n]) (fun h=>by conv=>lhs;cbv)
instance t88:FT Tryz.prog 88 x88.d:=x88.ft
abbrev x174:XT Tryz.prog 174:=mkF (by unfold C2;conv=>lhs;reduce;simp only [seval,u8n]) (fun h=>by conv=>lhs;cbv)
instance t174:FT Tryz.prog 174 x174.d:=x174.ft
abbrev x63:XT Tryz.prog 63:=mkF (by unfold C2;conv=>lhs;reduce;simp only [seval,u8n]) (fun h=>by conv=>lhs;cbv)
instance t63:FT Tryz.prog 63 x63.d:=x63.ft
abbrev x86:XT Tryz.prog 86:=mkF (by unfold C2;conv=>lhs;reduce;simp only [seval,u8n]) (fun h=>by conv=>lhs;cbv)
instance t86:FT Tryz.prog 86 x86.d:=x86.ft
abbrev x140:XT Tryz.prog 140:=mkF (by unfold C2;conv=>lhs;reduce;simp only [seval,u8n]) (fun h=>by conv=>lhs;cbv)
instance t140:FT Tryz.prog 140 x140.d:=x140.ft
abbrev x139:XT Tryz.prog 139:=mkF (by unfold C2;conv=>lhs;reduce;simp only [seval,u8n]) (fun h=>by conv=>lhs;cbv)
instance t139:FT Tryz.prog 139 x139.d:=x139.ft
abbrev x138:XT Tryz.prog 138:=mkF (by unfold C2;conv=>lhs;reduce;simp only [seval,u8n]) (fun h=>by conv=>lhs;cbv)
instance t138:FT Tryz.prog 138 x138.d:=x138.ft
abbrev x84:XT Tryz.prog 84:=mkF (by unfold C2;conv=>lhs;reduce;simp only [seval,u8n]) (fun h=>by conv=>lhs;cbv)
instance t84:FT Tryz.prog 84 x84.d:=x84.ft
abbrev x85:XT Tryz.prog 85:=mkF (by unfold C2;conv=>lhs;reduce;simp only [seval,u8n]) (fun h=>by conv=>lhs;cbv)
instance t85:FT Tryz.prog 85 x85.d:=x85.ft
abbrev x99:XT Tryz.prog 99:=mkF (by unfold C2;conv=>lhs;reduce;simp only [seval,u8n]) (fun h=>by conv=>lhs;cbv)
instance t99:FT Tryz.prog 99 x99.d:=x99.ft
abbrev x175:XT Tryz.prog 175:=mkF (by unfold C2;conv=>lhs;reduce;simp only [seval,u8n]) (fun h=>by conv=>lhs;cbv)
instance t175:FT Tryz.prog 175 x175.d:=x175.ft
abbrev x119:XT Tryz.prog 119:=mkF (by unfold C2;conv=>lhs;reduce;simp only [seval,u8n]) (fun h=>by conv=>lhs;cbv)
instance t119:FT Tryz.prog 119 x119.d:=x119.ft
abbrev x117:XT Tryz.prog 117:=mkF (by unfold C2;conv=>lhs;reduce;simp only [seval,u8n]) (fun h=>by conv=>lhs;cbv)
instance t117:FT Tryz.prog 117 x117.d:=x117.ft
abbrev x104:XT Tryz.prog 104:=mkF (by unfold C2;conv=>lhs;reduce;simp only [seval,u8n]) (fun h=>by conv=>lhs;cbv)
instance t104:FT Tryz.prog 104 x104.d:=x104.ft
abbrev x156:XT Tryz.prog 156:=mkF (by unfold C2;conv=>lhs;reduce;simp only [seval,u8n]) (fun h=>by conv=>lhs;cbv)
instance t156:FT Tryz.prog 156 x156.d:=x156.ft
abbrev x189:XT Tryz.prog 189:=mkF (by unfold C2;conv=>lhs;reduce;simp only [seval,u8n]) (fun h=>by conv=>lhs;cbv)
instance t189:FT Tryz.prog 189 x189.d:=x189.ft
abbrev x62:XT Tryz.prog 62:=mkF (by unfold C2;conv=>lhs;reduce;simp only [seval,u8n]) (fun h=>by conv=>lhs;cbv)
instance t62:FT Tryz.prog 62 x62.d:=x62.ft
abbrev x141:XT Tryz.prog 141:=mkF (by unfold C2;conv=>lhs;reduce;simp only [seval,u8n]) (fun h=>by conv=>lhs;cbv)
instance t141:FT Tryz.prog 141 x141.d:=x141.ft
abbrev x176:XT Tryz.prog 176:=mkF (by unfold C2;conv=>lhs;reduce;simp only [seval,u8n]) (fun h=>by conv=>lhs;cbv)
instance t176:FT Tryz.prog 176 x176.d:=x176.ft
abbrev x87:XT Tryz.prog 87:=mkF (by unfold C2;conv=>lhs;reduce;simp only [seval,u8n]) (fun h=>by conv=>lhs;cbv)
instance t87:FT Tryz.prog 87 x87.d:=x87.ft
abbrev x89:XT Tryz.prog 89:=mkF (by unfold C2;conv=>lhs;reduce;simp only [seval,u8n]) (fun h=>by conv=>lhs;cbv)
instance t89:FT Tryz.prog 89 x89.d:=x89.ft
abbrev x47:XT Tryz.prog 47:=mkF (by unfold C2;conv=>lhs;reduce;simp only [seval,u8n]) (fun h=>by conv=>lhs;cbv)
instance t47:FT Tryz.prog 47 x47.d:=x47.ft
end Go.Proofs.YthlpinppaclofaaGreatDoor
namespace Go.Pb
variable [Go.Sym.Tab]
open Go.Sym
def B1r (n:Nat) (s:List UInt8):Nat:=s.foldl (fun n c=>10 * n+(c.toNat-48)) n
theorem B7o:∀ (s:List UInt8) (n:Nat),n<=B1r n s
 | [],n=>A0E _
 | c :: r,n=>by
  have:=B7o r (10 * n+(c.toNat-48));simp only [B1r,List.foldl_cons] at this ⊢;omega
theorem B8u (c:UInt8) (r:List UInt8) (n:Nat):B1r n (c :: r)=B1r (10 * n+(c.toNat-48)) r:=by simp only [B1r,List.foldl_cons]
theorem C1a {M acc d v w:Nat} (hM:M=18446744073709551615) (hd:d<=9) (hv:10 * acc+d<=v) (hw:w=1844674407370955162) :
  (w<=acc->M<v)/\(M<acc * 10+d->M<v):=by
 subst hM hw;omega
theorem C1b (M acc:Nat) (c:UInt8) (r:List UInt8) (h:48<=c.toNat/\c.toNat<=57):Lib.parseUintM M acc (c :: r) =
   if 1844674407370955162<=acc then .range
   else if M<acc * 10+(c.toNat-48) then .range
   else Lib.parseUintM M (acc * 10+(c.toNat-48)) r:=by rw [Lib.parseUintM,if_pos h]
theorem pum {M:Nat} (hM:M=18446744073709551615):∀ (l:List UInt8) (acc:Nat),(∀ c∈l,dgB c=true)->acc<=M ->
  Lib.parseUintM M acc l=if B1r acc l<=M then .ok (B1r acc l) else .range:=by
 intro l
 induction l with
 | nil =>
  intro acc h ha;rw [if_pos (show B1r acc []<=M from ha),Lib.parseUintM];rfl
 | cons c r ih =>
  intro acc h ha;have hc:=h c A0K;simp only [dgB,A0D,A0H] at hc;have hg:=B7o r (10 * acc+(c.toNat-48));rw [C1b _ _ _ _ hc,B8u];generalize hK:(1844674407370955162:Nat)=K;obtain ⟨s1,s2⟩:=C1a hM (show c.toNat-48<=9 by omega) hg hK.symm;by_cases h1:K<=acc
  ·rw [if_pos h1,if_neg (Nat.not_le.2 (s1 h1))]
  ·rw [if_neg h1];by_cases h2:M<acc * 10+(c.toNat-48)
   ·rw [if_pos h2,if_neg (Nat.not_le.2 (s2 h2))]
   ·rw [if_neg h2,Nat.mul_comm acc 10];rw [Nat.mul_comm acc 10] at h2;exact ih _ (fun d hd=>h d (A0J _ hd)) (Nat.not_lt.1 h2)
theorem pib {l:List UInt8} (h:∀ c∈l,dgB c=true) (h0:l≠[]) :
  Lib.parseIntB 64 l=if A2q l<=9223372036854775807 then .ok (A2q l:Int) else .range:=by
 cases l with
 | nil=>exact absurd rfl h0
 | cons c r =>
  have hc:=h c A0K;simp only [dgB,A0D,A0H] at hc;have e1:¬ c.toNat=43:=by omega
  have e2:¬ c.toNat=45:=by omega
  have hp:=pum (M:=2 ^ 64-1) (by decide) (c :: r) 0 h (A0Y _);have hv:B1r 0 (c :: r)=A2q (c :: r):=rfl;rw [hv] at hp;unfold Lib.parseIntB;simp only [e1,e2,or_self,if_false,not_false_eq_true,true_and,false_and];unfold Lib.parseUintB;rw [if_neg (by simp),hp];by_cases g1:A2q (c :: r)<=2 ^ 64-1
  ·rw [if_pos g1];by_cases g2:A2q (c :: r)<=9223372036854775807
   ·simp only [g2,if_true];rw [if_neg (by omega)]
   ·simp only [g2,if_false];rw [if_pos (by omega)]
  ·rw [if_neg g1];have g2:¬ A2q (c :: r)<=9223372036854775807:=by omega
   simp only [g2,if_false]
theorem B2w {p:UInt8->Bool}:∀ (s:List UInt8), ∀ c∈s.take (F2 p s),p c=true
 | [],c,h=>by simp at h
 | x :: r,c,h=>by
  simp only [F2] at h;split at h
  ·rename_i hx;rw [A1U] at h;rcases A1S.1 h with rfl|h
   ·exact hx
   ·exact B2w r c h
  ·simp at h
theorem C2g (c:UInt8):∀ l:List UInt8, -1<=Lib.indexByte l c
 | []=>by simp [Lib.indexByte]
 | d :: l=>by
  have:=C2g c l;simp only [Lib.indexByte];split
  ·omega
  ·split<;>omega
theorem B7w (c:UInt8):∀ l:List UInt8,0<=Lib.indexByte l c↔l.contains c=true
 | []=>by simp [Lib.indexByte]
 | b :: l=>by
  have ih:=B7w c l;have hge:=C2g c l;simp only [Lib.indexByte,A2T];by_cases h:b=c
  ·subst h;simp
  ·have e1:(b == c)=false:=by simpa using h
   have e2:(c == b)=false:=by simpa using fun h2=>h h2.symm
   rw [e1,e2,A4B, <- ih];simp only [A1I,if_false];by_cases h2:Lib.indexByte l c = -1
   ·rw [if_pos (by rw [h2];rfl),h2]
   ·rw [if_neg (by simpa using h2)];omega
end Go.Pb
namespace Go.Pb
variable [Go.Sym.Tab]
open Go.Sym
theorem A7y {s:List UInt8} {k:Nat} (h:k<=s.length):slsR s (some (.int .i64 (k:Int))) none=some (.str (s.drop k)):=by
 rw [C7i (l:=k) (h:=s.length) rfl (by simp [boundOf]) (A0E _) h,A0I (by simp)]
theorem B1f {s:List UInt8} {k:Nat} (h:k<=s.length):slsR s none (some (.int .i64 (k:Int)))=some (.str (s.take k)):=by
 rw [C7i (l:=0) (h:=k) (by simp [boundOf]) rfl h (A0Y _),A3L,Nat.sub_zero]
theorem C0e (l:List (List UInt8)):(A4 (l.map DV.str)).length=l.length * 1:=by
 rw [B5 (u:=1)]
 ·simp
 ·intro x hx;obtain ⟨y, -,rfl⟩:=A1M.1 hx;rfl
theorem J1 (l:List (List UInt8)):∀ x∈l.map DV.str,x.cells.length=1:=by
 intro x hx;obtain ⟨y, -,rfl⟩:=A1M.1 hx;rfl
end Go.Pb
namespace Go.Pb
variable [Go.Sym.Tab]
open Go.Sym
def K3 (H:Hp):Option Nat->Hp
 | none=>H
 | some i=>H.del i
theorem E6 {H:Hp} {c sz bytes n m:Nat} {o:Option Nat} {cs src:List DV} (hn:o=none->n=0/\cs=[]) (hb:∀ i,o=some i->H i=some ⟨sz,true,cs⟩) (hl:cs.length=n * sz) (hm:1<=m) (h2:(n+m) * bytes<=140737488355328) (h3:n+m<=9223372036854775807) :
  A1x H c sz bytes (B6 o n) m src=some (.slc c 0 (n+m),(K3 H o).upd c ⟨sz,true,cs++src⟩,c+1):=by
 cases o with
 | none =>
  obtain ⟨rfl,rfl⟩:=hn rfl;rw [A5r,A1r (by omega) (by simpa using h2) (by omega)];simp [K3]
 | some i=>rw [A1o,A4f,hb i rfl,E1 hl h2 h3];rfl
theorem E0 {H:Hp} {o:Option Nat} {j:Nat} (h:∀ i,o=some i->¬ j=i):K3 H o j=H j:=by
 cases o with
 | none=>rfl
 | some i=>exact D5 (h i rfl)
theorem D2 {H:Hp} {o:Option Nat} {b:Blk} {j:Nat} (h:∀ i,o=some i->¬ j=i):C5 H o b j=H j:=by
 cases o with
 | none=>rfl
 | some i=>exact A3 (h i rfl)
section
variable {l:List UInt8} {k p:Nat} {S P V:DV} {I:List Ins} {E:List Ent} {o1 o2:Option Nat} {cc:Nat}
end
end Go.Pb
namespace Go.Pb
variable [Go.Sym.Tab]
open Go.Sym
theorem B6n {a b:Nat} (h:((a:Int) == (b:Int))=true):a=b:=by have:=A1F.1 h;omega
theorem B4h {a b:Nat} (h:((a:Int) == (b:Int))=false):a≠b:=fun e=>by rw [e] at h;simp at h
theorem D2f {a b:Nat} (h:((a:Int) != (b:Int))=true):a≠b:=fun e=>by rw [e] at h;simp at h
theorem D6e {a b:Nat} (h:((a:Int) != (b:Int))=false):a=b:=by
 have:(a:Int)=b:=by simpa using h
 omega
theorem B9c {a b:Nat} (h:decide ((a:Int)>(b:Int))=true):b<a:=by have:=of_decide_eq_true h;omega
theorem B3u {a b:Nat} (h:decide ((a:Int)>(b:Int))=false):¬ b<a:=by have:=of_decide_eq_false h;omega
theorem U3 {α : Type} {s:List α} {i:Nat} {c : α} (h:s[i]? = some c):s.drop i=c :: s.drop (i+1):=by
 obtain ⟨hi,rfl⟩:=A0L.1 h;exact A0Z hi
theorem C8y {s:List UInt8} {i:Nat} {c:UInt8} (h:s[i]? = some c) (hc:A6u c=true):skM false (s.drop i)=skM false (s.drop (i+1))+1:=by
 rw [U3 h];simp only [skM];rw [if_pos hc]
theorem C9a {s:List UInt8} {i:Nat} {c:UInt8} (h:s[i]? = some c) (hc:c.toNat=35) :
  skM false (s.drop i)=F2 (fun c=>decide (c.toNat≠10)) (s.drop i)+skM false (s.drop (i+F2 (fun c=>decide (c.toNat≠10)) (s.drop i))):=by
 have hs:¬ A6u c=true:=by simp [A6u,hc]
 have e1:skM false (s.drop i)=skM true (s.drop i):=by
  rw [U3 h];simp only [skM];rw [if_neg hs,if_pos hc,if_neg (by omega)]
 rw [e1,B2x,A3V]
theorem C4g {s:List UInt8} {i:Nat} {c:UInt8} (h:s[i]? = some c) (h1:¬ A6u c=true) (h2:¬ c.toNat=35):skM false (s.drop i)=0:=by
 rw [U3 h];simp only [skM];rw [if_neg h1,if_neg h2]
theorem C8z {s:List UInt8} {i:Nat} (h:s.length<=i):skM false (s.drop i)=0:=by
 rw [A1P h];rfl
theorem C4h {s:List UInt8} {i:Nat} {c:UInt8} (h:s[i]? = some c) (hc:c.toNat=35):1<=F2 (fun c=>decide (c.toNat≠10)) (s.drop i):=by
 rw [U3 h];simp only [F2];rw [if_pos (by simp [hc])];omega
def quA (acc:List UInt8) (k:Nat) (q:Option (List UInt8 × Nat)):Option (List UInt8 × Nat):=q.map fun x=>(acc++x.1,x.2+k)
theorem Y7 (c:UInt8) (r:List UInt8):quM (c :: r)=if c.toNat=34 then some ([],1)
  else if c.toNat<32\/126<c.toNat then none
  else if c.toNat=92 then match r with
   | []=>none
   | d :: q=>if d.toNat=34\/d.toNat=92 then (quM q).map fun x=>(d :: x.1,x.2+2) else none
  else (quM r).map fun x=>(c :: x.1,x.2+1):=by rw [quM.eq_def];try rfl
theorem B3f {s acc:List UInt8} {k:Nat} {c:UInt8} (h:s[k]? = some c) (hc:c.toNat=34):quA acc k (quM (s.drop k))=some (acc,k+1):=by
 rw [U3 h,Y7,if_pos hc];simp [quA];omega
theorem B1j {s acc:List UInt8} {k:Nat} {c:UInt8} (h:s[k]? = some c) (h0:c.toNat≠34) (hc:c.toNat<32\/126<c.toNat):quA acc k (quM (s.drop k))=none:=by
 rw [U3 h,Y7,if_neg h0,if_pos hc];rfl
theorem D0b {s acc:List UInt8} {k:Nat} (h:s.length<=k):quA acc k (quM (s.drop k))=none:=by
 rw [A1P h,quM];rfl
theorem B7j {s acc:List UInt8} {k:Nat} {c:UInt8} (h:s[k]? = some c) (h0:c.toNat≠34) (h1:32<=c.toNat) (h2:c.toNat<=126) (h3:c.toNat≠92) :
  quA acc k (quM (s.drop k))=quA (acc++[c]) (k+1) (quM (s.drop (k+1))):=by
 rw [U3 h,Y7,if_neg h0,if_neg (by omega),if_neg h3];cases quM (s.drop (k+1)) with
 | none=>rfl
 | some x=>simp [quA];omega
theorem C0w {s acc:List UInt8} {k:Nat} {c d:UInt8} (h:s[k]? = some c) (h3:c.toNat=92) (hd:s[k+1]? = some d) (h4:d.toNat=34\/d.toNat=92) :
  quA acc k (quM (s.drop k))=quA (acc++[d]) (k+2) (quM (s.drop (k+2))):=by
 rw [U3 h,U3 hd,Y7,if_neg (by omega),if_neg (by omega),if_pos h3];simp only;rw [if_pos h4];cases quM (s.drop (k+1+1)) with
 | none=>rfl
 | some x=>simp [quA];omega
theorem B7i {s acc:List UInt8} {k:Nat} {c:UInt8} (h:s[k]? = some c) (h3:c.toNat=92) (hd:∀ d,s[k+1]? = some d->d.toNat≠34/\d.toNat≠92) :
  quA acc k (quM (s.drop k))=none:=by
 rw [U3 h];cases hq:s.drop (k+1) with
 | nil=>rw [Y7,if_neg (by omega),if_neg (by omega),if_pos h3];rfl
 | cons d q =>
  have h5:s[k+1]? = some d:=by
   have:=congrArg List.head? hq
   rwa [List.head?_drop] at this
  have h6:=hd d h5;rw [Y7,if_neg (by omega),if_neg (by omega),if_pos h3];simp only;rw [if_neg (by omega)];rfl
def quV:Option (List UInt8 × Nat)->DV
 | none=>.tup [.str [],I64 0]
 | some x=>.tup [.str x.1,I64 x.2]
theorem C0v {H:Hp} {o:Option Nat} {u:Nat} {acc:List UInt8} (hn:o=none->acc=[]) (hb:∀ i,o=some i->H i=some ⟨u,true,F4 acc⟩):A0j H (B6 o acc.length)=some (.str acc):=by
 cases o with
 | none=>rw [hn rfl];rfl
 | some i=>exact A4m (hb i rfl) rfl rfl
theorem J5 {X:Hp} {id:Nat} {b b':Blk} (h:b=b'):Sub (C5 Sym.nil (some id) b) (X.upd id b'):=by
 intro j q hj;simp only [C5] at hj;by_cases e:j=id
 ·subst e;rw [A0] at hj ⊢;rw [<- h];exact hj
 ·rw [A3 e] at hj;cases hj
theorem B8q {X:Hp} {o:Option Nat} {c sz bytes n m:Nat} {cs src:List DV} {b2:Blk} (hn:o=none->n=0/\cs=[]) (ho:∀ i,o=some i->i<c) (hl:cs.length=n * sz) (hm:1<=m)
  (h2:(n+m) * bytes<=140737488355328) (h3:n+m<=9223372036854775807) :
  A1x ((C5 X o ⟨sz,true,cs⟩).upd c b2) (c+1) sz bytes (B6 o n) m src=some (.slc (c+1) 0 (n+m),(K3 ((C5 X o ⟨sz,true,cs⟩).upd c b2) o).upd (c+1) ⟨sz,true,cs++src⟩,c+1+1) :=
 E6 hn (fun i hi=>by have:=ho i hi;rw [A3 (by omega)];subst hi;exact A0) hl hm h2 h3
theorem B3e {X:Hp} {o:Option Nat} {c:Nat} {acc:List UInt8} (hn:o=none->acc=[]) (ho:∀ i,o=some i->i<c) (hl:acc.length<=10000000) (b2:Blk) (x:UInt8) :
  A1x ((C5 X o ⟨1,true,F4 acc⟩).upd c b2) (c+1) 1 1 (B6 o acc.length) 1 [.int .u8 (x.toNat:Int)]=some (.slc (c+1) 0 (acc.length+1),(K3 ((C5 X o ⟨1,true,F4 acc⟩).upd c b2) o).upd (c+1) ⟨1,true,F4 (acc++[x])⟩,c+1+1):=by
 rw [A8y];exact B8q (fun e=>by rw [hn e];exact ⟨rfl,rfl⟩) ho (B4g acc) (by omega) (by omega) (by omega)
theorem D1g (c:UInt8):decide (Lib.indexByte [123,125,40,41,59,44,61,43,45,42,47,37,33,60,62] c≥0)=C1o c:=by
 rw [A2L,decide_eq_true_iff];refine (B7w c _).trans ?_;have key:∀ n:Nat,n<256->([123,125,40,41,59,44,61,43,45,42,47,37,33,60,62]:List UInt8).contains (UInt8.ofNat n)=C1o (UInt8.ofNat n):=by decide +kernel
 have:=key c.toNat c.toNat_lt;rw [UInt8.ofNat_toNat] at this;rw [this]
def quB (c:UInt8):List UInt8:=if c.toNat=34\/c.toNat=92 then [92,c] else [c]
def A2g (s:List UInt8):List UInt8:=[34]++s.flatMap quB
def T2 (s:List UInt8):List UInt8:=A2g s++[34]
theorem A9z {s:List UInt8} {k:Nat} {c:UInt8} (h:s[k]? = some c):A2g (s.take (k+1))=A2g (s.take k)++quB c:=by
 unfold A2g;rw [A1D,h,A2M,A0V];simp
theorem B7k:∀ s:List UInt8,(s.flatMap quB).length<=2 * s.length
 | []=>by simp
 | c :: r=>by
  have:=B7k r;rw [A1E,A0A,A0U];have:(quB c).length<=2:=by unfold quB;split<;>simp
  omega
theorem A8a (s:List UInt8):(A2g s).length<=2 * s.length+1:=by
 have:=B7k s;unfold A2g;rw [A0A,A0F];omega
theorem B4i {H:Hp} {c id n:Nat} {acc:List UInt8} {x:UInt8} (hn:n=acc.length) (hl:n<=10000000) :
  apB H c id 1 1 n 1 [.int .u8 (x.toNat:Int)] (some ⟨1,true,F4 acc⟩)=some (.slc c 0 (n+1),(H.del id).upd c ⟨1,true,F4 (acc++[x])⟩,c+1):=by
 rw [A8y];exact E1 (by rw [A4n,hn];omega) (by omega) (by omega)
theorem C0k (q:List Tok × Int × Int):(C0l q).nl=true:=by
 simp only [DV.nl,DV.nlL,N5,A1W]
theorem B3i {H:Hp} {a b:DV}:∃ H2,GL H [.tup [.snil,a,b]] H2 [.tup [.lst [],a,b]] :=
 ⟨H,GL.view fun ρ vs hA=>⟨hA.1,fun i x y hx hy=>by
  match i with
  | 0 =>
   cases hx;have:=hA.2 0 _ y rfl hy;obtain ⟨b',rfl,k1,k2⟩:=this.tup_inv;refine .tup _ _ k1 fun j x' y' hx' hy'=>?_
   match j with
   | 0=>cases hx';exact (k2 0 _ y' rfl hy').snil_lst
   | 1=>cases hx';exact k2 1 _ y' rfl hy'
   | 2=>cases hx';exact k2 2 _ y' rfl hy'
   | _+3=>cases hx'
  | _+1=>cases hx⟩⟩
theorem B2z {H:Hp} {a b:Int}:∃ H2,GL H [.tup [.snil,I64 a,I64 b]] H2 [C0l ([],a,b)]:=B3i
theorem C1j {o:Option Nat} {xs:List DV} {u n:Nat} {a b:DV} (hno:o=none->xs=[]) (hl:xs.length=n) (hu:∀ x∈xs,x.cells.length=u) :
  ∃ H2,GL (C5 Sym.nil o ⟨u,true,A4 xs⟩) [.tup [B6 o n,a,b]] H2 [.tup [.lst xs,a,b]]:=by
 cases o with
 | none=>rw [hno rfl];exact B3i
 | some i=>exact ⟨nil,GL.one (id:=i) A0 rfl (.cons _ _ _ _ (.tup _ _ (.cons _ _ _ _ (N7 hl hu ⟨[],by simp⟩) (.cons _ _ _ _ (.same _) (.cons _ _ _ _ (.same _) .nil)))) .nil)⟩
theorem A0r {X:Hp} {o:Option Nat} {b:Blk} {i:Nat} (hi:o=some i):C5 X o b i=some b:=by subst hi;exact A0
def nxV (x:Nx):DV:=.tup [.agg [I64 x.kind,.str x.text,I64 x.value,I64 0],I64 x.n,I64 x.err]
theorem C1q (x:Nx):(nxV x).nl=true:=rfl
theorem u8_eq (c:UInt8) (n:Nat) (h:n<256):(c == UInt8.ofNat n)=decide (c.toNat=n):=by
 rw [A2L,A1F,decide_eq_true_iff, <- UInt8.toNat_inj];simp;omega
theorem C3t (c d:UInt8):D2r c d=([c,d] == [60,61] || [c,d] == [62,61] || [c,d] == [61,61] || [c,d] == [33,61] || [c,d] == [38,38] || [c,d] == [124,124]):=by
 have hk:∀ a b:UInt8,([c,d] == [a,b])=(c == a && d == b):=fun a b=>by simp [A3U]
 rw [hk,hk,hk,hk,hk,hk];have hu:∀ (x:UInt8) (n:Nat),n<256->(x == UInt8.ofNat n)=(x.toNat == n):=fun x n h=>by rw [u8_eq x n h];rfl
 have e:∀ n:Nat,(OfNat.ofNat n:UInt8)=UInt8.ofNat n:=fun _=>rfl;show ([(60,61),(62,61),(61,61),(33,61),(38,38),(124,124)]:List (Nat × Nat)).contains (c.toNat,d.toNat)=(c == UInt8.ofNat 60 && d == UInt8.ofNat 61 || c == UInt8.ofNat 62 && d == UInt8.ofNat 61 || c == UInt8.ofNat 61 && d == UInt8.ofNat 61 || c == UInt8.ofNat 33 && d == UInt8.ofNat 61 || c == UInt8.ofNat 38 && d == UInt8.ofNat 38 || c == UInt8.ofNat 124 && d == UInt8.ofNat 124);rw [hu c 60 (by omega),hu c 61 (by omega),hu c 62 (by omega),hu c 33 (by omega),hu c 38 (by omega),hu c 124 (by omega),hu d 61 (by omega),hu d 38 (by omega),hu d 124 (by omega)];rw [A2L];simp;omega
end Go.Pb
namespace Go.Pb
variable [Go.Sym.Tab]
open Go.Sym
inductive Ex where
 | mk (kind value:Int) (name:List UInt8) (args:List Ex) (pos:Int)
def Ex.kind:Ex->Int | .mk k _ _ _ _=>k
def Ex.value:Ex->Int | .mk _ v _ _ _=>v
def Ex.name:Ex->List UInt8 | .mk _ _ n _ _=>n
def Ex.args:Ex->List Ex | .mk _ _ _ a _=>a
def Ex.pos:Ex->Int | .mk _ _ _ _ p=>p
mutual
def Ex.v:Ex->DV
 | .mk k v n a p=>.agg [I64 k,I64 v,.str n,.lst (Ex.vs a),I64 p]
def Ex.vs:List Ex->List DV
 | []=>[]
 | e :: l=>Ex.v e :: Ex.vs l
end
theorem Ex.vs_map:∀ l:List Ex,Ex.vs l=l.map Ex.v
 | []=>rfl
 | e :: l=>by rw [Ex.vs,Ex.vs_map l];rfl
abbrev H3 (l:List Ex):DV:=.lst (l.map Ex.v)
abbrev Ex.w (e:Ex):DV:=.agg [I64 e.kind,I64 e.value,.str e.name,H3 e.args,I64 e.pos]
theorem Ex.v_w (e:Ex):e.v=e.w:=by
 cases e with|mk k v n a p=>rw [Ex.v,Ex.vs_map];rfl
theorem W0 (l:List Ex):∀ x∈l.map Ex.v,x.cells.length=5:=fun x hx=>by
 obtain ⟨y, -,rfl⟩:=A1M.1 hx;rw [Ex.v_w];rfl
mutual
@[simp]theorem Ex.nl:∀ e:Ex,e.v.nl=true
 | .mk k v n a p=>by
  have:=Ex.nls a;rw [Ex.v];simp only [DV.nl,DV.nlL,this,A1W]
theorem Ex.nls:∀ l:List Ex,DV.nlL (Ex.vs l)=true
 | []=>rfl
 | e :: l=>by rw [Ex.vs,DV.nlL,Ex.nl e,Ex.nls l];rfl
end
@[simp]theorem Q5 (l:List Ex):DV.nlL (l.map Ex.v)=true:=by rw [<- Ex.vs_map];exact Ex.nls l
def Ex0:Ex:=.mk 0 0 [] [] 0
inductive St where
 | mk (kind:Int) (name text:List UInt8) (args:List Ex) (thn els:List St) (pos:Int)
def St.kind:St->Int | .mk k _ _ _ _ _ _=>k
def St.name:St->List UInt8 | .mk _ n _ _ _ _ _=>n
def St.text:St->List UInt8 | .mk _ _ t _ _ _ _=>t
def St.args:St->List Ex | .mk _ _ _ a _ _ _=>a
def St.thn:St->List St | .mk _ _ _ _ t _ _=>t
def St.els:St->List St | .mk _ _ _ _ _ e _=>e
def St.pos:St->Int | .mk _ _ _ _ _ _ p=>p
mutual
def St.v:St->DV
 | .mk k n t a x y p=>.agg [I64 k,.str n,.str t,H3 a,.lst (St.vs x),.lst (St.vs y),I64 p]
def St.vs:List St->List DV
 | []=>[]
 | e :: l=>St.v e :: St.vs l
end
theorem St.vs_map:∀ l:List St,St.vs l=l.map St.v
 | []=>rfl
 | e :: l=>by rw [St.vs,St.vs_map l];rfl
abbrev F1 (l:List St):DV:=.lst (l.map St.v)
abbrev St.w (s:St):DV:=.agg [I64 s.kind,.str s.name,.str s.text,H3 s.args,F1 s.thn,F1 s.els,I64 s.pos]
theorem St.v_w (s:St):s.v=s.w:=by
 cases s with|mk k n t a x y p=>rw [St.v,St.vs_map,St.vs_map];rfl
theorem X5 (l:List St):∀ x∈l.map St.v,x.cells.length=7:=fun x hx=>by
 obtain ⟨y, -,rfl⟩:=A1M.1 hx;rw [St.v_w];rfl
mutual
@[simp]theorem St.nl:∀ e:St,e.v.nl=true
 | .mk k n t a x y p=>by
  have h1:=Q5 a;have h2:=St.nls x;have h3:=St.nls y;rw [St.v];simp only [DV.nl,DV.nlL,h1,h2,h3,A1W]
theorem St.nls:∀ l:List St,DV.nlL (St.vs l)=true
 | []=>rfl
 | e :: l=>by rw [St.vs,DV.nlL,St.nl e,St.nls l];rfl
end
@[simp]theorem O5 (l:List St):DV.nlL (l.map St.v)=true:=by rw [<- St.vs_map];exact St.nls l
def St0:St:=.mk 0 [] [] [] [] [] 0
structure Dc where
 kind:Int
 name:List UInt8
 value:Int
 pos:Int
deriving DecidableEq
abbrev Dc.v (d:Dc):DV:=.agg [I64 d.kind,.str d.name,I64 d.value,I64 d.pos]
abbrev E8 (l:List Dc):DV:=.lst (l.map Dc.v)
structure Hd where
 trig:Int
 name:List UInt8
 body:List St
 pos:Int
abbrev Hd.v (h:Hd):DV:=.agg [I64 h.trig,.str h.name,F1 h.body,I64 h.pos]
abbrev T8 (l:List Hd):DV:=.lst (l.map Hd.v)
structure Md where
 name:List UInt8
 prio:Int
 hds:List Hd
 pos:Int
abbrev Md.v (m:Md):DV:=.agg [.str m.name,I64 m.prio,T8 m.hds,I64 m.pos]
abbrev G6 (l:List Md):DV:=.lst (l.map Md.v)
structure Ru where
 decls:List Dc
 modes:List Md
abbrev Ru.v (r:Ru):DV:=.agg [E8 r.decls,G6 r.modes]
theorem W1 (l:List Dc):∀ x∈l.map Dc.v,x.cells.length=4:=fun x hx=>by obtain ⟨y, -,rfl⟩:=A1M.1 hx;rfl
theorem V9 (l:List Hd):∀ x∈l.map Hd.v,x.cells.length=4:=fun x hx=>by obtain ⟨y, -,rfl⟩:=A1M.1 hx;rfl
theorem A0g (l:List Md):∀ x∈l.map Md.v,x.cells.length=4:=fun x hx=>by obtain ⟨y, -,rfl⟩:=A1M.1 hx;rfl
@[simp]theorem M8 (l:List Dc):DV.nlL (l.map Dc.v)=true:=Q4 (fun _=>rfl) l
@[simp]theorem A7j (l:List Hd):DV.nlL (l.map Hd.v)=true:=Q4 (fun h=>by simp [DV.nl,DV.nlL,O5]) l
@[simp]theorem M7 (l:List Md):DV.nlL (l.map Md.v)=true:=Q4 (fun h=>by simp [DV.nl,DV.nlL,A7j]) l
theorem Ru.nl (r:Ru):r.v.nl=true:=by simp [DV.nl,DV.nlL,M8,M7]
structure Rd where
 i:Nat
 e:Int
 pos:Int
 ops:Int
 par:Int
section
variable (L:List Tok) (E:Int)
abbrev csR (s:Rd):List DV:=[E4 L,I64 E,I64 s.i,I64 s.e,I64 s.pos,I64 s.ops,I64 s.par]
abbrev rdR (s:Rd):Blk:=⟨0,true,csR L E s⟩
def okR (s:Rd):Bool:=s.e == 0
def K5 (s:Rd) (p e:Int):Rd:=if okR s=true then { s with e:=e,pos:=p } else s
def A7 (s:Rd):Tok:=L.getD s.i ⟨0,[],0,E⟩
def isR (s:Rd) (t:List UInt8):Bool:=okR s && ((A7 L E s).kind == 5 || (A7 L E s).kind == 2) && (A7 L E s).text == t
def G7 (s:Rd) (k:Int):Bool:=okR s && (A7 L E s).kind == k
def O3 (s:Rd):Rd:=K5 s (A7 L E s).pos 4
def C7 (s:Rd) (n most e:Int):Rd:=if most<n then K5 s (A7 L E s).pos e else s
def A8 (s:Rd):Rd:={ s with i:=s.i+1 }
def D6 (s:Rd) (t:List UInt8):Rd:=if isR L E s t=false then O3 L E s else A8 s
def M6:Tok:=⟨0,[],0,0⟩
def A9 (s:Rd) (k:Int):Tok × Rd:=if G7 L E s k=false then (M6,O3 L E s) else (A7 L E s,A8 s)
def Y2 (s:Rd):Nat->List (List UInt8)->Int
 | _,[] => -1
 | k,t :: l=>if isR L E s t=true then (k:Int) else Y2 s (k+1) l
def B9 (s:Rd) (l:List (List UInt8)):Int:=Y2 L E s 0 l
end
def D1:List (List UInt8):=[[115,119,105,116,99,104],[99,111,105,108],[108,97,109,112],[115,111,117,110,100],[115,104,111,119],[118,97,114],[116,105,109,101,114],[101,118,101,110,116]]
def D3:List (List UInt8):=[[115,116,97,114,116],[115,116,111,112],[99,108,111,115,101],[111,112,101,110],[116,105,109,101,114],[101,118,101,110,116]]
def B7:List (List UInt8):=[[105,102],[114,101,112,101,97,116],[115,99,111,114,101],[102,105,114,101],[104,111,108,100],[114,101,108,101,97,115,101],[108,105,103,104,116],[98,108,105,110,107],[115,116,97,114,116],[115,116,111,112],[98,101,103,105,110],[101,110,100],[112,111,115,116],[112,108,97,121],[114,117,110],[104,97,108,116],[116,101,120,116],[99,111,110,115,117,109,101]]
def C3:List (List UInt8):=[[42],[47],[37],[43],[45],[60],[60,61],[62],[62,61],[61,61],[33,61],[38,38],[124,124]]
def B8 (k:Int):Int:=if k=24 then 1 else if k=23 then 2 else if 17<=k/\k<=22 then 3 else if k=15\/k=16 then 4 else if 12<=k/\k<=14 then 5 else if k=10\/k=11 then 6 else 7
section
variable (L:List Tok) (E:Int)
def I7:List Int:=[3,4,8,9,5,6,7]
def G0:List (List UInt8):=[[116,114,117,101],[102,97,108,115,101],[112,108,97,121,101,114],[98,97,108,108],[99,108,111,115,101,100],[97,99,116,105,118,101],[108,101,102,116]]
def N9:List (List UInt8):=[[45],[33],[40]]
def H9 (s:Rd):Ex × Rd :=
 let t:=A7 L E s
 let k:=B9 L E s G0
 if k<0/\G7 L E s 3=false/\G7 L E s 1=false then (Ex0,O3 L E s)
 else
  let s1:Rd:={ s with ops:=s.ops+1 }
  let s2:=C7 L E s1 s1.ops 32 9
  if okR s2=false then (Ex0,s2)
  else
   let s3:=A8 s2
   if 0<=k then
    if 4<=k then (.mk (I7.getD k.toNat 0) 0 (A9 L E s3 1).1.text [] t.pos,(A9 L E s3 1).2)
    else (.mk (I7.getD k.toNat 0) 0 [] [] t.pos,s3)
   else if t.kind=3 then (.mk 1 t.value [] [] t.pos,s3)
   else (.mk 2 0 t.text [] t.pos,s3)
mutual
def F5:Nat->Int->Rd->Option (Ex × Rd)
 | 0,_,_=>none
 | f+1,n,s=>if 5<n then K8 f s else
  match F5 f (n+1) s with
  | none=>none
  | some (e,s)=>K2 f n e s
def K2:Nat->Int->Ex->Rd->Option (Ex × Rd)
 | 0,_,_,_=>none
 | f+1,n,e,s =>
  let k:=B9 L E s C3
  if k<0\/B8 (12+k)≠n then some (e,s) else
  match F5 f (n+1) (A8 s) with
  | none=>none
  | some (x,s1) =>
   let y:=Ex.mk (12+k) 0 [] [e,x] (A7 L E s).pos
   if n=3 then some (y,s1) else K2 f n y s1
def K8:Nat->Rd->Option (Ex × Rd)
 | 0,_=>none
 | f+1,s =>
  let t:=A7 L E s
  let k:=B9 L E s N9
  if k<0 then some (H9 L E s) else
  let s1:=C7 L E s (s.par+1) 16 50
  if okR s1=false then some (Ex0,s1) else
  let s2:Rd:={ s1 with i:=s1.i+1,par:=s1.par+1 }
  if k=2 then
   match F5 f 1 s2 with
   | none=>none
   | some (e,s3)=>let s4:=D6 L E s3 [41];some (e, { s4 with par:=s4.par-1 })
  else
   match K8 f s2 with
   | none=>none
   | some (e,s3)=>some (.mk (10+k) 0 [] [e] t.pos, { s3 with par:=s3.par-1 })
end
def H4 (f:Nat) (s:Rd):Option (Ex × Rd):=F5 L E f 1 { s with ops:=0,par:=0 }
def N1 (f:Nat) (k p:Int) (s:Rd):Option (St × Rd) :=
 if k=4 then
  match H4 L E f s with
  | none=>none
  | some (e,s1)=>some (.mk k [] [] [e] [] [] p,D6 L E s1 [59])
 else if k=18 then
  match H4 L E f (D6 L E (A9 L E s 4).2 [44]) with
  | none=>none
  | some (e,s1)=>some (.mk k [] (A9 L E s 4).1.text [e] [] [] p,D6 L E s1 [59])
 else if k=19 then some (.mk k [] [] [] [] [] p,D6 L E s [59])
 else
  let n:=(A9 L E s 1).1.text
  let s0:=(A9 L E s 1).2
  if k=8\/k=9\/k=10 then
   match H4 L E f s0 with
   | none=>none
   | some (e,s1) =>
    if k=9 then
     match H4 L E f (D6 L E s1 [44]) with
     | none=>none
     | some (e2,s2)=>some (.mk k n [] [e,e2] [] [] p,D6 L E s2 [59])
    else some (.mk k n [] [e] [] [] p,D6 L E s1 [59])
  else some (.mk k n [] [] [] [] p,D6 L E s0 [59])
mutual
def G4:Nat->Int->Rd->Option (List St × Rd)
 | 0,_,_=>none
 | f+1,d,s=>K6 f d [] (D6 L E s [123])
def K6:Nat->Int->List St->Rd->Option (List St × Rd)
 | 0,_,_,_=>none
 | f+1,d,l,s =>
  if okR s=true/\isR L E s [125]=false then
   if B9 L E s B7<0/\G7 L E s 1=false then some ([],O3 L E s) else
   match J6 f d (C7 L E s ((l.length:Int)+1) 64 9) with
   | none=>none
   | some (x,s1)=>K6 f d (l++[x]) s1
  else some (l,D6 L E s [125])
def J6:Nat->Int->Rd->Option (St × Rd)
 | 0,_,_=>none
 | f+1,d,s0 =>
  let s:=C7 L E s0 d 8 50
  if okR s=false then some (St0,s) else
  let p:=(A7 L E s).pos
  let k:=B9 L E s B7
  if k<0 then
   match H4 L E f (D6 L E (A9 L E s 1).2 [61]) with
   | none=>none
   | some (e,s1)=>some (.mk 1 (A9 L E s 1).1.text [] [e] [] [] p,D6 L E s1 [59])
  else
   let s1:=A8 s
   if k=0\/k=1 then
    match H4 L E f s1 with
    | none=>none
    | some (e,s2) =>
     match G4 f (d+1) s2 with
     | none=>none
     | some (t,s3) =>
      if k=0/\isR L E s3 [101,108,115,101]=true then
       match N4 f d (A8 s3) with
       | none=>none
       | some (o,s4)=>some (.mk 2 [] [] [e] t o p,s4)
      else some (.mk (2+k) [] [] [e] t [] p,s3)
   else N1 L E f (2+k) p s1
def N4:Nat->Int->Rd->Option (List St × Rd)
 | 0,_,_=>none
 | f+1,d,s =>
  if isR L E s [105,102]=true then
   match J6 f (d+1) s with
   | none=>none
   | some (x,s1)=>some ([x],s1)
  else G4 f (d+1) s
end
def Q9 (k:Int) (s:Rd):Dc × Rd :=
 let p:=(A7 L E s).pos
 let s1:=A8 s
 let n:=(A9 L E s1 1).1.text
 let s2:=(A9 L E s1 1).2
 if k+1<=6 then
  let m:=k+1 == 6 && isR L E s2 [45]
  let s3:=if m=true then A8 s2 else s2
  let v:=(A9 L E s3 3).1.value
  (⟨1+k,n,if m=true then -v else v,p⟩,D6 L E (A9 L E s3 3).2 [59])
 else (⟨1+k,n,0,p⟩,D6 L E s2 [59])
def N6:Nat->List Hd->Rd->Option (List Hd × Rd)
 | 0,_,_=>none
 | f+1,l,s =>
  if okR s=true/\isR L E s [125]=false then
   if isR L E s [111,110]=false then some (l,O3 L E s) else
   let s1:=C7 L E s ((l.length:Int)+1) 32 9
   let p:=(A7 L E s1).pos
   let s2:=D6 L E s1 [111,110]
   let k:=B9 L E s2 D3
   if k<0 then some (l,O3 L E s2) else
   let s3:=A8 s2
   let n:=if 2<=k then (A9 L E s3 1).1.text else []
   let s4:=if 2<=k then (A9 L E s3 1).2 else s3
   match G4 L E f 1 s4 with
   | none=>none
   | some (b,s5)=>N6 f (l++[⟨1+k,n,b,p⟩]) s5
  else some (l,D6 L E s [125])
def A0s (f:Nat) (s:Rd):Option (Md × Rd) :=
 let p:=(A7 L E s).pos
 let s1:=D6 L E s [109,111,100,101]
 let n:=(A9 L E s1 1).1.text
 let s2:=(A9 L E s1 1).2
 let v:=(A9 L E s2 3).1.value
 match N6 L E f [] (D6 L E (A9 L E s2 3).2 [123]) with
 | none=>none
 | some (l,s3)=>some (⟨n,v,l,p⟩,s3)
def P3:Nat->List Dc->Rd->Option (List Dc × Rd)
 | 0,_,_=>none
 | f+1,l,s =>
  let k:=B9 L E s D1
  if k<0 then some (l,s) else
  let s1:=C7 L E s ((l.length:Int)+1) 128 9
  if okR s1=true then P3 f (l++[(Q9 L E k s1).1]) (Q9 L E k s1).2 else P3 f l s1
def N2:Nat->List Md->Rd->Option (List Md × Rd)
 | 0,_,_=>none
 | f+1,l,s =>
  if okR s=true/\s.i<L.length then
   if isR L E s [109,111,100,101]=false then some (l,O3 L E s) else
   let s1:=C7 L E s ((l.length:Int)+1) 16 9
   if okR s1=true then
    match A0s L E f s1 with
    | none=>none
    | some (m,s2)=>N2 f (l++[m]) s2
   else N2 f l s1
  else some (l,s)
def A2e (f:Nat) (s:Rd):Option (Ru × Rd) :=
 match P3 L E f [] s with
 | none=>none
 | some (d,s1) =>
  match N2 L E f [] s1 with
  | none=>none
  | some (m,s2)=>some (⟨d,m⟩,s2)
end
end Go.Pb
namespace Go.Sym
variable [Go.Sym.Tab]
open Go.Eng (KKey)
inductive Mz (id:Nat) (r:DV):DV->DV->Prop where
 | same (d:DV):Mz id r d d
 | mid:Mz id r (.mid id) r
 | agg (a a':List DV) (hl:a.length=a'.length) (h:∀ (i:Nat) x y,a[i]? = some x->a'[i]? = some y->Mz id r x y):Mz id r (.agg a) (.agg a')
 | tup (a a':List DV) (hl:a.length=a'.length) (h:∀ (i:Nat) x y,a[i]? = some x->a'[i]? = some y->Mz id r x y):Mz id r (.tup a) (.tup a')
theorem Mz.rel {ρ ρ':Ren} {id:Nat} {r:DV} (hl : ρ.le ρ') (hr:∀ v,VRel ρ (.mid id) v->VRel ρ' r v) {d d':DV} (h:Mz id r d d'):∀ v,VRel ρ d v->VRel ρ' d' v:=by
 induction h with
 | same d=>exact fun v hv=>hv.mono hl
 | mid=>exact hr
 | agg a a' hl' _ ih =>
  intro v hv;obtain ⟨b,rfl,h1,h2⟩:=hv.agg_inv;refine .agg _ _ (hl'▸h1) fun i x y hx hy=>?_;have hi:i<a.length:=by have:=(A0L.1 hx).1;omega
  exact ih i a[i] x (A0C hi) hx y (h2 i _ y (A0C hi) hy)
 | tup a a' hl' _ ih =>
  intro v hv;obtain ⟨b,rfl,h1,h2⟩:=hv.tup_inv;refine .tup _ _ (hl'▸h1) fun i x y hx hy=>?_;have hi:i<a.length:=by have:=(A0L.1 hx).1;omega
  exact ih i a[i] x (A0C hi) hx y (h2 i _ y (A0C hi) hy)
theorem GL.frzm {H H':Hp} {ds ds':List DV} {id u:Nat} {kd:KKey} {ks vs:List DV} (hb:H id=some ⟨u,true,[.mpc kd ks vs]⟩) (hH:∀ j,H' j=none\/(j≠id/\H' j=H j))
  (hl:ds.length=ds'.length) (hd:∀ (i:Nat) x y,ds[i]? = some x->ds'[i]? = some y->Mz id (.mp kd ks vs) x y):GL H ds H' ds':=by
 refine ⟨fun j hj=>?_,fun ρ w a2 hR hA=>?_⟩
 ·rcases hH j with h0|⟨-,h0⟩
  ·exact absurd h0 hj
  ·rw [<- h0];exact hj
 have back:∀ j bj,H' j=some bj->j≠id/\H j=some bj:=by
  intro j bj hj;rcases hH j with h0|⟨hne,h0⟩
  ·rw [h0] at hj;cases hj
  ·exact ⟨hne,by rw [<- h0];exact hj⟩
 obtain ⟨t,ht,hB⟩:=hR.blk id _ hb;rcases hB with ⟨hm,c,e,fr, -, -, -, -,g5, -⟩|⟨hm, -,hs,es,cl,kd',ks',vs',g1,g2,g3,g6⟩
 ·have:=(g5 0 _ rfl).1;simp [DV.one] at this
 cases g2;have hnone : ρ.fm t.block=none:=by
  cases hf : ρ.fm t.block with
  | none=>rfl
  | some es'=>exact absurd rfl ((hR.frm _ _ hf).2 id _ t hb rfl ht)
 obtain ⟨ρ2,hρ⟩:∃ ρ2:Ren, ρ2=⟨ρ.nm, ρ.fz, ρ.tab,fun k=>if k=t.block then some es else ρ.fm k⟩:=⟨_,rfl⟩;have n1 : ρ2.nm = ρ.nm:=by rw [hρ]
 have n2 : ρ2.fz = ρ.fz:=by rw [hρ]
 have n3:∀ k r, ρ2.fm k=some r->(k=t.block/\r=es) \/ ρ.fm k=some r:=by
  intro k r hk;rw [hρ] at hk;simp only at hk;split at hk
  ·rename_i h;cases hk;exact .inl ⟨h,rfl⟩
  ·exact .inr hk
 have n4 : ρ2.fm t.block=some es:=by rw [hρ];simp
 have hle : ρ.le ρ2:=⟨fun i x h=>by rw [n1];exact h,fun b r h=>by rw [n2];exact h,fun b r h=>by
  rw [hρ];simp only;rw [if_neg (fun e=>by rw [e,hnone] at h;cases h)];exact h⟩
 have hval:∀ v,VRel ρ (.mid id) v->VRel ρ2 (.mp kd ks vs) v:=by
  intro v hv;obtain ⟨t',ht', -,rfl⟩:=hv.mid_inv;rw [ht] at ht';cases ht';obtain ⟨a1,a2,a3,a4,a5⟩:=g3;exact .mp kd ks vs t.block es n4 a1 a2 a3 (fun i x e hx he=>(a4 i x e hx he).mono hle) (fun i x e hx he=>(a5 i x e hx he).mono hle)
 refine ⟨ρ2,n1,⟨fun j bj hj=>?_,fun i j bi bj ti tj hi hj hij h1 h2 ho=>?_,fun k r hk=>?_,fun j bj tj hj ho hjt=>?_,fun k r hk=>?_⟩,⟨hl▸hA.1,fun i x y hx hy=>?_⟩,?_⟩
 ·rw [n1];obtain ⟨-,h1⟩:=back j bj hj;obtain ⟨tj,q1,q2⟩:=hR.blk j bj h1;exact ⟨tj,q1,q2.mono hle⟩
 ·rw [n1] at h1 h2;exact hR.sep i j bi bj ti tj (back i bi hi).2 (back j bj hj).2 hij h1 h2 ho
 ·rw [n2] at hk;exact hR.frz k r hk
 ·rw [n1] at hjt;rw [n2];exact hR.dis j bj tj (back j bj hj).2 ho hjt
 ·rcases n3 k r hk with ⟨rfl,rfl⟩|h1
  ·refine ⟨⟨cl,g1,g6⟩,fun j bj tj hj ho hjt=>?_⟩;rw [n1] at hjt;obtain ⟨hne,h2⟩:=back j bj hj;exact hR.sep j id bj _ tj t h2 hb hne hjt ht ho
  ·refine ⟨(hR.frm k r h1).1,fun j bj tj hj ho hjt=>?_⟩;rw [n1] at hjt;exact (hR.frm k r h1).2 j bj tj (back j bj hj).2 ho hjt
 ·have hi:i<ds.length:=by have:=(A0L.1 hx).1;omega
  exact (hd i ds[i] x (A0C hi) hx).rel hle hval y (hA.2 i _ y (A0C hi) hy)
 ·refine ⟨hle,rfl,rfl,rfl,A0E _,fun _ _ _=>rfl,fun j bj tj hj hjt=>?_,fun k r hk=>.inl (by rw [<- n2];exact hk),fun k r hk=>?_⟩
  ·rw [n1] at hjt;exact .inr ⟨j,bj,tj,(back j bj hj).2,fun h=>h,hjt,rfl⟩
  ·rcases n3 k r hk with ⟨rfl,rfl⟩|h1
   ·exact .inr (.inr ⟨id,_,t,hb,rfl,ht,rfl⟩)
   ·exact .inl h1
theorem B1m {H:Hp} {id u:Nat} {kd:KKey} {ks vs:List DV} (hb:H id=some ⟨u,true,[.mpc kd ks vs]⟩):∃ H2,GL H [.mid id] H2 [.mp kd ks vs] :=
 ⟨nil,GL.frzm hb (fun j=>.inl rfl) rfl (fun i x y hx hy=>by
  match i with
  | 0=>cases hx;cases hy;exact .mid
  | _+1=>cases hx)⟩
theorem A1c {a b:List UInt8}:A8k (.str a) (.str b)=(a == b):=id rfl
theorem A5y {s:List UInt8}:∀ (l:List (List UInt8)) (i:Nat),(O1 (.str s) (l.map DV.str) i).isSome=l.contains s
 | [],i=>rfl
 | x :: r,i=>by
  simp only [A0O,O1,A1c,A2T];cases h:s == x with
  | true=>simp
  | false=>simp [A5y r (i+1)]
theorem A8f {s:List UInt8} {l:List (List UInt8)} (h:l.contains s=false) (i:Nat):O1 (.str s) (l.map DV.str) i=none:=by
 have:=A5y (s:=s) l i;rw [h] at this;cases hm:O1 (.str s) (l.map DV.str) i with
 | none=>rfl
 | some j=>rw [hm] at this;cases this
theorem B5y {s:List UInt8} {l:List (List UInt8)} (h:l.contains s=true) (i:Nat):∃ j,O1 (.str s) (l.map DV.str) i=some j:=by
 have:=A5y (s:=s) l i;rw [h] at this;cases hm:O1 (.str s) (l.map DV.str) i with
 | none=>rw [hm] at this;cases this
 | some j=>exact ⟨j,rfl⟩
theorem B3p {k:DV}:∀ {ks:List DV} {i j:Nat},O1 k ks i=some j->i<=j/\j<i+ks.length
 | [],i,j,h=>by cases h
 | x :: r,i,j,h=>by
  simp only [O1] at h;split at h
  ·cases h;simp
  ·have:=B3p h;simp only [A0U];omega
end Go.Sym
namespace Go.Sym
variable [Go.Sym.Tab]
open Go.Eng (I8)
open Go.RowKit
variable {P:Program}
theorem PC.of_callsF {f:Nat} {args:List DV} {r:DV} (hc:I8 P f=true) (na:DV.nlL args=true) (nr:r.nl=true)
  (h:∀ (ρ : Ren) (w:World) (vs:Array Value),(∀ b r, ρ.fz b=some r->∃ e fr,w.heap[b]? = some (.cells r e fr))->G3 ρ args vs ->
   Calls P f vs w fun e w' => ∃ v' b row ty fr,e=.returned v'/\w.heap.size<=b/\w'.heap[b]? = some (.cells row ty fr)/\(∀ ρ':Ren, ρ'.fz b=some row->VRel ρ' r v')/\Below w.heap.size w w'):PC P f args r:=by
 refine ⟨na,nr,hc,fun ρ w vs hR hf hA=>?_⟩;refine (h ρ w vs hR.frz hA).mono ?_;rintro e w' ⟨v',b,row,ty,fr,rfl,hb,hrow,hv,b1,b2,b3,b4,b5⟩;have hnone : ρ.fz b=none:=by
  cases hz : ρ.fz b with
  | none=>rfl
  | some r=>have:=hR.flt hz;omega
 have hfz:(ρ.frz b row hnone).fz b=some row:=by simp [Ren.frz]
 refine ⟨r,v',nil,0, ρ.frz b row hnone,rfl,rfl,hv _ hfz,⟨fun id b h=>(by cases h),fun i j bi bj ti tj h=>(by cases h),fun k r' hk=>?_,fun id b t h=>(by cases h),fun k r' hk=>⟨?_,fun id b t h=>(by cases h)⟩⟩,hf,A0E _,fun id hid h=>absurd rfl h,fun _ _=>rfl,
  ⟨Ren.le_frz hnone,b1,b2,b3,b4,fun k hk _=>b5 k hk,fun id b t h1=>(by cases h1),fun k r' hk=>?_,fun k r h=>.inl h⟩⟩
 ·simp only [Ren.frz] at hk;split at hk
  ·rename_i hkb;cases hk;rw [hkb];exact ⟨ty,fr,hrow⟩
  ·obtain ⟨e,fr,h1⟩:=hR.frz k r' hk;exact ⟨e,fr,by rw [b5 k (hR.flt hk)];exact h1⟩
 ·obtain ⟨⟨cl,h1,hst⟩, -⟩:=hR.frm k r' hk;exact ⟨cl,by rw [b5 k (A0Q.1 h1).1];exact h1,hst⟩
 ·simp only [Ren.frz] at hk;split at hk
  ·rename_i hkb;subst hkb;exact .inr (.inl hb)
  ·exact .inl hk
theorem VRel.strs {ρ : Ren} {l:List (List UInt8)} {b n c:Nat} (h : ρ.fz b=some ((l.map fun s=>Value.string ⟨s.toArray⟩).toArray)) (hn:n=l.length) (hc:n<=c) (hm:c<=maxLen) :
  VRel ρ (.lst (l.map DV.str)) (.slice (some ⟨b,0,none⟩) n c):=by
 have hcl:A4 (l.map DV.str)=l.map DV.str:=by
  clear h hn
  induction l with
  | nil=>rfl
  | cons x r ih =>
   have:A4 ((x :: r).map DV.str)=[DV.str x]++A4 (r.map DV.str):=rfl;rw [this,ih];rfl
 refine .lst _ n 1 b 0 c _ h (by simpa using hn) hc hm (fun x hx=>by obtain ⟨y, -,rfl⟩:=A1M.1 hx;rfl) ?_ ?_ ?_
 ·rw [hcl];simp
 ·rw [hcl];intro d hd;obtain ⟨y, -,rfl⟩:=A1M.1 hd;rfl
 ·rw [hcl];intro k d v hd hv;rw [A1A] at hd;obtain ⟨s,hs,rfl⟩:=A0R.1 hd;simp only [A1L,A1O,A1A,hs,A3R,Option.some.injEq] at hv;subst hv;exact .mkStr
end Go.Sym
namespace Go.Proofs.YthlpinppaclofaaGreatDoor
open Go.Eng (IC IOper DReg IFn C2)
open Go.Sym Go.Pb
theorem D0m {H:Hp} {cc j:Nat} {b:Blk} (hfr:∀ i,cc<=i->H i=none) (h:H j=some b):j≠cc:=by
 rintro rfl;rw [hfr _ (A0E _)] at h;cases h
theorem A0u {H:Hp} {cc:Nat} {b:Blk} {ds:List DV} (hfr:∀ i,cc<=i->H i=none):GL (H.upd cc b) ds H ds:=GL.less' fun j b hj=>by rw [A3 (D0m hfr hj)];exact hj
theorem I5 {K H':Hp} {cc:Nat} {ds:List DV} (hK:∀ i,cc<=i->K i=none) (h:∀ j,j<cc->H' j=K j):GL H' ds K ds:=GL.less fun j=>by
 by_cases hj:j<cc
 ·exact .inr (h j hj).symm
 ·exact .inl (hK j (by omega))
theorem C0 {H:Hp} {cc t:Nat} {b:Blk} (hfr:∀ i,cc<=i->H i=none) (htc:t<cc):∀ i,cc<=i->H.upd t b i=none:=fun i hi=>by rw [A3 (by omega)];exact hfr i hi
theorem rv4 {s:Sym.St} {x i u:Nat} {a b c d:DV} {o:Bool} (h:s.T x=.ptr i 0) (hb:s.H i=some ⟨u,o,[a,b,c,d]⟩):A2f s [.cell x 4 true]=some (.agg [a,b,c,d]):=by
 simp only [A2f,A4d,h,ldv,ldB,hb];rfl
theorem c_rdok (L:List Tok) (E:Int) (s:Rd) (H:Hp) (cc t:Nat) (ht:H t=some (rdR L E s)) (htc:t<cc):AC Tryz.prog 48 [.ptr t 0] H cc (fun v H' c'=>v=.bool (okR s)/\H'=H):=by
 refine AC.bodyT B1 rfl (A0B rfl) fun hfr=>?_;repeat' ((with_reducible first|refine wr ?_|refine A2 ?_ ?_|fail)<;>try simp only [go_sem,seval,ht])
 exact ⟨_,_,GL.refl _ _,rfl,rfl⟩
theorem c_peek (L:List Tok) (E:Int) (s:Rd) (H:Hp) (cc t:Nat) (ht:H t=some (rdR L E s)) (htc:t<cc):AC Tryz.prog 106 [.ptr t 0] H cc (fun v H' c'=>v=(A7 L E s).v/\H'=H):=by
 refine AC.bodyT B1 rfl (A0B rfl) fun hfr=>?_;have ne0:=A2i t cc (by omega);by_cases hlt:s.i<L.length
 ·have hd:decide ((s.i:Int)<L.length)=true:=by simpa using hlt
  have hg:=A0C hlt;have e:A7 L E s=L[s.i]:=by unfold A7;rw [A0T,hg];rfl
  rw [e];generalize L[s.i]=a at hg;repeat' ((with_reducible first|refine wr ?_|refine A2 ?_ ?_|fail)<;>try simp only [go_sem,seval,ht,hd,hg,ne0,A0,A1])
  rw [D9 (v:=a.v) (rv4 rfl A0)];exact ⟨_,_,A0u hfr,rfl,rfl⟩
 ·have hd:decide ((s.i:Int)<L.length)=false:=by simpa using hlt
  have e:A7 L E s=⟨0,[],0,E⟩:=by unfold A7;rw [A0T,A1R (by omega)];rfl
  rw [e];repeat' ((with_reducible first|refine wr ?_|refine A2 ?_ ?_|fail)<;>try simp only [go_sem,seval,ht,hd,ne0,A0,A1])
  rw [D9 (v:=Tok.v ⟨0,[],0,E⟩) (rv4 rfl A0)];exact ⟨_,_,A0u hfr,rfl,rfl⟩
theorem c_fail (L:List Tok) (E:Int) (s:Rd) (H:Hp) (cc t:Nat) (ht:H t=some (rdR L E s)) (htc:t<cc) (p e:Int):AC Tryz.prog 105 [.ptr t 0,I64 p,I64 e] H cc (fun v H' c'=>v=.tup []/\H'=H.upd t (rdR L E (K5 s p e))):=by
 refine AC.bodyT B1 rfl (A0B rfl) fun hfr=>?_;cases h:okR s with
 | true =>
  have e0:K5 s p e = { s with e:=e,pos:=p }:=by rw [K5,if_pos h]
  have h':(s.e == 0)=true:=h;rw [e0];repeat' ((with_reducible first|refine wr ?_|refine A2 ?_ ?_|fail)<;>try simp only [go_sem,seval,ht,h',h,A0,A1])
  exact ⟨_,_,GL.refl _ _,rfl,rfl⟩
 | false =>
  have e0:K5 s p e=s:=by rw [K5,if_neg (by simp [h])]
  have h':(s.e == 0)=false:=h;rw [e0];repeat' ((with_reducible first|refine wr ?_|refine A2 ?_ ?_|fail)<;>try simp only [go_sem,seval,ht,h',h,A0,A1])
  refine ⟨_,_,GL.refl _ _,rfl,?_⟩
  funext j
  by_cases ej:j=t
  ·subst ej;rw [A0,ht]
  ·rw [A3 ej]
theorem upd_same {H:Hp} {t:Nat} {b:Blk} (h:H t=some b):H.upd t b=H:=by
 funext j
 by_cases ej:j=t
 ·subst ej;rw [A0,h]
 ·rw [A3 ej]
theorem c_is (L:List Tok) (E:Int) (s:Rd) (H:Hp) (cc t:Nat) (ht:H t=some (rdR L E s)) (htc:t<cc) (x:List UInt8):AC Tryz.prog 88 [.ptr t 0,.str x] H cc (fun v H' c'=>v=.bool (isR L E s x)/\H'=H):=by
 refine AC.bodyT B1 rfl (A0B rfl) fun hfr=>?_;repeat' ((with_reducible first|refine wr ?_|refine A2 ?_ ?_|fail)<;>try simp only [go_sem,seval])
 refine AC.call (c_peek L E s _ _ t ht (by omega)) ?_;rintro v H' c1 ⟨rfl,rfl⟩ hc;have ne0:=A2i t c1 (by omega);simp only [go_sem,seval,ne0,A0,A1];repeat' ((with_reducible first|refine wr ?_|refine A2 ?_ ?_|fail)<;>try simp only [go_sem,seval,ne0,A0,A1])
 refine AC.call (c_rdok L E s _ _ t (by rw [A3 (by omega)];exact ht) (by omega)) ?_;rintro v H' c2 ⟨rfl,rfl⟩ hc2;simp only [go_sem,seval,ne0,A0,A1];repeat' ((with_reducible first|refine wr ?_|refine A2 ?_ ?_|refine wb2 ?_ ?_<;>(intro hb;try simp only [hb])|fail)<;>try simp only [go_sem,seval,ne0,A0,A1])
 all_goals exact ⟨_,_,A0u (fun i hi=>hfr i (by omega)),by simp_all [isR],rfl⟩
theorem c_isKind (L:List Tok) (E:Int) (s:Rd) (H:Hp) (cc t:Nat) (ht:H t=some (rdR L E s)) (htc:t<cc) (k:Int):AC Tryz.prog 174 [.ptr t 0,I64 k] H cc (fun v H' c'=>v=.bool (G7 L E s k)/\H'=H):=by
 refine AC.bodyT B1 rfl (A0B rfl) fun hfr=>?_;repeat' ((with_reducible first|refine wr ?_|refine A2 ?_ ?_|fail)<;>try simp only [go_sem,seval])
 refine AC.call (c_rdok L E s _ _ t ht (by omega)) ?_;rintro v H' c1 ⟨rfl,rfl⟩ hc;by_cases h:okR s=true
 ·simp only [go_sem,seval,h];repeat' ((with_reducible first|refine wr ?_|refine A2 ?_ ?_|fail)<;>try simp only [go_sem,seval,h])
  refine AC.call (c_peek L E s _ _ t ht (by omega)) ?_;rintro v H' c2 ⟨rfl,rfl⟩ hc2;simp only [go_sem,seval,h];repeat' ((with_reducible first|refine wr ?_|refine A2 ?_ ?_|fail)<;>try simp only [go_sem,seval,h])
  exact ⟨_,_,GL.refl _ _,by rw [G7,h];rfl,rfl⟩
 ·have h:okR s=false:=by simpa using h
  simp only [go_sem,seval,h];repeat' ((with_reducible first|refine wr ?_|refine A2 ?_ ?_|fail)<;>try simp only [go_sem,seval,h])
  exact ⟨_,_,GL.refl _ _,by rw [G7,h];rfl,rfl⟩
theorem c_syntax (L:List Tok) (E:Int) (s:Rd) (H:Hp) (cc t:Nat) (ht:H t=some (rdR L E s)) (htc:t<cc):AC Tryz.prog 63 [.ptr t 0] H cc (fun v H' c'=>v=.tup []/\H'=H.upd t (rdR L E (O3 L E s))):=by
 refine AC.bodyT B1 rfl (A0B rfl) fun hfr=>?_;repeat' ((with_reducible first|refine wr ?_|refine A2 ?_ ?_|fail)<;>try simp only [go_sem,seval])
 refine AC.call (c_peek L E s _ _ t ht (by omega)) ?_;rintro v H' c1 ⟨rfl,rfl⟩ hc;simp only [go_sem,seval];repeat' ((with_reducible first|refine wr ?_|refine A2 ?_ ?_|fail)<;>try simp only [go_sem,seval])
 refine AC.call (c_fail L E s _ _ t ht (by omega) _ _) ?_;rintro v H' c2 ⟨rfl,rfl⟩ hc2;simp only [go_sem,seval];repeat' ((with_reducible first|refine wr ?_|refine A2 ?_ ?_|fail)<;>try simp only [go_sem,seval])
 exact ⟨_,_,GL.refl _ _,rfl,rfl⟩
theorem c_limit (L:List Tok) (E:Int) (s:Rd) (H:Hp) (cc t:Nat) (ht:H t=some (rdR L E s)) (htc:t<cc) (n m e:Int):AC Tryz.prog 86 [.ptr t 0,I64 n,I64 m,I64 e] H cc (fun v H' c'=>v=.tup []/\H'=H.upd t (rdR L E (C7 L E s n m e))):=by
 refine AC.bodyT B1 rfl (A0B rfl) fun hfr=>?_;by_cases h:m<n
 ·have hd:decide (n>m)=true:=by simpa using h
  have e0:C7 L E s n m e=K5 s (A7 L E s).pos e:=by rw [C7,if_pos h]
  rw [e0];repeat' ((with_reducible first|refine wr ?_|refine A2 ?_ ?_|fail)<;>try simp only [go_sem,seval,hd])
  refine AC.call (c_peek L E s _ _ t ht (by omega)) ?_;rintro v H' c1 ⟨rfl,rfl⟩ hc;simp only [go_sem,seval];repeat' ((with_reducible first|refine wr ?_|refine A2 ?_ ?_|fail)<;>try simp only [go_sem,seval])
  refine AC.call (c_fail L E s _ _ t ht (by omega) _ _) ?_;rintro v H' c2 ⟨rfl,rfl⟩ hc2;simp only [go_sem,seval];repeat' ((with_reducible first|refine wr ?_|refine A2 ?_ ?_|fail)<;>try simp only [go_sem,seval])
  exact ⟨_,_,GL.refl _ _,rfl,rfl⟩
 ·have hd:decide (n>m)=false:=by simpa using h
  have e0:C7 L E s n m e=s:=by rw [C7,if_neg h]
  rw [e0];repeat' ((with_reducible first|refine wr ?_|refine A2 ?_ ?_|fail)<;>try simp only [go_sem,seval,hd])
  exact ⟨_,_,GL.refl _ _,rfl,(upd_same ht).symm⟩
theorem c_expect (L:List Tok) (E:Int) (s:Rd) (H:Hp) (cc t:Nat) (ht:H t=some (rdR L E s)) (htc:t<cc) (hi:s.i<=10000000000) (x:List UInt8):AC Tryz.prog 140 [.ptr t 0,.str x] H cc (fun v H' c'=>v=.tup []/\H'=H.upd t (rdR L E (D6 L E s x))):=by
 refine AC.bodyT B1 rfl (A0B rfl) fun hfr=>?_;repeat' ((with_reducible first|refine wr ?_|refine A2 ?_ ?_|fail)<;>try simp only [go_sem,seval])
 refine AC.call (c_is L E s _ _ t ht (by omega) x) ?_;rintro v H' c1 ⟨rfl,rfl⟩ hc;cases h:isR L E s x with
 | false =>
  have e0:D6 L E s x=O3 L E s:=by rw [D6,if_pos h]
  rw [e0];simp only [go_sem,seval,h];repeat' ((with_reducible first|refine wr ?_|refine A2 ?_ ?_|fail)<;>try simp only [go_sem,seval,h])
  refine AC.call (c_syntax L E s _ _ t ht (by omega)) ?_;rintro v H' c2 ⟨rfl,rfl⟩ hc2;simp only [go_sem,seval];repeat' ((with_reducible first|refine wr ?_|refine A2 ?_ ?_|fail)<;>try simp only [go_sem,seval])
  exact ⟨_,_,GL.refl _ _,rfl,rfl⟩
 | true =>
  have hw:IntKind.i64.wrap ((s.i:Int)+1)=((s.i+1:Nat):Int):=by rw [w64 (by omega) (by omega)];omega
  have e0:D6 L E s x=A8 s:=by rw [D6,if_neg (by simp [h])]
  rw [e0];simp only [go_sem,seval,h];repeat' ((with_reducible first|refine wr ?_|refine A2 ?_ ?_|fail)<;>try simp only [go_sem,seval,h,ht,hw,A0,A1])
  exact ⟨_,_,GL.refl _ _,rfl,rfl⟩
theorem c_take (L:List Tok) (E:Int) (s:Rd) (H:Hp) (cc t:Nat) (ht:H t=some (rdR L E s)) (htc:t<cc) (hi:s.i<=10000000000) (k:Int):AC Tryz.prog 139 [.ptr t 0,I64 k] H cc (fun v H' c'=>v=(A9 L E s k).1.v/\H'=H.upd t (rdR L E (A9 L E s k).2)):=by
 refine AC.bodyT B1 rfl (A0B rfl) fun hfr=>?_;repeat' ((with_reducible first|refine wr ?_|refine A2 ?_ ?_|fail)<;>try simp only [go_sem,seval])
 refine AC.call (c_peek L E s _ _ t (by rw [A3 (by omega)];exact ht) (by omega)) ?_;rintro v H' c1 ⟨rfl,rfl⟩ hc;have ne0:=O0 t cc c1 (by omega);simp only [go_sem,seval,ne0,A0];repeat' ((with_reducible first|refine wr ?_|refine A2 ?_ ?_|fail)<;>try simp only [go_sem,seval,ne0,A0])
 refine AC.call (c_isKind L E s _ _ t (by rw [A3 (by omega),A3 (by omega),A3 (by omega)];exact ht) (by omega) k) ?_;rintro v H' c2 ⟨rfl,rfl⟩ hc2;cases h:G7 L E s k with
 | false =>
  have e0:A9 L E s k=(M6,O3 L E s):=by rw [A9,if_pos h]
  rw [e0];simp only [go_sem,seval,ne0,h,A0,A1];repeat' ((with_reducible first|refine wr ?_|refine A2 ?_ ?_|fail)<;>try simp only [go_sem,seval,ne0,h,A0,A1])
  refine AC.call (c_syntax L E s _ _ t (by rw [A3 (by omega),A3 (by omega)];exact ht) (by omega)) ?_;rintro v H' c3 ⟨rfl,rfl⟩ hc3;simp only [go_sem,seval,ne0,A0,A1];repeat' ((with_reducible first|refine wr ?_|refine A2 ?_ ?_|fail)<;>try simp only [go_sem,seval,ne0,A0,A1])
  rw [D9 (v:=M6.v) (rv4 rfl A0)];exact ⟨_,_,I5 (C0 hfr htc) (fun j hj=>by simp [Hp.upd,show ¬j=cc by omega,show ¬j=c1 by omega]),rfl,rfl⟩
 | true =>
  have hw:IntKind.i64.wrap ((s.i:Int)+1)=((s.i+1:Nat):Int):=by rw [w64 (by omega) (by omega)];omega
  have e0:A9 L E s k=(A7 L E s,A8 s):=by rw [A9,if_neg (by simp [h])]
  rw [e0];simp only [go_sem,seval,ne0,h,A0,A1];repeat' ((with_reducible first|refine wr ?_|refine A2 ?_ ?_|fail)<;>try simp only [go_sem,seval,ne0,ht,hw,h,A0,A1])
  rw [D9 (v:=(A7 L E s).v) (rv4 rfl A0)];exact ⟨_,_,I5 (C0 hfr htc) (fun j hj=>by simp [Hp.upd,show ¬j=cc by omega,show ¬j=c1 by omega];rfl),rfl,rfl⟩
theorem c_name (L:List Tok) (E:Int) (s:Rd) (H:Hp) (cc t:Nat) (ht:H t=some (rdR L E s)) (htc:t<cc) (hi:s.i<=10000000000):AC Tryz.prog 138 [.ptr t 0] H cc (fun v H' c'=>v=.str (A9 L E s 1).1.text/\H'=H.upd t (rdR L E (A9 L E s 1).2)):=by
 refine AC.bodyT B1 rfl (A0B rfl) fun hfr=>?_;repeat' ((with_reducible first|refine wr ?_|refine A2 ?_ ?_|fail)<;>try simp only [go_sem,seval])
 refine AC.call (c_take L E s _ _ t ht (by omega) hi 1) ?_;rintro v H' c1 ⟨rfl,rfl⟩ hc;simp only [go_sem,seval];repeat' ((with_reducible first|refine wr ?_|refine A2 ?_ ?_|fail)<;>try simp only [go_sem,seval])
 exact ⟨_,_,GL.refl _ _,rfl,rfl⟩
abbrev U9 (l:List (List UInt8)):DV:=.lst (l.map DV.str)
theorem c_among (L:List Tok) (E:Int) (s:Rd) (H:Hp) (cc t:Nat) (ht:H t=some (rdR L E s)) (htc:t<cc) (l:List (List UInt8)) (hl:l.length<=1000000):AC Tryz.prog 84 [.ptr t 0,U9 l] H cc (fun v H' c'=>v=I64 (B9 L E s l)/\H'=H):=by
 refine AC.bodyT B1 rfl (A0B rfl) fun hfr=>?_;repeat' ((with_reducible first|refine wr ?_|refine A2 ?_ ?_|fail)<;>try simp only [go_sem,seval])
 refine D8 (fun k:Nat=>[(0,.ptr t 0),(1,U9 l),(5,I64 k)]) (fun _=>H) (fun k c=>cc<=c/\k<=l.length/\B9 L E s l=Y2 L E s k (l.drop k)) (fun k=>l.length-k) 0 (by simp [C9,tm,Tm.upd]) (Sub.refl _) ⟨by omega,by simp,rfl⟩ ?_;rintro k c ⟨hc,hk,hv⟩;by_cases hlt:k<l.length
 ·have hd:decide ((k:Int)<l.length)=true:=by simpa using hlt
  have hg:=A0C hlt;have hw:IntKind.i64.wrap ((k:Int)+1)=((k+1:Nat):Int):=by rw [w64 (by omega) (by omega)];omega
  rw [A0Z hlt,Y2] at hv;generalize l[k]=a at hg hv;repeat' ((with_reducible first|refine wr ?_|refine A2 ?_ ?_|fail)<;>try simp only [go_sem,seval,hd,hg])
  refine AC.call (c_is L E s _ _ t ht (by omega) a) ?_;rintro v H' c1 ⟨rfl,rfl⟩ hc1;cases h:isR L E s a with
  | true =>
   rw [if_pos h] at hv;rw [hv];simp only [go_sem,seval,h];repeat' ((with_reducible first|refine wr ?_|refine A2 ?_ ?_|fail)<;>try simp only [go_sem,seval,h])
   exact ⟨_,_,GL.refl _ _,rfl,rfl⟩
  | false =>
   rw [if_neg (by simp [h])] at hv;simp only [go_sem,seval,h,hw];repeat' ((with_reducible first|refine wr ?_|refine A2 ?_ ?_|fail)<;>try simp only [go_sem,seval,h,hw])
   exact ⟨k+1,rfl,Sub.refl _,inv ⟨by omega,hlt,hv⟩,by omega⟩
 ·have hd:decide ((k:Int)<l.length)=false:=by simpa using hlt
  have hk:k=l.length:=by omega
  rw [hk,List.drop_length,Y2] at hv;rw [hv];repeat' ((with_reducible first|refine wr ?_|refine A2 ?_ ?_|fail)<;>try simp only [go_sem,seval,hd])
  exact ⟨_,_,GL.refl _ _,rfl,rfl⟩
theorem A8x (l:List (List UInt8)):A4 (l.map DV.str)=l.map DV.str:=A2w (fun _=>rfl) l
theorem c_amongO (L:List Tok) (E:Int) (s:Rd) (K:Hp) (cc t b:Nat) (hK:K b=none) (ht:K t=some (rdR L E s)) (htc:t<cc) (l:List (List UInt8)) (hl:l.length<=1000000) :
  AC Tryz.prog 84 [.ptr t 0,.slc b 0 l.length] (K.upd b ⟨1,true,l.map DV.str⟩) cc (fun v H' c'=>v=I64 (B9 L E s l)/\H'=K) :=
 AC.ghost (GL.frzS (id:=b) A0 rfl (fun j=>by
  by_cases e:j=b
  ·subst e;exact .inl hK
  ·exact .inr ⟨e,(A3 e).symm⟩) (.cons _ _ _ _ (.same _) (.cons _ _ _ _ (N7 (u:=1) (by simp) (J1 _) ⟨[],by rw [A1J,A8x]⟩) .nil))) (c_among L E s K cc t ht htc l hl)
theorem D2p {ρ : Ren} {v:Value} {a b c e:DV} (h:VRel ρ (.agg [a,b,c,.snil,e]) v):VRel ρ (.agg [a,b,c,.lst [],e]) v:=by
 obtain ⟨bb,rfl,k1,k2⟩:=h.agg_inv;refine .agg _ _ k1 fun j x y hx hy=>?_
 match j with
 | 0=>cases hx;exact k2 0 _ y rfl hy
 | 1=>cases hx;exact k2 1 _ y rfl hy
 | 2=>cases hx;exact k2 2 _ y rfl hy
 | 3=>cases hx;exact (k2 3 _ y rfl hy).snil_lst
 | 4=>cases hx;exact k2 4 _ y rfl hy
 | _+5=>cases hx
theorem A2a {K H':Hp} {cc:Nat} {a b c e:DV} (hK:∀ i,cc<=i->K i=none) (h:∀ j,j<cc->H' j=K j):GL H' [.agg [a,b,c,.snil,e]] K [.agg [a,b,c,.lst [],e]] :=
 (I5 hK h).trans (GL.view fun ρ vs hA=>N8 (fun v h=>D2p h) vs hA)
theorem rv5 {s:Sym.St} {x i u:Nat} {a b c d e:DV} {o:Bool} (h:s.T x=.ptr i 0) (hb:s.H i=some ⟨u,o,[a,b,c,d,e]⟩):A2f s [.cell x 5 true]=some (.agg [a,b,c,d,e]):=by
 simp only [A2f,A4d,h,ldv,hb];rfl
theorem A1z (L:List Tok) (E:Int) (s:Rd):∀ (l:List (List UInt8)) (k:Nat), -1<=Y2 L E s k l/\Y2 L E s k l<((k+l.length:Nat):Int)
 | [],k=>by simp [Y2];omega
 | x :: l,k=>by
  have:=A1z L E s l (k+1);unfold Y2;split
  ·simp only [A0U];omega
  ·simp only [A0U];omega
theorem D4c {L:List Tok} {E:Int} {s:Rd} {n m e:Int}:(C7 L E s n m e).i=s.i:=by unfold C7 K5;split<;>(try split)<;>rfl
abbrev tkB (a:Tok):Blk:=⟨0,true,[I64 a.kind,.str a.text,I64 a.value,I64 a.pos]⟩
abbrev A4k:Blk:=⟨0,true,[I64 0,I64 0,.str [],.snil,I64 0]⟩
theorem c_primary (L:List Tok) (E:Int) (s:Rd) (H:Hp) (cc t:Nat) (ht:H t=some (rdR L E s)) (htc:t<cc) (hi:s.i<=9999999999) (ho:0<=s.ops/\s.ops<=100):AC Tryz.prog 189 [.ptr t 0] H cc (fun v H' c'=>v=(H9 L E s).1.v/\H'=H.upd t (rdR L E (H9 L E s).2)):=by
 refine AC.bodyT B1 rfl (A0B rfl) fun hfr=>?_;repeat' ((with_reducible first|refine wr ?_|refine A2 ?_ ?_|fail)<;>try simp only [go_sem,seval])
 refine AC.call (c_peek L E s _ _ t (by rw [A3 (by omega)];exact ht) (by omega)) ?_;rintro v H' c1 ⟨rfl,rfl⟩ hc;have ne0:=V4 t cc c1 (c1+1) (by omega);simp only [go_sem,seval,ne0,A0,A1];repeat' ((with_reducible first|refine wr ?_|refine A2 ?_ ?_|fail)<;>try simp only [go_sem,seval,ne0,A0,A1])
 have ham:=c_amongO L E s ((H.upd cc ⟨0,true,[I64 0,I64 0,.str [],.snil,I64 0]⟩).upd c1 ⟨0,true,[I64 (A7 L E s).kind,.str (A7 L E s).text,I64 (A7 L E s).value,I64 (A7 L E s).pos]⟩) (c1+1+1) t (c1+1) (by rw [A3 (by omega),A3 (by omega)];exact hfr _ (by omega)) (by rw [A3 (by omega),A3 (by omega)];exact ht) (by omega) G0 (by decide);refine AC.call ham ?_;rintro v H' c2 ⟨rfl,rfl⟩ hc2;have hpr:H9 L E s=H9 L E s:=rfl
 conv at hpr=>rhs;unfold H9
 have hkr : -1<=B9 L E s G0/\B9 L E s G0<7:=A1z L E s G0 0;generalize B9 L E s G0=k at hpr hkr;have hk0 : -1<=k/\k<7:=hkr;have hw:IntKind.i64.wrap (s.ops+1)=s.ops+1:=w64 (by omega) (by omega);have tail:∀ c3,c2<=c3->¬(k<0/\G7 L E s 3=false/\G7 L E s 1=false)->IW Tryz.prog 78 (pz Tryz.prog 189 (.i (.o (.o (.o .h))))) ⟨tm [(0,.ptr t 0),(2,.ptr cc 0),(3,.ptr c1 0),(4,I64 k),(22,.bool false)],(H.upd cc A4k).upd c1 (tkB (A7 L E s)),c3⟩ (rt [.cell 2 5 true] fun v H' c' => ∃ v2 H2,GL H' [v] H2 [v2]/\v2=(H9 L E s).1.v/\H2=H.upd t (rdR L E (H9 L E s).2)):=by
  intro c3 hc3 hcd;rw [if_neg hcd] at hpr;dsimp only at hpr;repeat' ((with_reducible first|refine wr ?_|refine A2 ?_ ?_|fail)<;>try simp only [go_sem,seval,ht,hw,ne0,A0,A1])
  refine AC.call (c_limit L E { s with ops:=s.ops+1 } _ _ t A0 (by omega) _ _ _) ?_;rintro v H' c4 ⟨rfl,rfl⟩ hc4;have hi2:(C7 L E { s with ops:=s.ops+1 } (s.ops+1) 32 9).i=s.i:=D4c;generalize C7 L E { s with ops:=s.ops+1 } (s.ops+1) 32 9=s2 at *;simp only [go_sem,seval,A1];repeat' ((with_reducible first|refine wr ?_|refine A2 ?_ ?_|fail)<;>try simp only [go_sem,seval,A1])
  refine AC.call (c_rdok L E s2 _ _ t A0 (by omega)) ?_;rintro v H' c5 ⟨rfl,rfl⟩ hc5;have hG:∀ (b5:Blk) (j:Nat),j<cc->(((H.upd cc b5).upd c1 (tkB (A7 L E s))).upd t (rdR L E s2)) j=(H.upd t (rdR L E s2)) j:=fun b5 j hj=>by simp [Hp.upd,show ¬j=cc by omega,show ¬j=c1 by omega]
  cases h2:okR s2 with
  | false =>
   rw [if_pos h2] at hpr;rw [hpr];simp only [go_sem,seval,h2];repeat' ((with_reducible first|refine wr ?_|refine A2 ?_ ?_|fail)<;>try simp only [go_sem,seval,h2,ne0,A0,A1])
   rw [D9 (v:=.agg [I64 0,I64 0,.str [],.snil,I64 0]) (rv5 rfl A0)];refine ⟨_,_,A2a (cc:=cc) (C0 hfr htc) (fun j hj=>?_),rfl,rfl⟩;simp [Hp.upd,show ¬j=cc by omega,show ¬j=c1 by omega]
  | true =>
   rw [if_neg (by simp [h2])] at hpr;have hw2:IntKind.i64.wrap ((s2.i:Int)+1)=((s2.i+1:Nat):Int):=by rw [w64 (by omega) (by omega)];omega
   simp only [go_sem,seval,h2];by_cases hk1:0<=k
   ·rw [if_pos hk1] at hpr;have hd1:decide (k≥0)=true:=by simpa using hk1
    have ne0:=P0 t cc c1 c5 (c5+7) (by omega);by_cases h4:4<=k
    ·rw [if_pos h4] at hpr;rw [hpr];rcases (show k=4\/k=5\/k=6 by omega) with rfl|rfl|rfl
     all_goals
      repeat' ((with_reducible first|refine wr ?_|refine A2 ?_ ?_|fail)<;>try simp only [go_sem,seval,h2,hw2,hd1,ne0,A0,A1])
      refine AC.call (c_name L E (A8 s2) _ _ t (by repeat (first|exact A0|rw [A3 (by omega)])) (by omega) (by show s2.i+1<=10000000000;omega)) ?_;rintro v H' c6 ⟨rfl,rfl⟩ hc6;simp only [go_sem,seval,ne0,A0,A1];repeat' ((with_reducible first|refine wr ?_|refine A2 ?_ ?_|fail)<;>try simp only [go_sem,seval,ne0,A0,A1])
      rw [D9 (rv5 rfl A0)];refine ⟨_,_,A2a (cc:=cc) (C0 hfr htc) (fun j hj=>?_),rfl,rfl⟩;simp [Hp.upd,show ¬j=cc by omega,show ¬j=c1 by omega,show ¬j=c5 by omega,show ¬j=c5+7 by omega];try (split<;>rfl)
    ·rw [if_neg h4] at hpr;rw [hpr];rcases (show k=0\/k=1\/k=2\/k=3 by omega) with rfl|rfl|rfl|rfl
     all_goals
      repeat' ((with_reducible first|refine wr ?_|refine A2 ?_ ?_|fail)<;>try simp only [go_sem,seval,h2,hw2,hd1,ne0,A0,A1])
      rw [D9 (rv5 rfl A0)];refine ⟨_,_,A2a (cc:=cc) (C0 hfr htc) (fun j hj=>?_),rfl,rfl⟩;simp [Hp.upd,show ¬j=cc by omega,show ¬j=c1 by omega,show ¬j=c5 by omega,show ¬j=c5+7 by omega];rfl
   ·rw [if_neg hk1] at hpr;have hd1:decide (k≥0)=false:=by simpa using hk1
    by_cases h3:(A7 L E s).kind=3
    ·rw [if_pos h3] at hpr;rw [hpr];have hd3:((A7 L E s).kind == 3)=true:=by simpa using h3
     repeat' ((with_reducible first|refine wr ?_|refine A2 ?_ ?_|fail)<;>try simp only [go_sem,seval,h2,hw2,hd1,hd3,ne0,A0,A1])
     rw [D9 (v:=.agg [I64 1,I64 (A7 L E s).value,.str [],.snil,I64 (A7 L E s).pos]) (rv5 rfl A0)];refine ⟨_,_,A2a (cc:=cc) (C0 hfr htc) (fun j hj=>?_),rfl,rfl⟩;simp [Hp.upd,show ¬j=cc by omega,show ¬j=c1 by omega];rfl
    ·rw [if_neg h3] at hpr;rw [hpr];have hd3:((A7 L E s).kind == 3)=false:=by simpa using h3
     repeat' ((with_reducible first|refine wr ?_|refine A2 ?_ ?_|fail)<;>try simp only [go_sem,seval,h2,hw2,hd1,hd3,ne0,A0,A1])
     rw [D9 (v:=.agg [I64 2,I64 0,.str (A7 L E s).text,.snil,I64 (A7 L E s).pos]) (rv5 rfl A0)];refine ⟨_,_,A2a (cc:=cc) (C0 hfr htc) (fun j hj=>?_),rfl,rfl⟩;simp [Hp.upd,show ¬j=cc by omega,show ¬j=c1 by omega];rfl
 have hGt:∀ b5:Blk,((H.upd cc b5).upd c1 (tkB (A7 L E s))) t=some (rdR L E s):=fun b5=>by rw [A3 (by omega),A3 (by omega)];exact ht
 by_cases hk1:k<0
 ·have hd:decide (k<0)=true:=by simpa using hk1
  simp only [go_sem,seval,ne0,hd];repeat' ((with_reducible first|refine wr ?_|refine A2 ?_ ?_|fail)<;>try simp only [go_sem,seval,ne0,hd])
  refine AC.call (c_isKind L E s _ _ t (hGt _) (by omega) 3) ?_;rintro v H' c3 ⟨rfl,rfl⟩ hc3;cases h3:G7 L E s 3 with
  | true =>
   simp only [go_sem,seval,h3];repeat' ((with_reducible first|refine F9 (p:=IW _ _ (pz Tryz.prog 189 (.i (.o (.o (.o .h))))) _ _) ?_|refine wr ?_|refine A2 ?_ ?_|fail)<;>try simp only [go_sem,seval,h3])
   exact tail _ (by omega) (by simp [h3])
  | false =>
   simp only [go_sem,seval,h3];repeat' ((with_reducible first|refine wr ?_|refine A2 ?_ ?_|fail)<;>try simp only [go_sem,seval,h3])
   refine AC.call (c_isKind L E s _ _ t (hGt _) (by omega) 1) ?_;rintro v H' c4 ⟨rfl,rfl⟩ hc4;cases h1:G7 L E s 1 with
   | true =>
    simp only [go_sem,seval,h1];repeat' ((with_reducible first|refine F9 (p:=IW _ _ (pz Tryz.prog 189 (.i (.o (.o (.o .h))))) _ _) ?_|refine wr ?_|refine A2 ?_ ?_|fail)<;>try simp only [go_sem,seval,h1])
    exact tail _ (by omega) (by simp [h1])
   | false =>
    rw [if_pos ⟨hk1,h3,h1⟩] at hpr;rw [hpr];simp only [go_sem,seval,h1];repeat' ((with_reducible first|refine wr ?_|refine A2 ?_ ?_|fail)<;>try simp only [go_sem,seval,h1])
    refine AC.call (c_syntax L E s _ _ t (hGt _) (by omega)) ?_;rintro v H' c5 ⟨rfl,rfl⟩ hc5;simp only [go_sem,seval,ne0,A0];repeat' ((with_reducible first|refine wr ?_|refine A2 ?_ ?_|fail)<;>try simp only [go_sem,seval,ne0,A0])
    rw [D9 (rv5 rfl A0)];refine ⟨_,_,A2a (cc:=cc) (C0 hfr htc) (fun j hj=>?_),rfl,rfl⟩;simp [Hp.upd,show ¬j=cc by omega,show ¬j=c1 by omega]
 ·have hd:decide (k<0)=false:=by simpa using hk1
  simp only [go_sem,seval,ne0,hd];repeat' ((with_reducible first|refine F9 (p:=IW _ _ (pz Tryz.prog 189 (.i (.o (.o (.o .h))))) _ _) ?_|refine wr ?_|refine A2 ?_ ?_|fail)<;>try simp only [go_sem,seval,hd])
  exact tail _ (by omega) fun h=>hk1 h.1
end Go.Proofs.YthlpinppaclofaaGreatDoor
namespace Go.Pb
variable [Go.Sym.Tab]
open Go.Sym
section
variable {L:List Tok} {E:Int}
theorem Q8 {s:Rd} {p e:Int} (he:e≠0):okR (K5 s p e)=false:=by
 unfold K5;split
 ·simp [okR,he]
 ·rename_i h;simpa using h
theorem V3 {s:Rd}:okR (O3 L E s)=false:=Q8 (by decide)
theorem I1 {s:Rd} {n m e:Int} (he:e≠0) (h:okR (C7 L E s n m e)=true):okR s=true/\n<=m/\C7 L E s n m e=s:=by
 unfold C7 at h ⊢;split at h
 ·rw [Q8 he] at h;cases h
 ·rename_i hn;rw [if_neg hn];exact ⟨h,by omega,rfl⟩
theorem Z3 {s:Rd} {t:List UInt8} (h:isR L E s t=true):okR s=true/\s.i<L.length:=by
 unfold isR at h;simp only [A0D,A0X,A1F] at h;refine ⟨h.1.1,?_⟩;by_cases hi:s.i<L.length
 ·exact hi
 ·have e:A7 L E s=⟨0,[],0,E⟩:=by unfold A7;rw [A0T,A1R (by omega)];rfl
  rw [e] at h;simp at h
theorem I2 {s:Rd} {k:Int} (h:G7 L E s k=true):okR s=true/\(A7 L E s).kind=k:=by
 unfold G7 at h;simp only [A0D,A1F] at h;exact h
theorem I0 {s:Rd} {k:Int} (hk:k≠0) (h:(A7 L E s).kind=k):A7 L E s∈L/\s.i<L.length:=by
 by_cases hi:s.i<L.length
 ·refine ⟨?_,hi⟩;unfold A7;rw [A0T,A0C hi];exact A0S hi
 ·exfalso;have e:A7 L E s=⟨0,[],0,E⟩:=by unfold A7;rw [A0T,A1R (by omega)];rfl
  rw [e] at h;exact hk h.symm
theorem A6d {s:Rd} {t:List UInt8} (h:okR (D6 L E s t)=true):isR L E s t=true/\D6 L E s t=A8 s:=by
 unfold D6 at h ⊢;cases hi:isR L E s t with
 | false=>rw [hi] at h;simp only [if_true] at h;rw [V3] at h;cases h
 | true=>simp
theorem A4t {s:Rd} {k:Int} (h:okR (A9 L E s k).2=true):G7 L E s k=true/\A9 L E s k=(A7 L E s,A8 s):=by
 unfold A9 at h ⊢;cases hi:G7 L E s k with
 | false=>rw [hi] at h;simp only [if_true] at h;rw [V3] at h;cases h
 | true=>simp
theorem H8 {s:Rd}:∀ {l:List (List UInt8)} {k:Nat},0<=Y2 L E s k l->okR s=true/\s.i<L.length/\(k:Int)<=Y2 L E s k l/\Y2 L E s k l<(k+l.length:Nat)
 | [],k,h=>by simp [Y2] at h
 | t :: l,k,h=>by
  unfold Y2 at h ⊢;cases hi:isR L E s t with
  | true =>
   rw [if_pos rfl];obtain ⟨h1,h2⟩:=Z3 hi;exact ⟨h1,h2,A2X _,by simp only [A0U];omega⟩
  | false =>
   rw [hi] at h;simp only [A1I,if_false] at h ⊢;obtain ⟨h1,h2,h3,h4⟩:=H8 h;exact ⟨h1,h2,by omega,by simp only [A0U];omega⟩
end
structure RI (L:List Tok) (s:Rd):Prop where
 i:s.i<=L.length
 o0:0<=s.ops
 o1:s.ops<=33
 o2:okR s=true->s.ops<=32
 p0:0<=s.par
 p1:s.par<=16
section
variable {L:List Tok} {E:Int}
theorem RI.fail {s:Rd} {p e:Int} (he:e≠0) (h:RI L s):RI L (K5 s p e)/\(K5 s p e).par=s.par:=by
 have hk:=Q8 (s:=s) (p:=p) he;have e1:(K5 s p e).i=s.i:=by unfold K5;split<;>rfl
 have e2:(K5 s p e).ops=s.ops:=by unfold K5;split<;>rfl
 have e3:(K5 s p e).par=s.par:=by unfold K5;split<;>rfl
 exact ⟨⟨by rw [e1];exact h.i,by rw [e2];exact h.o0,by rw [e2];exact h.o1,(fun k=>by rw [hk] at k;cases k),by rw [e3];exact h.p0,by rw [e3];exact h.p1⟩,e3⟩
theorem RI.syn {s:Rd} (h:RI L s):RI L (O3 L E s)/\(O3 L E s).par=s.par:=h.fail (by decide)
theorem RI.lim {s:Rd} {n m e:Int} (he:e≠0) (h:RI L s):RI L (C7 L E s n m e)/\(C7 L E s n m e).par=s.par:=by
 unfold C7;split
 ·exact h.fail he
 ·exact ⟨h,rfl⟩
theorem RI.nxt {s:Rd} (h:RI L s) (hi:s.i<L.length):RI L (A8 s):=⟨hi,h.o0,h.o1,h.o2,h.p0,h.p1⟩
theorem RI.exp {s:Rd} {x:List UInt8} (h:RI L s):RI L (D6 L E s x)/\(D6 L E s x).par=s.par:=by
 unfold D6;cases k:isR L E s x with
 | false=>rw [if_pos rfl];exact h.syn
 | true=>rw [if_neg (by simp)];exact ⟨h.nxt (Z3 k).2,rfl⟩
theorem RI.take {s:Rd} {x:Int} (hx:x≠0) (h:RI L s):RI L (A9 L E s x).2/\(A9 L E s x).2.par=s.par:=by
 unfold A9;cases k:G7 L E s x with
 | false=>rw [if_pos rfl];exact h.syn
 | true=>rw [if_neg (by simp)];exact ⟨h.nxt (I0 hx (I2 k).2).2,rfl⟩
theorem RI.prim {s:Rd} (h:RI L s):RI L (H9 L E s).2/\(H9 L E s).2.par=s.par:=by
 unfold H9;dsimp only;split
 ·exact h.syn
 ·rename_i hc;have hok:okR s=true/\s.i<L.length:=by
   by_cases hk:0<=B9 L E s G0
   ·obtain ⟨h1,h2, -⟩:=H8 hk;exact ⟨h1,h2⟩
   ·cases h3:G7 L E s 3 with
    | true=>exact ⟨(I2 h3).1,(I0 (by decide) (I2 h3).2).2⟩
    | false =>
     cases h1:G7 L E s 1 with
     | true=>exact ⟨(I2 h1).1,(I0 (by decide) (I2 h1).2).2⟩
     | false=>exact absurd ⟨by omega,h3,h1⟩ hc
  have h32:=h.o2 hok.1;have ho:=h.o0;obtain ⟨s2,hs2⟩:∃ s2,s2=C7 L E { s with ops:=s.ops+1 } (s.ops+1) 32 9:=⟨_,rfl⟩;rw [<- hs2];cases h2:okR s2 with
  | false =>
   rw [if_pos rfl];have e1:s2.i=s.i:=by rw [hs2];unfold C7 K5;split<;>(try split)<;>rfl
   have e2:s2.ops=s.ops+1:=by rw [hs2];unfold C7 K5;split<;>(try split)<;>rfl
   have e3:s2.par=s.par:=by rw [hs2];unfold C7 K5;split<;>(try split)<;>rfl
   refine ⟨⟨?_,?_,?_,(fun k=>by rw [h2] at k;cases k),?_,?_⟩,e3⟩<;>dsimp only
   ·rw [e1];exact h.i
   ·omega
   ·omega
   ·rw [e3];exact h.p0
   ·rw [e3];exact h.p1
  | true =>
   rw [if_neg (by simp)];rw [hs2] at h2;obtain ⟨-,h4,h5⟩:=I1 (by decide) h2;rw [h5] at hs2;have h3:RI L (A8 s2):=by
    rw [hs2];exact ⟨hok.2,by show 0<=s.ops+1;omega,by show s.ops+1<=33;omega,fun _=>h4,h.p0,h.p1⟩
   have hp:(A8 s2).par=s.par:=by rw [hs2];rfl
   repeat' split
   ·exact ⟨(h3.take (by decide)).1,(h3.take (by decide)).2.trans hp⟩
   all_goals exact ⟨h3,hp⟩
theorem RI.all:∀ f:Nat,(∀ n s r,F5 L E f n s=some r->RI L s->RI L r.2/\r.2.par=s.par)/\(∀ n e s r,K2 L E f n e s=some r->RI L s->RI L r.2/\r.2.par=s.par)/\(∀ s r,K8 L E f s=some r->RI L s->RI L r.2/\r.2.par=s.par)
 | 0=>⟨fun n s r h=>by simp [F5] at h,fun n e s r h=>by simp [K2] at h,fun s r h=>by simp [K8] at h⟩
 | f+1=>by
  obtain ⟨i1,i2,i3⟩:=RI.all f;refine ⟨fun n s r h k=>?_,fun n e s r h k=>?_,fun s r h k=>?_⟩
  ·unfold F5 at h;split at h
   ·exact i3 _ _ h k
   ·cases hb:F5 L E f (n+1) s with
    | none=>rw [hb] at h;cases h
    | some q =>
     obtain ⟨e,s1⟩:=q;rw [hb] at h;obtain ⟨a1,a2⟩:=i1 _ _ _ hb k;obtain ⟨b1,b2⟩:=i2 _ _ _ _ h a1;exact ⟨b1,b2.trans a2⟩
  ·unfold K2 at h;dsimp only at h;split at h
   ·cases h;exact ⟨k,rfl⟩
   ·rename_i hk;have hk0:0<=B9 L E s C3:=Classical.byContradiction fun g=>hk (.inl (by omega));obtain ⟨-,hi, -⟩:=H8 hk0;cases hb:F5 L E f (n+1) (A8 s) with
    | none=>rw [hb] at h;cases h
    | some q =>
     obtain ⟨x,s1⟩:=q;rw [hb] at h;obtain ⟨a1,a2⟩:=i1 _ _ _ hb (k.nxt hi);dsimp only at h;split at h
     ·cases h;exact ⟨a1,a2⟩
     ·obtain ⟨b1,b2⟩:=i2 _ _ _ _ h a1;exact ⟨b1,b2.trans a2⟩
  ·unfold K8 at h;dsimp only at h;split at h
   ·cases h;exact k.prim
   ·rename_i hk;have hk0:0<=B9 L E s N9:=by omega
    obtain ⟨-,hi, -⟩:=H8 hk0;split at h
    ·cases h;exact k.lim (by decide)
    ·rename_i hl;have hl:okR (C7 L E s (s.par+1) 16 50)=true:=by simpa using hl
     obtain ⟨h1,h2,h3⟩:=I1 (by decide) hl;rw [h3] at h;have k2:RI L { s with i:=s.i+1,par:=s.par+1 }:=⟨hi,k.o0,k.o1,k.o2,by have:=k.p0;show 0<=s.par+1;omega,h2⟩;have fin:∀ z:Rd,RI L z->z.par=s.par+1->RI L { z with par:=z.par-1 }/\z.par-1=s.par:=fun z hz hp =>
      ⟨⟨hz.i,hz.o0,hz.o1,hz.o2,by have:=k.p0;show 0<=z.par-1;omega,by have:=k.p1;show z.par-1<=16;omega⟩,by omega⟩
     split at h
     ·cases hb:F5 L E f 1 { s with i:=s.i+1,par:=s.par+1 } with
      | none=>rw [hb] at h;cases h
      | some q =>
       obtain ⟨e,s3⟩:=q;rw [hb] at h;cases h;obtain ⟨a1,a2⟩:=i1 _ _ _ hb k2;obtain ⟨b1,b2⟩:=a1.exp (E:=E) (x:=[41]);exact fin _ b1 (b2.trans a2)
     ·cases hb:K8 L E f { s with i:=s.i+1,par:=s.par+1 } with
      | none=>rw [hb] at h;cases h
      | some q =>
       obtain ⟨e,s3⟩:=q;rw [hb] at h;cases h;obtain ⟨a1,a2⟩:=i3 _ _ hb k2;exact fin _ a1 a2
theorem C2r {s:Rd} {p e:Int}:(K5 s p e).i=s.i:=by unfold K5;split<;>rfl
theorem W6 {s:Rd}:(O3 L E s).i=s.i:=C2r
theorem G9 {s:Rd} {n m e:Int}:(C7 L E s n m e).i=s.i:=by unfold C7;split;exact C2r;rfl
theorem L9 {s:Rd} {x:List UInt8} (h:s.i<=L.length):(D6 L E s x).i<=L.length:=by
 unfold D6;cases k:isR L E s x with
 | false=>rw [if_pos rfl,W6];exact h
 | true=>rw [if_neg (by simp)];exact (Z3 k).2
theorem K7 {s:Rd} {x:Int} (hx:x≠0) (h:s.i<=L.length):(A9 L E s x).2.i<=L.length:=by
 unfold A9;cases k:G7 L E s x with
 | false=>rw [if_pos rfl,W6];exact h
 | true=>rw [if_neg (by simp)];exact (I0 hx (I2 k).2).2
theorem U1 {f:Nat} {s:Rd} {r:Ex × Rd} (h:H4 L E f s=some r) (hi:s.i<=L.length):r.2.i<=L.length :=
 ((RI.all f).1 1 { s with ops:=0,par:=0 } r h ⟨hi,A2X 0,(by decide:(0:Int)<=33),fun _=>(by decide:(0:Int)<=32),A2X 0,(by decide:(0:Int)<=16)⟩).1.i
theorem C8u {f:Nat} {k p:Int} {s:Rd} {r:St × Rd} (h:N1 L E f k p s=some r) (hi:s.i<=L.length):r.2.i<=L.length:=by
 unfold N1 at h;dsimp only at h;split at h
 ·split at h
  ·cases h
  ·rename_i he;cases h;exact L9 (U1 he hi)
 split at h
 ·split at h
  ·cases h
  ·rename_i he;cases h;exact L9 (U1 he (L9 (K7 (by decide) hi)))
 split at h
 ·cases h;exact L9 hi
 have h0:=K7 (E:=E) (x:=1) (by decide) hi;split at h
 ·split at h
  ·cases h
  ·rename_i he;split at h
   ·split at h
    ·cases h
    ·rename_i he2;cases h;exact L9 (U1 he2 (L9 (U1 he h0)))
   ·cases h;exact L9 (U1 he h0)
 ·cases h;exact L9 h0
theorem C8w {f:Nat} {d:Int} {s:Rd} {r:St × Rd} (h:J6 L E f d s=some r) (ho:okR s=false):okR r.2=false:=by
 cases f with
 | zero=>simp [J6] at h
 | succ f =>
  have hl:okR (C7 L E s d 8 50)=false:=by
   cases k:okR (C7 L E s d 8 50) with
   | false=>rfl
   | true=>rw [(I1 (by decide) k).1] at ho;cases ho
  unfold J6 at h;dsimp only at h;rw [if_pos hl] at h;cases h;exact hl
theorem II.all:∀ f:Nat,(∀ d s r,G4 L E f d s=some r->s.i<=L.length->r.2.i<=L.length)/\(∀ d l s r,K6 L E f d l s=some r->s.i<=L.length->r.2.i<=L.length)/\(∀ d s r,J6 L E f d s=some r->s.i<=L.length->r.2.i<=L.length)/\(∀ d s r,N4 L E f d s=some r->s.i<=L.length->r.2.i<=L.length)
 | 0=>⟨fun d s r h=>by simp [G4] at h,fun d l s r h=>by simp [K6] at h,fun d s r h=>by simp [J6] at h,fun d s r h=>by simp [N4] at h⟩
 | f+1=>by
  obtain ⟨i1,i2,i3,i4⟩:=II.all f;refine ⟨fun d s r h k=>?_,fun d l s r h k=>?_,fun d s r h k=>?_,fun d s r h k=>?_⟩
  ·unfold G4 at h;exact i2 _ _ _ _ h (L9 k)
  ·unfold K6 at h;split at h
   ·split at h
    ·cases h;rw [W6];exact k
    ·split at h
     ·cases h
     ·rename_i he;exact i2 _ _ _ _ h (i3 _ _ _ he (by rw [G9];exact k))
   ·cases h;exact L9 k
  ·unfold J6 at h;dsimp only at h;split at h
   ·cases h;rw [G9];exact k
   ·split at h
    ·split at h
     ·cases h
     ·rename_i he;cases h;exact L9 (U1 he (L9 (K7 (by decide) (by rw [G9];exact k))))
    ·rename_i hk;have hn:(A8 (C7 L E s d 8 50)).i<=L.length:=(H8 (show 0<=B9 L E (C7 L E s d 8 50) B7 by omega)).2.1;split at h
     ·split at h
      ·cases h
      ·rename_i he;split at h
       ·cases h
       ·rename_i hb;have h3:=i1 _ _ _ hb (U1 he hn);split at h
        ·rename_i hc;split at h
         ·cases h
         ·rename_i ho;cases h;exact i4 _ _ _ ho (Z3 hc.2).2
        ·cases h;exact h3
     ·exact C8u h hn
  ·unfold N4 at h;split at h
   ·split at h
    ·cases h
    ·rename_i he;cases h;exact i3 _ _ _ he k
   ·exact i1 _ _ _ h k
end
end Go.Pb
namespace Go.Sym
variable [Go.Sym.Tab]
variable {P:Program}
theorem AC.own {f:Nat} {args:List DV} {V:Nat->DV} {u:Nat} {cs:List DV} (h:AC P f args nil 0 (fun v H' _ => ∃ id,v=V id/\H'=nil.upd id ⟨u,true,cs⟩)) (hn:DV.nlL args=true) (hcs:∀ d∈cs,d.nl=true)
  (hV:∀ (ρ ρ':Ren) (id id':Nat) (v:Value), ρ.nm id = ρ'.nm id'->((∀ b r, ρ.fz b=some r -> ρ'.fz b=some r)/\∀ b r, ρ.fm b=some r -> ρ'.fm b=some r)->VRel ρ (V id) v->VRel ρ' (V id') v) (H:Hp) (c:Nat) :
  AC P f args H c (fun v H' c'=>v=V c/\H'=H.upd c ⟨u,true,cs⟩/\c'=c+1):=by
 refine ⟨h.1,fun ρ w vs hR hf hA=>?_⟩;refine (h.2 ⟨fun _=>none, ρ.fz, ρ.tab, ρ.fm⟩ w vs hR.nil (fun _ _=>rfl) (hA.nl (ρ := ρ) (ρ':=⟨fun _=>none, ρ.fz, ρ.tab, ρ.fm⟩) (fun _ _ h=>h) (fun _ _ h=>h) hn)).mono ?_;rintro e w' ⟨v,v',H1,c1, ρ1,rfl,⟨id,rfl,rfl⟩,d⟩;have hb:=d.ext.below (fun id b hb=>by cases hb);obtain ⟨b1,b2,b3,b4,b5⟩:=hb;obtain ⟨t,ht,hbr⟩:=d.rep.blk id _ A0;have hsz:w.heap.size<=t.block:=by
  rcases d.ext.mine id _ t A0 ht with h1|⟨i,b0,t0,e1, -⟩
  ·exact h1
  ·cases e1
 obtain ⟨ρ2,hρ⟩:∃ ρ2:Ren, ρ2=⟨fun j=>if j=c then some t else ρ.nm j, ρ1.fz, ρ1.tab, ρ1.fm⟩:=⟨_,rfl⟩;have n1 : ρ2.nm c=some t:=by rw [hρ];simp
 have n2:∀ {j},¬ j=c -> ρ2.nm j = ρ.nm j:=fun {j} hj=>by rw [hρ];simp [hj]
 have n3 : ρ2.fz = ρ1.fz:=by rw [hρ]
 have n4 : ρ2.fm = ρ1.fm:=by rw [hρ]
 have hle : ρ.le ρ2:=⟨fun j x hj=>by
  rw [n2 (fun e=>by subst e;rw [hf j (A0E _)] at hj;cases hj)];exact hj,fun b r hb=>by rw [n3];exact d.ext.le.fz b r hb,fun b r hb=>by rw [n4];exact d.ext.le.fm b r hb⟩
 refine ⟨V c,v',_,_, ρ2,rfl,⟨rfl,rfl,rfl⟩,hV ρ1 ρ2 id c v' (by rw [ht,n1]) ⟨fun b r hb=>by rw [n3];exact hb,fun b r hb=>by rw [n4];exact hb⟩ d.val,?_,fun j hj=>by rw [n2 (by omega)];exact hf j (by omega),by omega,
  fun j hj hne=>by rw [A3 (by omega)] at hne;exact hne,fun j hj=>n2 (by omega),?_⟩
 ·refine ⟨fun j b hb=>?_,fun i j bi bj ti tj hi hj hij h1 h2 ho=>?_,by rw [n3];exact d.rep.frz,fun j b t2 hb ho ht2=>?_,fun k es hk=>?_⟩
  ·by_cases e:j=c
   ·subst e;rw [A0] at hb;cases hb;refine ⟨t,n1,?_⟩;rcases hbr with ⟨gm,c0,e0,fr,g1,g2,g3,g4,g5,g6⟩|⟨-, -, -,es,cl,kd,ks,vs', -,g2, -⟩
    case inr =>
     simp only at g2;subst g2;have:=hcs _ A0K;simp [DV.nl] at this
    refine .inl ⟨gm,c0,e0,fr,g1,g2,g3,g4,fun i x hx=>?_,g6⟩;obtain ⟨q1,x',q2,q3⟩:=g5 i x hx;exact ⟨q1,x',q2,q3.nl (ρ := ρ1) (ρ' := ρ2) (fun b r hb=>by rw [n3];exact hb) (fun b r hb=>by rw [n4];exact hb) (hcs x (A0W hx))⟩
   ·rw [A3 e] at hb;obtain ⟨t2,ht2,hb2⟩:=hR.blk j b hb;exact ⟨t2,by rw [n2 e];exact ht2,(hb2.mono hle).world (b5 _ hb2.lt)⟩
  ·by_cases e1:i=c
   ·subst e1;have e2:¬ j=i:=fun e=>hij e.symm;rw [A3 e2] at hj;rw [n1] at h1;cases h1;rw [n2 e2] at h2;have:=(hR.blk j bj hj);obtain ⟨t2,ht2,hb2⟩:=this;rw [h2] at ht2;cases ht2;have:=hb2.lt;omega
   ·rw [A3 e1] at hi;rw [n2 e1] at h1;by_cases e2:j=c
    ·subst e2;rw [n1] at h2;cases h2;obtain ⟨t2,ht2,hb2⟩:=hR.blk i bi hi;rw [h1] at ht2;cases ht2;have:=hb2.lt;omega
    ·rw [A3 e2] at hj;rw [n2 e2] at h2;exact hR.sep i j bi bj ti tj hi hj hij h1 h2 ho
  ·rw [n3];by_cases e:j=c
   ·subst e;rw [A0] at hb;cases hb;rw [n1] at ht2;cases ht2;exact d.rep.dis id _ t A0 rfl ht
   ·rw [A3 e] at hb;rw [n2 e] at ht2;cases hf1 : ρ1.fz t2.block with
    | none=>rfl
    | some r =>
     rcases d.ext.fzn _ _ hf1 with h1|h1|⟨i,b0,t0,e1, -⟩
     ·rw [hR.dis j b t2 hb ho ht2] at h1;cases h1
     ·have:=(hR.lookb hb ht2).lt;omega
     ·cases e1
  ·rw [n4] at hk;refine ⟨(d.rep.frm k es hk).1,fun j b t2 hb ho ht2=>?_⟩;by_cases e:j=c
   ·subst e;rw [A0] at hb;cases hb;rw [n1] at ht2;cases ht2;exact (d.rep.frm k es hk).2 id _ t A0 rfl ht
   ·rw [A3 e] at hb;rw [n2 e] at ht2;rcases d.ext.fmn _ _ hk with h1|h1|⟨i,b0,t0,e1, -⟩
    ·exact (hR.frm k es h1).2 j b t2 hb ho ht2
    ·have:=(hR.lookb hb ht2).lt;omega
    ·cases e1
 ·refine ⟨hle,b1,b2,b3,b4,fun k hk _=>b5 k hk,fun j b t2 h1 h2=>?_,fun k r hk=>?_,fun k r hk=>?_⟩
  ·by_cases e:j=c
   ·subst e;rw [n1] at h2;cases h2;exact .inl hsz
   ·rw [A3 e] at h1;rw [n2 e] at h2;exact .inr ⟨j,b,t2,h1,fun h=>h,h2,rfl⟩
  ·rw [n3] at hk;rcases d.ext.fzn k r hk with h1|h1|⟨i,b0,t0,e1, -⟩
   ·exact .inl h1
   ·exact .inr (.inl h1)
   ·cases e1
  ·rw [n4] at hk;rcases d.ext.fmn k r hk with h1|h1|⟨i,b0,t0,e1, -⟩
   ·exact .inl h1
   ·exact .inr (.inl h1)
   ·cases e1
section
open Go.Eng (IC)
variable {N:Nat} {x:IC} {T:Tm} {H:Hp} {c:Nat} {Q:Exit->St->Prop}
theorem IW.gl {s:St} (h:IW P N x s (fun e s'=>Q e s'\/∃ (ks:List Nat) (ds':List DV) (H2:Hp),GL s'.H (ks.map s'.T) H2 ds'/\Q e ⟨tm (ks.zip ds'),H2,s'.c⟩)):IW P N x s Q:=by
 intro hm cd hc ρ a w hS;refine wp_mono (h hm cd hc ρ a w hS) fun e a' w' hq=>?_;obtain ⟨ρ2,s2,q,hS2,hst⟩:=hq;rcases q with q|⟨ks,ds',H2,g,q⟩
 ·exact ⟨ρ2,s2,q,hS2,hst⟩
 have hA:G3 ρ2 (ks.map s2.T) ((ks.map fun k=>a'.tmps.getD k undef)).toArray:=by
  refine ⟨by simp,fun i x y hx hy=>?_⟩;simp only [A1A,A0R,A1O] at hx hy;obtain ⟨k,hk,rfl⟩:=hx;obtain ⟨k',hk',rfl⟩:=hy;rw [hk] at hk';cases hk';exact hS2.tm k
 obtain ⟨ρ1,e1,r1,a1,x1⟩:=g.2 ρ2 w' _ hS2.rep hA;refine ⟨ρ1,⟨tm (ks.zip ds'),H2,s2.c⟩,q,⟨B9z fun i k d hk hd=>a1.2 i d _ hd (by simp [hk]),r1,by rw [e1];exact hS2.fresh,hS2.size,hS2.dfr⟩,?_⟩;exact ⟨hst.up,fun id hid hne=>hst.dom id hid (g.1 id hne),fun id hid=>by rw [e1];exact hst.same id hid,hst.ext.trans x1⟩
theorem B2p:∀ {L:List (Nat × DV)} {T:Tm},C9 L T->(L.map Prod.fst).map T=L.map Prod.snd
 | [],_,_=>rfl
 | (k,v) :: r,T,⟨h1,h2⟩=>by simp only [A0O,h1,B2p h2]
theorem C8d (L:List (Nat × DV)):(L.map Prod.fst).zip (L.map Prod.snd)=L:=by
 induction L with
 | nil=>rfl
 | cons a r ih=>simp [ih]
def lpG {σ : Type} (L : σ -> List (Nat × DV)) (h : σ -> Hp) (I : σ -> Nat->Prop) (μ : σ -> Nat) (m:Nat) (Q:Exit->St->Prop):Exit->St->Prop
 | .normal,⟨T,H,c⟩ => ∃ b,C9 (L b) T/\GL H ((L b).map Prod.snd) (h b) ((L b).map Prod.snd)/\I b c /\ μ b<m
 | e,s=>Q e s
theorem A1v {σ : Type} (L : σ -> List (Nat × DV)) (h : σ -> Hp) (I : σ -> Nat->Prop) (μ : σ -> Nat) (a : σ) (hL:∀ b,C9 (L b) (tm (L b))) (h0:C9 (L a) T) (hH:Sub (h a) H) (hI:I a c)
  (step:∀ a c,I a c->IW P N x ⟨tm (L a),h a,c⟩ (lpG L h I μ (μ a) Q)):IW P N (.loop x) ⟨T,H,c⟩ Q:=by
 refine D8 L h I μ a h0 hH hI fun a c hI=>IW.gl ((step a c hI).mono fun e s' q=>?_);obtain ⟨T',H',c'⟩:=s';cases e with
 | normal =>
  obtain ⟨b,q1,q2,q3,q4⟩:=q;refine .inr ⟨(L b).map Prod.fst,(L b).map Prod.snd,h b,by rw [B2p q1];exact q2,?_⟩;rw [C8d];exact ⟨b,hL b,Sub.refl _,q3,q4⟩
 | _=>exact .inl q
theorem D4h {σ : Type} {L : σ -> List (Nat × DV)} {h : σ -> Hp} {I : σ -> Nat->Prop} {μ : σ -> Nat} {m:Nat}:lpG L h I μ m Q .normal ⟨T,H,c⟩ = ∃ b,C9 (L b) T/\GL H ((L b).map Prod.snd) (h b) ((L b).map Prod.snd)/\B4k I b c /\ μ b<m:=propext Iff.rfl
theorem D4g {σ : Type} {L : σ -> List (Nat × DV)} {h : σ -> Hp} {I : σ -> Nat->Prop} {μ : σ -> Nat} {m:Nat}:lpG L h I μ m Q .ret ⟨T,H,c⟩=Q .ret ⟨T,H,c⟩:=propext Iff.rfl
theorem D4i {σ : Type} {L : σ -> List (Nat × DV)} {h : σ -> Hp} {I : σ -> Nat->Prop} {μ : σ -> Nat} {m i:Nat}:lpG L h I μ m Q (.exit i) ⟨T,H,c⟩=Q (.exit i) ⟨T,H,c⟩:=propext Iff.rfl
end
section
open Go.Eng (AOp)
variable {c0:Nat} {T:Tm} {H:Hp}
def agN (T:Tm) (H:Hp) (d n:Nat):Option (Option Nat × Blk)->Prop
 | some (k,b)=>T d=mkv n k/\H n=some b
 | none=>False
theorem D6m {j d:Nat} {f:AOp}:agK c0 j T H (some d) (.new f) (some true)=agN T H d (c0+j) (aev (ev T) f):=by
 simp only [agK,agN];cases aev (ev T) f with
 | none=>simp
 | some x=>obtain ⟨k,b⟩:=x;simp
theorem D6n {d n:Nat} {k:Option Nat} {b:Blk}:agN T H d n (some (k,b))=(T d=mkv n k/\H n=some b):=propext Iff.rfl
end
attribute [go_sem] D6m D6n
attribute [go_sem] D4h D4g D4i
end Go.Sym
namespace Go.Proofs.YthlpinppaclofaaGreatDoor
open Go.Eng (IC IOper DReg IFn C2)
open Go.Sym Go.Pb
theorem c_level (k:Int):PC Tryz.prog 117 [I64 k] (I64 (B8 k)):=by
 refine PC.ofT B1 rfl (A0B rfl) (by simp [DV.nlL,DV.nl]) (by simp [DV.nlL,DV.nl]) ?_;repeat' ((with_reducible first|refine wr ?_|refine A2 ?_ ?_|refine wb2 ?_ ?_<;>(intro hb;try simp only [hb])|fail)<;>try simp only [go_sem,seval])
 all_goals
  refine B3 (congrArg I64 ?_);simp only [A1F,beq_eq_false_iff_ne,A0H,A2B,A0D,A0X,Bool.and_eq_false_iff,A3M] at *;unfold B8;repeat' split
  all_goals omega
theorem c_signs31:PC Tryz.prog 119 [] (U9 C3):=by
 refine PC.ofT B1 rfl (A0B rfl) rfl (L8 _) ?_;repeat' ((with_reducible first|refine wr ?_|refine A2 ?_ ?_|fail)<;>try simp only [go_sem,seval])
 exact J0 (xs:=C3.map DV.str) (u:=1) A0 rfl rfl (J1 _) ⟨[],rfl⟩
theorem c_decls31:PC Tryz.prog 85 [] (U9 D1):=by
 refine PC.ofT B1 rfl (A0B rfl) rfl (L8 _) ?_;repeat' ((with_reducible first|refine wr ?_|refine A2 ?_ ?_|fail)<;>try simp only [go_sem,seval])
 exact J0 (xs:=D1.map DV.str) (u:=1) A0 rfl rfl (J1 _) ⟨[],rfl⟩
theorem c_trigs31:PC Tryz.prog 99 [] (U9 D3):=by
 refine PC.ofT B1 rfl (A0B rfl) rfl (L8 _) ?_;repeat' ((with_reducible first|refine wr ?_|refine A2 ?_ ?_|fail)<;>try simp only [go_sem,seval])
 exact J0 (xs:=D3.map DV.str) (u:=1) A0 rfl rfl (J1 _) ⟨[],rfl⟩
theorem c_stmts31:PC Tryz.prog 175 [] (U9 B7):=by
 refine PC.ofT B1 rfl (A0B rfl) rfl (L8 _) ?_;repeat' ((with_reducible first|refine wr ?_|refine A2 ?_ ?_|fail)<;>try simp only [go_sem,seval])
 exact J0 (xs:=B7.map DV.str) (u:=1) A0 rfl rfl (J1 _) ⟨[],rfl⟩
theorem B3x {K H':Hp} {cc b:Nat} {a b' c e:DV} (l:List Ex) (hK:∀ i,cc<=i->K i=none) (hb0:cc<=b) (hb:H' b=some ⟨5,true,A4 (l.map Ex.v)⟩) (h:∀ j,j<cc->H' j=K j) :
  GL H' [.agg [a,b',c,.slc b 0 l.length,e]] K [.agg [a,b',c,H3 l,e]] :=
 GL.frzS (id:=b) hb rfl (fun j=>by
  by_cases hj:j<cc
  ·exact .inr ⟨by omega,(h j hj).symm⟩
  ·exact .inl (hK j (by omega))) (.cons _ _ _ _ (.agg _ _ (.cons _ _ _ _ (.same _) (.cons _ _ _ _ (.same _) (.cons _ _ _ _ (.same _) (.cons _ _ _ _ (N7 (u:=5) (by simp) (W0 l) ⟨[],by simp⟩) (.cons _ _ _ _ (.same _) .nil)))))) .nil)
theorem V2 (e:Ex):A4 ([e].map Ex.v)=[I64 e.kind,I64 e.value,.str e.name,H3 e.args,I64 e.pos]:=by
 rw [A0O,Ex.v_w];rfl
theorem B0o (e x:Ex):A4 ([e,x].map Ex.v)=[I64 e.kind,I64 e.value,.str e.name,H3 e.args,I64 e.pos,I64 x.kind,I64 x.value,.str x.name,H3 x.args,I64 x.pos]:=by
 rw [A0O,A0O,Ex.v_w,Ex.v_w];rfl
abbrev RdC (L:List Tok) (E:Int) (f:Nat) (vs:List DV) (s:Rd) (r:DV × Rd):Prop :=
 ∀ (H:Hp) (cc t:Nat),H t=some (rdR L E s)->t<cc->AC Tryz.prog f (.ptr t 0 :: vs) H cc (fun v H' c'=>v=r.1/\H'=H.upd t (rdR L E r.2))
theorem c_unary (L:List Tok) (E:Int) (hL:L.length<=1000000000) (f:Nat)
  (ib:∀ n s r,1<=n->n<=6->F5 L E f n s=some r->RI L s->RdC L E 104 [I64 n] s (r.1.v,r.2))
  (iu:∀ s r,K8 L E f s=some r->RI L s->RdC L E 156 [] s (r.1.v,r.2))
  (s:Rd) (r:Ex × Rd) (h:K8 L E (f+1) s=some r) (hR:RI L s):RdC L E 156 [] s (r.1.v,r.2):=by
 intro H cc t ht htc;have hri:=hR.i;have hro:=hR.o0;have hro1:=hR.o1;have hp0:=hR.p0;have hp1:=hR.p1;refine AC.bodyT B1 rfl (A0B rfl) fun hfr=>?_;repeat' ((with_reducible first|refine wr ?_|refine A2 ?_ ?_|fail)<;>try simp only [go_sem,seval])
 refine AC.call (c_peek L E s _ _ t (by rw [A3 (by omega)];exact ht) (by omega)) ?_;rintro v H' c1 ⟨rfl,rfl⟩ hc;have ne0:=V4 t cc c1 (c1+1) (by omega);simp only [go_sem,seval,ne0,A0,A1];repeat' ((with_reducible first|refine wr ?_|refine A2 ?_ ?_|fail)<;>try simp only [go_sem,seval,ne0,A0,A1])
 have ham:=c_amongO L E s ((H.upd cc A4k).upd c1 (tkB (A7 L E s))) (c1+1+1) t (c1+1) (by rw [A3 (by omega),A3 (by omega)];exact hfr _ (by omega)) (by rw [A3 (by omega),A3 (by omega)];exact ht) (by omega) N9 (by decide);refine AC.call ham ?_;rintro v H' c2 ⟨rfl,rfl⟩ hc2;unfold K8 at h;dsimp only at h;have hkr : -1<=B9 L E s N9/\B9 L E s N9<3:=A1z L E s N9 0;have hnn:0<=B9 L E s N9->s.i<L.length:=fun h=>(H8 h).2.1;generalize B9 L E s N9=k at h hkr hnn;have hGt:((H.upd cc A4k).upd c1 (tkB (A7 L E s))) t=some (rdR L E s):=by rw [A3 (by omega),A3 (by omega)];exact ht
 by_cases hk:k<0
 ·rw [if_pos hk] at h;cases h;have hd:decide (k<0)=true:=by simpa using hk
  simp only [go_sem,seval,ne0,hd];repeat' ((with_reducible first|refine wr ?_|refine A2 ?_ ?_|fail)<;>try simp only [go_sem,seval,ne0,hd])
  refine AC.call (c_primary L E s _ _ t hGt (by omega) (by omega) (by omega)) ?_;rintro v H' c3 ⟨rfl,rfl⟩ hc3;simp only [go_sem,seval,ne0,A0,A1,Ex.v_w];repeat' ((with_reducible first|refine wr ?_|refine A2 ?_ ?_|fail)<;>try simp only [go_sem,seval,ne0,A0,A1])
  rw [D9 (rv5 rfl A0)];refine ⟨_,_,I5 (cc:=cc) (C0 hfr htc) (fun j hj=>?_),rfl,rfl⟩;simp [Hp.upd,show ¬j=cc by omega,show ¬j=c1 by omega]
 ·rw [if_neg hk] at h;have hd:decide (k<0)=false:=by simpa using hk
  have hw:IntKind.i64.wrap (s.par+1)=s.par+1:=w64 (by omega) (by omega);have hw2:IntKind.i64.wrap ((s.i:Int)+1)=((s.i+1:Nat):Int):=by rw [w64 (by omega) (by omega)];omega
  have hw3:IntKind.i64.wrap (10+k)=10+k:=w64 (by omega) (by omega);simp only [go_sem,seval,ne0,hd];repeat' ((with_reducible first|refine wr ?_|refine A2 ?_ ?_|fail)<;>try simp only [go_sem,seval,ne0,hd,ht,hw])
  refine AC.call (c_limit L E s _ _ t hGt (by omega) _ _ _) ?_;rintro v H' c3 ⟨rfl,rfl⟩ hc3;simp only [go_sem,seval,ne0];repeat' ((with_reducible first|refine wr ?_|refine A2 ?_ ?_|fail)<;>try simp only [go_sem,seval,ne0])
  refine AC.call (c_rdok L E _ _ _ t A0 (by omega)) ?_;rintro v H' c4 ⟨rfl,rfl⟩ hc4;cases h2:okR (C7 L E s (s.par+1) 16 50) with
  | false =>
   rw [if_pos h2] at h;cases h;simp only [go_sem,seval,h2];repeat' ((with_reducible first|refine wr ?_|refine A2 ?_ ?_|fail)<;>try simp only [go_sem,seval,h2,ne0,A0,A1])
   rw [D9 (rv5 rfl A0)];refine ⟨_,_,A2a (cc:=cc) (C0 hfr htc) (fun j hj=>?_),rfl,rfl⟩;simp [Hp.upd,show ¬j=cc by omega,show ¬j=c1 by omega]
  | true =>
   rw [if_neg (by simp [h2])] at h;obtain ⟨h3,h4,h5⟩:=I1 (by decide) h2;rw [h5] at h h2 ⊢;simp only [go_sem,seval,h2];have ne0:=V4 t cc c1 c4 (by omega);have k2:RI L { s with i:=s.i+1,par:=s.par+1 }:=⟨hnn (by omega),hro,hro1,hR.o2,by show 0<=s.par+1;omega,h4⟩;by_cases hk2:k=2
   ·subst hk2;rw [if_pos rfl] at h;cases hb:F5 L E f 1 { s with i:=s.i+1,par:=s.par+1 } with
    | none=>rw [hb] at h;cases h
    | some q =>
     obtain ⟨e,s3⟩:=q;rw [hb] at h;dsimp only at h;obtain ⟨a1,a2⟩:=(RI.all f).1 _ _ _ hb k2;obtain ⟨b1,b2⟩:=a1.exp (E:=E) (x:=[41]);have hi3:=a1.i;dsimp only at a2 b2 hi3;repeat' ((with_reducible first|refine wr ?_|refine A2 ?_ ?_|fail)<;>try simp only [go_sem,seval,h2,hw,hw2,ne0,A0,A1])
     refine AC.call (ib 1 _ (e,s3) (by decide) (by decide) hb k2 _ _ t (by rw [A3 (by omega),A0]) (by omega)) ?_;rintro v H' c5 ⟨rfl,rfl⟩ hc5;dsimp only;simp only [go_sem,seval,ne0,A0,A1,Ex.v_w];repeat' ((with_reducible first|refine wr ?_|refine A2 ?_ ?_|fail)<;>try simp only [go_sem,seval,ne0,A0,A1])
     refine AC.call (c_expect L E s3 _ _ t (by repeat (first|exact A0|rw [A3 (by omega)])) (by omega) (by omega) _) ?_;rintro v H' c6 ⟨rfl,rfl⟩ hc6;obtain ⟨s4,hs4⟩:∃ s4,s4=D6 L E s3 [41]:=⟨_,rfl⟩;rw [<- hs4] at h b1 b2 ⊢;have hw5:IntKind.i64.wrap (s4.par-1)=s4.par-1:=w64 (by omega) (by omega);cases h;simp only [go_sem,seval,ne0,A0,A1,Ex.v_w];repeat' ((with_reducible first|refine wr ?_|refine A2 ?_ ?_|fail)<;>try simp only [go_sem,seval,hw5,ne0,A0,A1])
     rw [D9 (rv5 rfl A0)];refine ⟨_,_,I5 (cc:=cc) (C0 hfr htc) (fun j hj=>?_),rfl,rfl⟩;simp [Hp.upd,show ¬j=cc by omega,show ¬j=c1 by omega,show ¬j=c4 by omega];try (split<;>rfl)
   ·rw [if_neg hk2] at h;have hd2:(k == 2)=false:=by simpa using hk2
    cases hb:K8 L E f { s with i:=s.i+1,par:=s.par+1 } with
    | none=>rw [hb] at h;cases h
    | some q =>
     obtain ⟨e,s3⟩:=q;rw [hb] at h;dsimp only at h;obtain ⟨a1,a2⟩:=(RI.all f).2.2 _ _ hb k2;dsimp only at a2;repeat' ((with_reducible first|refine wr ?_|refine A2 ?_ ?_|fail)<;>try simp only [go_sem,seval,h2,hw,hw2,hw3,hd2,ne0,A0,A1])
     refine AC.call (iu _ (e,s3) hb k2 _ _ t (by rw [A3 (by omega),A0]) (by omega)) ?_;rintro v H' c5 ⟨rfl,rfl⟩ hc5;have hw5:IntKind.i64.wrap (s3.par-1)=s3.par-1:=w64 (by omega) (by omega);cases h;have ne0:=P0 t cc c1 c4 (c4+1+4) (by omega);simp only [go_sem,seval,ne0,A0,A1,Ex.v_w];repeat' ((with_reducible first|refine wr ?_|refine A2 ?_ ?_|fail)<;>try simp only [go_sem,seval,ne0,A0,A1])
     and_intros
     all_goals try (first|rw [hw3]|((repeat rw [A3 (by omega)]);exact hfr _ (by omega)))
     repeat' ((with_reducible first|refine wr ?_|refine A2 ?_ ?_|fail)<;>try simp only [go_sem,seval,hw5,ne0,A0,A1])
     rw [D9 (rv5 rfl A0)];refine ⟨_,_,B3x (cc:=cc) (b:=c4+1+4) [e] (C0 hfr htc) (by omega) ?_ (fun j hj=>?_),rfl,rfl⟩
     ·rw [V2];dsimp only
      repeat (first|exact A0|rw [A3 (by omega)])
     simp [Hp.upd,show ¬j=cc by omega,show ¬j=c1 by omega,show ¬j=c4 by omega,show ¬j=c4+1+4 by omega];try (split<;>rfl)
abbrev exB (e:Ex):Blk:=⟨0,true,[I64 e.kind,I64 e.value,.str e.name,H3 e.args,I64 e.pos]⟩
theorem c_binary (L:List Tok) (E:Int) (hL:L.length<=1000000000) (f:Nat)
  (ib:∀ g,g<=f->∀ n s r,1<=n->n<=6->F5 L E g n s=some r->RI L s->RdC L E 104 [I64 n] s (r.1.v,r.2))
  (iu:∀ s r,K8 L E f s=some r->RI L s->RdC L E 156 [] s (r.1.v,r.2))
  (n:Int) (s:Rd) (r:Ex × Rd) (hn1:1<=n) (hn6:n<=6) (h:F5 L E (f+1) n s=some r) (hR:RI L s):RdC L E 104 [I64 n] s (r.1.v,r.2):=by
 intro H cc t ht htc;refine AC.bodyT B1 rfl (A0B rfl) fun hfr=>?_;unfold F5 at h;have ne0:=A2i t cc (by omega);by_cases h5:5<n
 ·rw [if_pos h5] at h;have hd:decide (n>5)=true:=by simpa using h5
  repeat' ((with_reducible first|refine wr ?_|refine A2 ?_ ?_|fail)<;>try simp only [go_sem,seval,hd])
  refine AC.call (iu _ _ h hR _ _ t (by rw [A3 (by omega)];exact ht) (by omega)) ?_;rintro v H' c1 ⟨rfl,rfl⟩ hc1;dsimp only;simp only [go_sem,seval,ne0,A0,A1,Ex.v_w];repeat' ((with_reducible first|refine wr ?_|refine A2 ?_ ?_|fail)<;>try simp only [go_sem,seval,ne0,A0,A1])
  rw [D9 (rv5 rfl A0)];refine ⟨_,_,I5 (cc:=cc) (C0 hfr htc) (fun j hj=>?_),rfl,rfl⟩;simp [Hp.upd,show ¬j=cc by omega]
 rw [if_neg h5] at h;have hd:decide (n>5)=false:=by simpa using h5
 have hw:IntKind.i64.wrap (n+1)=n+1:=w64 (by omega) (by omega);cases hb:F5 L E f (n+1) s with
 | none=>rw [hb] at h;cases h
 | some q =>
  obtain ⟨e,s1⟩:=q;rw [hb] at h;dsimp only at h;obtain ⟨a1,a2⟩:=(RI.all f).1 _ _ _ hb hR;dsimp only at a1;repeat' ((with_reducible first|refine wr ?_|refine A2 ?_ ?_|fail)<;>try simp only [go_sem,seval,hd,hw])
  refine AC.call (ib f (A0E _) (n+1) _ _ (by omega) (by omega) hb hR _ _ t (by rw [A3 (by omega)];exact ht) (by omega)) ?_;rintro v H' c1 ⟨rfl,rfl⟩ hc1;dsimp only;have ne0:=O0 t cc c1 (by omega);simp only [go_sem,seval,ne0,A0,A1,Ex.v_w];repeat' ((with_reducible first|refine wr ?_|refine A2 ?_ ?_|fail)<;>try simp only [go_sem,seval,ne0,A0,A1])
  refine A1v (fun _:Nat × Ex × Rd=>[(0,.ptr t 0),(1,I64 n),(4,.ptr cc 0),(5,.ptr c1 0)]) (fun q=>((H.upd cc A4k).upd t (rdR L E q.2.2)).upd c1 (exB q.2.1))
   (fun q c=>c1+1<=c/\q.1<=f/\K2 L E q.1 n q.2.1 q.2.2=some r/\RI L q.2.2) (fun q=>q.1) (f,e,s1) (fun b=>by simp [C9,tm,Tm.upd]) (by simp [C9,tm,Tm.upd]) (Sub.refl _) ⟨A0E _,A0E _,h,a1⟩ ?_
  clear h hb a1 a2 s1 e;rintro ⟨g,e,s1⟩ c ⟨hc,hg,hv,k1⟩;dsimp only at hc hg hv k1 ⊢;have hri:=k1.i;cases g with
  | zero=>simp [K2] at hv
  | succ g =>
  unfold K2 at hv;dsimp only at hv;have hTt:∀ b:Blk,(((H.upd cc A4k).upd t (rdR L E s1)).upd c1 b) t=some (rdR L E s1):=fun b=>by rw [A3 (by omega),A0]
  repeat' ((with_reducible first|refine wr ?_|refine cpc c_signs31 ?_|refine A2 ?_ ?_|fail)<;>try simp only [go_sem,seval])
  refine AC.call (c_among L E s1 _ _ t (hTt _) (by omega) C3 (by decide)) ?_;rintro v H' c2 ⟨rfl,rfl⟩ hc2;have hkr : -1<=B9 L E s1 C3/\B9 L E s1 C3<13:=A1z L E s1 C3 0;have hnn:0<=B9 L E s1 C3->s1.i<L.length:=fun h=>(H8 h).2.1;generalize B9 L E s1 C3=k at hv hkr hnn;have hwk:IntKind.i64.wrap (12+k)=12+k:=w64 (by omega) (by omega);by_cases hk:k<0
  ·rw [if_pos (.inl hk)] at hv;cases hv;have hdk:decide (k<0)=true:=by simpa using hk
   simp only [go_sem,seval,ne0,hdk];repeat' ((with_reducible first|refine wr ?_|refine A2 ?_ ?_|fail)<;>try simp only [go_sem,seval,ne0,hdk,A0,A1])
   rw [D9 (rv5 rfl A0)];refine ⟨_,_,I5 (cc:=cc) (C0 hfr htc) (fun j hj=>?_),rfl,rfl⟩;simp [Hp.upd,show ¬j=cc by omega,show ¬j=c1 by omega]
  have hdk:decide (k<0)=false:=by simpa using hk
  by_cases hl:B8 (12+k)=n
  ·rw [if_neg (by omega)] at hv;have hdl:(B8 (12+k) != n)=false:=by simp [hl]
   simp only [go_sem,seval,ne0,hdk];repeat' ((with_reducible first|refine wr ?_|refine cpc (c_level _) ?_|refine A2 ?_ ?_|fail)<;>try simp only [go_sem,seval,ne0,hdk,hwk,hdl,A0,A1])
   cases hb:F5 L E g (n+1) (A8 s1) with
   | none=>rw [hb] at hv;cases hv
   | some q =>
    obtain ⟨x,s2⟩:=q;rw [hb] at hv;dsimp only at hv;have k2:=k1.nxt (hnn (by omega));obtain ⟨b1,b2⟩:=(RI.all g).1 _ _ _ hb k2;dsimp only at b1;have hw2:IntKind.i64.wrap ((s1.i:Int)+1)=((s1.i+1:Nat):Int):=by rw [w64 (by omega) (by omega)];omega
    refine AC.call (c_peek L E s1 _ _ t (hTt _) (by omega)) ?_;rintro v H' c3 ⟨rfl,rfl⟩ hc3;have ne0:=P0 t cc c1 c3 (c3+7) (by omega);simp only [go_sem,seval,ne0];repeat' ((with_reducible first|refine wr ?_|refine A2 ?_ ?_|fail)<;>try simp only [go_sem,seval,hw2,hwk,hw,ne0,A0,A1])
    refine AC.call (ib g (by omega) (n+1) (A8 s1) (x,s2) (by omega) (by omega) hb k2 _ _ t (by repeat (first|exact A0|rw [A3 (by omega)])) (by omega)) ?_;rintro v H' c4 ⟨rfl,rfl⟩ hc4;dsimp only;simp only [go_sem,seval,ne0,A0,A1,Ex.v_w];repeat' ((with_reducible first|refine wr ?_|refine A2 ?_ ?_|fail)<;>try simp only [go_sem,seval,ne0,A0,A1])
    and_intros
    all_goals try (first|rw [hwk]|((repeat rw [A3 (by omega)]);exact hfr _ (by omega)))
    by_cases h3:n=3
    ·rw [if_pos h3] at hv;cases hv;have hd3:(n == 3)=true:=by simpa using h3
     repeat' ((with_reducible first|refine wr ?_|refine A2 ?_ ?_|fail)<;>try simp only [go_sem,seval,hd3,ne0,A0,A1])
     rw [D9 (rv5 rfl A0)];refine ⟨_,_,B3x (cc:=cc) (b:=c3+7) [e,x] (C0 hfr htc) (by omega) ?_ (fun j hj=>?_),rfl,rfl⟩
     ·rw [B0o];dsimp only
      repeat (first|exact A0|rw [A3 (by omega)])
     simp [Hp.upd,show ¬j=cc by omega,show ¬j=c1 by omega,show ¬j=c3+7 by omega];try (split<;>rfl)
    ·rw [if_neg h3] at hv;have hd3:(n == 3)=false:=by simpa using h3
     repeat' ((with_reducible first|refine wr ?_|refine A2 ?_ ?_|fail)<;>try simp only [go_sem,seval,hd3,ne0,A0,A1])
     refine ⟨(g,.mk (12+k) 0 [] [e,x] (A7 L E s1).pos,s2),?_,inv ⟨by omega,by simp only;omega,hv,b1⟩,by simp only;omega⟩;refine GL.frzT (id:=c3+7) (b:=⟨5,true,A4 ([e,x].map Ex.v)⟩) ?_ rfl (fun j=>?_) (FzL.refl _)
     ·rw [B0o]
      repeat (first|exact A0|rw [A3 (by omega)])
     by_cases j1:j=c1
     ·subst j1;refine .inr ⟨by omega,.inr ⟨_,_,A0,A0,rfl,rfl,.cons _ _ _ _ (.same _) (.cons _ _ _ _ (.same _) (.cons _ _ _ _ (.same _) (.cons _ _ _ _ (N7 (u:=5) (xs:=[e,x].map Ex.v) (by simp) (W0 _) ⟨[],by simp⟩) (.cons _ _ _ _ (.same _) .nil)))),by simp [DV.one]⟩⟩
     ·by_cases j2:j=c3+7
      ·subst j2;left
       repeat rw [A3 (by omega)]
       exact hfr _ (by omega)
      ·refine .inr ⟨j2,.inl ?_⟩;simp [Hp.upd,j1,j2];try (split<;>rfl)
  ·rw [if_pos (.inr hl)] at hv;cases hv;have hdl:(B8 (12+k) != n)=true:=by simpa using hl
   simp only [go_sem,seval,ne0,hdk];repeat' ((with_reducible first|refine wr ?_|refine cpc (c_level _) ?_|refine A2 ?_ ?_|fail)<;>try simp only [go_sem,seval,ne0,hdk,hwk,hdl,A0,A1])
   rw [D9 (rv5 rfl A0)];refine ⟨_,_,I5 (cc:=cc) (C0 hfr htc) (fun j hj=>?_),rfl,rfl⟩;simp [Hp.upd,show ¬j=cc by omega,show ¬j=c1 by omega]
theorem c_bu (L:List Tok) (E:Int) (hL:L.length<=1000000000):∀ f:Nat,(∀ n s r,1<=n->n<=6->F5 L E f n s=some r->RI L s->RdC L E 104 [I64 n] s (r.1.v,r.2))/\(∀ s r,K8 L E f s=some r->RI L s->RdC L E 156 [] s (r.1.v,r.2)):=by
 intro f
 induction f using Nat.strongRecOn with
 | _ f ih =>
  cases f with
  | zero=>exact ⟨fun n s r _ _ h=>by simp [F5] at h,fun s r h=>by simp [K8] at h⟩
  | succ f =>
   exact ⟨fun n s r h1 h2 h hR=>c_binary L E hL f (fun g hg=>(ih g (by omega)).1) (ih f (by omega)).2 n s r h1 h2 h hR,
    fun s r h hR=>c_unary L E hL f (ih f (by omega)).1 (ih f (by omega)).2 s r h hR⟩
theorem c_expression (L:List Tok) (E:Int) (hL:L.length<=1000000000) (f:Nat) (s:Rd) (r:Ex × Rd) (h:H4 L E f s=some r) (hi:s.i<=L.length):RdC L E 62 [] s (r.1.v,r.2):=by
 intro H cc t ht htc;refine AC.bodyT B1 rfl (A0B rfl) fun hfr=>?_;have ne0:=A2i t cc (by omega);repeat' ((with_reducible first|refine wr ?_|refine A2 ?_ ?_|fail)<;>try simp only [go_sem,seval,ht,ne0,A0,A1])
 refine AC.call ((c_bu L E hL f).1 1 { s with ops:=0,par:=0 } r (by decide) (by decide) h ⟨hi,A2X 0,(by decide:(0:Int)<=33),fun _=>(by decide:(0:Int)<=32),A2X 0,(by decide:(0:Int)<=16)⟩ _ _ t (by exact A0) (by omega)) ?_;rintro v H' c1 ⟨rfl,rfl⟩ hc1;dsimp only;simp only [go_sem,seval,ne0,A0,A1,Ex.v_w];repeat' ((with_reducible first|refine wr ?_|refine A2 ?_ ?_|fail)<;>try simp only [go_sem,seval,ne0,A0,A1])
 rw [D9 (rv5 rfl A0)];refine ⟨_,_,I5 (cc:=cc) (C0 hfr htc) (fun j hj=>?_),rfl,rfl⟩;simp [Hp.upd,show ¬j=cc by omega];try (split<;>rfl)
abbrev x199:XT Tryz.prog 199:=mkF (by unfold C2;conv=>lhs;reduce;simp only [seval,u8n]) (fun h=>by conv=>lhs;cbv)
instance t199:FT Tryz.prog 199 x199.d:=x199.ft
theorem B6g {K H':Hp} {cc b:Nat} (l:List Pb.St) (hK:∀ i,cc<=i->K i=none) (hb0:cc<=b) (hb:H' b=some ⟨7,true,A4 (l.map Pb.St.v)⟩) (h:∀ j,j<cc->H' j=K j) :
  GL H' [.slc b 0 l.length] K [F1 l] :=
 GL.frzS (id:=b) hb rfl (fun j=>by
  by_cases hj:j<cc
  ·exact .inr ⟨by omega,(h j hj).symm⟩
  ·exact .inl (hK j (by omega))) (.cons _ _ _ _ (N7 (u:=7) (by simp) (X5 l) ⟨[],by simp⟩) .nil)
theorem B2v (e:Pb.St):A4 ([e].map Pb.St.v)=[I64 e.kind,.str e.name,.str e.text,H3 e.args,F1 e.thn,F1 e.els,I64 e.pos]:=by
 rw [A0O,Pb.St.v_w];rfl
theorem c_other (L:List Tok) (E:Int) (hL:L.length<=1000000000) (f:Nat)
  (is:∀ d s r,0<=d->d<=100->J6 L E f d s=some r->s.i<=L.length->RdC L E 176 [I64 d] s (r.1.v,r.2))
  (ib:∀ d s r,0<=d->d<=100->G4 L E f d s=some r->s.i<=L.length->RdC L E 141 [I64 d] s (F1 r.1,r.2))
  (d:Int) (s:Rd) (r:List Pb.St × Rd) (hd0:0<=d) (hd:d<=99) (h:N4 L E (f+1) d s=some r) (hi:s.i<=L.length):RdC L E 199 [I64 d] s (F1 r.1,r.2):=by
 intro H cc t ht htc;refine AC.bodyT B1 rfl (A0B rfl) fun hfr=>?_;unfold N4 at h;have hw:IntKind.i64.wrap (d+1)=d+1:=w64 (by omega) (by omega);repeat' ((with_reducible first|refine wr ?_|refine A2 ?_ ?_|fail)<;>try simp only [go_sem,seval])
 refine AC.call (c_is L E s _ _ t ht (by omega) _) ?_;rintro v H' c1 ⟨rfl,rfl⟩ hc1;cases hq:isR L E s [105,102] with
 | true =>
  rw [if_pos hq] at h;cases hs:J6 L E f (d+1) s with
  | none=>rw [hs] at h;cases h
  | some q =>
   obtain ⟨x,s1⟩:=q;rw [hs] at h;cases h;simp only [go_sem,seval,hq];repeat' ((with_reducible first|refine wr ?_|refine A2 ?_ ?_|fail)<;>try simp only [go_sem,seval,hq,hw])
   refine AC.call (is (d+1) s (x,s1) (by omega) (by omega) hs hi _ _ t ht (by omega)) ?_;rintro v H' c2 ⟨rfl,rfl⟩ hc2;dsimp only;simp only [go_sem,seval,Pb.St.v_w];repeat' ((with_reducible first|refine wr ?_|refine A2 ?_ ?_|fail)<;>try simp only [go_sem,seval])
   exact ⟨_,_,B6g (cc:=cc) [x] (C0 hfr htc) (by omega) (by rw [B2v];exact A0) (fun j hj=>by rw [A3 (by omega)]),rfl,rfl⟩
 | false =>
  rw [if_neg (by simp [hq])] at h;simp only [go_sem,seval,hq];repeat' ((with_reducible first|refine wr ?_|refine A2 ?_ ?_|fail)<;>try simp only [go_sem,seval,hq,hw])
  refine AC.call (ib (d+1) s r (by omega) (by omega) h hi _ _ t ht (by omega)) ?_;rintro v H' c2 ⟨rfl,rfl⟩ hc2;simp only [go_sem,seval];repeat' ((with_reducible first|refine wr ?_|refine A2 ?_ ?_|fail)<;>try simp only [go_sem,seval])
  exact ⟨_,_,GL.refl _ _,rfl,rfl⟩
theorem A8p {K H':Hp} {cc:Nat} {o:Option Nat} (l:List Pb.St) (hK:∀ i,cc<=i->K i=none) (ho:∀ i,o=some i->cc<=i) (hno:o=none->l=[]) (hb:∀ i,o=some i->H' i=some ⟨7,true,A4 (l.map Pb.St.v)⟩) (h:∀ j,j<cc->H' j=K j) :
  GL H' [B6 o l.length] K [F1 l]:=by
 cases o with
 | none =>
  obtain rfl:=hno rfl;exact (I5 hK h).trans (GL.view fun ρ vs hA=>N8 (fun v h=>h.snil_lst) vs hA)
 | some b=>exact B6g l hK (ho b rfl) (hb b rfl) h
theorem c_block (L:List Tok) (E:Int) (hL:L.length<=1000000000) (f:Nat)
  (is:∀ g,g<=f->∀ d s r,0<=d->d<=100->J6 L E g d s=some r->s.i<=L.length->RdC L E 176 [I64 d] s (r.1.v,r.2))
  (d:Int) (s:Rd) (r:List Pb.St × Rd) (hd0:0<=d) (hd:d<=100) (h:G4 L E (f+1) d s=some r) (hi:s.i<=L.length):RdC L E 141 [I64 d] s (F1 r.1,r.2):=by
 intro H cc t ht htc;refine AC.bodyT B1 rfl (A0B rfl) fun hfr=>?_;unfold G4 at h;repeat' ((with_reducible first|refine wr ?_|refine A2 ?_ ?_|fail)<;>try simp only [go_sem,seval])
 refine AC.call (c_expect L E s _ _ t ht (by omega) (by omega) _) ?_;rintro v H' c1 ⟨rfl,rfl⟩ hc1;simp only [go_sem,seval];repeat' ((with_reducible first|refine wr ?_|refine A2 ?_ ?_|fail)<;>try simp only [go_sem,seval])
 refine D8 (fun q:Nat × Option Nat × List Pb.St × Rd=>[(0,.ptr t 0),(1,I64 d),(5,B6 q.2.1 q.2.2.1.length)]) (fun q=>C5 (H.upd t (rdR L E q.2.2.2)) q.2.1 ⟨7,true,A4 (q.2.2.1.map Pb.St.v)⟩)
  (fun q c=>cc<=c/\q.1<=f/\q.2.2.2.i<=L.length/\(q.2.1=none->q.2.2.1=[])/\(∀ i,q.2.1=some i->cc<=i/\i<c)/\q.2.2.1.length<=65/\(okR q.2.2.2=true->q.2.2.1.length<=64)/\K6 L E q.1 d q.2.2.1 q.2.2.2=some r) (fun q=>q.1) (f,none,[],D6 L E s [123])
  (by simp [C9,tm,Tm.upd,B6]) (Sub.refl _) ⟨hc1,A0E _,L9 hi,fun _=>rfl,(fun i hi=>by cases hi),by simp,fun _=>by simp,h⟩ ?_
 clear h hi;rintro ⟨g,o,l,u⟩ c ⟨hc,hg,hi,hno,ho,hl1,hl2,hv⟩;dsimp only at hc hg hi hno ho hl1 hl2 hv ⊢;have hHt:C5 (H.upd t (rdR L E u)) o ⟨7,true,A4 (l.map Pb.St.v)⟩ t=some (rdR L E u):=by rw [D2 (fun i hi=>by have:=ho i hi;omega),A0]
 have hfin:∀ (z:Rd) (j:Nat),j<cc->((C5 (H.upd t (rdR L E u)) o ⟨7,true,A4 (l.map Pb.St.v)⟩).upd t (rdR L E z)) j=(H.upd t (rdR L E z)) j:=fun z j hj=>by
  by_cases ej:j=t
  ·subst ej;rw [A0,A0]
  ·rw [A3 ej,A3 ej,D2 (fun i hi=>by have:=ho i hi;omega),A3 ej]
 have hbo:∀ (z:Rd) (i:Nat),o=some i->((C5 (H.upd t (rdR L E u)) o ⟨7,true,A4 (l.map Pb.St.v)⟩).upd t (rdR L E z)) i=some ⟨7,true,A4 (l.map Pb.St.v)⟩:=fun z i hi=>by
  have:=ho i hi;rw [A3 (by omega)];subst hi;exact A0
 cases g with
 | zero=>simp [K6] at hv
 | succ g =>
 unfold K6 at hv;repeat' ((with_reducible first|refine wr ?_|refine A2 ?_ ?_|fail)<;>try simp only [go_sem,seval])
 refine AC.call (c_rdok L E u _ _ t hHt (by omega)) ?_;rintro v H' c2 ⟨rfl,rfl⟩ hc2;cases hok:okR u with
 | false =>
  rw [if_neg (by simp [hok])] at hv;cases hv;simp only [go_sem,seval,hok];repeat' ((with_reducible first|refine wr ?_|refine A2 ?_ ?_|fail)<;>try simp only [go_sem,seval,hok])
  refine AC.call (c_expect L E u _ _ t hHt (by omega) (by omega) _) ?_;rintro v H' c3 ⟨rfl,rfl⟩ hc3;simp only [go_sem,seval];repeat' ((with_reducible first|refine wr ?_|refine A2 ?_ ?_|fail)<;>try simp only [go_sem,seval])
  exact ⟨_,_,A8p (cc:=cc) l (C0 hfr htc) (fun i hi=>(ho i hi).1) hno (hbo _) (hfin _),rfl,rfl⟩
 | true =>
  simp only [go_sem,seval,hok];repeat' ((with_reducible first|refine wr ?_|refine A2 ?_ ?_|fail)<;>try simp only [go_sem,seval,hok])
  refine AC.call (c_is L E u _ _ t hHt (by omega) _) ?_;rintro v H' c3 ⟨rfl,rfl⟩ hc3;cases hq:isR L E u [125] with
  | true =>
   rw [if_neg (by simp [hq])] at hv;cases hv;simp only [go_sem,seval,hq];repeat' ((with_reducible first|refine wr ?_|refine A2 ?_ ?_|fail)<;>try simp only [go_sem,seval,hq])
   refine AC.call (c_expect L E u _ _ t hHt (by omega) (by omega) _) ?_;rintro v H' c4 ⟨rfl,rfl⟩ hc4;simp only [go_sem,seval];repeat' ((with_reducible first|refine wr ?_|refine A2 ?_ ?_|fail)<;>try simp only [go_sem,seval])
   exact ⟨_,_,A8p (cc:=cc) l (C0 hfr htc) (fun i hi=>(ho i hi).1) hno (hbo _) (hfin _),rfl,rfl⟩
  | false =>
   rw [if_pos ⟨hok,hq⟩] at hv;simp only [go_sem,seval,hq];repeat' ((with_reducible first|refine wr ?_|refine cpc c_stmts31 ?_|refine A2 ?_ ?_|fail)<;>try simp only [go_sem,seval,hq])
   refine AC.call (c_among L E u _ _ t hHt (by omega) B7 (by decide)) ?_;rintro v H' c4 ⟨rfl,rfl⟩ hc4;generalize B9 L E u B7=k at hv;have hlen:A5z (B6 o l.length)=some (I64 l.length):=by
    cases o with
    | none=>rw [hno rfl];rfl
    | some b=>rfl
   have hwl:IntKind.i64.wrap ((l.length:Int)+1)=(l.length:Int)+1:=w64 (by omega) (by omega);by_cases hsy:k<0/\G7 L E u 1=false
   ·rw [if_pos hsy] at hv;cases hv;have hdk:decide (k<0)=true:=by simpa using hsy.1
    have h1:=hsy.2;simp only [go_sem,seval,hdk];repeat' ((with_reducible first|refine wr ?_|refine A2 ?_ ?_|fail)<;>try simp only [go_sem,seval,hdk])
    refine AC.call (c_isKind L E u _ _ t hHt (by omega) 1) ?_;rintro v H' c5 ⟨rfl,rfl⟩ hc5;simp only [go_sem,seval,h1];repeat' ((with_reducible first|refine wr ?_|refine A2 ?_ ?_|fail)<;>try simp only [go_sem,seval,h1])
    refine AC.call (c_syntax L E u _ _ t hHt (by omega)) ?_;rintro v H' c6 ⟨rfl,rfl⟩ hc6;simp only [go_sem,seval];repeat' ((with_reducible first|refine wr ?_|refine A2 ?_ ?_|fail)<;>try simp only [go_sem,seval])
    exact ⟨_,_,(I5 (cc:=cc) (C0 hfr htc) (hfin _)).trans (GL.view fun ρ vs hA=>N8 (fun v h=>h.snil_lst) vs hA),rfl,rfl⟩
   rw [if_neg hsy] at hv;cases hs:J6 L E g d (C7 L E u ((l.length:Int)+1) 64 9) with
   | none=>rw [hs] at hv;cases hv
   | some q =>
   obtain ⟨x,s1⟩:=q;rw [hs] at hv;dsimp only at hv;have hix:=(II.all g).2.2.1 _ _ _ hs (by rw [G9];exact hi);have hnok:=C8w hs;have hll:=hl2 hok;have hlk:okR s1=true->l.length+1<=64:=fun h=>by
    cases hz:okR (C7 L E u ((l.length:Int)+1) 64 9) with
    | false=>rw [hnok hz] at h;cases h
    | true=>have:=(I1 (by decide) hz).2.1;omega
   rcases (show ¬ k<0\/(k<0/\G7 L E u 1=true) by
    by_cases hk:k<0
    ·exact .inr ⟨hk,by cases h1:G7 L E u 1 with|true=>rfl|false=>exact absurd ⟨hk,h1⟩ hsy⟩
    ·exact .inl hk) with hk|⟨hk,h1⟩
   case' inl =>
    have hdk:decide (k<0)=false:=by simpa using hk
    simp only [go_sem,seval,hdk];repeat' ((with_reducible first|refine F9 (p:=IW _ _ (pz Tryz.prog 141 (.i (.i (.o (.i .h))))) _ _) ?_|refine wr ?_|refine A2 ?_ ?_|fail)<;>try simp only [go_sem,seval,hdk])
    obtain ⟨c5,hc5,e5⟩:∃ c5,c4<=c5/\c5=c4:=⟨c4,A0E _,rfl⟩;rw [<- e5];clear e5 hdk hk
   case' inr =>
    have hdk:decide (k<0)=true:=by simpa using hk
    simp only [go_sem,seval,hdk];repeat' ((with_reducible first|refine wr ?_|refine A2 ?_ ?_|fail)<;>try simp only [go_sem,seval,hdk])
    refine AC.call (c_isKind L E u _ _ t hHt (by omega) 1) ?_;rintro v H' c5 ⟨rfl,rfl⟩ hc5;simp only [go_sem,seval,h1];repeat' ((with_reducible first|refine F9 (p:=IW _ _ (pz Tryz.prog 141 (.i (.i (.o (.i .h))))) _ _) ?_|refine wr ?_|refine A2 ?_ ?_|fail)<;>try simp only [go_sem,seval,h1])
    clear hdk hk h1
   all_goals
    unfold X3;repeat' ((with_reducible first|refine wr ?_|refine A2 ?_ ?_|fail)<;>try simp only [go_sem,seval,hlen,hwl])
    refine AC.call (c_limit L E u _ _ t hHt (by omega) _ _ _) ?_;rintro v H' c6 ⟨rfl,rfl⟩ hc6;simp only [go_sem,seval];repeat' ((with_reducible first|refine wr ?_|refine A2 ?_ ?_|fail)<;>try simp only [go_sem,seval])
    refine AC.call (is g (by omega) d _ (x,s1) hd0 hd hs (by rw [G9];exact hi) _ _ t A0 (by omega)) ?_;rintro v H' c7 ⟨rfl,rfl⟩ hc7;dsimp only;have ne0:=O0 t c7 (c7+1) (by omega);simp only [go_sem,seval,ne0,A1,Pb.St.v_w];repeat' ((with_reducible first|refine wr ?_|refine A2 ?_ ?_|fail)<;>try simp only [go_sem,seval,ne0])
    refine C4 (E6 (cs:=A4 (l.map Pb.St.v)) (fun e=>by rw [hno e];exact ⟨rfl,rfl⟩) (fun i hi=>?_) (by rw [B5 (u:=7) (X5 _)];simp) (by omega) (by omega) (by omega)) ?_
    ·have:=ho i hi;rw [A3 (by omega)];exact hbo _ i hi
    simp only [go_sem,seval,ne0];repeat' ((with_reducible first|refine wr ?_|refine A2 ?_ ?_|fail)<;>try simp only [go_sem,seval,ne0])
    refine ⟨(g,some (c7+1),l++[x],s1),by simp only [A0A,A0F];rfl,?_,inv ⟨by omega,by simp only;omega,hix,(fun h=>by cases h),(fun i hi=>by cases hi;omega),by simp only [A0A,A0F];omega,(fun h=>by have:=hlk h;simp only [A0A,A0F];omega),hv⟩,by simp only;omega⟩;intro jj b hj;simp only [C5] at hj;by_cases e1:jj=c7+1
    ·subst e1;rw [A0] at hj ⊢;rw [<- hj,A0M,C6,B2v]
    ·rw [A3 e1] at hj ⊢;by_cases e2:jj=t
     ·subst e2;rw [A0] at hj;rw [E0 (fun i hi=>by have:=ho i hi;omega),A3 (by omega),A0];exact hj
     ·rw [A3 e2] at hj;have hjc:jj<cc:=Classical.byContradiction fun h=>by rw [hfr jj (by omega)] at hj;cases hj
      rw [E0 (fun i hi=>by have:=ho i hi;omega),A3 (by omega),A3 e2,D2 (fun i hi=>by have:=ho i hi;omega),A3 e2];exact hj
end Go.Proofs.YthlpinppaclofaaGreatDoor
set_option maxHeartbeats 8000000
namespace Go.Proofs.YthlpinppaclofaaGreatDoor
open Go.Eng (IC IOper DReg IFn C2)
open Go.Sym Go.Pb
def NlR (a b:DV):Prop:=b=a\/(a=.snil/\b=.lst [])
theorem NlR.v {ρ : Ren} {v:Value} {a b:DV} (h:NlR a b) (k:VRel ρ a v):VRel ρ b v:=by
 rcases h with rfl|⟨rfl,rfl⟩
 ·exact k
 ·exact k.snil_lst
theorem D2n {ρ : Ren} {v:Value} {a b c d e f g d' e' f':DV} (hd:NlR d d') (he:NlR e e') (hf:NlR f f') (h:VRel ρ (.agg [a,b,c,d,e,f,g]) v):VRel ρ (.agg [a,b,c,d',e',f',g]) v:=by
 obtain ⟨bb,rfl,k1,k2⟩:=h.agg_inv;refine .agg _ _ k1 fun j x y hx hy=>?_
 match j with
 | 0=>cases hx;exact k2 0 _ y rfl hy
 | 1=>cases hx;exact k2 1 _ y rfl hy
 | 2=>cases hx;exact k2 2 _ y rfl hy
 | 3=>cases hx;exact hd.v (k2 3 _ y rfl hy)
 | 4=>cases hx;exact he.v (k2 4 _ y rfl hy)
 | 5=>cases hx;exact hf.v (k2 5 _ y rfl hy)
 | 6=>cases hx;exact k2 6 _ y rfl hy
 | _+7=>cases hx
theorem B3w {K H':Hp} {cc:Nat} {a b c d e f g d' e' f':DV} (hd:NlR d d') (he:NlR e e') (hf:NlR f f') (hK:∀ i,cc<=i->K i=none) (h:∀ j,j<cc->H' j=K j):GL H' [.agg [a,b,c,d,e,f,g]] K [.agg [a,b,c,d',e',f',g]] :=
 (I5 hK h).trans (GL.view fun ρ vs hA=>N8 (fun v h=>D2n hd he hf h) vs hA)
theorem R3 {K H':Hp} {cc i:Nat} {a b c e f g e' f':DV} (l:List Ex) (he:NlR e e') (hf:NlR f f') (hK:∀ i,cc<=i->K i=none) (hi0:cc<=i) (hb:H' i=some ⟨5,true,A4 (l.map Ex.v)⟩) (h:∀ j,j<cc->H' j=K j):GL H' [.agg [a,b,c,.slc i 0 l.length,e,f,g]] K [.agg [a,b,c,H3 l,e',f',g]] :=
 (GL.frzS (id:=i) hb rfl (fun j=>by
  by_cases hj:j<cc
  ·exact .inr ⟨by omega,(h j hj).symm⟩
  ·exact .inl (hK j (by omega))) (.cons _ _ _ _ (.agg _ _ (.cons _ _ _ _ (.same _) (.cons _ _ _ _ (.same _) (.cons _ _ _ _ (.same _) (.cons _ _ _ _ (N7 (u:=5) (by simp) (W0 l) ⟨[],by simp⟩) (.cons _ _ _ _ (.same _) (.cons _ _ _ _ (.same _) (.cons _ _ _ _ (.same _) .nil)))))))) .nil)).trans (GL.view fun ρ vs hA=>N8 (fun v h=>D2n (.inl rfl) he hf h) vs hA)
theorem rv7 {s:Sym.St} {x i u:Nat} {a b c d e f g:DV} {o:Bool} (h:s.T x=.ptr i 0) (hb:s.H i=some ⟨u,o,[a,b,c,d,e,f,g]⟩):A2f s [.cell x 7 true]=some (.agg [a,b,c,d,e,f,g]):=by
 simp only [A2f,A4d,h,ldv,hb];rfl
theorem c_statement (L:List Tok) (E:Int) (hL:L.length<=1000000000) (f:Nat)
  (ib:∀ d s r,0<=d->d<=100->G4 L E f d s=some r->s.i<=L.length->RdC L E 141 [I64 d] s (F1 r.1,r.2))
  (io:∀ d s r,0<=d->d<=99->N4 L E f d s=some r->s.i<=L.length->RdC L E 199 [I64 d] s (F1 r.1,r.2))
  (d:Int) (s0:Rd) (r:Pb.St × Rd) (hd0:0<=d) (hd:d<=100) (h:J6 L E (f+1) d s0=some r) (hi:s0.i<=L.length):RdC L E 176 [I64 d] s0 (r.1.v,r.2):=by
 intro H cc t ht htc;refine AC.bodyT B1 rfl (A0B rfl) fun hfr=>?_;unfold J6 at h;dsimp only at h;repeat' ((with_reducible first|refine wr ?_|refine A2 ?_ ?_|fail)<;>try simp only [go_sem,seval])
 refine AC.call (c_limit L E s0 _ _ t (by rw [A3 (by omega)];exact ht) (by omega) _ _ _) ?_;rintro v H' c1 ⟨rfl,rfl⟩ hc1;have his:(C7 L E s0 d 8 50).i<=L.length:=by rw [G9];exact hi
 generalize hsq:C7 L E s0 d 8 50=s at *;have ne0:=A2i t cc (by omega);simp only [go_sem,seval];repeat' ((with_reducible first|refine wr ?_|refine A2 ?_ ?_|fail)<;>try simp only [go_sem,seval])
 refine AC.call (c_rdok L E s _ _ t A0 (by omega)) ?_;rintro v H' c2 ⟨rfl,rfl⟩ hc2;cases hok:okR s with
 | false =>
  rw [if_pos hok] at h;cases h;simp only [go_sem,seval,hok];repeat' ((with_reducible first|refine wr ?_|refine A2 ?_ ?_|fail)<;>try simp only [go_sem,seval,hok,ne0,A0,A1])
  rw [D9 (rv7 rfl A0)];refine ⟨_,_,B3w (cc:=cc) (.inr ⟨rfl,rfl⟩) (.inr ⟨rfl,rfl⟩) (.inr ⟨rfl,rfl⟩) (C0 hfr htc) (fun j hj=>?_),rfl,rfl⟩;simp [Hp.upd,show ¬j=cc by omega]
 | true =>
  rw [if_neg (by simp [hok])] at h;have hd8:d<=8:=by rw [<- hsq] at hok;exact (I1 (by decide) hok).2.1
  simp only [go_sem,seval,hok];repeat' ((with_reducible first|refine wr ?_|refine A2 ?_ ?_|fail)<;>try simp only [go_sem,seval,hok])
  refine AC.call (c_peek L E s _ _ t A0 (by omega)) ?_;rintro v H' c3 ⟨rfl,rfl⟩ hc3;have ne0:=O0 t cc c3 (by omega);simp only [go_sem,seval,ne0];repeat' ((with_reducible first|refine wr ?_|refine cpc c_stmts31 ?_|refine A2 ?_ ?_|fail)<;>try simp only [go_sem,seval,ne0,A0,A1])
  refine AC.call (c_among L E s _ _ t (by rw [A3 (by omega)];exact A0) (by omega) B7 (by decide)) ?_;rintro v H' c4 ⟨rfl,rfl⟩ hc4;have hkr : -1<=B9 L E s B7/\B9 L E s B7<18:=A1z L E s B7 0;have hnn:0<=B9 L E s B7->s.i<L.length:=fun h=>(H8 h).2.1;generalize B9 L E s B7=k at h hkr hnn;generalize (A7 L E s).pos=p at h ⊢;have hti:=K7 (E:=E) (x:=1) (by decide) his;by_cases hk:k<0
  ·rw [if_pos hk] at h;have hdk:decide (k<0)=true:=by simpa using hk
   cases hz5:H4 L E f (D6 L E (A9 L E s 1).2 [61]) with
   | none=>rw [hz5] at h;cases h
   | some qhz5 =>
    obtain ⟨e,s1⟩:=qhz5;rw [hz5] at h;dsimp only at h;cases h;simp only [go_sem,seval,hdk,ne0,A0,A1];repeat' ((with_reducible first|refine wr ?_|refine A2 ?_ ?_|fail)<;>try simp only [go_sem,seval,hdk,ne0,A0,A1])
    refine AC.call (c_name L E s _ _ t (by repeat (first|exact A0|rw [A3 (by omega)]|rw [D5 (by omega)])) (by omega) (by have:=his;omega)) ?_;rintro v H' c6 ⟨rfl,rfl⟩ hc6;try dsimp only
    simp only [go_sem,seval,ne0,A0,A1];repeat' ((with_reducible first|refine wr ?_|refine A2 ?_ ?_|fail)<;>try simp only [go_sem,seval,ne0,A0,A1])
    refine AC.call (c_expect L E (A9 L E s 1).2 _ _ t (by repeat (first|exact A0|rw [A3 (by omega)]|rw [D5 (by omega)])) (by omega) (by have:=hti;omega) _) ?_;rintro v H' c7 ⟨rfl,rfl⟩ hc7;try dsimp only
    simp only [go_sem,seval,ne0,A0,A1];repeat' ((with_reducible first|refine wr ?_|refine A2 ?_ ?_|fail)<;>try simp only [go_sem,seval,ne0,A0,A1])
    refine AC.call (c_expression L E hL f (D6 L E (A9 L E s 1).2 [61]) (e,s1) hz5 (L9 hti) _ _ t (by repeat (first|exact A0|rw [A3 (by omega)]|rw [D5 (by omega)])) (by omega)) ?_;rintro v H' c8 ⟨rfl,rfl⟩ hc8;have ne0:=V4 t cc c3 c8 (by omega);try dsimp only
    simp only [go_sem,seval,Ex.v_w,ne0,A0,A1];repeat' ((with_reducible first|refine wr ?_|refine A2 ?_ ?_|fail)<;>try simp only [go_sem,seval,ne0,A0,A1])
    have h1i:=U1 hz5 (L9 hti);dsimp only at h1i;refine AC.call (c_expect L E s1 _ _ t (by repeat (first|exact A0|rw [A3 (by omega)]|rw [D5 (by omega)])) (by omega) (by have:=h1i;omega) _) ?_;rintro v H' c9 ⟨rfl,rfl⟩ hc9;try dsimp only
    simp only [go_sem,seval,ne0,A0,A1];repeat' ((with_reducible first|refine wr ?_|refine A2 ?_ ?_|fail)<;>try simp only [go_sem,seval,ne0,A0,A1])
    rw [D9 (rv7 rfl A0)];refine ⟨_,_,R3 (cc:=cc) (i:=c8) [e] (.inr ⟨rfl,rfl⟩) (.inr ⟨rfl,rfl⟩) (C0 hfr htc) (by omega) ?_ (fun j hj=>?_),(by first|rfl|(rw [Pb.St.v_w];done)|(rw [Pb.St.v_w];rfl)),rfl⟩
    ·rw [V2];dsimp only
     repeat (first|exact A0|rw [A3 (by omega)]|rw [D5 (by omega)])
    simp [Hp.upd,Hp.del,show ¬j=cc by omega,show ¬j=c3 by omega,show ¬j=c8 by omega];try (split<;>rfl)
  rw [if_neg hk] at h;have hdk:decide (k<0)=false:=by simpa using hk
  have hw2:IntKind.i64.wrap ((s.i:Int)+1)=((s.i+1:Nat):Int):=by rw [w64 (by omega) (by omega)];omega
  have hwk:IntKind.i64.wrap (2+k)=2+k:=w64 (by omega) (by omega);have hwd:IntKind.i64.wrap (d+1)=d+1:=w64 (by omega) (by omega);have hn:(A8 s).i<=L.length:=hnn (by omega);simp only [go_sem,seval,hdk,ne0,A0,A1];have u2:IntKind.i64.wrap 2=2:=w64 (by omega) (by omega);have u3:IntKind.i64.wrap 3=3:=w64 (by omega) (by omega);have u4:IntKind.i64.wrap 4=4:=w64 (by omega) (by omega);have u8:IntKind.i64.wrap 8=8:=w64 (by omega) (by omega);have u9:IntKind.i64.wrap 9=9:=w64 (by omega) (by omega);have u10:IntKind.i64.wrap 10=10:=w64 (by omega) (by omega);have u18:IntKind.i64.wrap 18=18:=w64 (by omega) (by omega);have u19:IntKind.i64.wrap 19=19:=w64 (by omega) (by omega);by_cases hb:k=0\/k=1
  ·rw [if_pos hb] at h;cases hz10:H4 L E f (A8 s) with
   | none=>rw [hz10] at h;cases h
   | some qhz10 =>
    obtain ⟨e,s2⟩:=qhz10;rw [hz10] at h;dsimp only at h;cases hz11:G4 L E f (d+1) s2 with
    | none=>rw [hz11] at h;cases h
    | some qhz11 =>
     obtain ⟨tt,s3⟩:=qhz11;rw [hz11] at h;dsimp only at h;have h2i:=U1 hz10 hn;dsimp only at h2i;have h3i:=(II.all f).1 _ _ _ hz11 h2i;dsimp only at h3i;have hw3:IntKind.i64.wrap ((s3.i:Int)+1)=((s3.i+1:Nat):Int):=by rw [w64 (by omega) (by omega)];omega
     rcases hb with rfl|rfl
     ·repeat' ((with_reducible first|refine wr ?_|refine A2 ?_ ?_|fail)<;>try simp only [go_sem,seval,hdk,hw2,hwk,u2,u3,u4,u8,u9,u10,u18,u19,ne0,A0,A1])
      refine AC.call (c_expression L E hL f (A8 s) (e,s2) hz10 (hn) _ _ t (by repeat (first|exact A0|rw [A3 (by omega)]|rw [D5 (by omega)])) (by omega)) ?_;rintro v H' c12 ⟨rfl,rfl⟩ hc12;have ne0:=V4 t cc c3 c12 (by omega);try dsimp only
      simp only [go_sem,seval,Ex.v_w,ne0,A0,A1];repeat' ((with_reducible first|refine wr ?_|refine A2 ?_ ?_|fail)<;>try simp only [go_sem,seval,ne0,A0,A1])
      try simp only [hwd]
      refine AC.call (ib (d+1) s2 (tt,s3) (by omega) (by omega) hz11 h2i _ _ t (by repeat (first|exact A0|rw [A3 (by omega)]|rw [D5 (by omega)])) (by omega)) ?_;rintro v H' c13 ⟨rfl,rfl⟩ hc13;try dsimp only
      simp only [go_sem,seval,ne0,A0,A1];repeat' ((with_reducible first|refine wr ?_|refine A2 ?_ ?_|fail)<;>try simp only [go_sem,seval,ne0,A0,A1])
      refine AC.call (c_is L E s3 _ _ t (by repeat (first|exact A0|rw [A3 (by omega)]|rw [D5 (by omega)])) (by omega) _) ?_;rintro v H' c14 ⟨rfl,rfl⟩ hc14;cases hq:isR L E s3 [101,108,115,101] with
      | true =>
       rw [if_pos ⟨rfl,hq⟩] at h;cases hz15:N4 L E f d (A8 s3) with
       | none=>rw [hz15] at h;cases h
       | some qhz15 =>
        obtain ⟨oo,s4⟩:=qhz15;rw [hz15] at h;dsimp only at h;cases h;simp only [go_sem,seval,hq,hw3,ne0,A0,A1];repeat' ((with_reducible first|refine wr ?_|refine A2 ?_ ?_|fail)<;>try simp only [go_sem,seval,hq,hw3,ne0,A0,A1])
        refine AC.call (io d (A8 s3) (oo,s4) hd0 (by omega) hz15 (Z3 hq).2 _ _ t (by repeat (first|exact A0|rw [A3 (by omega)]|rw [D5 (by omega)])) (by omega)) ?_;rintro v H' c16 ⟨rfl,rfl⟩ hc16;try dsimp only
        simp only [go_sem,seval,ne0,A0,A1];repeat' ((with_reducible first|refine wr ?_|refine A2 ?_ ?_|fail)<;>try simp only [go_sem,seval,ne0,A0,A1])
        rw [D9 (rv7 rfl A0)];refine ⟨_,_,R3 (cc:=cc) (i:=c12) [e] (.inl rfl) (.inl rfl) (C0 hfr htc) (by omega) ?_ (fun j hj=>?_),(by first|rfl|(rw [Pb.St.v_w];done)|(rw [Pb.St.v_w];rfl)),rfl⟩
        ·rw [V2];dsimp only
         repeat (first|exact A0|rw [A3 (by omega)]|rw [D5 (by omega)])
        simp [Hp.upd,Hp.del,show ¬j=cc by omega,show ¬j=c3 by omega,show ¬j=c12 by omega];try (split<;>rfl)
      | false =>
       rw [if_neg (by simp [hq])] at h;cases h;simp only [go_sem,seval,hq,ne0,A0,A1];repeat' ((with_reducible first|refine wr ?_|refine A2 ?_ ?_|fail)<;>try simp only [go_sem,seval,hq,ne0,A0,A1])
       rw [D9 (rv7 rfl A0)];refine ⟨_,_,R3 (cc:=cc) (i:=c12) [e] (.inl rfl) (.inr ⟨rfl,rfl⟩) (C0 hfr htc) (by omega) ?_ (fun j hj=>?_),(by first|rfl|(rw [Pb.St.v_w];done)|(rw [Pb.St.v_w];rfl)),rfl⟩
       ·rw [V2];dsimp only
        repeat (first|exact A0|rw [A3 (by omega)]|rw [D5 (by omega)])
       simp [Hp.upd,Hp.del,show ¬j=cc by omega,show ¬j=c3 by omega,show ¬j=c12 by omega];try (split<;>rfl)
     ·repeat' ((with_reducible first|refine wr ?_|refine A2 ?_ ?_|fail)<;>try simp only [go_sem,seval,hdk,hw2,hwk,u2,u3,u4,u8,u9,u10,u18,u19,ne0,A0,A1])
      refine AC.call (c_expression L E hL f (A8 s) (e,s2) hz10 (hn) _ _ t (by repeat (first|exact A0|rw [A3 (by omega)]|rw [D5 (by omega)])) (by omega)) ?_;rintro v H' c17 ⟨rfl,rfl⟩ hc17;have ne0:=V4 t cc c3 c17 (by omega);try dsimp only
      simp only [go_sem,seval,Ex.v_w,ne0,A0,A1];repeat' ((with_reducible first|refine wr ?_|refine A2 ?_ ?_|fail)<;>try simp only [go_sem,seval,ne0,A0,A1])
      try simp only [hwd]
      refine AC.call (ib (d+1) s2 (tt,s3) (by omega) (by omega) hz11 h2i _ _ t (by repeat (first|exact A0|rw [A3 (by omega)]|rw [D5 (by omega)])) (by omega)) ?_;rintro v H' c18 ⟨rfl,rfl⟩ hc18;try dsimp only
      simp only [go_sem,seval,ne0,A0,A1];repeat' ((with_reducible first|refine wr ?_|refine A2 ?_ ?_|fail)<;>try simp only [go_sem,seval,ne0,A0,A1])
      rw [if_neg (by simp)] at h;cases h;rw [D9 (rv7 rfl A0)];refine ⟨_,_,R3 (cc:=cc) (i:=c17) [e] (.inl rfl) (.inr ⟨rfl,rfl⟩) (C0 hfr htc) (by omega) ?_ (fun j hj=>?_),(by first|rfl|(rw [Pb.St.v_w];done)|(rw [Pb.St.v_w];rfl)),rfl⟩
      ·rw [V2];dsimp only
       repeat (first|exact A0|rw [A3 (by omega)]|rw [D5 (by omega)])
      simp [Hp.upd,Hp.del,show ¬j=cc by omega,show ¬j=c3 by omega,show ¬j=c17 by omega];try (split<;>rfl)
  rw [if_neg hb] at h;unfold N1 at h;dsimp only at h;by_cases k2:k=2
  ·subst k2;rw [if_pos (by decide)] at h;cases hz19:H4 L E f (A8 s) with
   | none=>rw [hz19] at h;cases h
   | some qhz19 =>
    obtain ⟨e,s1⟩:=qhz19;rw [hz19] at h;dsimp only at h;cases h;have h1i:=U1 hz19 hn;dsimp only at h1i;repeat' ((with_reducible first|refine wr ?_|refine A2 ?_ ?_|fail)<;>try simp only [go_sem,seval,hdk,hw2,hwk,u2,u3,u4,u8,u9,u10,u18,u19,ne0,A0,A1])
    refine AC.call (c_expression L E hL f (A8 s) (e,s1) hz19 (hn) _ _ t (by repeat (first|exact A0|rw [A3 (by omega)]|rw [D5 (by omega)])) (by omega)) ?_;rintro v H' c20 ⟨rfl,rfl⟩ hc20;have ne0:=V4 t cc c3 c20 (by omega);try dsimp only
    simp only [go_sem,seval,Ex.v_w,ne0,A0,A1];repeat' ((with_reducible first|refine wr ?_|refine A2 ?_ ?_|fail)<;>try simp only [go_sem,seval,ne0,A0,A1])
    refine AC.call (c_expect L E s1 _ _ t (by repeat (first|exact A0|rw [A3 (by omega)]|rw [D5 (by omega)])) (by omega) (by have:=h1i;omega) _) ?_;rintro v H' c21 ⟨rfl,rfl⟩ hc21;try dsimp only
    simp only [go_sem,seval,ne0,A0,A1];repeat' ((with_reducible first|refine wr ?_|refine A2 ?_ ?_|fail)<;>try simp only [go_sem,seval,ne0,A0,A1])
    rw [D9 (rv7 rfl A0)];refine ⟨_,_,R3 (cc:=cc) (i:=c20) [e] (.inr ⟨rfl,rfl⟩) (.inr ⟨rfl,rfl⟩) (C0 hfr htc) (by omega) ?_ (fun j hj=>?_),(by first|rfl|(rw [Pb.St.v_w];done)|(rw [Pb.St.v_w];rfl)),rfl⟩
    ·rw [V2];dsimp only
     repeat (first|exact A0|rw [A3 (by omega)]|rw [D5 (by omega)])
    simp [Hp.upd,Hp.del,show ¬j=cc by omega,show ¬j=c3 by omega,show ¬j=c20 by omega];try (split<;>rfl)
  rw [if_neg (by omega)] at h;by_cases k16:k=16
  ·subst k16;rw [if_pos (by decide)] at h;have h4i:=K7 (E:=E) (x:=4) (by decide) hn;cases hz22:H4 L E f (D6 L E (A9 L E (A8 s) 4).2 [44]) with
   | none=>rw [hz22] at h;cases h
   | some qhz22 =>
    obtain ⟨e,s1⟩:=qhz22;rw [hz22] at h;dsimp only at h;cases h;have h1i:=U1 hz22 (L9 h4i);dsimp only at h1i;repeat' ((with_reducible first|refine wr ?_|refine A2 ?_ ?_|fail)<;>try simp only [go_sem,seval,hdk,hw2,hwk,u2,u3,u4,u8,u9,u10,u18,u19,ne0,A0,A1])
    refine AC.call (c_take L E (A8 s) _ _ t (by repeat (first|exact A0|rw [A3 (by omega)]|rw [D5 (by omega)])) (by omega) (by omega) 4) ?_;rintro v H' c23 ⟨rfl,rfl⟩ hc23;try dsimp only
    simp only [go_sem,seval,ne0,A0,A1];repeat' ((with_reducible first|refine wr ?_|refine A2 ?_ ?_|fail)<;>try simp only [go_sem,seval,ne0,A0,A1])
    refine AC.call (c_expect L E (A9 L E (A8 s) 4).2 _ _ t (by repeat (first|exact A0|rw [A3 (by omega)]|rw [D5 (by omega)])) (by omega) (by have:=h4i;omega) _) ?_;rintro v H' c24 ⟨rfl,rfl⟩ hc24;try dsimp only
    simp only [go_sem,seval,ne0,A0,A1];repeat' ((with_reducible first|refine wr ?_|refine A2 ?_ ?_|fail)<;>try simp only [go_sem,seval,ne0,A0,A1])
    refine AC.call (c_expression L E hL f (D6 L E (A9 L E (A8 s) 4).2 [44]) (e,s1) hz22 (L9 h4i) _ _ t (by repeat (first|exact A0|rw [A3 (by omega)]|rw [D5 (by omega)])) (by omega)) ?_;rintro v H' c25 ⟨rfl,rfl⟩ hc25;have ne0:=V4 t cc c3 c25 (by omega);try dsimp only
    simp only [go_sem,seval,Ex.v_w,ne0,A0,A1];repeat' ((with_reducible first|refine wr ?_|refine A2 ?_ ?_|fail)<;>try simp only [go_sem,seval,ne0,A0,A1])
    refine AC.call (c_expect L E s1 _ _ t (by repeat (first|exact A0|rw [A3 (by omega)]|rw [D5 (by omega)])) (by omega) (by have:=h1i;omega) _) ?_;rintro v H' c26 ⟨rfl,rfl⟩ hc26;try dsimp only
    simp only [go_sem,seval,ne0,A0,A1];repeat' ((with_reducible first|refine wr ?_|refine A2 ?_ ?_|fail)<;>try simp only [go_sem,seval,ne0,A0,A1])
    rw [D9 (rv7 rfl A0)];refine ⟨_,_,R3 (cc:=cc) (i:=c25) [e] (.inr ⟨rfl,rfl⟩) (.inr ⟨rfl,rfl⟩) (C0 hfr htc) (by omega) ?_ (fun j hj=>?_),(by first|rfl|(rw [Pb.St.v_w];done)|(rw [Pb.St.v_w];rfl)),rfl⟩
    ·rw [V2];dsimp only
     repeat (first|exact A0|rw [A3 (by omega)]|rw [D5 (by omega)])
    simp [Hp.upd,Hp.del,show ¬j=cc by omega,show ¬j=c3 by omega,show ¬j=c25 by omega];try (split<;>rfl)
  rw [if_neg (by omega)] at h;by_cases k17:k=17
  ·subst k17;rw [if_pos (by decide)] at h;cases h;repeat' ((with_reducible first|refine wr ?_|refine A2 ?_ ?_|fail)<;>try simp only [go_sem,seval,hdk,hw2,hwk,u2,u3,u4,u8,u9,u10,u18,u19,ne0,A0,A1])
   refine AC.call (c_expect L E (A8 s) _ _ t (by repeat (first|exact A0|rw [A3 (by omega)]|rw [D5 (by omega)])) (by omega) (by have:=hn;omega) _) ?_;rintro v H' c27 ⟨rfl,rfl⟩ hc27;try dsimp only
   simp only [go_sem,seval,ne0,A0,A1];repeat' ((with_reducible first|refine wr ?_|refine A2 ?_ ?_|fail)<;>try simp only [go_sem,seval,ne0,A0,A1])
   rw [D9 (rv7 rfl A0)];refine ⟨_,_,B3w (cc:=cc) (.inr ⟨rfl,rfl⟩) (.inr ⟨rfl,rfl⟩) (.inr ⟨rfl,rfl⟩) (C0 hfr htc) (fun j hj=>?_),(by first|rfl|(rw [Pb.St.v_w];done)|(rw [Pb.St.v_w];rfl)),rfl⟩;simp [Hp.upd,Hp.del,show ¬j=cc by omega,show ¬j=c3 by omega];try (split<;>rfl)
  rw [if_neg (by omega)] at h;have hti2:=K7 (E:=E) (x:=1) (by decide) hn;by_cases k7:k=7
  ·subst k7;rw [if_pos (by omega)] at h;cases hz28:H4 L E f (A9 L E (A8 s) 1).2 with
   | none=>rw [hz28] at h;cases h
   | some qhz28 =>
    obtain ⟨e,s1⟩:=qhz28;rw [hz28] at h;dsimp only at h;rw [if_pos (by decide)] at h;have h1i:=U1 hz28 hti2;dsimp only at h1i;cases hz29:H4 L E f (D6 L E s1 [44]) with
    | none=>rw [hz29] at h;cases h
    | some qhz29 =>
     obtain ⟨e2,s2⟩:=qhz29;rw [hz29] at h;dsimp only at h;cases h;have h2i:=U1 hz29 (L9 h1i);dsimp only at h2i;repeat' ((with_reducible first|refine wr ?_|refine A2 ?_ ?_|fail)<;>try simp only [go_sem,seval,hdk,hw2,hwk,u2,u3,u4,u8,u9,u10,u18,u19,ne0,A0,A1])
     refine AC.call (c_name L E (A8 s) _ _ t (by repeat (first|exact A0|rw [A3 (by omega)]|rw [D5 (by omega)])) (by omega) (by have:=hn;omega)) ?_;rintro v H' c30 ⟨rfl,rfl⟩ hc30;try dsimp only
     simp only [go_sem,seval,ne0,A0,A1];repeat' ((with_reducible first|refine wr ?_|refine A2 ?_ ?_|fail)<;>try simp only [go_sem,seval,ne0,A0,A1])
     refine AC.call (c_expression L E hL f (A9 L E (A8 s) 1).2 (e,s1) hz28 (hti2) _ _ t (by repeat (first|exact A0|rw [A3 (by omega)]|rw [D5 (by omega)])) (by omega)) ?_;rintro v H' c31 ⟨rfl,rfl⟩ hc31;have ne0:=V4 t cc c3 c31 (by omega);try dsimp only
     simp only [go_sem,seval,Ex.v_w,ne0,A0,A1];repeat' ((with_reducible first|refine wr ?_|refine A2 ?_ ?_|fail)<;>try simp only [go_sem,seval,ne0,A0,A1])
     refine AC.call (c_expect L E s1 _ _ t (by repeat (first|exact A0|rw [A3 (by omega)]|rw [D5 (by omega)])) (by omega) (by have:=h1i;omega) _) ?_;rintro v H' c32 ⟨rfl,rfl⟩ hc32;try dsimp only
     simp only [go_sem,seval,ne0,A0,A1];repeat' ((with_reducible first|refine wr ?_|refine A2 ?_ ?_|fail)<;>try simp only [go_sem,seval,ne0,A0,A1])
     have hgx:=L9 (E:=E) (x:=[44]) h1i;refine AC.call (c_expression L E hL f (D6 L E s1 [44]) (e2,s2) hz29 (L9 h1i) _ _ t (by repeat (first|exact A0|rw [A3 (by omega)]|rw [D5 (by omega)])) (by omega)) ?_;rintro v H' c33 ⟨rfl,rfl⟩ hc33;have ne0:=P0 t cc c3 c31 (c32+4) (by omega);try dsimp only
     simp only [go_sem,seval,Ex.v_w,ne0,A0,A1];repeat' ((with_reducible first|refine wr ?_|refine A2 ?_ ?_|fail)<;>try simp only [go_sem,seval,ne0,A0,A1])
     refine ⟨?_,?_⟩
     ·and_intros
      all_goals ((repeat rw [A3 (by omega)]);exact hfr _ (by omega))
     have ne0:=B1t t cc c3 c31 (c32+4) c33 (by omega);try simp only [go_sem,seval,K3,D5,U0,ne0,A0,A1]
     repeat' ((with_reducible first|refine wr ?_|refine A2 ?_ ?_|fail)<;>try simp only [go_sem,seval,K3,D5,U0,ne0,A0,A1])
     refine M9 (E1 (by rfl) (by omega) (by omega)) ?_;try simp only [go_sem,seval,D5,U0,ne0,A0,A1]
     repeat' ((with_reducible first|refine wr ?_|refine A2 ?_ ?_|fail)<;>try simp only [go_sem,seval,D5,U0,ne0,A0,A1])
     refine AC.call (c_expect L E s2 _ _ t (by repeat (first|exact A0|rw [A3 (by omega)]|rw [D5 (by omega)])) (by omega) (by have:=h2i;omega) _) ?_;rintro v H' c34 ⟨rfl,rfl⟩ hc34;try dsimp only
     simp only [go_sem,seval,ne0,A0,A1];repeat' ((with_reducible first|refine wr ?_|refine A2 ?_ ?_|fail)<;>try simp only [go_sem,seval,ne0,A0,A1])
     rw [D9 (rv7 rfl A0)];refine ⟨_,_,R3 (cc:=cc) (i:=c33) [e,e2] (.inr ⟨rfl,rfl⟩) (.inr ⟨rfl,rfl⟩) (C0 hfr htc) (by omega) ?_ (fun j hj=>?_),(by first|rfl|(rw [Pb.St.v_w];done)|(rw [Pb.St.v_w];rfl)),rfl⟩
     ·rw [B0o];dsimp only
      repeat (first|exact A0|rw [A3 (by omega)]|rw [D5 (by omega)])
     simp [Hp.upd,Hp.del,show ¬j=cc by omega,show ¬j=c3 by omega,show ¬j=c31 by omega,show ¬j=c32+4 by omega,show ¬j=c33 by omega];try (split<;>rfl)
  by_cases k68:k=6\/k=8
  ·rw [if_pos (by omega)] at h;cases hz35:H4 L E f (A9 L E (A8 s) 1).2 with
   | none=>rw [hz35] at h;cases h
   | some qhz35 =>
    obtain ⟨e,s1⟩:=qhz35;rw [hz35] at h;dsimp only at h;rw [if_neg (by omega)] at h;cases h;have h1i:=U1 hz35 hti2;dsimp only at h1i;rcases k68 with rfl|rfl
    all_goals
     repeat' ((with_reducible first|refine wr ?_|refine A2 ?_ ?_|fail)<;>try simp only [go_sem,seval,hdk,hw2,hwk,u2,u3,u4,u8,u9,u10,u18,u19,ne0,A0,A1])
     refine AC.call (c_name L E (A8 s) _ _ t (by repeat (first|exact A0|rw [A3 (by omega)]|rw [D5 (by omega)])) (by omega) (by have:=hn;omega)) ?_;rintro v H' c36 ⟨rfl,rfl⟩ hc36;try dsimp only
     simp only [go_sem,seval,ne0,A0,A1];repeat' ((with_reducible first|refine wr ?_|refine A2 ?_ ?_|fail)<;>try simp only [go_sem,seval,ne0,A0,A1])
     refine AC.call (c_expression L E hL f (A9 L E (A8 s) 1).2 (e,s1) hz35 (hti2) _ _ t (by repeat (first|exact A0|rw [A3 (by omega)]|rw [D5 (by omega)])) (by omega)) ?_;rintro v H' c37 ⟨rfl,rfl⟩ hc37;have ne0:=V4 t cc c3 c37 (by omega);try dsimp only
     simp only [go_sem,seval,Ex.v_w,ne0,A0,A1];repeat' ((with_reducible first|refine wr ?_|refine A2 ?_ ?_|fail)<;>try simp only [go_sem,seval,ne0,A0,A1])
     refine AC.call (c_expect L E s1 _ _ t (by repeat (first|exact A0|rw [A3 (by omega)]|rw [D5 (by omega)])) (by omega) (by have:=h1i;omega) _) ?_;rintro v H' c38 ⟨rfl,rfl⟩ hc38;try dsimp only
     simp only [go_sem,seval,ne0,A0,A1];repeat' ((with_reducible first|refine wr ?_|refine A2 ?_ ?_|fail)<;>try simp only [go_sem,seval,ne0,A0,A1])
     rw [D9 (rv7 rfl A0)];refine ⟨_,_,R3 (cc:=cc) (i:=c37) [e] (.inr ⟨rfl,rfl⟩) (.inr ⟨rfl,rfl⟩) (C0 hfr htc) (by omega) ?_ (fun j hj=>?_),(by first|rfl|(rw [Pb.St.v_w];done)|(rw [Pb.St.v_w];rfl)),rfl⟩
     ·rw [V2];dsimp only
      repeat (first|exact A0|rw [A3 (by omega)]|rw [D5 (by omega)])
     simp [Hp.upd,Hp.del,show ¬j=cc by omega,show ¬j=c3 by omega,show ¬j=c37 by omega];try (split<;>rfl)
  rw [if_neg (by omega)] at h;cases h;have e2:(2+k == 2)=false:=by simp;omega
  have e3:(2+k == 3)=false:=by simp;omega
  have e4:(2+k == 4)=false:=by simp;omega
  have e18:(2+k == 18)=false:=by simp;omega
  have e19:(2+k == 19)=false:=by simp;omega
  have e8:(2+k == 8)=false:=by simp;omega
  have e9:(2+k == 9)=false:=by simp;omega
  have e10:(2+k == 10)=false:=by simp;omega
  repeat' ((with_reducible first|refine wr ?_|refine A2 ?_ ?_|fail)<;>try simp only [go_sem,seval,hdk,hw2,hwk,u2,u3,u4,u8,u9,u10,u18,u19,e2,e3,e4,e18,e19,e8,e9,e10,ne0,A0,A1])
  refine AC.call (c_name L E (A8 s) _ _ t (by repeat (first|exact A0|rw [A3 (by omega)]|rw [D5 (by omega)])) (by omega) (by have:=hn;omega)) ?_;rintro v H' c39 ⟨rfl,rfl⟩ hc39;try dsimp only
  simp only [go_sem,seval,e8,e9,e10,ne0,A0,A1];repeat' ((with_reducible first|refine wr ?_|refine A2 ?_ ?_|fail)<;>try simp only [go_sem,seval,e8,e9,e10,ne0,A0,A1])
  refine AC.call (c_expect L E (A9 L E (A8 s) 1).2 _ _ t (by repeat (first|exact A0|rw [A3 (by omega)]|rw [D5 (by omega)])) (by omega) (by have:=hti2;omega) _) ?_;rintro v H' c40 ⟨rfl,rfl⟩ hc40;try dsimp only
  simp only [go_sem,seval,ne0,A0,A1];repeat' ((with_reducible first|refine wr ?_|refine A2 ?_ ?_|fail)<;>try simp only [go_sem,seval,ne0,A0,A1])
  rw [D9 (rv7 rfl A0)];refine ⟨_,_,B3w (cc:=cc) (.inr ⟨rfl,rfl⟩) (.inr ⟨rfl,rfl⟩) (.inr ⟨rfl,rfl⟩) (C0 hfr htc) (fun j hj=>?_),(by first|rfl|(rw [Pb.St.v_w];done)|(rw [Pb.St.v_w];rfl)),rfl⟩;simp [Hp.upd,Hp.del,show ¬j=cc by omega,show ¬j=c3 by omega];try (split<;>rfl)
end Go.Proofs.YthlpinppaclofaaGreatDoor
set_option maxHeartbeats 4000000
namespace Go.Proofs.YthlpinppaclofaaGreatDoor
open Go.Eng (IC IOper DReg IFn C2)
open Go.Sym Go.Pb
theorem c_stm (L:List Tok) (E:Int) (hL:L.length<=1000000000):∀ f:Nat,
  (∀ d s r,0<=d->d<=100->J6 L E f d s=some r->s.i<=L.length->RdC L E 176 [I64 d] s (r.1.v,r.2)) /\
  (∀ d s r,0<=d->d<=100->G4 L E f d s=some r->s.i<=L.length->RdC L E 141 [I64 d] s (F1 r.1,r.2)) /\
  (∀ d s r,0<=d->d<=99->N4 L E f d s=some r->s.i<=L.length->RdC L E 199 [I64 d] s (F1 r.1,r.2)):=by
 intro f
 induction f using Nat.strongRecOn with
 | _ f ih =>
  cases f with
  | zero=>exact ⟨fun d s r _ _ h=>by simp [J6] at h,fun d s r _ _ h=>by simp [G4] at h,fun d s r _ _ h=>by simp [N4] at h⟩
  | succ f =>
   have i0:=ih f (by omega);exact ⟨fun d s r h1 h2 h hi=>c_statement L E hL f i0.2.1 i0.2.2 d s r h1 h2 h hi,
    fun d s r h1 h2 h hi=>c_block L E hL f (fun g hg=>(ih g (by omega)).1) d s r h1 h2 h hi,
    fun d s r h1 h2 h hi=>c_other L E hL f i0.1 i0.2.1 d s r h1 h2 h hi⟩
theorem c_declaration (L:List Tok) (E:Int) (s:Rd) (H:Hp) (cc t:Nat) (ht:H t=some (rdR L E s)) (htc:t<cc) (hL:L.length<=1000000000) (hv:∀ x∈L,0<=x.value/\x.value<=9223372036854775807) (k:Int) (hk0:0<=k) (hk:k<8) (hi:s.i<L.length):AC Tryz.prog 87 [.ptr t 0,I64 k] H cc (fun v H' c'=>v=(Q9 L E k s).1.v/\H'=H.upd t (rdR L E (Q9 L E k s).2)):=by
 refine AC.bodyT B1 rfl (A0B rfl) fun hfr=>?_;have hwk:IntKind.i64.wrap (1+k)=1+k:=w64 (by omega) (by omega);have hw:IntKind.i64.wrap ((s.i:Int)+1)=((s.i+1:Nat):Int):=by rw [w64 (by omega) (by omega)];omega
 have hn:(A8 s).i<=L.length:=hi;have hti:=K7 (E:=E) (x:=1) (by decide) hn;repeat' ((with_reducible first|refine wr ?_|refine A2 ?_ ?_|fail)<;>try simp only [go_sem,seval])
 refine AC.call (c_peek L E s _ _ t (by rw [A3 (by omega)];exact ht) (by omega)) ?_;rintro v H' c1 ⟨rfl,rfl⟩ hc1;have ne0:=O0 t cc c1 (by omega);simp only [go_sem,seval,ne0,hwk];repeat' ((with_reducible first|refine wr ?_|refine A2 ?_ ?_|fail)<;>try simp only [go_sem,seval,ht,hw,hwk,ne0,A0,A1])
 refine AC.call (c_name L E (A8 s) _ _ t (by repeat (first|exact A0|rw [A3 (by omega)])) (by omega) (by omega)) ?_;rintro v H' c2 ⟨rfl,rfl⟩ hc2;have hval:∀ z,0<=(A9 L E z 3).1.value/\(A9 L E z 3).1.value<=9223372036854775807:=fun z=>by
  unfold A9;split
  ·exact ⟨A2X 0,(by decide:(0:Int)<=9223372036854775807)⟩
  ·show 0<=(A7 L E z).value/\(A7 L E z).value<=9223372036854775807;unfold A7;rw [A0T];cases hg:L[z.i]? with
   | none=>exact ⟨A2X 0,(by decide:(0:Int)<=9223372036854775807)⟩
   | some x=>exact hv x (A0W hg)
 obtain ⟨D,hD⟩:∃ D,D=Q9 L E k s:=⟨_,rfl⟩;rw [<- hD];unfold Q9 at hD;dsimp only at hD;generalize (A7 L E s).pos=p at hD ⊢;generalize (A9 L E (A8 s) 1).1.text=n at hD ⊢;generalize (A9 L E (A8 s) 1).2=s2 at hD hti ⊢;by_cases h6:k+1<=6
 ·rw [if_pos h6] at hD;have hd6:decide (1+k<=6)=true:=by simp;omega
  have hw2:IntKind.i64.wrap ((s2.i:Int)+1)=((s2.i+1:Nat):Int):=by rw [w64 (by omega) (by omega)];omega
  by_cases h5:k=5
  ·subst h5;simp only [go_sem,seval,hd6,ne0,A0,A1];repeat' ((with_reducible first|refine wr ?_|refine A2 ?_ ?_|fail)<;>try simp only [go_sem,seval,hd6,ne0,A0,A1])
   refine AC.call (c_is L E s2 _ _ t (by repeat (first|exact A0|rw [A3 (by omega)])) (by omega) _) ?_;rintro v H' c3 ⟨rfl,rfl⟩ hc3;cases hq:isR L E s2 [45] with
   | true =>
    rw [hq] at hD;have hn2:(A8 s2).i<=L.length:=(Z3 hq).2;have hv2:=hval (A8 s2);have hneg:IntKind.i64.wrap (0-(A9 L E (A8 s2) 3).1.value) = -(A9 L E (A8 s2) 3).1.value:=by rw [w64 (by omega) (by omega)];omega
    simp only [go_sem,seval,hq,hw2,ne0,A0,A1];repeat' ((with_reducible first|refine wr ?_|refine A2 ?_ ?_|fail)<;>try simp only [go_sem,seval,hw2,ne0,A0,A1])
    have h4i:=K7 (E:=E) (x:=3) (by decide) hn2;subst hD;refine AC.call (c_take L E (A8 s2) _ _ t (by repeat (first|exact A0|rw [A3 (by omega)])) (by omega) (by omega) 3) ?_;rintro v H' c4 ⟨rfl,rfl⟩ hc4;try dsimp only
    simp only [go_sem,seval,hneg,ne0,A0,A1];repeat' ((with_reducible first|refine wr ?_|refine A2 ?_ ?_|fail)<;>try simp only [go_sem,seval,hneg,ne0,A0,A1])
    refine AC.call (c_expect L E (A9 L E (A8 s2) 3).2 _ _ t (by repeat (first|exact A0|rw [A3 (by omega)])) (by omega) (by omega) _) ?_;rintro v H' c9 ⟨rfl,rfl⟩ hc9;simp only [go_sem,seval,ne0,A0,A1];repeat' ((with_reducible first|refine wr ?_|refine A2 ?_ ?_|fail)<;>try simp only [go_sem,seval,ne0,A0,A1])
    rw [D9 (rv4 rfl A0)];refine ⟨_,_,I5 (cc:=cc) (C0 hfr htc) (fun j hj=>?_),rfl,rfl⟩;simp [Hp.upd,show ¬j=cc by omega,show ¬j=c1 by omega];try (split<;>rfl)
   | false =>
    rw [hq] at hD;simp only [go_sem,seval,hq,ne0,A0,A1];repeat' ((with_reducible first|refine wr ?_|refine A2 ?_ ?_|fail)<;>try simp only [go_sem,seval,ne0,A0,A1])
    have h4i:=K7 (E:=E) (x:=3) (by decide) hti;subst hD;refine AC.call (c_take L E s2 _ _ t (by repeat (first|exact A0|rw [A3 (by omega)])) (by omega) (by omega) 3) ?_;rintro v H' c4 ⟨rfl,rfl⟩ hc4;try dsimp only
    simp only [go_sem,seval,ne0,A0,A1];repeat' ((with_reducible first|refine wr ?_|refine A2 ?_ ?_|fail)<;>try simp only [go_sem,seval,ne0,A0,A1])
    refine AC.call (c_expect L E (A9 L E s2 3).2 _ _ t (by repeat (first|exact A0|rw [A3 (by omega)])) (by omega) (by omega) _) ?_;rintro v H' c9 ⟨rfl,rfl⟩ hc9;simp only [go_sem,seval,ne0,A0,A1];repeat' ((with_reducible first|refine wr ?_|refine A2 ?_ ?_|fail)<;>try simp only [go_sem,seval,ne0,A0,A1])
    rw [D9 (rv4 rfl A0)];refine ⟨_,_,I5 (cc:=cc) (C0 hfr htc) (fun j hj=>?_),rfl,rfl⟩;simp [Hp.upd,show ¬j=cc by omega,show ¬j=c1 by omega];try (split<;>rfl)
  ·have hd5:(1+k == 6)=false:=by simp;omega
   have hm:(k+1 == 6)=false:=by simp;omega
   rw [hm] at hD;simp only [go_sem,seval,hd6,hd5,ne0,A0,A1];repeat' ((with_reducible first|refine wr ?_|refine A2 ?_ ?_|fail)<;>try simp only [go_sem,seval,hd6,hd5,ne0,A0,A1])
   have h4i:=K7 (E:=E) (x:=3) (by decide) hti;subst hD;refine AC.call (c_take L E s2 _ _ t (by repeat (first|exact A0|rw [A3 (by omega)])) (by omega) (by omega) 3) ?_;rintro v H' c4 ⟨rfl,rfl⟩ hc4;try dsimp only
   simp only [go_sem,seval,ne0,A0,A1];repeat' ((with_reducible first|refine wr ?_|refine A2 ?_ ?_|fail)<;>try simp only [go_sem,seval,ne0,A0,A1])
   refine AC.call (c_expect L E (A9 L E s2 3).2 _ _ t (by repeat (first|exact A0|rw [A3 (by omega)])) (by omega) (by omega) _) ?_;rintro v H' c9 ⟨rfl,rfl⟩ hc9;simp only [go_sem,seval,ne0,A0,A1];repeat' ((with_reducible first|refine wr ?_|refine A2 ?_ ?_|fail)<;>try simp only [go_sem,seval,ne0,A0,A1])
   rw [D9 (rv4 rfl A0)];refine ⟨_,_,I5 (cc:=cc) (C0 hfr htc) (fun j hj=>?_),rfl,rfl⟩;simp [Hp.upd,show ¬j=cc by omega,show ¬j=c1 by omega];try (split<;>rfl)
 ·rw [if_neg h6] at hD;have hd6:decide (1+k<=6)=false:=by simp;omega
  subst hD;simp only [go_sem,seval,hd6,ne0,A0,A1];repeat' ((with_reducible first|refine wr ?_|refine A2 ?_ ?_|fail)<;>try simp only [go_sem,seval,hd6,ne0,A0,A1])
  refine AC.call (c_expect L E s2 _ _ t (by repeat (first|exact A0|rw [A3 (by omega)])) (by omega) (by omega) _) ?_;rintro v H' c3 ⟨rfl,rfl⟩ hc3;simp only [go_sem,seval,ne0,A0,A1];repeat' ((with_reducible first|refine wr ?_|refine A2 ?_ ?_|fail)<;>try simp only [go_sem,seval,ne0,A0,A1])
  rw [D9 (rv4 rfl A0)];refine ⟨_,_,I5 (cc:=cc) (C0 hfr htc) (fun j hj=>?_),rfl,rfl⟩;simp [Hp.upd,show ¬j=cc by omega,show ¬j=c1 by omega];try (split<;>rfl)
end Go.Proofs.YthlpinppaclofaaGreatDoor
namespace Go.Pb
variable [Go.Sym.Tab]
open Go.Sym
section
variable {L:List Tok} {E:Int}
theorem C7y {k:Int} {s:Rd} (hi:s.i<L.length):(Q9 L E k s).2.i<=L.length:=by
 have hn:(A8 s).i<=L.length:=hi;have h2:=K7 (E:=E) (x:=1) (by decide) hn;unfold Q9;dsimp only;split
 ·refine L9 (K7 (by decide) ?_);split
  ·rename_i hm;rw [A0D] at hm;exact (Z3 hm.2).2
  ·exact h2
 ·exact L9 h2
theorem C7p:∀ (f:Nat) (l:List Hd) (s:Rd) (r:List Hd × Rd),N6 L E f l s=some r->s.i<=L.length->r.2.i<=L.length
 | 0,l,s,r,h,hi=>by simp [N6] at h
 | f+1,l,s,r,h,hi=>by
  unfold N6 at h;dsimp only at h;split at h
  ·split at h
   ·cases h;rw [W6];exact hi
   ·have h1:(C7 L E s ((l.length:Int)+1) 32 9).i<=L.length:=by rw [G9];exact hi
    have h2:=L9 (E:=E) (x:=[111,110]) h1;split at h
    ·cases h;rw [W6];exact h2
    ·rename_i hk;have h3:(A8 (D6 L E (C7 L E s ((l.length:Int)+1) 32 9) [111,110])).i<=L.length:=(H8 (show 0<=B9 L E (D6 L E (C7 L E s ((l.length:Int)+1) 32 9) [111,110]) D3 by omega)).2.1;split at h
     ·cases h
     ·rename_i hb;refine C7p f _ _ _ h ((II.all f).1 _ _ _ hb ?_);split
      ·exact K7 (by decide) h3
      ·exact h3
  ·cases h;exact L9 hi
theorem C7o {f:Nat} {s:Rd} {r:Md × Rd} (h:A0s L E f s=some r) (hi:s.i<=L.length):r.2.i<=L.length:=by
 unfold A0s at h;dsimp only at h;split at h
 ·cases h
 ·rename_i hm;cases h;exact C7p f _ _ _ hm (L9 (K7 (by decide) (K7 (by decide) (L9 hi))))
theorem C0o:∀ (f:Nat) (l:List Dc) (s:Rd) (r:List Dc × Rd),P3 L E f l s=some r->s.i<=L.length->r.2.i<=L.length
 | 0,l,s,r,h,hi=>by simp [P3] at h
 | f+1,l,s,r,h,hi=>by
  unfold P3 at h;dsimp only at h;split at h
  ·cases h;exact hi
  ·rename_i hk;have hlt:=(H8 (show 0<=B9 L E s D1 by omega)).2.1;split at h
   ·exact C0o f _ _ _ h (C7y (by rw [G9];exact hlt))
   ·exact C0o f _ _ _ h (by rw [G9];exact hi)
theorem C0n:∀ (f:Nat) (l:List Md) (s:Rd) (r:List Md × Rd),N2 L E f l s=some r->s.i<=L.length->r.2.i<=L.length
 | 0,l,s,r,h,hi=>by simp [N2] at h
 | f+1,l,s,r,h,hi=>by
  unfold N2 at h;dsimp only at h;split at h
  ·split at h
   ·cases h;rw [W6];exact hi
   ·split at h
    ·split at h
     ·cases h
     ·rename_i hm;exact C0n f _ _ _ h (C7o hm (by rw [G9];exact hi))
    ·exact C0n f _ _ _ h (by rw [G9];exact hi)
  ·cases h;exact hi
end
end Go.Pb
namespace Go.Proofs.YthlpinppaclofaaGreatDoor
open Go.Eng (IC IOper DReg IFn C2)
open Go.Sym Go.Pb
theorem D2o {ρ : Ren} {v:Value} {a b e:DV} (h:VRel ρ (.agg [a,b,.snil,e]) v):VRel ρ (.agg [a,b,.lst [],e]) v:=by
 obtain ⟨bb,rfl,k1,k2⟩:=h.agg_inv;refine .agg _ _ k1 fun j x y hx hy=>?_
 match j with
 | 0=>cases hx;exact k2 0 _ y rfl hy
 | 1=>cases hx;exact k2 1 _ y rfl hy
 | 2=>cases hx;exact (k2 2 _ y rfl hy).snil_lst
 | 3=>cases hx;exact k2 3 _ y rfl hy
 | _+4=>cases hx
theorem C2o {K H':Hp} {cc:Nat} {o:Option Nat} {a b e:DV} (l:List Hd) (hK:∀ i,cc<=i->K i=none) (ho:∀ i,o=some i->cc<=i) (hno:o=none->l=[]) (hb:∀ i,o=some i->H' i=some ⟨4,true,A4 (l.map Hd.v)⟩) (h:∀ j,j<cc->H' j=K j) :
  GL H' [.agg [a,b,B6 o l.length,e]] K [.agg [a,b,T8 l,e]]:=by
 cases o with
 | none =>
  obtain rfl:=hno rfl;exact (I5 hK h).trans (GL.view fun ρ vs hA=>N8 (fun v h=>D2o h) vs hA)
 | some i =>
  have:=ho i rfl;exact GL.frzS (id:=i) (hb i rfl) rfl (fun j=>by
   by_cases hj:j<cc
   ·exact .inr ⟨by omega,(h j hj).symm⟩
   ·exact .inl (hK j (by omega))) (.cons _ _ _ _ (.agg _ _ (.cons _ _ _ _ (.same _) (.cons _ _ _ _ (.same _) (.cons _ _ _ _ (N7 (u:=4) (by simp) (V9 l) ⟨[],by simp⟩) (.cons _ _ _ _ (.same _) .nil))))) .nil)
theorem c_mode (L:List Tok) (E:Int) (hL:L.length<=1000000000) (f:Nat) (s:Rd) (r:Md × Rd) (h:A0s L E f s=some r) (hi:s.i<=L.length):RdC L E 89 [] s (r.1.v,r.2):=by
 intro H cc t ht htc;refine AC.bodyT B1 rfl (A0B rfl) fun hfr=>?_;unfold A0s at h;dsimp only at h;have i1:=L9 (E:=E) (x:=[109,111,100,101]) hi;generalize hs1:D6 L E s [109,111,100,101]=s1 at h i1;have i2:=K7 (E:=E) (x:=1) (by decide) i1;have i3:=K7 (E:=E) (x:=3) (by decide) i2;have i4:=L9 (E:=E) (x:=[123]) i3;repeat' ((with_reducible first|refine wr ?_|refine A2 ?_ ?_|fail)<;>try simp only [go_sem,seval])
 refine AC.call (c_peek L E s _ _ t (by rw [A3 (by omega)];exact ht) (by omega)) ?_;rintro v H' c1 ⟨rfl,rfl⟩ hc1;have ne0:=O0 t cc c1 (by omega);simp only [go_sem,seval,ne0];repeat' ((with_reducible first|refine wr ?_|refine A2 ?_ ?_|fail)<;>try simp only [go_sem,seval,ne0,A0,A1])
 refine AC.call (c_expect L E s _ _ t (by repeat (first|exact ht|rw [A3 (by omega)])) (by omega) (by omega) _) ?_;rintro v H' c2 ⟨rfl,rfl⟩ hc2;rw [hs1];simp only [go_sem,seval,ne0];repeat' ((with_reducible first|refine wr ?_|refine A2 ?_ ?_|fail)<;>try simp only [go_sem,seval,ne0,A0,A1])
 refine AC.call (c_name L E s1 _ _ t (by repeat (first|exact A0|rw [A3 (by omega)])) (by omega) (by omega)) ?_;rintro v H' c3 ⟨rfl,rfl⟩ hc3;generalize (A9 L E s1 1).1.text=n at h ⊢;generalize (A9 L E s1 1).2=s2 at h i2 i3 i4 ⊢;simp only [go_sem,seval,ne0,A0,A1];repeat' ((with_reducible first|refine wr ?_|refine A2 ?_ ?_|fail)<;>try simp only [go_sem,seval,ne0,A0,A1])
 refine AC.call (c_take L E s2 _ _ t (by repeat (first|exact A0|rw [A3 (by omega)])) (by omega) (by omega) 3) ?_;rintro v H' c4 ⟨rfl,rfl⟩ hc4;try dsimp only
 simp only [go_sem,seval,ne0,A0,A1];repeat' ((with_reducible first|refine wr ?_|refine A2 ?_ ?_|fail)<;>try simp only [go_sem,seval,ne0,A0,A1])
 refine AC.call (c_expect L E (A9 L E s2 3).2 _ _ t (by repeat (first|exact A0|rw [A3 (by omega)])) (by omega) (by omega) _) ?_;rintro v H' c5 ⟨rfl,rfl⟩ hc5;generalize (A9 L E s2 3).1.value=z at h ⊢;generalize D6 L E (A9 L E s2 3).2 [123]=s3 at h i4 ⊢;generalize (A7 L E s).pos=p at h ⊢;cases hm:N6 L E f [] s3 with
 | none=>rw [hm] at h;cases h
 | some q =>
  obtain ⟨hl,s4⟩:=q;rw [hm] at h;dsimp only at h;cases h;simp only [go_sem,seval,ne0,A0,A1];repeat' ((with_reducible first|refine wr ?_|refine A2 ?_ ?_|fail)<;>try simp only [go_sem,seval,ne0,A0,A1])
  refine D8 (fun _:Nat × Option Nat × List Hd × Rd=>[(0,.ptr t 0),(2,.ptr cc 0),(3,.ptr c1 0)]) (fun q=>C5 (((H.upd cc ⟨0,true,[.str [],I64 0,.snil,I64 0]⟩).upd c1 ⟨0,true,[.str n,I64 z,B6 q.2.1 q.2.2.1.length,I64 p]⟩).upd t (rdR L E q.2.2.2)) q.2.1 ⟨4,true,A4 (q.2.2.1.map Hd.v)⟩)
   (fun q c=>c1+1<=c/\q.1<=f/\q.2.2.2.i<=L.length/\(q.2.1=none->q.2.2.1=[])/\(∀ i,q.2.1=some i->c1<i/\i<c)/\q.2.2.1.length<=32/\N6 L E q.1 q.2.2.1 q.2.2.2=some (hl,s4)) (fun q=>q.1) (f,none,[],s3)
   (by simp [C9,tm,Tm.upd]) (fun j b hj=>?_) ⟨by omega,A0E _,i4,fun _=>rfl,(fun i hi=>by cases hi),by simp,hm⟩ ?_
  ·simp only [C5,A5r] at hj;by_cases e1:j=t
   ·subst e1;rw [A0] at hj ⊢;exact hj
   ·rw [A3 e1] at hj ⊢;by_cases e2:j=c1
    ·subst e2;rw [A0] at hj ⊢;exact hj
    ·rw [A3 e2] at hj ⊢;simp only [A3 e1,A3 e2];exact hj
  clear hm i1 i2 i3 i4;rintro ⟨g,o,l,u⟩ c ⟨hc,hg,hi5,hno,ho,hl1,hv⟩;dsimp only at hc hg hi5 hno ho hl1 hv ⊢;cases g with
  | zero=>simp [N6] at hv
  | succ g =>
  unfold N6 at hv;dsimp only at hv;have hHt:C5 (((H.upd cc ⟨0,true,[.str [],I64 0,.snil,I64 0]⟩).upd c1 ⟨0,true,[.str n,I64 z,B6 o l.length,I64 p]⟩).upd t (rdR L E u)) o ⟨4,true,A4 (l.map Hd.v)⟩ t=some (rdR L E u):=by rw [D2 (fun i hi=>by have:=ho i hi;omega),A0]
  repeat' ((with_reducible first|refine wr ?_|refine A2 ?_ ?_|fail)<;>try simp only [go_sem,seval])
  refine AC.call (c_rdok L E u _ _ t hHt (by omega)) ?_;rintro v H' c6 ⟨rfl,rfl⟩ hc6;have hbx:(C5 (((H.upd cc ⟨0,true,[.str [],I64 0,.snil,I64 0]⟩).upd c1 ⟨0,true,[.str n,I64 z,B6 o l.length,I64 p]⟩).upd t (rdR L E u)) o ⟨4,true,A4 (l.map Hd.v)⟩) c1=some ⟨0,true,[.str n,I64 z,B6 o l.length,I64 p]⟩:=by rw [D2 (fun i hi=>by have:=ho i hi;omega),A3 (by omega),A0]
  have hbo:∀ i:Nat,o=some i->(C5 (((H.upd cc ⟨0,true,[.str [],I64 0,.snil,I64 0]⟩).upd c1 ⟨0,true,[.str n,I64 z,B6 o l.length,I64 p]⟩).upd t (rdR L E u)) o ⟨4,true,A4 (l.map Hd.v)⟩) i=some ⟨4,true,A4 (l.map Hd.v)⟩:=fun i hi=>by subst hi;exact A0
  have hbj:∀ j:Nat,j<cc->¬ j=t->(C5 (((H.upd cc ⟨0,true,[.str [],I64 0,.snil,I64 0]⟩).upd c1 ⟨0,true,[.str n,I64 z,B6 o l.length,I64 p]⟩).upd t (rdR L E u)) o ⟨4,true,A4 (l.map Hd.v)⟩) j=H j:=fun j h1 h2=>by rw [D2 (fun i hi=>by have:=ho i hi;omega),A3 h2,A3 (by omega),A3 (by omega)]
  have hb0:(C5 (((H.upd cc ⟨0,true,[.str [],I64 0,.snil,I64 0]⟩).upd c1 ⟨0,true,[.str n,I64 z,B6 o l.length,I64 p]⟩).upd t (rdR L E u)) o ⟨4,true,A4 (l.map Hd.v)⟩) cc=some ⟨0,true,[.str [],I64 0,.snil,I64 0]⟩:=by rw [D2 (fun i hi=>by have:=ho i hi;omega),A3 (by omega),A3 (by omega),A0]
  have hT:(B6 o l.length).one=true:=by cases o<;>rfl
  generalize hHH:C5 (((H.upd cc ⟨0,true,[.str [],I64 0,.snil,I64 0]⟩).upd c1 ⟨0,true,[.str n,I64 z,B6 o l.length,I64 p]⟩).upd t (rdR L E u)) o ⟨4,true,A4 (l.map Hd.v)⟩=HH at hHt hbx hbo hbj hb0 ⊢;have fin:∀ (u2:Rd) (e:DV) (x:Blk) (q1 q2:DV),GL ((HH.upd t (rdR L E u2)).upd cc x) [.agg [q1,q2,B6 o l.length,e]] (H.upd t (rdR L E u2)) [.agg [q1,q2,T8 l,e]]:=fun u2 e x q1 q2 =>
   C2o (cc:=cc) l (C0 hfr htc) (fun i hi=>by have:=ho i hi;omega) hno (fun i hi=>by have:=ho i hi;rw [A3 (by omega),A3 (by omega)];exact hbo i hi) (fun j hj=>by
    rw [A3 (by omega)];by_cases e1:j=t
    ·subst e1;rw [A0,A0]
    ·rw [A3 e1,A3 e1,hbj j hj e1])
  cases hok:okR u with
  | false =>
   rw [if_neg (by simp [hok])] at hv;have e1:l=hl:=congrArg Prod.fst (Option.some.inj hv);have e2:D6 L E u [125]=s4:=congrArg Prod.snd (Option.some.inj hv);subst e1 e2;simp only [go_sem,seval,hok];repeat' ((with_reducible first|refine wr ?_|refine A2 ?_ ?_|fail)<;>try simp only [go_sem,seval,hok])
   refine AC.call (c_expect L E u _ _ t hHt (by omega) (by omega) _) ?_;rintro v H' c7 ⟨rfl,rfl⟩ hc7;simp only [go_sem,seval,ne0,A0,hbx,hb0,hT];repeat' ((with_reducible first|refine wr ?_|refine A2 ?_ ?_|fail)<;>try simp only [go_sem,seval,ne0,A0,hbx,hb0,hT])
   refine C4 (A5n (by rfl) (by decide) (by clear hHH;cases o<;>rfl)) ?_;simp only [go_sem,seval,ne0,A0];repeat' ((with_reducible first|refine wr ?_|refine A2 ?_ ?_|fail)<;>try simp only [go_sem,seval,ne0,A0])
   rw [D9 (rv4 rfl A0)];exact ⟨_,_,fin _ _ _ _ _,rfl,rfl⟩
  | true =>
   simp only [go_sem,seval,hok];repeat' ((with_reducible first|refine wr ?_|refine A2 ?_ ?_|fail)<;>try simp only [go_sem,seval,hok])
   refine AC.call (c_is L E u _ _ t hHt (by omega) _) ?_;rintro v H' c7 ⟨rfl,rfl⟩ hc7;cases hq:isR L E u [125] with
   | true =>
    rw [if_neg (by simp [hq])] at hv;have e1:l=hl:=congrArg Prod.fst (Option.some.inj hv);have e2:D6 L E u [125]=s4:=congrArg Prod.snd (Option.some.inj hv);subst e1 e2;simp only [go_sem,seval,hq];repeat' ((with_reducible first|refine wr ?_|refine A2 ?_ ?_|fail)<;>try simp only [go_sem,seval,hq])
    refine AC.call (c_expect L E u _ _ t hHt (by omega) (by omega) _) ?_;rintro v H' c8 ⟨rfl,rfl⟩ hc8;simp only [go_sem,seval,ne0,A0,hbx,hb0,hT];repeat' ((with_reducible first|refine wr ?_|refine A2 ?_ ?_|fail)<;>try simp only [go_sem,seval,ne0,A0,hbx,hb0,hT])
    refine C4 (A5n (by rfl) (by decide) (by clear hHH;cases o<;>rfl)) ?_;simp only [go_sem,seval,ne0,A0];repeat' ((with_reducible first|refine wr ?_|refine A2 ?_ ?_|fail)<;>try simp only [go_sem,seval,ne0,A0])
    rw [D9 (rv4 rfl A0)];exact ⟨_,_,fin _ _ _ _ _,rfl,rfl⟩
   | false =>
    rw [if_pos ⟨hok,hq⟩] at hv;simp only [go_sem,seval,hq];repeat' ((with_reducible first|refine wr ?_|refine A2 ?_ ?_|fail)<;>try simp only [go_sem,seval,hq])
    refine AC.call (c_is L E u _ _ t hHt (by omega) _) ?_;rintro v H' c8 ⟨rfl,rfl⟩ hc8;cases hon:isR L E u [111,110] with
    | false =>
     rw [if_pos hon] at hv;have e1:l=hl:=congrArg Prod.fst (Option.some.inj hv);have e2:O3 L E u=s4:=congrArg Prod.snd (Option.some.inj hv);subst e1 e2;simp only [go_sem,seval,hon];repeat' ((with_reducible first|refine wr ?_|refine A2 ?_ ?_|fail)<;>try simp only [go_sem,seval,hon])
     refine AC.call (c_syntax L E u _ _ t hHt (by omega)) ?_;rintro v H' c9 ⟨rfl,rfl⟩ hc9;simp only [go_sem,seval,ne0,A0,hbx,hb0,hT];repeat' ((with_reducible first|refine wr ?_|refine A2 ?_ ?_|fail)<;>try simp only [go_sem,seval,ne0,A0,hbx,hb0,hT])
     refine C4 (A5n (by rfl) (by decide) (by clear hHH;cases o<;>rfl)) ?_;simp only [go_sem,seval,ne0,A0];repeat' ((with_reducible first|refine wr ?_|refine A2 ?_ ?_|fail)<;>try simp only [go_sem,seval,ne0,A0])
     rw [D9 (rv4 rfl A0)];exact ⟨_,_,fin _ _ _ _ _,rfl,rfl⟩
    | true =>
     rw [if_neg (by simp [hon])] at hv;have hlen:A5z (B6 o l.length)=some (I64 l.length):=by
      cases o with
      | none=>rw [hno rfl];rfl
      | some b=>rfl
     have hwl:IntKind.i64.wrap ((l.length:Int)+1)=(l.length:Int)+1:=w64 (by omega) (by omega);simp only [go_sem,seval,hon];repeat' ((with_reducible first|refine wr ?_|refine A2 ?_ ?_|fail)<;>try simp only [go_sem,seval,hon,hbx,hlen,hwl])
     refine AC.call (c_limit L E u _ _ t hHt (by omega) _ _ _) ?_;rintro v H' c9 ⟨rfl,rfl⟩ hc9;have j1:(C7 L E u ((l.length:Int)+1) 32 9).i<=L.length:=by rw [G9];exact hi5
     generalize hlq:C7 L E u ((l.length:Int)+1) 32 9=u1 at hv j1 ⊢;have j2:=L9 (E:=E) (x:=[111,110]) j1;simp only [go_sem,seval];repeat' ((with_reducible first|refine wr ?_|refine A2 ?_ ?_|fail)<;>try simp only [go_sem,seval])
     refine AC.call (c_peek L E u1 _ _ t A0 (by omega)) ?_;rintro v H' c10 ⟨rfl,rfl⟩ hc10;have ne0:=V4 t cc c1 c10 (by omega);simp only [go_sem,seval,ne0];repeat' ((with_reducible first|refine wr ?_|refine A2 ?_ ?_|fail)<;>try simp only [go_sem,seval,ne0,A0,A1])
     refine AC.call (c_expect L E u1 _ _ t (by repeat (first|exact A0|rw [A3 (by omega)])) (by omega) (by omega) _) ?_;rintro v H' c11 ⟨rfl,rfl⟩ hc11;generalize hu2:D6 L E u1 [111,110]=u2 at hv j2 ⊢;simp only [go_sem,seval,ne0];repeat' ((with_reducible first|refine wr ?_|refine cpc c_trigs31 ?_|refine A2 ?_ ?_|fail)<;>try simp only [go_sem,seval,ne0,A0,A1])
     refine AC.call (c_among L E u2 _ _ t (by repeat (first|exact A0|rw [A3 (by omega)])) (by omega) D3 (by decide)) ?_;rintro v H' c12 ⟨rfl,rfl⟩ hc12;have hkr : -1<=B9 L E u2 D3/\B9 L E u2 D3<6:=A1z L E u2 D3 0;have hnn:0<=B9 L E u2 D3->okR u2=true/\u2.i<L.length:=fun h=>⟨(H8 h).1,(H8 h).2.1⟩;generalize B9 L E u2 D3=k at hv hkr hnn;by_cases hk:k<0
     ·rw [if_pos hk] at hv;have e1:l=hl:=congrArg Prod.fst (Option.some.inj hv);have e2:O3 L E u2=s4:=congrArg Prod.snd (Option.some.inj hv);subst e1 e2;have hdk:decide (k<0)=true:=by simpa using hk
      simp only [go_sem,seval,ne0,hdk];repeat' ((with_reducible first|refine wr ?_|refine A2 ?_ ?_|fail)<;>try simp only [go_sem,seval,hdk])
      refine AC.call (c_syntax L E u2 _ _ t (by repeat (first|exact A0|rw [A3 (by omega)])) (by omega)) ?_;rintro v H' c13 ⟨rfl,rfl⟩ hc13;simp only [go_sem,seval,ne0,A0,hbx,hb0,hT];repeat' ((with_reducible first|refine wr ?_|refine A2 ?_ ?_|fail)<;>try simp only [go_sem,seval,ne0,A0,hbx,hb0,hT])
      refine C4 (A5n (by rfl) (by decide) (by clear hHH;cases o<;>rfl)) ?_;simp only [go_sem,seval,ne0,A0];repeat' ((with_reducible first|refine wr ?_|refine A2 ?_ ?_|fail)<;>try simp only [go_sem,seval,ne0,A0])
      rw [D9 (rv4 rfl A0)];refine ⟨_,_,C2o (cc:=cc) l (C0 hfr htc) (fun i hi=>by have:=ho i hi;omega) hno (fun i hi=>?_) (fun j hj=>?_),rfl,rfl⟩
      ·have:=ho i hi;dsimp only
       repeat rw [A3 (by omega)]
       exact hbo i hi
      ·by_cases e1:j=t
       ·subst e1;dsimp only;rw [A3 (by omega),A0,A0]
       ·dsimp only
        repeat rw [A3 (by omega)]
        exact hbj j hj e1
     rw [if_neg hk] at hv;have hdk:decide (k<0)=false:=by simpa using hk
     obtain ⟨hok2,hi2⟩:=hnn (by omega);have hw2:IntKind.i64.wrap ((u2.i:Int)+1)=((u2.i+1:Nat):Int):=by rw [w64 (by omega) (by omega)];omega
     have hwk:IntKind.i64.wrap (1+k)=1+k:=w64 (by omega) (by omega);have hn2:(A8 u2).i<=L.length:=hi2;have ht2:=K7 (E:=E) (x:=1) (by decide) hn2;have hl32:l.length+1<=32:=by
      have hok1:okR u1=true:=by
       cases hz:okR u1 with
       | true=>rfl
       | false =>
        have:D6 L E u1 [111,110]=O3 L E u1:=by unfold D6 isR;rw [hz];rfl
        rw [<- hu2,this,V3] at hok2;cases hok2
      have:=(I1 (L:=L) (E:=E) (s:=u) (n:=(l.length:Int)+1) (m:=32) (e:=9) (by decide) (by rw [hlq];exact hok1)).2.1;omega
     simp only [go_sem,seval,ne0,hdk];by_cases hk2:2<=k
     ·rw [if_pos hk2,if_pos hk2] at hv;have hd2:decide (k≥2)=true:=by simpa using hk2
      repeat' ((with_reducible first|refine wr ?_|refine A2 ?_ ?_|fail)<;>try simp only [go_sem,seval,hdk,hd2,hw2,hwk,ne0,A0,A1])
      refine AC.call (c_name L E (A8 u2) _ _ t (by repeat (first|exact A0|rw [A3 (by omega)])) (by omega) (by omega)) ?_;rintro v H' c14 ⟨rfl,rfl⟩ hc14;simp only [go_sem,seval,ne0,A0,A1];repeat' ((with_reducible first|refine wr ?_|refine A2 ?_ ?_|fail)<;>try simp only [go_sem,seval,ne0,A0,A1])
      cases hb:G4 L E g 1 (A9 L E (A8 u2) 1).2 with
      | none=>rw [hb] at hv;cases hv
      | some qb =>
       obtain ⟨bd,s6⟩:=qb;rw [hb] at hv;dsimp only at hv;have j6:=(II.all g).1 _ _ _ hb ht2;refine AC.call ((c_stm L E hL g).2.1 1 (A9 L E (A8 u2) 1).2 (bd,s6) (by decide) (by decide) hb ht2 _ _ t (by repeat (first|exact A0|rw [A3 (by omega)])) (by omega)) ?_;rintro v H' c15 ⟨rfl,rfl⟩ hc15;try dsimp only
       have ne0:=P0 t cc c1 c10 c15 (by omega);simp only [go_sem,seval,ne0,A0,A1,hbx];repeat' ((with_reducible first|refine wr ?_|refine A2 ?_ ?_|fail)<;>try simp only [go_sem,seval,ne0,A0,A1,hbx])
       have hl4:(A4 (l.map Hd.v)).length=l.length * 4:=B5 (u:=4) (V9 _) |>.trans (by simp);refine C4 (E6 (cs:=A4 (l.map Hd.v)) (fun e=>by rw [hno e];exact ⟨rfl,rfl⟩) (fun i hi=>?_) hl4 (by omega) (by omega) (by omega)) ?_
       ·have:=ho i hi
        repeat rw [A3 (by omega)]
        exact hbo i hi
       have hdx:∀ X:Hp,K3 X o c1=X c1:=fun X=>E0 (fun i hi=>by have:=ho i hi;omega);have ne0:=B1t t cc c1 c10 c15 (c15+1) (by omega);simp only [go_sem,seval,ne0,A0,A1,hdx,hbx];repeat' ((with_reducible first|refine wr ?_|refine A2 ?_ ?_|fail)<;>try simp only [go_sem,seval,ne0,A0,A1,hdx,hbx])
       refine ⟨(g,some (c15+1),l++[⟨1+k,(A9 L E (A8 u2) 1).1.text,bd,(A7 L E u1).pos⟩],s6),?_,inv ⟨by omega,by simp only;omega,j6,(fun h=>by cases h),(fun i hi=>by cases hi;omega),by simp only [A0A,A0F];omega,hv⟩,by simp only;omega⟩;intro j b hj;simp only [C5,A1o,A0A,A0F,A0M,C6] at hj;by_cases e1:j=c15+1
       ·subst e1;rw [A0] at hj;rw [A3 (by omega),A0, <- hj];rfl
       rw [A3 e1] at hj;by_cases e2:j=t
       ·subst e2;rw [A0] at hj;rw [A3 (by omega),A3 (by omega),E0 (fun i hi=>by have:=ho i hi;omega),A3 (by omega),A3 (by omega),A0];exact hj
       rw [A3 e2] at hj;by_cases e3:j=c1
       ·subst e3;rw [A0] at hj ⊢;exact hj
       rw [A3 e3] at hj ⊢;by_cases e4:j=cc
       ·subst e4;rw [A0] at hj;rw [A3 (by omega),E0 (fun i hi=>by have:=ho i hi;omega)]
        repeat rw [A3 (by omega)]
        rw [hb0];exact hj
       ·rw [A3 e4] at hj;have hjc:j<cc:=Classical.byContradiction fun h=>by rw [hfr j (by omega)] at hj;cases hj
        rw [A3 (by omega),E0 (fun i hi=>by have:=ho i hi;omega)]
        repeat rw [A3 (by omega)]
        rw [hbj j hjc e2];exact hj
     ·rw [if_neg hk2,if_neg hk2] at hv;have hd2:decide (k≥2)=false:=by simpa using hk2
      repeat' ((with_reducible first|refine wr ?_|refine A2 ?_ ?_|fail)<;>try simp only [go_sem,seval,hdk,hd2,hw2,hwk,ne0,A0,A1])
      cases hb:G4 L E g 1 (A8 u2) with
      | none=>rw [hb] at hv;cases hv
      | some qb =>
       obtain ⟨bd,s6⟩:=qb;rw [hb] at hv;dsimp only at hv;have j6:=(II.all g).1 _ _ _ hb hn2;refine AC.call ((c_stm L E hL g).2.1 1 (A8 u2) (bd,s6) (by decide) (by decide) hb hn2 _ _ t (by repeat (first|exact A0|rw [A3 (by omega)])) (by omega)) ?_;rintro v H' c15 ⟨rfl,rfl⟩ hc15;try dsimp only
       have ne0:=P0 t cc c1 c10 c15 (by omega);simp only [go_sem,seval,ne0,A0,A1,hbx];repeat' ((with_reducible first|refine wr ?_|refine A2 ?_ ?_|fail)<;>try simp only [go_sem,seval,ne0,A0,A1,hbx])
       have hl4:(A4 (l.map Hd.v)).length=l.length * 4:=B5 (u:=4) (V9 _) |>.trans (by simp);refine C4 (E6 (cs:=A4 (l.map Hd.v)) (fun e=>by rw [hno e];exact ⟨rfl,rfl⟩) (fun i hi=>?_) hl4 (by omega) (by omega) (by omega)) ?_
       ·have:=ho i hi
        repeat rw [A3 (by omega)]
        exact hbo i hi
       have hdx:∀ X:Hp,K3 X o c1=X c1:=fun X=>E0 (fun i hi=>by have:=ho i hi;omega);have ne0:=B1t t cc c1 c10 c15 (c15+1) (by omega);simp only [go_sem,seval,ne0,A0,A1,hdx,hbx];repeat' ((with_reducible first|refine wr ?_|refine A2 ?_ ?_|fail)<;>try simp only [go_sem,seval,ne0,A0,A1,hdx,hbx])
       refine ⟨(g,some (c15+1),l++[⟨1+k,[],bd,(A7 L E u1).pos⟩],s6),?_,inv ⟨by omega,by simp only;omega,j6,(fun h=>by cases h),(fun i hi=>by cases hi;omega),by simp only [A0A,A0F];omega,hv⟩,by simp only;omega⟩;intro j b hj;simp only [C5,A1o,A0A,A0F,A0M,C6] at hj;by_cases e1:j=c15+1
       ·subst e1;rw [A0] at hj;rw [A3 (by omega),A0, <- hj];rfl
       rw [A3 e1] at hj;by_cases e2:j=t
       ·subst e2;rw [A0] at hj;rw [A3 (by omega),A3 (by omega),E0 (fun i hi=>by have:=ho i hi;omega),A3 (by omega),A3 (by omega),A0];exact hj
       rw [A3 e2] at hj;by_cases e3:j=c1
       ·subst e3;rw [A0] at hj ⊢;exact hj
       rw [A3 e3] at hj ⊢;by_cases e4:j=cc
       ·subst e4;rw [A0] at hj;rw [A3 (by omega),E0 (fun i hi=>by have:=ho i hi;omega)]
        repeat rw [A3 (by omega)]
        rw [hb0];exact hj
       ·rw [A3 e4] at hj;have hjc:j<cc:=Classical.byContradiction fun h=>by rw [hfr j (by omega)] at hj;cases hj
        rw [A3 (by omega),E0 (fun i hi=>by have:=ho i hi;omega)]
        repeat rw [A3 (by omega)]
        rw [hbj j hjc e2];exact hj
end Go.Proofs.YthlpinppaclofaaGreatDoor
end
