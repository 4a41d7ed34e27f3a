/-
  HELPERS of the claim: part 4 of its texts.
-/
import Derived.Test.YthlpinppaclofaaGreatDoorSyac
import Derived.ReadAgain
import Derived.ChangeBears
import Derived.Deep.Slices
import Derived.Below
import Derived.OpenShut
import Derived.Lib.LaidTab
import Derived.Lib.ItoaNum
import Derived.Lib.Space
import Derived.Test.YthlpinppaclofaaGreatDoorProg
import Derived.Lib.ParseIntB
import Derived.Lib.Bytealg
import Derived.KernelRfl
import Derived.Lib.Join
noncomputable section
set_option linter.unusedVariables false
set_option linter.unusedSectionVars false
set_option linter.unusedSimpArgs false
namespace Go.Sym
variable [Go.Sym.Tab]
open Go.RowKit Go.Pb Go.Deep
section
variable {H:Type} {enc:TypeId × Value->H} {P:Program} {T:TypeId->Prop} {W W':World} {hT:TabOk W}
theorem arg_kept (K:Kids P T) (hz:∀ t e,T t->P.underlying t=some (.slice e)->0<P.cellsOf e) (hb:Below W.heap.size W W') {sp:Nat->Bool} :
  ∀ {ts:List TypeId} {vs:List Value} {ds:List (DataW H)} {ps:List MemPlace},(∀ t∈ts,T t)->DataW.TrodAll enc P W 0 (fun _=>true) true ts vs ds ps->(∀ p∈ps,sp p.block=true)->DataW.TrodAll enc P W' 0 sp true ts vs ds ps
 | [],[],[],_,_,h,_=>h
 | t :: ts,v :: vs,d :: ds,ps,hT,⟨p,q,h1,h2,e⟩,hs=>by
  have hlt:=h1;refine ⟨p,q,?_,arg_kept K hz hb (fun t ht=>hT t (List.mem_cons.2 (Or.inr ht))) h2 (fun x hx=>hs x (by rw [e];exact List.mem_append_right _ hx)),e⟩;have h3:=h1.respare K hz (hT _ (List.mem_cons.2 (Or.inl rfl))) (spare':=sp) (fun x hx=>hs x (by rw [e];exact List.mem_append_left _ hx));obtain ⟨n,hn⟩:=h3;obtain ⟨m,hm⟩:=h1;exact ⟨n,DataW.trod_carry n _ _ _ hn fun x hx=>hb.same (DataW.trod_lt m _ _ _ hm x hx)⟩
theorem u8_of {n:Int} (h:(Lit.int .u8 n).wf=true):n=((UInt8.ofNat n.toNat).toNat:Int):=by
 have:=bounds_u8 h;simp;omega
end
end Go.Sym
namespace Go.Pb
variable [Go.Sym.Tab]
open Go.Sym
theorem sadd {s t:List UInt8} (h:s.length+t.length<=9223372036854775807):binR .add (.str s) (.str t)=some (.str (s++t)):=A5u (by simpa [maxLen] using h)
end Go.Pb
namespace Go.Pb
variable [Go.Sym.Tab]
open Go.Sym
def digB (d:Nat):UInt8:=UInt8.ofNat (48+d)
def A4h (n:Nat):List UInt8:=if n<10 then [digB n] else A4h (n / 10)++[digB (n % 10)]
termination_by n
decreasing_by omega
theorem A6n {n:Nat} (h:n<10):A4h n=[digB n]:=by rw [A4h,if_pos h]
theorem decB_ge {n:Nat} (h:¬n<10):A4h n=A4h (n / 10)++[digB (n % 10)]:=by rw [A4h,if_neg h]
theorem decB_len:∀ (k n:Nat),n<10 ^ (k+1)->(A4h n).length<=k+1
 | 0,n,h=>by rw [A6n (by omega)];simp
 | k+1,n,h=>by
  by_cases h0:n<10
  ·rw [A6n h0];simp
  ·rw [decB_ge h0,List.length_append];have:=decB_len k (n / 10) (by rw [Nat.pow_succ] at h;omega);simp only [List.length_singleton];omega
def O8 (n:Int):List UInt8:=if n<0 then 45 :: A4h n.natAbs else A4h n.natAbs
theorem decI_len {n:Int} (h1 : -9223372036854775808<=n) (h2:n<=9223372036854775807):(O8 n).length<=21:=by
 have:=decB_len 19 n.natAbs (by omega);unfold O8;split
 ·rw [List.length_cons];omega
 ·omega
abbrev I6 (n:Int):Prop := -9223372036854775808<=n/\n<=9223372036854775807
end Go.Pb
namespace Go.Pb
variable [Go.Sym.Tab]
open Go.Sym
structure Tok where
 kind:Int
 text:List UInt8
 value:Int
 pos:Int
deriving DecidableEq
abbrev Tok.v (t:Tok):DV:=.agg [I64 t.kind,.str t.text,I64 t.value,I64 t.pos]
abbrev toksV (l:List Tok):DV:=.lst (l.map Tok.v)
theorem A2n (l:List Tok):∀ x∈l.map Tok.v,x.cells.length=4:=by
 intro x hx;obtain ⟨y, -,rfl⟩:=List.mem_map.1 hx;rfl
@[simp]theorem nlL_toks (l:List Tok):DV.nlL (l.map Tok.v)=true:=K4 (fun _=>rfl) l
def ltB (c:UInt8):Bool:=(decide (97<=c.toNat) && decide (c.toNat<=122)) || (decide (65<=c.toNat) && decide (c.toNat<=90))
def dgB (c:UInt8):Bool:=decide (48<=c.toNat) && decide (c.toNat<=57)
def ptB (c:UInt8):Bool:=ltB c || dgB c || decide (c.toNat=95)
def C3 (p:UInt8->Bool):List UInt8->Nat
 | []=>0
 | c :: r=>if p c=true then C3 p r+1 else 0
theorem R3 (p:UInt8->Bool):∀ s:List UInt8,C3 p s<=s.length
 | []=>Nat.le_refl _
 | c :: r=>by
  have:=R3 p r;simp only [C3,List.length_cons];split<;>omega
theorem spnM_at {p:UInt8->Bool}:∀ {s:List UInt8} {k:Nat} {c:UInt8},s[k]? = some c->k<=C3 p s->(p c=true->k+1<=C3 p s)/\(p c=false->C3 p s=k)
 | [],k,c,h,_=>by cases h
 | x :: r,0,c,h,_=>by
  cases h;simp only [C3];exact ⟨fun h=>by rw [if_pos h];omega,fun h=>by rw [if_neg (by rw [h];simp)]⟩
 | x :: r,k+1,c,h,hk=>by
  simp only [C3] at hk ⊢;split at hk
  ·rename_i hx;rw [if_pos hx];have:=spnM_at (p:=p) (s:=r) (k:=k) (c:=c) (by simpa using h) (by omega);exact ⟨fun h=>by have:=this.1 h;omega,fun h=>by have:=this.2 h;omega⟩
  ·omega
theorem spnM_end {p:UInt8->Bool} {s:List UInt8} {k:Nat} (h:s.length<=k) (hk:k<=C3 p s):C3 p s=k:=by
 have:=R3 p s;omega
def A1q (c:UInt8):Bool:=decide (c.toNat=9) || decide (c.toNat=10) || decide (c.toNat=13) || decide (c.toNat=32)
def skM:Bool->List UInt8->Nat
 | _,[]=>0
 | true,c :: r=>if c.toNat=10 then skM false r+1 else skM true r+1
 | false,c :: r=>if A1q c=true then skM false r+1 else if c.toNat=35 then skM true r+1 else 0
theorem U3:∀ (b:Bool) (s:List UInt8),skM b s<=s.length
 | _,[]=>by simp [skM]
 | true,c :: r=>by
  have h1:=U3 true r;have h2:=U3 false r;simp only [skM,List.length_cons];split<;>omega
 | false,c :: r=>by
  have h1:=U3 true r;have h2:=U3 false r;simp only [skM,List.length_cons];split
  ·omega
  ·split<;>omega
theorem skM_true:∀ (s:List UInt8),skM true s=C3 (fun c=>decide (c.toNat≠10)) s+skM false (s.drop (C3 (fun c=>decide (c.toNat≠10)) s))
 | []=>by simp [skM,C3]
 | c :: r=>by
  by_cases h:c.toNat=10
  ·simp [skM,C3,h,A1q]
  ·have ih:=skM_true r;simp only [skM,C3,h,if_false,ne_eq,not_false_eq_true,decide_true,if_true,List.drop_succ_cons] at ih ⊢;omega
def w8 (l:List Nat):List UInt8:=l.map UInt8.ofNat
def D8:List (List UInt8):=[w8 [115,119,105,116,99,104],w8 [99,111,105,108],w8 [108,97,109,112],w8 [115,111,117,110,100],w8 [115,104,111,119],w8 [118,97,114],w8 [116,105,109,101,114],w8 [101,118,101,110,116],w8 [109,111,100,101],w8 [111,110],w8 [115,116,97,114,116],w8 [115,116,111,112],w8 [99,108,111,115,101],w8 [111,112,101,110],w8 [105,102],w8 [101,108,115,101],w8 [114,101,112,101,97,116],w8 [115,99,111,114,101],w8 [102,105,114,101],w8 [104,111,108,100],w8 [114,101,108,101,97,115,101],w8 [108,105,103,104,116],w8 [98,108,105,110,107],w8 [98,101,103,105,110],w8 [101,110,100],w8 [112,111,115,116],w8 [112,108,97,121],w8 [114,117,110],w8 [104,97,108,116],w8 [116,101,120,116],w8 [99,111,110,115,117,109,101],w8 [99,108,111,115,101,100],w8 [97,99,116,105,118,101],w8 [108,101,102,116],w8 [112,108,97,121,101,114],w8 [98,97,108,108],w8 [116,114,117,101],w8 [102,97,108,115,101]]
def E2 (s:List UInt8):Bool:=D8.contains s
def C1 (s:List UInt8):Bool:=decide (1<=s.length) && decide (s.length<=12) && (match s with|c :: _=>ltB c | []=>false) && decide (C3 ptB s=s.length) && !E2 s
def quM:List UInt8->Option (List UInt8 × Nat)
 | []=>none
 | c :: r =>
  if c.toNat=34 then some ([],1)
  else if c.toNat<32\/126<c.toNat then none
  else if c.toNat=92 then match r with
   | []=>none
   | d :: q=>if d.toNat=34\/d.toNat=92 then (quM q).map fun x=>(d :: x.1,x.2+2) else none
  else (quM r).map fun x=>(c :: x.1,x.2+1)
def V9 (s:List UInt8):Nat:=s.foldl (fun n c=>10 * n+(c.toNat-48)) 0
def twoB (c d:UInt8):Bool:=[(60,61),(62,61),(61,61),(33,61),(38,38),(124,124)].contains (c.toNat,d.toNat)
def oneB (c:UInt8):Bool:=[123,125,40,41,59,44,61,43,45,42,47,37,33,60,62].contains c.toNat
def L6:List UInt8->Nat
 | c :: d :: _=>if twoB c d=true then 2 else if oneB c=true then 1 else 0
 | [c]=>if oneB c=true then 1 else 0
 | []=>0
structure Nx where
 kind:Int
 text:List UInt8
 value:Int
 n:Nat
 err:Int
def nxE (e:Int):Nx:=⟨0,[],0,0,e⟩
def B2:List UInt8->Nx
 | []=>nxE 47
 | c :: r =>
  if ltB c=true then
   if 12<C3 ptB (c :: r) then nxE 9 else ⟨if E2 ((c :: r).take (C3 ptB (c :: r)))=true then 2 else 1,(c :: r).take (C3 ptB (c :: r)),0,C3 ptB (c :: r),0⟩
  else if dgB c=true then
   if 1<C3 dgB (c :: r)/\c.toNat=48 then nxE 47
   else if 2147483647<V9 ((c :: r).take (C3 dgB (c :: r))) then nxE 5
   else ⟨3,[],(V9 ((c :: r).take (C3 dgB (c :: r))):Int),C3 dgB (c :: r),0⟩
  else if c.toNat=34 then match quM r with
   | none=>nxE 48
   | some x=>if 32<x.1.length then nxE 9 else ⟨4,x.1,0,x.2+1,0⟩
  else if L6 (c :: r)=0 then nxE 47 else ⟨5,(c :: r).take (L6 (c :: r)),0,L6 (c :: r),0⟩
def M0:Nat->List UInt8->Nat->List Tok->List Tok × Int × Int
 | 0,_,_,acc=>(acc,0,0)
 | f+1,src,at_,acc =>
  if src.length<=at_ then (acc,0,0)
  else if (B2 (src.drop at_)).err≠0 then ([],(at_:Int),(B2 (src.drop at_)).err)
  else M0 f src (at_+(B2 (src.drop at_)).n+skM false (src.drop (at_+(B2 (src.drop at_)).n)))
   (acc++[⟨(B2 (src.drop at_)).kind,(B2 (src.drop at_)).text,(B2 (src.drop at_)).value,(at_:Int)⟩])
def B9 (s:List UInt8):List Tok × Int × Int:=if 20000<s.length then ([],0,9) else M0 (s.length+1) s (skM false s) []
abbrev scanV (q:List Tok × Int × Int):DV:=.tup [toksV q.1,I64 q.2.1,I64 q.2.2]
theorem quM_n:∀ {s t:List UInt8} {n:Nat},quM s=some (t,n)->1<=n/\n<=s.length/\t.length<=n
 | [],t,n,h=>by simp [quM] at h
 | c :: r,t,n,h=>by
  unfold quM at h;split at h
  ·cases h;simp
  ·split at h
   ·cases h
   ·split at h
    ·cases r with
     | nil=>cases h
     | cons d q =>
      simp only at h;split at h
      ·obtain ⟨⟨t',n'⟩,h1,h2⟩:=Option.map_eq_some_iff.1 h;have:=quM_n h1;cases h2;simp only [List.length_cons];omega
      ·cases h
    ·obtain ⟨⟨t',n'⟩,h1,h2⟩:=Option.map_eq_some_iff.1 h;have:=quM_n h1;cases h2;simp only [List.length_cons];omega
theorem signM_le:∀ s:List UInt8,L6 s<=s.length
 | []=>by simp [L6]
 | [c]=>by simp only [L6];split<;>simp
 | c :: d :: r=>by simp only [L6,List.length_cons];split<;>(try split)<;>omega
theorem A6b {s:List UInt8} (h:(B2 s).err=0):1<=(B2 s).n/\(B2 s).n<=s.length:=by
 cases s with
 | nil=>simp [B2,nxE] at h
 | cons c r =>
  have hp:=R3 ptB (c :: r);have hd:=R3 dgB (c :: r);have hs:=signM_le (c :: r);simp only [B2] at h ⊢;split
  ·rename_i hc;rw [if_pos hc] at h;split
   ·rename_i h1;rw [if_pos h1] at h;simp [nxE] at h
   ·have:1<=C3 ptB (c :: r):=by simp [C3,ptB,hc]
    exact ⟨this,hp⟩
  ·rename_i hc;rw [if_neg hc] at h;split
   ·rename_i hc2;rw [if_pos hc2] at h;split
    ·rename_i h1;rw [if_pos h1] at h;simp [nxE] at h
    ·rename_i h1;rw [if_neg h1] at h;split
     ·rename_i h2;rw [if_pos h2] at h;simp [nxE] at h
     ·have:1<=C3 dgB (c :: r):=by simp [C3,hc2]
      exact ⟨this,hd⟩
   ·rename_i hc2;rw [if_neg hc2] at h;split
    ·rename_i hc3;rw [if_pos hc3] at h;cases hq:quM r with
     | none=>rw [hq] at h;simp [nxE] at h
     | some x =>
      obtain ⟨t,n⟩:=x;rw [hq] at h;simp only at h ⊢;have:=quM_n hq;split
      ·rename_i h1;rw [if_pos h1] at h;simp [nxE] at h
      ·simp only [List.length_cons];omega
    ·rename_i hc3;rw [if_neg hc3] at h;split
     ·rename_i h1;rw [if_pos h1] at h;simp [nxE] at h
     ·simp only;omega
end Go.Pb
namespace Go.Sym
variable [Go.Sym.Tab]
open Go.RowKit Go.Pb Go.Deep Go.ChangeShapes
theorem topF_var {P:Program} {w:World} {n:String} {g:Nat} {cs:Array Value} (e1:P.globalNamed n=some g) (e3:w.var? P n=some cs):topF w g=some cs:=by
 unfold World.var? at e3;rw [e1,Option.bind_some] at e3;unfold topF;split at e3
 ·rename_i r ty fr hh;cases e3;rw [hh]
 ·cases e3
theorem A3c {P:Program} {w:World} {n:String} {d:DataW Unit}:∀ {l:List (String × DataW Unit)} {ps:List MemPlace},DataW.LaidVars P w l ps->(n,d)∈l ->
  ∃ g t cs fuel p,P.globalNamed n=some g/\(P.globals[g]?).map (·.type)=some t/\w.var? P n=some cs/\DataW.trod (fun _=>()) P w 0 (fun _=>true) false fuel t cs.toList=some (d,p)
 | [],ps,_,hm=>by cases hm
 | (n',d') :: l,ps,h,hm=>by
  obtain ⟨g,t,cs,fuel,p,q,h1,h2,h3,h4,h5, -⟩:=h;rcases List.mem_cons.1 hm with e|hm
  ·cases e;exact ⟨g,t,cs,fuel,p,h1,h2,h3,h4⟩
  ·exact A3c h5 hm
theorem laid_tab {P:Program} {w:World} {n:String} {d:DataW Unit} {l:List (String × DataW Unit)} {g t e m:Nat} {k:IntKind} {zs:List Int} (h:laidMet P l w) (hm:(n,d)∈l) (hg:P.globalNamed n=some g)
  (ht:(P.globals[g]?).map (·.type)=some t) (hu:P.underlying t=some (.array m e)) (he:P.underlying e=some (.int k)) (hce:P.cellsOf e=1) (hct:P.cellsOf t=m) (hd:d=Lib.tabData k zs) :
  ∃ r,topF w g=some r/\r=(zs.map fun z=>Value.int k z).toArray:=by
 obtain ⟨ps,h1, -⟩:=h;obtain ⟨g',t',cs,fuel,p,e1,e2,e3,e4⟩:=A3c h1 hm;rw [hg] at e1;cases e1;rw [ht] at e2;cases e2;rw [hd] at e4;have hc:=Lib.cells_of_tab hu he hce hct e4;exact ⟨cs,topF_var hg e3,Array.toList_inj.1 (hc.trans (by simp))⟩
theorem trod_iface' {P:Program} {w:World} {fuel:Nat} {t:TypeId} {ms} {cs:List Value} {nm:String} {d:DataW Unit} {p:List MemPlace} (hu:P.underlying t=some (.interface ms))
  (h:DataW.trod (fun _=>()) P w 0 (fun _=>true) false fuel t cs=some (.iface nm d,p)):∃ te pe,cs=[.iface te pe]:=by
 cases fuel with
 | zero=>simp [DataW.trod] at h
 | succ fuel =>
  simp only [DataW.trod,hu] at h;split at h<;>first|exact ⟨_,_,rfl⟩|(simp_all;done)
theorem laid_err {P:Program} {w:World} {n:String} {nm:String} {d:DataW Unit} {l:List (String × DataW Unit)} {g t:Nat} {ms} (h:laidMet P l w) (hm:(n,DataW.iface nm d)∈l) (hg:P.globalNamed n=some g)
  (ht:(P.globals[g]?).map (·.type)=some t) (hu:P.underlying t=some (.interface ms)):∃ r,topF w g=some r/\∃ te pe,r = #[.iface te pe]:=by
 obtain ⟨ps,h1, -⟩:=h;obtain ⟨g',t',cs,fuel,p,e1,e2,e3,e4⟩:=A3c h1 hm;rw [hg] at e1;cases e1;rw [ht] at e2;cases e2;obtain ⟨te,pe,e5⟩:=trod_iface' hu e4;exact ⟨cs,topF_var hg e3,te,pe,Array.toList_inj.1 e5⟩
section
variable {H:Type} {enc:TypeId × Value->H} {P:Program} {W W':World} {hT:TabOk W}
theorem open_u8 {r:Reach} {b0:Nat} {t:TypeId} {v:Value} {d:DataW H} {ps:List MemPlace} (ht:P.underlying t=some (.int .u8)) (hval:Value.okWide P W r b0 t v) (hd:DataW.Trod enc P W 0 (fun _=>true) true t v d ps) :
  ∃ u:UInt8,VRel (topR W hT) (.int .u8 (u.toNat:Int)) v:=by
 obtain ⟨n,rfl, -, -,hw⟩:=open_int ht hval hd;have:=u8_of hw;rw [this];exact ⟨_,.int _ _⟩
end
end Go.Sym
namespace Go.Proofs.YthlpinppaclofaaGreatDoor
instance tabI:Go.Sym.Tab:=⟨[(1,fun r=>r=(Lib.pow10Tab.map fun z=>Value.int .u64 z).toArray),(0,fun r=>r=(Lib.asciiSpaceTab.map fun z=>Value.int .u8 z).toArray),(7,fun r => ∃ te pe,r = #[.iface te pe])]⟩
end Go.Proofs.YthlpinppaclofaaGreatDoor
namespace Go.Sym
variable [Go.Sym.Tab]
open Go.Eng (IC)
def W7 (p:Prop):Prop:=p
theorem E1 {p:Prop} (h:W7 p):p:=h
theorem IW.stage {P:Program} {N:Nat} {x:IC} {T:Tm} {H:Hp} {c:Nat} {Q:Exit->St->Prop} {L:List (Nat × DV)} (hT:D5 L T) (h:IW P N x ⟨tm L,H,c⟩ Q):W7 (IW P N x ⟨T,H,c⟩ Q):=IW.weaken (N6 hT) (Sub.refl _) h
end Go.Sym
namespace Go.Sym
variable [Go.Sym.Tab]
open Go.Eng (Opd FOp AOp EOp IOp IOper DReg IC RV IFn trC A2l G0 E8)
def pre:IC->List IC
 | .seq x y=>.seq x y :: (pre x++pre y)
 | .cond o x y=>.cond o x y :: (pre x++pre y)
 | .blk i x=>.blk i x :: pre x
 | .loop x=>.loop x :: pre x
 | x=>[x]
def szC:IC->Nat
 | .seq x y=>szC x+szC y+1
 | .cond o x y=>szC x+szC y+1
 | .blk i x=>szC x+1
 | .loop x=>szC x+1
 | x=>1
theorem pre_sz (t:IC):(pre t).length=szC t:=by
 induction t<;>simp_all [pre,szC]
def insS (k:Nat):List Nat->List Nat
 | []=>[k]
 | a :: l=>match Nat.blt k a with
  | true=>k :: a :: l
  | false=>match Nat.beq k a with
   | true=>a :: l
   | false=>a :: insS k l
def uniS:List Nat->List Nat->List Nat
 | [],m=>m
 | a :: l,m=>insS a (uniS l m)
def rmS (k:Nat):List Nat->List Nat
 | []=>[]
 | a :: l=>match Nat.beq k a with
  | true=>l
  | false=>a :: rmS k l
def opS:Opd->List Nat
 | .t n=>[n]
 | _=>[]
def A5y:List IOper->List Nat->List Nat
 | [],out=>out
 | o :: r,out=>uniS o.sees (match o.dst with
  | some d=>rmS d (A5y r out)
  | none=>A5y r out)
def slR:List RV->List Nat
 | []=>[]
 | .tmp t :: r=>insS t (slR r)
 | .cell a _ _ :: r=>insS a (slR r)
def upE (ex:Nat->List Nat) (i:Nat) (L:List Nat) (j:Nat):List Nat:=match Nat.beq i j with
 | true=>L
 | false=>ex j
def rgS:Eng.Rg->List Nat->List Nat
 | .bad,_=>[]
 | .r1 io m it,out=>A5y io (insS m (rmS it out))
 | .r2 it n io,out=>insS it (rmS n (A5y io out))
 | .r3 it e io,out=>insS it (rmS e (A5y io out))
def lvC (rl:List Nat):IC->List Nat->(Nat->List Nat)->List Nat
 | .skip,out,_=>out
 | .exit i,_,ex=>ex i
 | .ret,_,_=>rl
 | .bad,_,_=>[]
 | .rg r,out,_=>rgS r out
 | .reg r,out,_=>A5y r out
 | .drw _ d,out,_=>A5y d.ops out
 | .seq x y,out,ex=>lvC rl x (lvC rl y out ex) ex
 | .cond o x y,out,ex=>uniS (opS o) (uniS (lvC rl x out ex) (lvC rl y out ex))
 | .blk i x,out,ex=>lvC rl x out (upE ex i out)
 | .loop x,_,ex=>lvC rl x [] ex
def chC (h:Nat->IC) (k:Nat):IC->IC
 | .skip=>.skip
 | .exit i=>.exit i
 | .ret=>.ret
 | .bad=>.bad
 | .rg r=>.rg r
 | .loop _=>.loop (h (k+1))
 | _=>h k
def mskP:Nat->List (Nat × Option (List Nat))->List IOper->Nat
 | k,(_,some []) :: p,⟨_,.pur _,_⟩ :: r=>2 ^ k+mskP (k+1) p r
 | k,_ :: p,_ :: r=>mskP (k+1) p r
 | _,_,_=>0
def eqO:Option (List Nat)->Option (List Nat)->Bool
 | none,none=>true
 | some [],some []=>true
 | _,_=>false
def eqP:List (Nat × Option (List Nat))->List (Nat × Option (List Nat))->Bool
 | [],[]=>true
 | (a,x) :: p,(b,y) :: q=>Nat.beq a b && eqO x y && eqP p q
 | _,_=>false
theorem eqO_eq {x y:Option (List Nat)} (h:eqO x y=true):x=y:=by
 unfold eqO at h;split at h<;>simp_all
theorem eqP_eq:∀ {p q:List (Nat × Option (List Nat))},eqP p q=true->p=q
 | [],[],_=>rfl
 | (a,x) :: p,(b,y) :: q,h=>by
  simp only [eqP,Bool.and_eq_true] at h;rw [Nat.eq_of_beq_eq_true h.1.1,eqO_eq h.1.2,eqP_eq h.2]
 | [],_ :: _,h=>by simp [eqP] at h
 | _ :: _,[],h=>by simp [eqP] at h
def asM (r:List IOper) (p:List (Nat × Option (List Nat))) (m:Nat):Option Nat:=match eqP (A1t m 0 r) p with
 | true=>some m
 | false=>none
inductive PD where
 | S (r:List IOper) (y:IC) (L:List Nat)
 | E (r:List IOper) (L:List Nat)
 | P (r:List IOper) (y:IC) (e n:Nat) (L:List Nat)
 | F (r:List IOper) (e n:Nat) (L:List Nat)
 | D (r:List IOper) (y:IC) (p:List (Nat × Option (List Nat))) (n:Nat) (L:List Nat)
 | G (r:List IOper) (p:List (Nat × Option (List Nat))) (n:Nat) (L:List Nat)
 | C (x y z:IC) (o:Opd) (L:List Nat)
 | K (x z:IC) (o:Opd) (L:List Nat)
 | B (x y:IC) (i:Nat) (L:List Nat)
 | J (x:IC) (i:Nat) (L:List Nat)
 | Q (x y:IC) (L:List Nat)
 | X (x:IC)
def PD.ic:PD->IC
 | .S r y _=>.seq (.reg r) y
 | .E r _=>.reg r
 | .P r y e n _=>.seq (.drw n (dQ r e)) y
 | .F r e n _=>.drw n (dQ r e)
 | .D r y p n _=>.seq (.drw n ⟨r,[],p⟩) y
 | .G r p n _=>.drw n ⟨r,[],p⟩
 | .C x y z o _=>.seq (.cond o x z) y
 | .K x z o _=>.cond o x z
 | .B x y i _=>.seq (.blk i x) y
 | .J x i _=>.blk i x
 | .Q x y _=>.seq x y
 | .X x=>x
def fuC (h:Nat->IC) (k:Nat) (x y:IC) (L:List Nat):PD:=match x with
 | .reg r=>.S r y L
 | .drw n ⟨r,[],p⟩=>match asM r p (mskP 0 p r) with
  | some m=>.P r y m n L
  | none=>.D r y p n L
 | .cond o a b=>.C (chC h (k+1) a) y (chC h (k+1+szC a) b) o L
 | .blk i a=>.B (chC h (k+1) a) y i L
 | x=>.Q (chC h k x) y L
def oneC (h:Nat->IC) (k:Nat) (x:IC) (L:List Nat):PD:=match x with
 | .reg r=>.E r L
 | .drw n ⟨r,[],p⟩=>match asM r p (mskP 0 p r) with
  | some m=>.F r m n L
  | none=>.G r p n L
 | .cond o a b=>.K (chC h (k+1) a) (chC h (k+1+szC a) b) o L
 | .blk i a=>.J (chC h (k+1) a) i L
 | x=>.X x
def fusd:IC->Bool
 | .reg _=>true
 | .drw _ _=>true
 | .cond _ _ _=>true
 | .blk _ _=>true
 | _=>false
def tlC (b:Bool) (l:List (Nat × PD)):List (Nat × PD):=match b with
 | true=>l.tail
 | false=>l
def flC (h:Nat->IC) (rl:List Nat):IC->Nat->List Nat->(Nat->List Nat)->List Nat × List (Nat × PD)
 | .skip,_,out,_=>(out,[])
 | .exit i,_,_,ex=>(ex i,[])
 | .ret,_,_,_=>(rl,[])
 | .bad,_,_,_=>([],[])
 | .rg r,_,out,_=>(rgS r out,[])
 | .reg r,k,out,_=>match A5y r out with
  | L=>(L,[(k,oneC h k (.reg r) L)])
 | .drw n d,k,out,_=>match A5y d.ops out with
  | L=>(L,[(k,oneC h k (.drw n d) L)])
 | .seq x y,k,out,ex=>match flC h rl y (k+1+szC x) out ex with
  | (Ly,ly)=>match flC h rl x (k+1) Ly ex with
   | (Lx,lx)=>(Lx,(k,fuC h (k+1) x (chC h (k+1+szC x) y) Lx) :: (tlC (fusd x) lx++ly))
 | .cond o x y,k,out,ex=>match flC h rl x (k+1) out ex with
  | (Lx,lx)=>match flC h rl y (k+1+szC x) out ex with
   | (Ly,ly)=>match uniS (opS o) (uniS Lx Ly) with
    | L=>(L,(k,oneC h k (.cond o x y) L) :: (lx++ly))
 | .blk i x,k,out,ex=>match flC h rl x (k+1) out (upE ex i out) with
  | (L,l)=>(L,(k,oneC h k (.blk i x) L) :: l)
 | .loop x,k,_,ex=>match lvC rl x [] ex with
  | L=>(L,(flC h rl x (k+1) L ex).2)
def Num (h:Nat->IC) (k:Nat) (t:IC):Prop:=∀ j x,(pre t)[j]? = some x->h (k+j)=x
section
variable {h:Nat->IC} {k:Nat} {x y t:IC}
theorem Num.self (n:Num h k t):h k=t:=by
 have:=n 0 t (by cases t<;>simp [pre]);simpa using this
theorem Num.sub {l:List IC} {i:Nat} (n:Num h k t) (e:∀ j x,(pre y)[j]? = some x->(pre t)[i+j]? = some x):Num h (k+i) y:=fun j x hx=>by
 rw [Nat.add_assoc];exact n (i+j) x (e j x hx)
theorem sub_l {a:IC} {l r:List IC} (j:Nat) (z:IC) (hz:l[j]? = some z):(a :: (l++r))[1+j]? = some z:=by
 rw [Nat.add_comm,List.getElem?_cons_succ,List.getElem?_append_left (List.getElem?_eq_some_iff.1 hz).1,hz]
theorem sub_r {a:IC} {l r:List IC} {n:Nat} (hn:l.length=n) (j:Nat) (z:IC) (hz:r[j]? = some z):(a :: (l++r))[1+n+j]? = some z:=by
 rw [show 1+n+j=(l.length+j)+1 by omega,List.getElem?_cons_succ,List.getElem?_append_right (by omega),Nat.add_sub_cancel_left,hz]
theorem Num.s1 (n:Num h k (.seq x y)):Num h (k+1) x:=n.sub (l:=[]) fun j z hz=>by rw [pre];exact sub_l j z hz
theorem Num.s2 (n:Num h k (.seq x y)):Num h (k+1+szC x) y:=by
 rw [Nat.add_assoc];exact n.sub (l:=[]) fun j z hz=>by rw [pre];exact sub_r (pre_sz x) j z hz
theorem Num.c1 {o:Opd} (n:Num h k (.cond o x y)):Num h (k+1) x:=n.sub (l:=[]) fun j z hz=>by rw [pre];exact sub_l j z hz
theorem Num.c2 {o:Opd} (n:Num h k (.cond o x y)):Num h (k+1+szC x) y:=by
 rw [Nat.add_assoc];exact n.sub (l:=[]) fun j z hz=>by rw [pre];exact sub_r (pre_sz x) j z hz
theorem Num.b1 {i:Nat} (n:Num h k (.blk i x)):Num h (k+1) x:=n.sub (l:=[]) fun j z hz=>by rw [pre,Nat.add_comm,List.getElem?_cons_succ,hz]
theorem Num.l1 (n:Num h k (.loop x)):Num h (k+1) x:=n.sub (l:=[]) fun j z hz=>by rw [pre,Nat.add_comm,List.getElem?_cons_succ,hz]
theorem A0j (n:Num h k t):chC h k t=t:=by
 cases t<;>simp only [chC]<;>first|rfl|exact n.self|rw [n.l1.self]
theorem asM_eq {r:List IOper} {p:List (Nat × Option (List Nat))} {m m':Nat} (e:asM r p m=some m'):A1t m' 0 r=p:=by
 unfold asM at e;split at e<;>cases e;rename_i q;exact eqP_eq q
theorem A5z {L:List Nat} (n:Num h k x):(oneC h k x L).ic=x:=by
 unfold oneC;split
 ·rfl
 ·split
  ·rename_i m e;simp only [PD.ic,dQ,asM_eq e]
  ·rfl
 ·simp only [PD.ic,A0j n.c1,A0j n.c2]
 ·simp only [PD.ic,A0j n.b1]
 ·rfl
theorem fu_eq {L:List Nat} (n:Num h k x):(fuC h k x y L).ic=.seq x y:=by
 unfold fuC;split
 ·rfl
 ·split
  ·rename_i m e;simp only [PD.ic,dQ,asM_eq e]
  ·rfl
 ·simp only [PD.ic,A0j n.c1,A0j n.c2]
 ·simp only [PD.ic,A0j n.b1]
 ·simp only [PD.ic,A0j n]
theorem tl_mem {b:Bool} {l:List (Nat × PD)} {e:Nat × PD} (hm:e∈tlC b l):e∈l:=by
 unfold tlC at hm;split at hm
 ·exact List.mem_of_mem_tail hm
 ·exact hm
theorem fl_ok (rl:List Nat):∀ (t:IC) (k:Nat) (out:List Nat) (ex:Nat->List Nat),Num h k t->∀ e∈(flC h rl t k out ex).2,h e.1=e.2.ic:=by
 intro t
 induction t with
 | skip=>intro k out ex n e he;simp [flC] at he
 | exit i=>intro k out ex n e he;simp [flC] at he
 | ret=>intro k out ex n e he;simp [flC] at he
 | bad=>intro k out ex n e he;simp [flC] at he
 | rg r=>intro k out ex n e he;simp [flC] at he
 | reg r=>intro k out ex n e he;simp only [flC,List.mem_singleton] at he;subst he;simp only [A5z n];exact n.self
 | drw m d=>intro k out ex n e he;simp only [flC,List.mem_singleton] at he;subst he;simp only [A5z n];exact n.self
 | seq x y ihx ihy =>
  intro k out ex n e he;simp only [flC,List.mem_cons,List.mem_append] at he;rcases he with rfl|he|he
  ·simp only [fu_eq n.s1,A0j n.s2];exact n.self
  ·exact ihx _ _ _ n.s1 e (tl_mem he)
  ·exact ihy _ _ _ n.s2 e he
 | cond o x y ihx ihy =>
  intro k out ex n e he;simp only [flC,List.mem_cons,List.mem_append] at he;rcases he with rfl|he|he
  ·simp only [A5z n];exact n.self
  ·exact ihx _ _ _ n.c1 e he
  ·exact ihy _ _ _ n.c2 e he
 | blk i x ih =>
  intro k out ex n e he;simp only [flC,List.mem_cons] at he;rcases he with rfl|he
  ·simp only [A5z n];exact n.self
  ·exact ih _ _ _ n.b1 e he
 | loop x ih =>
  intro k out ex n e he;simp only [flC] at he;exact ih _ _ _ n.l1 e he
end
inductive Ps where
 | h
 | o (p:Ps)
 | i (p:Ps)
def Ps.n:Ps->Nat
 | .h=>1
 | .o p=>2 * p.n
 | .i p=>2 * p.n+1
def Ps.s:Ps->Ps
 | .h=>.o .h
 | .o p=>.i p
 | .i p=>.o p.s
theorem Ps.s_n:∀ p:Ps,p.s.n=p.n+1
 | .h=>rfl
 | .o p=>rfl
 | .i p=>by simp only [Ps.s,Ps.n,Ps.s_n p];omega
def Ps.of:Nat->Ps
 | 0=>.h
 | k+1=>(Ps.of k).s
theorem Ps.of_n:∀ k:Nat,(Ps.of k).n=k+1
 | 0=>rfl
 | k+1=>by rw [Ps.of,Ps.s_n,Ps.of_n k]
def Ps.frc:Ps->(Ps->IC)->IC
 | .h,K=>K .h
 | .o p,K=>Ps.frc p fun q=>K (.o q)
 | .i p,K=>Ps.frc p fun q=>K (.i q)
theorem Ps.frc_eq:∀ (p:Ps) (K:Ps->IC),p.frc K=K p
 | .h,K=>rfl
 | .o p,K=>by rw [Ps.frc,Ps.frc_eq p]
 | .i p,K=>by rw [Ps.frc,Ps.frc_eq p]
def hk (h:Ps->IC) (k:Nat):IC:=(Ps.of k).frc h
inductive Tr where
 | e
 | d (x:Option PD) (l r:Tr)
def Tr.get:Tr->Ps->Option PD
 | .e,_=>none
 | .d x _ _,.h=>x
 | .d _ l _,.o p=>l.get p
 | .d _ _ r,.i p=>r.get p
def Tr.put (y:PD):Ps->Tr->Tr
 | .h,.e=>.d (some y) .e .e
 | .o p,.e=>.d none (Tr.put y p .e) .e
 | .i p,.e=>.d none .e (Tr.put y p .e)
 | .h,.d _ l r=>.d (some y) l r
 | .o p,.d x l r=>.d x (Tr.put y p l) r
 | .i p,.d x l r=>.d x l (Tr.put y p r)
theorem Tr.get_put (y:PD):∀ (p:Ps) (t:Tr) (q:Ps) (z:PD),(Tr.put y p t).get q=some z->(q=p/\z=y)\/t.get q=some z:=by
 intro p
 induction p with
 | h=>intro t q z h;cases t<;>cases q<;>simp_all [Tr.put,Tr.get]
 | o p ih =>
  intro t q z h;cases t<;>cases q<;>simp only [Tr.put,Tr.get] at h ⊢ <;> first|exact .inr h|(cases h;done)|skip
  ·rcases ih _ _ _ h with ⟨rfl,rfl⟩|h
   ·exact .inl ⟨rfl,rfl⟩
   ·cases h
  ·rcases ih _ _ _ h with ⟨rfl,rfl⟩|h
   ·exact .inl ⟨rfl,rfl⟩
   ·exact .inr h
 | i p ih =>
  intro t q z h;cases t<;>cases q<;>simp only [Tr.put,Tr.get] at h ⊢ <;> first|exact .inr h|(cases h;done)|skip
  ·rcases ih _ _ _ h with ⟨rfl,rfl⟩|h
   ·exact .inl ⟨rfl,rfl⟩
   ·cases h
  ·rcases ih _ _ _ h with ⟨rfl,rfl⟩|h
   ·exact .inl ⟨rfl,rfl⟩
   ·exact .inr h
def mkTr:List (Nat × PD)->Tr->Tr
 | [],t=>t
 | e :: l,t=>mkTr l (Tr.put e.2 (Ps.of e.1) t)
theorem mkTr_get:∀ (l:List (Nat × PD)) (t:Tr) (q:Ps) (z:PD),(mkTr l t).get q=some z->(∃ k,q=Ps.of k/\(k,z)∈l)\/t.get q=some z
 | [],t,q,z,h=>.inr h
 | e :: l,t,q,z,h=>by
  rcases mkTr_get l _ q z h with ⟨k,h1,h2⟩|h
  ·exact .inl ⟨k,h1,List.mem_cons_of_mem _ h2⟩
  ·rcases Tr.get_put _ _ _ _ _ h with ⟨rfl,rfl⟩|h
   ·exact .inl ⟨e.1,rfl,List.mem_cons_self⟩
   ·exact .inr h
def pz (P:Program) (f:Nat) (p:Ps):IC:=match (P.funcs[f]?).bind (A2l P) with
 | some i=>(pre i.body).getD (p.n-1) .bad
 | none=>.bad
theorem pz_num {P:Program} {f:Nat} {i:IFn} (h:G0 P f i):Num (hk (pz P f)) 0 i.body:=fun j x hx=>by
 rw [hk,Ps.frc_eq];unfold pz;unfold G0 at h;rw [h];simp only [Nat.zero_add,List.getD_eq_getElem?_getD,Ps.of_n,Nat.add_sub_cancel,hx,Option.getD_some]
inductive TD where
 | mk (n:Nat) (rs:List RV) (top:IC) (l:Tr)
 | no
def TD.l:TD->Tr
 | .mk _ _ _ l=>l
 | .no=>.e
def mkT (h:Ps->IC) (i:IFn):TD:=.mk i.n i.res (chC (hk h) 0 i.body) (mkTr (flC (hk h) (slR i.res) i.body 0 (slR i.res) (fun _=>[])).2 .e)
structure XT (P:Program) (f:Nat) where
 d:(Ps->IC)->TD
 i:IFn
 hi:G0 P f i
 hd:∀ h,mkT h i=d h
class FT (P:Program) (f:Nat) (D:outParam ((Ps->IC)->TD)):Prop where
 of:∃ i,G0 P f i/\∀ h,mkT h i=D h
theorem XT.ft {P:Program} {f:Nat} (x:XT P f):FT P f x.d:=⟨⟨x.i,x.hi,x.hd⟩⟩
theorem u8n (n:Nat):UInt8.ofBitVec (BitVec.ofNat 8 n)=UInt8.ofNat n:=rfl
abbrev mkF {P:Program} {f:Nat} {i:IFn} {d:(Ps->IC)->TD} (hi:G0 P f i:=by unfold G0;conv=>lhs;reduce;simp only [seval,u8n]) (hd:∀ h,mkT h i=d h:=by intro h;conv=>lhs;cbv):XT P f:=⟨d,i,hi,hd⟩
class LkI (t:Tr) (p:Ps) (x:outParam PD):Prop where
 get:t.get p=some x
instance lkTh {x:PD} {l r:Tr}:LkI (.d (some x) l r) .h x:=⟨rfl⟩
instance lkTo {x:PD} {y:Option PD} {l r:Tr} {p:Ps} [k:LkI l p x]:LkI (.d y l r) (.o p) x:=⟨k.get⟩
instance lkTi {x:PD} {y:Option PD} {l r:Tr} {p:Ps} [k:LkI r p x]:LkI (.d y l r) (.i p) x:=⟨k.get⟩
class WDp (P:Program) (N:Nat) (u:PD) (r:outParam Rl):Prop where
 out:∀ {Q:Exit->St->Prop} {T:Tm} {H:Hp} {c:Nat},r P N Q T H c->IW P N u.ic ⟨T,H,c⟩ Q
section
variable {P:Program} {N n i e:Nat} {x y z:IC} {r:List IOper} {p:List (Nat × Option (List Nat))} {L:List Nat} {o:Opd}
instance dS:WDp P N (.S r y L) (rS r y L):=⟨mkS⟩
instance dE:WDp P N (.E r L) (rE r L):=⟨mkE⟩
instance dP:WDp P N (.P r y e n L) (rP r y n L):=⟨mkP (d:=dQ r e) (T9 e r 0)⟩
instance dD:WDp P N (.D r y p n L) (rD r p y n L):=⟨mkD (d:=⟨r,[],p⟩)⟩
instance dG:WDp P N (.G r p n L) (rDE r p n L):=⟨mkDE (d:=⟨r,[],p⟩)⟩
instance dC:WDp P N (.C x y z o L) (rC o x z y L):=⟨mkC⟩
instance dK:WDp P N (.K x z o L) (rCE o x z L):=⟨mkCE⟩
instance dB:WDp P N (.B x y i L) (rB i x y L):=⟨mkB⟩
instance dJ:WDp P N (.J x i L) (rBE i x L):=⟨mkBE⟩
instance dQQ:WDp P N (.Q x y L) (rQ x y L):=⟨mkQ⟩
end
class LkD (t:TD) (p:Ps) (x:outParam PD):Prop where
 get:t.l.get p=some x
instance lkTd {n:Nat} {rs:List RV} {top:IC} {x:PD} {l:Tr} {p:Ps} [k:LkI l p x]:LkD (.mk n rs top l) p x:=⟨k.get⟩
section
variable {P:Program} {f:Nat} {D:(Ps->IC)->TD} [F:FT P f D]
theorem wz {p:Ps} {x:PD} (e:(D (pz P f)).l.get p=some x):pz P f p=x.ic:=by
 obtain ⟨i,hi,hd⟩:=F.of;rw [<- hd] at e;simp only [mkT,TD.l] at e;rcases mkTr_get _ _ _ _ e with ⟨k,rfl,h⟩|h
 ·have:=fl_ok (slR i.res) i.body 0 (slR i.res) (fun _=>[]) (pz_num hi) _ h;rw [hk,Ps.frc_eq] at this;exact this
 ·cases h
instance wZ {N:Nat} {p:Ps} {x:PD} {w:Rl} [g:LkD (D (pz P f)) p x] [k:WDp P N x w]:WR P N (pz P f p) w:=⟨fun h=>by rw [wz g.get];exact k.out h⟩
theorem FT.eqs {n:Nat} {rs:List RV} {top:IC} {l:Tr} (e:D (pz P f)=.mk n rs top l):G0 P f ⟨n,top,rs⟩:=by
 obtain ⟨i,hi,hd⟩:=F.of;rw [<- hd] at e;simp only [mkT,A0j (pz_num hi),TD.mk.injEq] at e;rw [<- e.1, <- e.2.1, <- e.2.2.1];exact hi
theorem PC.ofT (hm:P.follows .mixedOrders=true) {n:Nat} {rs:List RV} {top:IC} {l:Tr} (e:D (pz P f)=.mk n rs top l) {args:List DV} (hn:args.length<=n) {r:DV} (na:DV.nlL args=true) (nr:r.nl=true)
  (h:IW P n top ⟨A4i args,nil,0⟩ (rt rs fun v H' _ => ∃ H2,GL H' [v] H2 [r])):PC P f args r :=
 PC.of hm (i:=⟨n,top,rs⟩) (FT.eqs e) hn na nr h
theorem AC.bodyT (hm:P.follows .mixedOrders=true) {n:Nat} {rs:List RV} {top:IC} {l:Tr} (e:D (pz P f)=.mk n rs top l) {args:List DV} (hn:args.length<=n) {H:Hp} {c:Nat} {Q:DV->Hp->Nat->Prop}
  (h:(∀ id,c<=id->H id=none)->IW P n top ⟨A4i args,H,c⟩ (rt rs fun v H' c' => ∃ v2 H2,GL H' [v] H2 [v2]/\Q v2 H2 c')):AC P f args H c Q :=
 AC.body hm (i:=⟨n,top,rs⟩) (FT.eqs e) hn h
end
end Go.Sym
set_option maxHeartbeats 4000000
set_option maxRecDepth 100000
namespace Go.Proofs.YthlpinppaclofaaGreatDoor
open Go.Eng (IC IOper DReg IFn G0)
open Go.Sym
theorem A9:Tryz.prog.follows .mixedOrders=true:=by kernel_rfl
abbrev x142:XT Tryz.prog 142:=mkF
instance t142:FT Tryz.prog 142 x142.d:=x142.ft
abbrev x162:XT Tryz.prog 162:=mkF
instance t162:FT Tryz.prog 162 x162.d:=x162.ft
abbrev x144:XT Tryz.prog 144:=mkF
instance t144:FT Tryz.prog 144 x144.d:=x144.ft
abbrev x143:XT Tryz.prog 143:=mkF
instance t143:FT Tryz.prog 143 x143.d:=x143.ft
abbrev x161:XT Tryz.prog 161:=mkF
instance t161:FT Tryz.prog 161 x161.d:=x161.ft
abbrev x121:XT Tryz.prog 121:=mkF
instance t121:FT Tryz.prog 121 x121.d:=x121.ft
abbrev x164:XT Tryz.prog 164:=mkF
instance t164:FT Tryz.prog 164 x164.d:=x164.ft
abbrev x165:XT Tryz.prog 165:=mkF
instance t165:FT Tryz.prog 165 x165.d:=x165.ft
abbrev x163:XT Tryz.prog 163:=mkF
instance t163:FT Tryz.prog 163 x163.d:=x163.ft
abbrev x122:XT Tryz.prog 122:=mkF
instance t122:FT Tryz.prog 122 x122.d:=x122.ft
abbrev x120:XT Tryz.prog 120:=mkF
instance t120:FT Tryz.prog 120 x120.d:=x120.ft
abbrev x145:XT Tryz.prog 145:=mkF
instance t145:FT Tryz.prog 145 x145.d:=x145.ft
abbrev x91:XT Tryz.prog 91:=mkF
instance t91:FT Tryz.prog 91 x91.d:=x91.ft
abbrev x155:XT Tryz.prog 155:=mkF
instance t155:FT Tryz.prog 155 x155.d:=x155.ft
abbrev x68:XT Tryz.prog 68:=mkF
instance t68:FT Tryz.prog 68 x68.d:=x68.ft
abbrev x114:XT Tryz.prog 114:=mkF
instance t114:FT Tryz.prog 114 x114.d:=x114.ft
abbrev x167:XT Tryz.prog 167:=mkF
instance t167:FT Tryz.prog 167 x167.d:=x167.ft
abbrev x124:XT Tryz.prog 124:=mkF
instance t124:FT Tryz.prog 124 x124.d:=x124.ft
abbrev x71:XT Tryz.prog 71:=mkF
instance t71:FT Tryz.prog 71 x71.d:=x71.ft
abbrev x125:XT Tryz.prog 125:=mkF
instance t125:FT Tryz.prog 125 x125.d:=x125.ft
abbrev x171:XT Tryz.prog 171:=mkF
instance t171:FT Tryz.prog 171 x171.d:=x171.ft
abbrev x169:XT Tryz.prog 169:=mkF
instance t169:FT Tryz.prog 169 x169.d:=x169.ft
abbrev x168:XT Tryz.prog 168:=mkF
instance t168:FT Tryz.prog 168 x168.d:=x168.ft
abbrev x170:XT Tryz.prog 170:=mkF
instance t170:FT Tryz.prog 170 x170.d:=x170.ft
abbrev x70:XT Tryz.prog 70:=mkF
instance t70:FT Tryz.prog 70 x70.d:=x70.ft
abbrev x56:XT Tryz.prog 56:=mkF
instance t56:FT Tryz.prog 56 x56.d:=x56.ft
abbrev x58:XT Tryz.prog 58:=mkF
instance t58:FT Tryz.prog 58 x58.d:=x58.ft
abbrev x188:XT Tryz.prog 188:=mkF
instance t188:FT Tryz.prog 188 x188.d:=x188.ft
abbrev x159:XT Tryz.prog 159:=mkF
instance t159:FT Tryz.prog 159 x159.d:=x159.ft
abbrev x115:XT Tryz.prog 115:=mkF
instance t115:FT Tryz.prog 115 x115.d:=x115.ft
abbrev x69:XT Tryz.prog 69:=mkF
instance t69:FT Tryz.prog 69 x69.d:=x69.ft
abbrev x123:XT Tryz.prog 123:=mkF
instance t123:FT Tryz.prog 123 x123.d:=x123.ft
abbrev x166:XT Tryz.prog 166:=mkF
instance t166:FT Tryz.prog 166 x166.d:=x166.ft
abbrev x197:XT Tryz.prog 197:=mkF
instance t197:FT Tryz.prog 197 x197.d:=x197.ft
abbrev x196:XT Tryz.prog 196:=mkF
instance t196:FT Tryz.prog 196 x196.d:=x196.ft
abbrev x210:XT Tryz.prog 210:=mkF
instance t210:FT Tryz.prog 210 x210.d:=x210.ft
abbrev x198:XT Tryz.prog 198:=mkF
instance t198:FT Tryz.prog 198 x198.d:=x198.ft
abbrev x211:XT Tryz.prog 211:=mkF
instance t211:FT Tryz.prog 211 x211.d:=x211.ft
abbrev x222:XT Tryz.prog 222:=mkF
instance t222:FT Tryz.prog 222 x222.d:=x222.ft
abbrev x126:XT Tryz.prog 126:=mkF
instance t126:FT Tryz.prog 126 x126.d:=x126.ft
abbrev x172:XT Tryz.prog 172:=mkF
instance t172:FT Tryz.prog 172 x172.d:=x172.ft
abbrev x127:XT Tryz.prog 127:=mkF
instance t127:FT Tryz.prog 127 x127.d:=x127.ft
abbrev x73:XT Tryz.prog 73:=mkF
instance t73:FT Tryz.prog 73 x73.d:=x73.ft
abbrev x36:XT Tryz.prog 36:=mkF
instance t36:FT Tryz.prog 36 x36.d:=x36.ft
abbrev x33:XT Tryz.prog 33:=mkF
instance t33:FT Tryz.prog 33 x33.d:=x33.ft
end Go.Proofs.YthlpinppaclofaaGreatDoor
namespace Go.Pb
variable [Go.Sym.Tab]
open Go.Sym
def A6a (n:Nat) (s:List UInt8):Nat:=s.foldl (fun n c=>10 * n+(c.toNat-48)) n
theorem numA_ge:∀ (s:List UInt8) (n:Nat),n<=A6a n s
 | [],n=>Nat.le_refl _
 | c :: r,n=>by
  have:=numA_ge r (10 * n+(c.toNat-48));simp only [A6a,List.foldl_cons] at this ⊢;omega
theorem numA_cons (c:UInt8) (r:List UInt8) (n:Nat):A6a n (c :: r)=A6a (10 * n+(c.toNat-48)) r:=by simp only [A6a,List.foldl_cons]
theorem pum_step {M acc d v w:Nat} (hM:M=18446744073709551615) (hd:d<=9) (hv:10 * acc+d<=v) (hw:w=1844674407370955162) :
  (w<=acc->M<v)/\(M<acc * 10+d->M<v):=by
 subst hM hw;omega
theorem pum_cons (M acc:Nat) (c:UInt8) (r:List UInt8) (h:48<=c.toNat/\c.toNat<=57):Lib.parseUintM M acc (c :: r) =
   if 1844674407370955162<=acc then .range
   else if M<acc * 10+(c.toNat-48) then .range
   else Lib.parseUintM M (acc * 10+(c.toNat-48)) r:=by rw [Lib.parseUintM,if_pos h]
theorem pum {M:Nat} (hM:M=18446744073709551615):∀ (l:List UInt8) (acc:Nat),(∀ c∈l,dgB c=true)->acc<=M ->
  Lib.parseUintM M acc l=if A6a acc l<=M then .ok (A6a acc l) else .range:=by
 intro l
 induction l with
 | nil =>
  intro acc h ha;rw [if_pos (show A6a acc []<=M from ha),Lib.parseUintM];rfl
 | cons c r ih =>
  intro acc h ha;have hc:=h c List.mem_cons_self;simp only [dgB,Bool.and_eq_true,decide_eq_true_eq] at hc;have hg:=numA_ge r (10 * acc+(c.toNat-48));rw [pum_cons _ _ _ _ hc,numA_cons];generalize hK:(1844674407370955162:Nat)=K;obtain ⟨s1,s2⟩:=pum_step hM (show c.toNat-48<=9 by omega) hg hK.symm;by_cases h1:K<=acc
  ·rw [if_pos h1,if_neg (Nat.not_le.2 (s1 h1))]
  ·rw [if_neg h1];by_cases h2:M<acc * 10+(c.toNat-48)
   ·rw [if_pos h2,if_neg (Nat.not_le.2 (s2 h2))]
   ·rw [if_neg h2,Nat.mul_comm acc 10];rw [Nat.mul_comm acc 10] at h2;exact ih _ (fun d hd=>h d (List.mem_cons_of_mem _ hd)) (Nat.not_lt.1 h2)
theorem pib {l:List UInt8} (h:∀ c∈l,dgB c=true) (h0:l≠[]) :
  Lib.parseIntB 64 l=if V9 l<=9223372036854775807 then .ok (V9 l:Int) else .range:=by
 cases l with
 | nil=>exact absurd rfl h0
 | cons c r =>
  have hc:=h c List.mem_cons_self;simp only [dgB,Bool.and_eq_true,decide_eq_true_eq] at hc;have e1:¬ c.toNat=43:=by omega
  have e2:¬ c.toNat=45:=by omega
  have hp:=pum (M:=2 ^ 64-1) (by decide) (c :: r) 0 h (Nat.zero_le _);have hv:A6a 0 (c :: r)=V9 (c :: r):=rfl;rw [hv] at hp;unfold Lib.parseIntB;simp only [e1,e2,or_self,if_false,not_false_eq_true,true_and,false_and];unfold Lib.parseUintB;rw [if_neg (by simp),hp];by_cases g1:V9 (c :: r)<=2 ^ 64-1
  ·rw [if_pos g1];by_cases g2:V9 (c :: r)<=9223372036854775807
   ·simp only [g2,if_true];rw [if_neg (by omega)]
   ·simp only [g2,if_false];rw [if_pos (by omega)]
  ·rw [if_neg g1];have g2:¬ V9 (c :: r)<=9223372036854775807:=by omega
   simp only [g2,if_false]
theorem span_all {p:UInt8->Bool}:∀ (s:List UInt8), ∀ c∈s.take (C3 p s),p c=true
 | [],c,h=>by simp at h
 | x :: r,c,h=>by
  simp only [C3] at h;split at h
  ·rename_i hx;rw [List.take_succ_cons] at h;rcases List.mem_cons.1 h with rfl|h
   ·exact hx
   ·exact span_all r c h
  ·simp at h
theorem ixb_ge (c:UInt8):∀ l:List UInt8, -1<=Lib.indexByte l c
 | []=>by simp [Lib.indexByte]
 | d :: l=>by
  have:=ixb_ge c l;simp only [Lib.indexByte];split
  ·omega
  ·split<;>omega
theorem ixb_iff (c:UInt8):∀ l:List UInt8,0<=Lib.indexByte l c↔l.contains c=true
 | []=>by simp [Lib.indexByte]
 | b :: l=>by
  have ih:=ixb_iff c l;have hge:=ixb_ge c l;simp only [Lib.indexByte,List.contains_cons];by_cases h:b=c
  ·subst h;simp
  ·have e1:(b == c)=false:=by simpa using h
   have e2:(c == b)=false:=by simpa using fun h2=>h h2.symm
   rw [e1,e2,Bool.false_or, <- ih];simp only [Bool.false_eq_true,if_false];by_cases h2:Lib.indexByte l c = -1
   ·rw [if_pos (by rw [h2];rfl),h2]
   ·rw [if_neg (by simpa using h2)];omega
end Go.Pb
namespace Go.Pb
variable [Go.Sym.Tab]
open Go.Sym
theorem A2r {s:List UInt8} {k:Nat} (h:k<=s.length):slsR s (some (.int .i64 (k:Int))) none=some (.str (s.drop k)):=by
 rw [r_sls (l:=k) (h:=s.length) rfl (by simp [boundOf]) (Nat.le_refl _) h,List.take_of_length_le (by simp)]
theorem A5q {s:List UInt8} {k:Nat} (h:k<=s.length):slsR s none (some (.int .i64 (k:Int)))=some (.str (s.take k)):=by
 rw [r_sls (l:=0) (h:=k) (by simp [boundOf]) rfl h (Nat.zero_le _),List.drop_zero,Nat.sub_zero]
theorem strC_len (l:List (List UInt8)):(A6 (l.map DV.str)).length=l.length * 1:=by
 rw [D1 (u:=1)]
 ·simp
 ·intro x hx;obtain ⟨y, -,rfl⟩:=List.mem_map.1 hx;rfl
theorem N7 (l:List (List UInt8)):∀ x∈l.map DV.str,x.cells.length=1:=by
 intro x hx;obtain ⟨y, -,rfl⟩:=List.mem_map.1 hx;rfl
end Go.Pb
namespace Go.Pb
variable [Go.Sym.Tab]
open Go.Sym
def U7 (H:Hp):Option Nat->Hp
 | none=>H
 | some i=>H.del i
theorem H9 {H:Hp} {c sz bytes n m:Nat} {o:Option Nat} {cs src:List DV} (hn:o=none->n=0/\cs=[]) (hb:∀ i,o=some i->H i=some ⟨sz,true,cs⟩) (hl:cs.length=n * sz) (hm:1<=m) (h2:(n+m) * bytes<=140737488355328) (h3:n+m<=9223372036854775807) :
  A0l H c sz bytes (B6 o n) m src=some (.slc c 0 (n+m),(U7 H o).upd c ⟨sz,true,cs++src⟩,c+1):=by
 cases o with
 | none =>
  obtain ⟨rfl,rfl⟩:=hn rfl;rw [A5o,A2b (by omega) (by simpa using h2) (by omega)];simp [U7]
 | some i=>rw [A2o,r_apps,hb i rfl,D0 hl h2 h3];rfl
theorem I3 {H:Hp} {o:Option Nat} {j:Nat} (h:∀ i,o=some i->¬ j=i):U7 H o j=H j:=by
 cases o with
 | none=>rfl
 | some i=>exact D7 (h i rfl)
theorem E4 {H:Hp} {o:Option Nat} {b:Blk} {j:Nat} (h:∀ i,o=some i->¬ j=i):C8 H o b j=H j:=by
 cases o with
 | none=>rfl
 | some i=>exact A3 (h i rfl)
section
variable {l:List UInt8} {k p:Nat} {S P V:DV} {I:List Ins} {E:List Ent} {o1 o2:Option Nat} {cc:Nat}
end
end Go.Pb
namespace Go.Pb
variable [Go.Sym.Tab]
open Go.Sym
theorem bq_t {a b:Nat} (h:((a:Int) == (b:Int))=true):a=b:=by have:=beq_iff_eq.1 h;omega
theorem bq_f {a b:Nat} (h:((a:Int) == (b:Int))=false):a≠b:=fun e=>by rw [e] at h;simp at h
theorem bn_t {a b:Nat} (h:((a:Int) != (b:Int))=true):a≠b:=fun e=>by rw [e] at h;simp at h
theorem bn_f {a b:Nat} (h:((a:Int) != (b:Int))=false):a=b:=by
 have:(a:Int)=b:=by simpa using h
 omega
theorem gt_t {a b:Nat} (h:decide ((a:Int)>(b:Int))=true):b<a:=by have:=of_decide_eq_true h;omega
theorem gt_f {a b:Nat} (h:decide ((a:Int)>(b:Int))=false):¬ b<a:=by have:=of_decide_eq_false h;omega
theorem M7 {α : Type} {s:List α} {i:Nat} {c : α} (h:s[i]? = some c):s.drop i=c :: s.drop (i+1):=by
 obtain ⟨hi,rfl⟩:=List.getElem?_eq_some_iff.1 h;exact List.drop_eq_getElem_cons hi
theorem sk_sep {s:List UInt8} {i:Nat} {c:UInt8} (h:s[i]? = some c) (hc:A1q c=true):skM false (s.drop i)=skM false (s.drop (i+1))+1:=by
 rw [M7 h];simp only [skM];rw [if_pos hc]
theorem sk_cmt {s:List UInt8} {i:Nat} {c:UInt8} (h:s[i]? = some c) (hc:c.toNat=35) :
  skM false (s.drop i)=C3 (fun c=>decide (c.toNat≠10)) (s.drop i)+skM false (s.drop (i+C3 (fun c=>decide (c.toNat≠10)) (s.drop i))):=by
 have hs:¬ A1q c=true:=by simp [A1q,hc]
 have e1:skM false (s.drop i)=skM true (s.drop i):=by
  rw [M7 h];simp only [skM];rw [if_neg hs,if_pos hc,if_neg (by omega)]
 rw [e1,skM_true,List.drop_drop]
theorem sk_stop {s:List UInt8} {i:Nat} {c:UInt8} (h:s[i]? = some c) (h1:¬ A1q c=true) (h2:¬ c.toNat=35):skM false (s.drop i)=0:=by
 rw [M7 h];simp only [skM];rw [if_neg h1,if_neg h2]
theorem sk_end {s:List UInt8} {i:Nat} (h:s.length<=i):skM false (s.drop i)=0:=by
 rw [List.drop_eq_nil_of_le h];rfl
theorem sk_cmt1 {s:List UInt8} {i:Nat} {c:UInt8} (h:s[i]? = some c) (hc:c.toNat=35):1<=C3 (fun c=>decide (c.toNat≠10)) (s.drop i):=by
 rw [M7 h];simp only [C3];rw [if_pos (by simp [hc])];omega
def quA (acc:List UInt8) (k:Nat) (q:Option (List UInt8 × Nat)):Option (List UInt8 × Nat):=q.map fun x=>(acc++x.1,x.2+k)
theorem Q2 (c:UInt8) (r:List UInt8):quM (c :: r)=if c.toNat=34 then some ([],1)
  else if c.toNat<32\/126<c.toNat then none
  else if c.toNat=92 then match r with
   | []=>none
   | d :: q=>if d.toNat=34\/d.toNat=92 then (quM q).map fun x=>(d :: x.1,x.2+2) else none
  else (quM r).map fun x=>(c :: x.1,x.2+1):=by rw [quM.eq_def];try rfl
theorem qu_quote {s acc:List UInt8} {k:Nat} {c:UInt8} (h:s[k]? = some c) (hc:c.toNat=34):quA acc k (quM (s.drop k))=some (acc,k+1):=by
 rw [M7 h,Q2,if_pos hc];simp [quA];omega
theorem A5v {s acc:List UInt8} {k:Nat} {c:UInt8} (h:s[k]? = some c) (h0:c.toNat≠34) (hc:c.toNat<32\/126<c.toNat):quA acc k (quM (s.drop k))=none:=by
 rw [M7 h,Q2,if_neg h0,if_pos hc];rfl
theorem qu_end {s acc:List UInt8} {k:Nat} (h:s.length<=k):quA acc k (quM (s.drop k))=none:=by
 rw [List.drop_eq_nil_of_le h,quM];rfl
theorem qu_char {s acc:List UInt8} {k:Nat} {c:UInt8} (h:s[k]? = some c) (h0:c.toNat≠34) (h1:32<=c.toNat) (h2:c.toNat<=126) (h3:c.toNat≠92) :
  quA acc k (quM (s.drop k))=quA (acc++[c]) (k+1) (quM (s.drop (k+1))):=by
 rw [M7 h,Q2,if_neg h0,if_neg (by omega),if_neg h3];cases quM (s.drop (k+1)) with
 | none=>rfl
 | some x=>simp [quA];omega
theorem qu_esc {s acc:List UInt8} {k:Nat} {c d:UInt8} (h:s[k]? = some c) (h3:c.toNat=92) (hd:s[k+1]? = some d) (h4:d.toNat=34\/d.toNat=92) :
  quA acc k (quM (s.drop k))=quA (acc++[d]) (k+2) (quM (s.drop (k+2))):=by
 rw [M7 h,M7 hd,Q2,if_neg (by omega),if_neg (by omega),if_pos h3];simp only;rw [if_pos h4];cases quM (s.drop (k+1+1)) with
 | none=>rfl
 | some x=>simp [quA];omega
theorem qu_esc0 {s acc:List UInt8} {k:Nat} {c:UInt8} (h:s[k]? = some c) (h3:c.toNat=92) (hd:∀ d,s[k+1]? = some d->d.toNat≠34/\d.toNat≠92) :
  quA acc k (quM (s.drop k))=none:=by
 rw [M7 h];cases hq:s.drop (k+1) with
 | nil=>rw [Q2,if_neg (by omega),if_neg (by omega),if_pos h3];rfl
 | cons d q =>
  have h5:s[k+1]? = some d:=by
   have:=congrArg List.head? hq
   rwa [List.head?_drop] at this
  have h6:=hd d h5;rw [Q2,if_neg (by omega),if_neg (by omega),if_pos h3];simp only;rw [if_neg (by omega)];rfl
def quV:Option (List UInt8 × Nat)->DV
 | none=>.tup [.str [],I64 0]
 | some x=>.tup [.str x.1,I64 x.2]
theorem r_cvtodo {H:Hp} {o:Option Nat} {u:Nat} {acc:List UInt8} (hn:o=none->acc=[]) (hb:∀ i,o=some i->H i=some ⟨u,true,E0 acc⟩):V1 H (B6 o acc.length)=some (.str acc):=by
 cases o with
 | none=>rw [hn rfl];rfl
 | some i=>exact cv_own (hb i rfl) rfl rfl
theorem N1 {X:Hp} {id:Nat} {b b':Blk} (h:b=b'):Sub (C8 Sym.nil (some id) b) (X.upd id b'):=by
 intro j q hj;simp only [C8] at hj;by_cases e:j=id
 ·subst e;rw [A0] at hj ⊢;rw [<- h];exact hj
 ·rw [A3 e] at hj;cases hj
theorem r_aptodo2 {X:Hp} {o:Option Nat} {c sz bytes n m:Nat} {cs src:List DV} {b2:Blk} (hn:o=none->n=0/\cs=[]) (ho:∀ i,o=some i->i<c) (hl:cs.length=n * sz) (hm:1<=m)
  (h2:(n+m) * bytes<=140737488355328) (h3:n+m<=9223372036854775807) :
  A0l ((C8 X o ⟨sz,true,cs⟩).upd c b2) (c+1) sz bytes (B6 o n) m src=some (.slc (c+1) 0 (n+m),(U7 ((C8 X o ⟨sz,true,cs⟩).upd c b2) o).upd (c+1) ⟨sz,true,cs++src⟩,c+1+1) :=
 H9 hn (fun i hi=>by have:=ho i hi;rw [A3 (by omega)];subst hi;exact A0) hl hm h2 h3
theorem r_apbyte {X:Hp} {o:Option Nat} {c:Nat} {acc:List UInt8} (hn:o=none->acc=[]) (ho:∀ i,o=some i->i<c) (hl:acc.length<=10000000) (b2:Blk) (x:UInt8) :
  A0l ((C8 X o ⟨1,true,E0 acc⟩).upd c b2) (c+1) 1 1 (B6 o acc.length) 1 [.int .u8 (x.toNat:Int)]=some (.slc (c+1) 0 (acc.length+1),(U7 ((C8 X o ⟨1,true,E0 acc⟩).upd c b2) o).upd (c+1) ⟨1,true,E0 (acc++[x])⟩,c+1+1):=by
 rw [A3o];exact r_aptodo2 (fun e=>by rw [hn e];exact ⟨rfl,rfl⟩) ho (bytesC_len1 acc) (by omega) (by omega) (by omega)
theorem ix_one (c:UInt8):decide (Lib.indexByte [123,125,40,41,59,44,61,43,45,42,47,37,33,60,62] c≥0)=oneB c:=by
 rw [Bool.eq_iff_iff,decide_eq_true_iff];refine (ixb_iff c _).trans ?_;have key:∀ n:Nat,n<256->([123,125,40,41,59,44,61,43,45,42,47,37,33,60,62]:List UInt8).contains (UInt8.ofNat n)=oneB (UInt8.ofNat n):=by decide +kernel
 have:=key c.toNat c.toNat_lt;rw [UInt8.ofNat_toNat] at this;rw [this]
def quB (c:UInt8):List UInt8:=if c.toNat=34\/c.toNat=92 then [92,c] else [c]
def A1r (s:List UInt8):List UInt8:=[34]++s.flatMap quB
def Q1 (s:List UInt8):List UInt8:=A1r s++[34]
theorem qpre_step {s:List UInt8} {k:Nat} {c:UInt8} (h:s[k]? = some c):A1r (s.take (k+1))=A1r (s.take k)++quB c:=by
 unfold A1r;rw [List.take_add_one,h,List.flatMap_append,List.append_assoc];simp
theorem quB_len:∀ s:List UInt8,(s.flatMap quB).length<=2 * s.length
 | []=>by simp
 | c :: r=>by
  have:=quB_len r;rw [List.flatMap_cons,List.length_append,List.length_cons];have:(quB c).length<=2:=by unfold quB;split<;>simp
  omega
theorem qpre_len (s:List UInt8):(A1r s).length<=2 * s.length+1:=by
 have:=quB_len s;unfold A1r;rw [List.length_append,List.length_singleton];omega
theorem apb1 {H:Hp} {c id n:Nat} {acc:List UInt8} {x:UInt8} (hn:n=acc.length) (hl:n<=10000000) :
  apB H c id 1 1 n 1 [.int .u8 (x.toNat:Int)] (some ⟨1,true,E0 acc⟩)=some (.slc c 0 (n+1),(H.del id).upd c ⟨1,true,E0 (acc++[x])⟩,c+1):=by
 rw [A3o];exact D0 (by rw [Z5,hn];omega) (by omega) (by omega)
theorem scanV_nl (q:List Tok × Int × Int):(scanV q).nl=true:=by
 simp only [DV.nl,DV.nlL,nlL_toks,Bool.and_true]
theorem pc_snil3 {H:Hp} {a b:DV}:∃ H2,GL H [.tup [.snil,a,b]] H2 [.tup [.lst [],a,b]] :=
 ⟨H,GL.view fun ρ vs hA=>⟨hA.1,fun i x y hx hy=>by
  match i with
  | 0 =>
   cases hx;have:=hA.2 0 _ y rfl hy;obtain ⟨b',rfl,k1,k2⟩:=this.tup_inv;refine .tup _ _ k1 fun j x' y' hx' hy'=>?_
   match j with
   | 0=>cases hx';exact (k2 0 _ y' rfl hy').snil_lst
   | 1=>cases hx';exact k2 1 _ y' rfl hy'
   | 2=>cases hx';exact k2 2 _ y' rfl hy'
   | _+3=>cases hx'
  | _+1=>cases hx⟩⟩
theorem scan_nil {H:Hp} {a b:Int}:∃ H2,GL H [.tup [.snil,I64 a,I64 b]] H2 [scanV ([],a,b)]:=pc_snil3
theorem pc_todo3 {o:Option Nat} {xs:List DV} {u n:Nat} {a b:DV} (hno:o=none->xs=[]) (hl:xs.length=n) (hu:∀ x∈xs,x.cells.length=u) :
  ∃ H2,GL (C8 Sym.nil o ⟨u,true,A6 xs⟩) [.tup [B6 o n,a,b]] H2 [.tup [.lst xs,a,b]]:=by
 cases o with
 | none=>rw [hno rfl];exact pc_snil3
 | some i=>exact ⟨nil,GL.one (id:=i) A0 rfl (.cons _ _ _ _ (.tup _ _ (.cons _ _ _ _ (I8 hl hu ⟨[],by simp⟩) (.cons _ _ _ _ (.same _) (.cons _ _ _ _ (.same _) .nil)))) .nil)⟩
theorem opt_at {X:Hp} {o:Option Nat} {b:Blk} {i:Nat} (hi:o=some i):C8 X o b i=some b:=by subst hi;exact A0
def nxV (x:Nx):DV:=.tup [.agg [I64 x.kind,.str x.text,I64 x.value,I64 0],I64 x.n,I64 x.err]
theorem nxV_nl (x:Nx):(nxV x).nl=true:=rfl
theorem u8_eq (c:UInt8) (n:Nat) (h:n<256):(c == UInt8.ofNat n)=decide (c.toNat=n):=by
 rw [Bool.eq_iff_iff,beq_iff_eq,decide_eq_true_iff, <- UInt8.toNat_inj];simp;omega
theorem two_iff (c d:UInt8):twoB c d=([c,d] == [60,61] || [c,d] == [62,61] || [c,d] == [61,61] || [c,d] == [33,61] || [c,d] == [38,38] || [c,d] == [124,124]):=by
 have hk:∀ a b:UInt8,([c,d] == [a,b])=(c == a && d == b):=fun a b=>by simp [List.cons_beq_cons]
 rw [hk,hk,hk,hk,hk,hk];have hu:∀ (x:UInt8) (n:Nat),n<256->(x == UInt8.ofNat n)=(x.toNat == n):=fun x n h=>by rw [u8_eq x n h];rfl
 have e:∀ n:Nat,(OfNat.ofNat n:UInt8)=UInt8.ofNat n:=fun _=>rfl;show ([(60,61),(62,61),(61,61),(33,61),(38,38),(124,124)]:List (Nat × Nat)).contains (c.toNat,d.toNat)=(c == UInt8.ofNat 60 && d == UInt8.ofNat 61 || c == UInt8.ofNat 62 && d == UInt8.ofNat 61 || c == UInt8.ofNat 61 && d == UInt8.ofNat 61 || c == UInt8.ofNat 33 && d == UInt8.ofNat 61 || c == UInt8.ofNat 38 && d == UInt8.ofNat 38 || c == UInt8.ofNat 124 && d == UInt8.ofNat 124);rw [hu c 60 (by omega),hu c 61 (by omega),hu c 62 (by omega),hu c 33 (by omega),hu c 38 (by omega),hu c 124 (by omega),hu d 61 (by omega),hu d 38 (by omega),hu d 124 (by omega)];rw [Bool.eq_iff_iff];simp;omega
end Go.Pb
namespace Go.Pb
variable [Go.Sym.Tab]
open Go.Sym
inductive Ex where
 | mk (kind value:Int) (name:List UInt8) (args:List Ex) (pos:Int)
def Ex.kind:Ex->Int | .mk k _ _ _ _=>k
def Ex.value:Ex->Int | .mk _ v _ _ _=>v
def Ex.name:Ex->List UInt8 | .mk _ _ n _ _=>n
def Ex.args:Ex->List Ex | .mk _ _ _ a _=>a
def Ex.pos:Ex->Int | .mk _ _ _ _ p=>p
mutual
def Ex.v:Ex->DV
 | .mk k v n a p=>.agg [I64 k,I64 v,.str n,.lst (Ex.vs a),I64 p]
def Ex.vs:List Ex->List DV
 | []=>[]
 | e :: l=>Ex.v e :: Ex.vs l
end
theorem Ex.vs_map:∀ l:List Ex,Ex.vs l=l.map Ex.v
 | []=>rfl
 | e :: l=>by rw [Ex.vs,Ex.vs_map l];rfl
abbrev H7 (l:List Ex):DV:=.lst (l.map Ex.v)
abbrev Ex.w (e:Ex):DV:=.agg [I64 e.kind,I64 e.value,.str e.name,H7 e.args,I64 e.pos]
theorem Ex.v_w (e:Ex):e.v=e.w:=by
 cases e with|mk k v n a p=>rw [Ex.v,Ex.vs_map];rfl
theorem A6l (l:List Ex):∀ x∈l.map Ex.v,x.cells.length=5:=fun x hx=>by
 obtain ⟨y, -,rfl⟩:=List.mem_map.1 hx;rw [Ex.v_w];rfl
mutual
@[simp]theorem Ex.nl:∀ e:Ex,e.v.nl=true
 | .mk k v n a p=>by
  have:=Ex.nls a;rw [Ex.v];simp only [DV.nl,DV.nlL,this,Bool.and_true]
theorem Ex.nls:∀ l:List Ex,DV.nlL (Ex.vs l)=true
 | []=>rfl
 | e :: l=>by rw [Ex.vs,DV.nlL,Ex.nl e,Ex.nls l];rfl
end
@[simp]theorem A0b (l:List Ex):DV.nlL (l.map Ex.v)=true:=by rw [<- Ex.vs_map];exact Ex.nls l
def Ex0:Ex:=.mk 0 0 [] [] 0
inductive St where
 | mk (kind:Int) (name text:List UInt8) (args:List Ex) (thn els:List St) (pos:Int)
def St.kind:St->Int | .mk k _ _ _ _ _ _=>k
def St.name:St->List UInt8 | .mk _ n _ _ _ _ _=>n
def St.text:St->List UInt8 | .mk _ _ t _ _ _ _=>t
def St.args:St->List Ex | .mk _ _ _ a _ _ _=>a
def St.thn:St->List St | .mk _ _ _ _ t _ _=>t
def St.els:St->List St | .mk _ _ _ _ _ e _=>e
def St.pos:St->Int | .mk _ _ _ _ _ _ p=>p
mutual
def St.v:St->DV
 | .mk k n t a x y p=>.agg [I64 k,.str n,.str t,H7 a,.lst (St.vs x),.lst (St.vs y),I64 p]
def St.vs:List St->List DV
 | []=>[]
 | e :: l=>St.v e :: St.vs l
end
theorem St.vs_map:∀ l:List St,St.vs l=l.map St.v
 | []=>rfl
 | e :: l=>by rw [St.vs,St.vs_map l];rfl
abbrev G6 (l:List St):DV:=.lst (l.map St.v)
abbrev St.w (s:St):DV:=.agg [I64 s.kind,.str s.name,.str s.text,H7 s.args,G6 s.thn,G6 s.els,I64 s.pos]
theorem St.v_w (s:St):s.v=s.w:=by
 cases s with|mk k n t a x y p=>rw [St.v,St.vs_map,St.vs_map];rfl
theorem st_unit (l:List St):∀ x∈l.map St.v,x.cells.length=7:=fun x hx=>by
 obtain ⟨y, -,rfl⟩:=List.mem_map.1 hx;rw [St.v_w];rfl
mutual
@[simp]theorem St.nl:∀ e:St,e.v.nl=true
 | .mk k n t a x y p=>by
  have h1:=A0b a;have h2:=St.nls x;have h3:=St.nls y;rw [St.v];simp only [DV.nl,DV.nlL,h1,h2,h3,Bool.and_true]
theorem St.nls:∀ l:List St,DV.nlL (St.vs l)=true
 | []=>rfl
 | e :: l=>by rw [St.vs,DV.nlL,St.nl e,St.nls l];rfl
end
@[simp]theorem X0 (l:List St):DV.nlL (l.map St.v)=true:=by rw [<- St.vs_map];exact St.nls l
def St0:St:=.mk 0 [] [] [] [] [] 0
structure Dc where
 kind:Int
 name:List UInt8
 value:Int
 pos:Int
deriving DecidableEq
abbrev Dc.v (d:Dc):DV:=.agg [I64 d.kind,.str d.name,I64 d.value,I64 d.pos]
abbrev V6 (l:List Dc):DV:=.lst (l.map Dc.v)
structure Hd where
 trig:Int
 name:List UInt8
 body:List St
 pos:Int
abbrev Hd.v (h:Hd):DV:=.agg [I64 h.trig,.str h.name,G6 h.body,I64 h.pos]
abbrev A4d (l:List Hd):DV:=.lst (l.map Hd.v)
structure Md where
 name:List UInt8
 prio:Int
 hds:List Hd
 pos:Int
abbrev Md.v (m:Md):DV:=.agg [.str m.name,I64 m.prio,A4d m.hds,I64 m.pos]
abbrev A6d (l:List Md):DV:=.lst (l.map Md.v)
structure Ru where
 decls:List Dc
 modes:List Md
abbrev Ru.v (r:Ru):DV:=.agg [V6 r.decls,A6d r.modes]
theorem dc_unit (l:List Dc):∀ x∈l.map Dc.v,x.cells.length=4:=fun x hx=>by obtain ⟨y, -,rfl⟩:=List.mem_map.1 hx;rfl
theorem hd_unit (l:List Hd):∀ x∈l.map Hd.v,x.cells.length=4:=fun x hx=>by obtain ⟨y, -,rfl⟩:=List.mem_map.1 hx;rfl
theorem md_unit (l:List Md):∀ x∈l.map Md.v,x.cells.length=4:=fun x hx=>by obtain ⟨y, -,rfl⟩:=List.mem_map.1 hx;rfl
@[simp]theorem X2 (l:List Dc):DV.nlL (l.map Dc.v)=true:=K4 (fun _=>rfl) l
@[simp]theorem nlL_hds (l:List Hd):DV.nlL (l.map Hd.v)=true:=K4 (fun h=>by simp [DV.nl,DV.nlL,X0]) l
@[simp]theorem X1 (l:List Md):DV.nlL (l.map Md.v)=true:=K4 (fun h=>by simp [DV.nl,DV.nlL,nlL_hds]) l
theorem Ru.nl (r:Ru):r.v.nl=true:=by simp [DV.nl,DV.nlL,X2,X1]
structure Rd where
 i:Nat
 e:Int
 pos:Int
 ops:Int
 par:Int
section
variable (L:List Tok) (E:Int)
def okR (s:Rd):Bool:=s.e == 0
def J0 (s:Rd) (p e:Int):Rd:=if okR s=true then { s with e:=e,pos:=p } else s
def A4 (s:Rd):Tok:=L.getD s.i ⟨0,[],0,E⟩
def isR (s:Rd) (t:List UInt8):Bool:=okR s && ((A4 L E s).kind == 5 || (A4 L E s).kind == 2) && (A4 L E s).text == t
def F8 (s:Rd) (k:Int):Bool:=okR s && (A4 L E s).kind == k
def L8 (s:Rd):Rd:=J0 s (A4 L E s).pos 4
def B5 (s:Rd) (n most e:Int):Rd:=if most<n then J0 s (A4 L E s).pos e else s
def B1 (s:Rd):Rd:={ s with i:=s.i+1 }
def C2 (s:Rd) (t:List UInt8):Rd:=if isR L E s t=false then L8 L E s else B1 s
def P1:Tok:=⟨0,[],0,0⟩
def A7 (s:Rd) (k:Int):Tok × Rd:=if F8 L E s k=false then (P1,L8 L E s) else (A4 L E s,B1 s)
def V7 (s:Rd):Nat->List (List UInt8)->Int
 | _,[] => -1
 | k,t :: l=>if isR L E s t=true then (k:Int) else V7 s (k+1) l
def B4 (s:Rd) (l:List (List UInt8)):Int:=V7 L E s 0 l
end
def C4:List (List UInt8):=[[115,119,105,116,99,104],[99,111,105,108],[108,97,109,112],[115,111,117,110,100],[115,104,111,119],[118,97,114],[116,105,109,101,114],[101,118,101,110,116]]
def C7:List (List UInt8):=[[115,116,97,114,116],[115,116,111,112],[99,108,111,115,101],[111,112,101,110],[116,105,109,101,114],[101,118,101,110,116]]
def B3:List (List UInt8):=[[105,102],[114,101,112,101,97,116],[115,99,111,114,101],[102,105,114,101],[104,111,108,100],[114,101,108,101,97,115,101],[108,105,103,104,116],[98,108,105,110,107],[115,116,97,114,116],[115,116,111,112],[98,101,103,105,110],[101,110,100],[112,111,115,116],[112,108,97,121],[114,117,110],[104,97,108,116],[116,101,120,116],[99,111,110,115,117,109,101]]
def C0:List (List UInt8):=[[42],[47],[37],[43],[45],[60],[60,61],[62],[62,61],[61,61],[33,61],[38,38],[124,124]]
def C6 (k:Int):Int:=if k=24 then 1 else if k=23 then 2 else if 17<=k/\k<=22 then 3 else if k=15\/k=16 then 4 else if 12<=k/\k<=14 then 5 else if k=10\/k=11 then 6 else 7
section
variable (L:List Tok) (E:Int)
def F2:List Int:=[3,4,8,9,5,6,7]
def E5:List (List UInt8):=[[116,114,117,101],[102,97,108,115,101],[112,108,97,121,101,114],[98,97,108,108],[99,108,111,115,101,100],[97,99,116,105,118,101],[108,101,102,116]]
def R0:List (List UInt8):=[[45],[33],[40]]
def K1 (s:Rd):Ex × Rd :=
 let t:=A4 L E s
 let k:=B4 L E s E5
 if k<0/\F8 L E s 3=false/\F8 L E s 1=false then (Ex0,L8 L E s)
 else
  let s1:Rd:={ s with ops:=s.ops+1 }
  let s2:=B5 L E s1 s1.ops 32 9
  if okR s2=false then (Ex0,s2)
  else
   let s3:=B1 s2
   if 0<=k then
    if 4<=k then (.mk (F2.getD k.toNat 0) 0 (A7 L E s3 1).1.text [] t.pos,(A7 L E s3 1).2)
    else (.mk (F2.getD k.toNat 0) 0 [] [] t.pos,s3)
   else if t.kind=3 then (.mk 1 t.value [] [] t.pos,s3)
   else (.mk 2 0 t.text [] t.pos,s3)
mutual
def E3:Nat->Int->Rd->Option (Ex × Rd)
 | 0,_,_=>none
 | f+1,n,s=>if 5<n then K6 f s else
  match E3 f (n+1) s with
  | none=>none
  | some (e,s)=>J6 f n e s
def J6:Nat->Int->Ex->Rd->Option (Ex × Rd)
 | 0,_,_,_=>none
 | f+1,n,e,s =>
  let k:=B4 L E s C0
  if k<0\/C6 (12+k)≠n then some (e,s) else
  match E3 f (n+1) (B1 s) with
  | none=>none
  | some (x,s1) =>
   let y:=Ex.mk (12+k) 0 [] [e,x] (A4 L E s).pos
   if n=3 then some (y,s1) else J6 f n y s1
def K6:Nat->Rd->Option (Ex × Rd)
 | 0,_=>none
 | f+1,s =>
  let t:=A4 L E s
  let k:=B4 L E s R0
  if k<0 then some (K1 L E s) else
  let s1:=B5 L E s (s.par+1) 16 50
  if okR s1=false then some (Ex0,s1) else
  let s2:Rd:={ s1 with i:=s1.i+1,par:=s1.par+1 }
  if k=2 then
   match E3 f 1 s2 with
   | none=>none
   | some (e,s3)=>let s4:=C2 L E s3 [41];some (e, { s4 with par:=s4.par-1 })
  else
   match K6 f s2 with
   | none=>none
   | some (e,s3)=>some (.mk (10+k) 0 [] [e] t.pos, { s3 with par:=s3.par-1 })
end
def E6 (f:Nat) (s:Rd):Option (Ex × Rd):=E3 L E f 1 { s with ops:=0,par:=0 }
def S8 (f:Nat) (k p:Int) (s:Rd):Option (St × Rd) :=
 if k=4 then
  match E6 L E f s with
  | none=>none
  | some (e,s1)=>some (.mk k [] [] [e] [] [] p,C2 L E s1 [59])
 else if k=18 then
  match E6 L E f (C2 L E (A7 L E s 4).2 [44]) with
  | none=>none
  | some (e,s1)=>some (.mk k [] (A7 L E s 4).1.text [e] [] [] p,C2 L E s1 [59])
 else if k=19 then some (.mk k [] [] [] [] [] p,C2 L E s [59])
 else
  let n:=(A7 L E s 1).1.text
  let s0:=(A7 L E s 1).2
  if k=8\/k=9\/k=10 then
   match E6 L E f s0 with
   | none=>none
   | some (e,s1) =>
    if k=9 then
     match E6 L E f (C2 L E s1 [44]) with
     | none=>none
     | some (e2,s2)=>some (.mk k n [] [e,e2] [] [] p,C2 L E s2 [59])
    else some (.mk k n [] [e] [] [] p,C2 L E s1 [59])
  else some (.mk k n [] [] [] [] p,C2 L E s0 [59])
mutual
def G1:Nat->Int->Rd->Option (List St × Rd)
 | 0,_,_=>none
 | f+1,d,s=>P0 f d [] (C2 L E s [123])
def P0:Nat->Int->List St->Rd->Option (List St × Rd)
 | 0,_,_,_=>none
 | f+1,d,l,s =>
  if okR s=true/\isR L E s [125]=false then
   if B4 L E s B3<0/\F8 L E s 1=false then some ([],L8 L E s) else
   match L9 f d (B5 L E s ((l.length:Int)+1) 64 9) with
   | none=>none
   | some (x,s1)=>P0 f d (l++[x]) s1
  else some (l,C2 L E s [125])
def L9:Nat->Int->Rd->Option (St × Rd)
 | 0,_,_=>none
 | f+1,d,s0 =>
  let s:=B5 L E s0 d 8 50
  if okR s=false then some (St0,s) else
  let p:=(A4 L E s).pos
  let k:=B4 L E s B3
  if k<0 then
   match E6 L E f (C2 L E (A7 L E s 1).2 [61]) with
   | none=>none
   | some (e,s1)=>some (.mk 1 (A7 L E s 1).1.text [] [e] [] [] p,C2 L E s1 [59])
  else
   let s1:=B1 s
   if k=0\/k=1 then
    match E6 L E f s1 with
    | none=>none
    | some (e,s2) =>
     match G1 f (d+1) s2 with
     | none=>none
     | some (t,s3) =>
      if k=0/\isR L E s3 [101,108,115,101]=true then
       match U9 f d (B1 s3) with
       | none=>none
       | some (o,s4)=>some (.mk 2 [] [] [e] t o p,s4)
      else some (.mk (2+k) [] [] [e] t [] p,s3)
   else S8 L E f (2+k) p s1
def U9:Nat->Int->Rd->Option (List St × Rd)
 | 0,_,_=>none
 | f+1,d,s =>
  if isR L E s [105,102]=true then
   match L9 f (d+1) s with
   | none=>none
   | some (x,s1)=>some ([x],s1)
  else G1 f (d+1) s
end
def A0z (k:Int) (s:Rd):Dc × Rd :=
 let p:=(A4 L E s).pos
 let s1:=B1 s
 let n:=(A7 L E s1 1).1.text
 let s2:=(A7 L E s1 1).2
 if k+1<=6 then
  let m:=k+1 == 6 && isR L E s2 [45]
  let s3:=if m=true then B1 s2 else s2
  let v:=(A7 L E s3 3).1.value
  (⟨1+k,n,if m=true then -v else v,p⟩,C2 L E (A7 L E s3 3).2 [59])
 else (⟨1+k,n,0,p⟩,C2 L E s2 [59])
def O4:Nat->List Hd->Rd->Option (List Hd × Rd)
 | 0,_,_=>none
 | f+1,l,s =>
  if okR s=true/\isR L E s [125]=false then
   if isR L E s [111,110]=false then some (l,L8 L E s) else
   let s1:=B5 L E s ((l.length:Int)+1) 32 9
   let p:=(A4 L E s1).pos
   let s2:=C2 L E s1 [111,110]
   let k:=B4 L E s2 C7
   if k<0 then some (l,L8 L E s2) else
   let s3:=B1 s2
   let n:=if 2<=k then (A7 L E s3 1).1.text else []
   let s4:=if 2<=k then (A7 L E s3 1).2 else s3
   match G1 L E f 1 s4 with
   | none=>none
   | some (b,s5)=>O4 f (l++[⟨1+k,n,b,p⟩]) s5
  else some (l,C2 L E s [125])
def A4c (f:Nat) (s:Rd):Option (Md × Rd) :=
 let p:=(A4 L E s).pos
 let s1:=C2 L E s [109,111,100,101]
 let n:=(A7 L E s1 1).1.text
 let s2:=(A7 L E s1 1).2
 let v:=(A7 L E s2 3).1.value
 match O4 L E f [] (C2 L E (A7 L E s2 3).2 [123]) with
 | none=>none
 | some (l,s3)=>some (⟨n,v,l,p⟩,s3)
def S1:Nat->List Dc->Rd->Option (List Dc × Rd)
 | 0,_,_=>none
 | f+1,l,s =>
  let k:=B4 L E s C4
  if k<0 then some (l,s) else
  let s1:=B5 L E s ((l.length:Int)+1) 128 9
  if okR s1=true then S1 f (l++[(A0z L E k s1).1]) (A0z L E k s1).2 else S1 f l s1
def O2:Nat->List Md->Rd->Option (List Md × Rd)
 | 0,_,_=>none
 | f+1,l,s =>
  if okR s=true/\s.i<L.length then
   if isR L E s [109,111,100,101]=false then some (l,L8 L E s) else
   let s1:=B5 L E s ((l.length:Int)+1) 16 9
   if okR s1=true then
    match A4c L E f s1 with
    | none=>none
    | some (m,s2)=>O2 f (l++[m]) s2
   else O2 f l s1
  else some (l,s)
def A3y (f:Nat) (s:Rd):Option (Ru × Rd) :=
 match S1 L E f [] s with
 | none=>none
 | some (d,s1) =>
  match O2 L E f [] s1 with
  | none=>none
  | some (m,s2)=>some (⟨d,m⟩,s2)
end
end Go.Pb
namespace Go.Pb
variable [Go.Sym.Tab]
open Go.Sym
section
variable {L:List Tok} {E:Int}
theorem J5 {s:Rd} {p e:Int} (he:e≠0):okR (J0 s p e)=false:=by
 unfold J0;split
 ·simp [okR,he]
 ·rename_i h;simpa using h
theorem A2q {s:Rd}:okR (L8 L E s)=false:=J5 (by decide)
theorem O6 {s:Rd} {n m e:Int} (he:e≠0) (h:okR (B5 L E s n m e)=true):okR s=true/\n<=m/\B5 L E s n m e=s:=by
 unfold B5 at h ⊢;split at h
 ·rw [J5 he] at h;cases h
 ·rename_i hn;rw [if_neg hn];exact ⟨h,by omega,rfl⟩
theorem A1m {s:Rd} {t:List UInt8} (h:isR L E s t=true):okR s=true/\s.i<L.length:=by
 unfold isR at h;simp only [Bool.and_eq_true,Bool.or_eq_true,beq_iff_eq] at h;refine ⟨h.1.1,?_⟩;by_cases hi:s.i<L.length
 ·exact hi
 ·have e:A4 L E s=⟨0,[],0,E⟩:=by unfold A4;rw [List.getD_eq_getElem?_getD,List.getElem?_eq_none (by omega)];rfl
  rw [e] at h;simp at h
theorem J8 {s:Rd} {k:Int} (h:F8 L E s k=true):okR s=true/\(A4 L E s).kind=k:=by
 unfold F8 at h;simp only [Bool.and_eq_true,beq_iff_eq] at h;exact h
theorem H3 {s:Rd} {k:Int} (hk:k≠0) (h:(A4 L E s).kind=k):A4 L E s∈L/\s.i<L.length:=by
 by_cases hi:s.i<L.length
 ·refine ⟨?_,hi⟩;unfold A4;rw [List.getD_eq_getElem?_getD,List.getElem?_eq_getElem hi];exact List.getElem_mem hi
 ·exfalso;have e:A4 L E s=⟨0,[],0,E⟩:=by unfold A4;rw [List.getD_eq_getElem?_getD,List.getElem?_eq_none (by omega)];rfl
  rw [e] at h;exact hk h.symm
theorem exp_ok {s:Rd} {t:List UInt8} (h:okR (C2 L E s t)=true):isR L E s t=true/\C2 L E s t=B1 s:=by
 unfold C2 at h ⊢;cases hi:isR L E s t with
 | false=>rw [hi] at h;simp only [if_true] at h;rw [A2q] at h;cases h
 | true=>simp
theorem O9 {s:Rd}:∀ {l:List (List UInt8)} {k:Nat},0<=V7 L E s k l->okR s=true/\s.i<L.length/\(k:Int)<=V7 L E s k l/\V7 L E s k l<(k+l.length:Nat)
 | [],k,h=>by simp [V7] at h
 | t :: l,k,h=>by
  unfold V7 at h ⊢;cases hi:isR L E s t with
  | true =>
   rw [if_pos rfl];obtain ⟨h1,h2⟩:=A1m hi;exact ⟨h1,h2,Int.le_refl _,by simp only [List.length_cons];omega⟩
  | false =>
   rw [hi] at h;simp only [Bool.false_eq_true,if_false] at h ⊢;obtain ⟨h1,h2,h3,h4⟩:=O9 h;exact ⟨h1,h2,by omega,by simp only [List.length_cons];omega⟩
end
structure RI (L:List Tok) (s:Rd):Prop where
 i:s.i<=L.length
 o0:0<=s.ops
 o1:s.ops<=33
 o2:okR s=true->s.ops<=32
 p0:0<=s.par
 p1:s.par<=16
section
variable {L:List Tok} {E:Int}
theorem RI.fail {s:Rd} {p e:Int} (he:e≠0) (h:RI L s):RI L (J0 s p e)/\(J0 s p e).par=s.par:=by
 have hk:=J5 (s:=s) (p:=p) he;have e1:(J0 s p e).i=s.i:=by unfold J0;split<;>rfl
 have e2:(J0 s p e).ops=s.ops:=by unfold J0;split<;>rfl
 have e3:(J0 s p e).par=s.par:=by unfold J0;split<;>rfl
 exact ⟨⟨by rw [e1];exact h.i,by rw [e2];exact h.o0,by rw [e2];exact h.o1,(fun k=>by rw [hk] at k;cases k),by rw [e3];exact h.p0,by rw [e3];exact h.p1⟩,e3⟩
theorem RI.syn {s:Rd} (h:RI L s):RI L (L8 L E s)/\(L8 L E s).par=s.par:=h.fail (by decide)
theorem RI.lim {s:Rd} {n m e:Int} (he:e≠0) (h:RI L s):RI L (B5 L E s n m e)/\(B5 L E s n m e).par=s.par:=by
 unfold B5;split
 ·exact h.fail he
 ·exact ⟨h,rfl⟩
theorem RI.nxt {s:Rd} (h:RI L s) (hi:s.i<L.length):RI L (B1 s):=⟨hi,h.o0,h.o1,h.o2,h.p0,h.p1⟩
theorem RI.exp {s:Rd} {x:List UInt8} (h:RI L s):RI L (C2 L E s x)/\(C2 L E s x).par=s.par:=by
 unfold C2;cases k:isR L E s x with
 | false=>rw [if_pos rfl];exact h.syn
 | true=>rw [if_neg (by simp)];exact ⟨h.nxt (A1m k).2,rfl⟩
theorem RI.take {s:Rd} {x:Int} (hx:x≠0) (h:RI L s):RI L (A7 L E s x).2/\(A7 L E s x).2.par=s.par:=by
 unfold A7;cases k:F8 L E s x with
 | false=>rw [if_pos rfl];exact h.syn
 | true=>rw [if_neg (by simp)];exact ⟨h.nxt (H3 hx (J8 k).2).2,rfl⟩
theorem RI.prim {s:Rd} (h:RI L s):RI L (K1 L E s).2/\(K1 L E s).2.par=s.par:=by
 unfold K1;dsimp only;split
 ·exact h.syn
 ·rename_i hc;have hok:okR s=true/\s.i<L.length:=by
   by_cases hk:0<=B4 L E s E5
   ·obtain ⟨h1,h2, -⟩:=O9 hk;exact ⟨h1,h2⟩
   ·cases h3:F8 L E s 3 with
    | true=>exact ⟨(J8 h3).1,(H3 (by decide) (J8 h3).2).2⟩
    | false =>
     cases h1:F8 L E s 1 with
     | true=>exact ⟨(J8 h1).1,(H3 (by decide) (J8 h1).2).2⟩
     | false=>exact absurd ⟨by omega,h3,h1⟩ hc
  have h32:=h.o2 hok.1;have ho:=h.o0;obtain ⟨s2,hs2⟩:∃ s2,s2=B5 L E { s with ops:=s.ops+1 } (s.ops+1) 32 9:=⟨_,rfl⟩;rw [<- hs2];cases h2:okR s2 with
  | false =>
   rw [if_pos rfl];have e1:s2.i=s.i:=by rw [hs2];unfold B5 J0;split<;>(try split)<;>rfl
   have e2:s2.ops=s.ops+1:=by rw [hs2];unfold B5 J0;split<;>(try split)<;>rfl
   have e3:s2.par=s.par:=by rw [hs2];unfold B5 J0;split<;>(try split)<;>rfl
   refine ⟨⟨?_,?_,?_,(fun k=>by rw [h2] at k;cases k),?_,?_⟩,e3⟩<;>dsimp only
   ·rw [e1];exact h.i
   ·omega
   ·omega
   ·rw [e3];exact h.p0
   ·rw [e3];exact h.p1
  | true =>
   rw [if_neg (by simp)];rw [hs2] at h2;obtain ⟨-,h4,h5⟩:=O6 (by decide) h2;rw [h5] at hs2;have h3:RI L (B1 s2):=by
    rw [hs2];exact ⟨hok.2,by show 0<=s.ops+1;omega,by show s.ops+1<=33;omega,fun _=>h4,h.p0,h.p1⟩
   have hp:(B1 s2).par=s.par:=by rw [hs2];rfl
   repeat' split
   ·exact ⟨(h3.take (by decide)).1,(h3.take (by decide)).2.trans hp⟩
   all_goals exact ⟨h3,hp⟩
theorem RI.all:∀ f:Nat,(∀ n s r,E3 L E f n s=some r->RI L s->RI L r.2/\r.2.par=s.par)/\(∀ n e s r,J6 L E f n e s=some r->RI L s->RI L r.2/\r.2.par=s.par)/\(∀ s r,K6 L E f s=some r->RI L s->RI L r.2/\r.2.par=s.par)
 | 0=>⟨fun n s r h=>by simp [E3] at h,fun n e s r h=>by simp [J6] at h,fun s r h=>by simp [K6] at h⟩
 | f+1=>by
  obtain ⟨i1,i2,i3⟩:=RI.all f;refine ⟨fun n s r h k=>?_,fun n e s r h k=>?_,fun s r h k=>?_⟩
  ·unfold E3 at h;split at h
   ·exact i3 _ _ h k
   ·cases hb:E3 L E f (n+1) s with
    | none=>rw [hb] at h;cases h
    | some q =>
     obtain ⟨e,s1⟩:=q;rw [hb] at h;obtain ⟨a1,a2⟩:=i1 _ _ _ hb k;obtain ⟨b1,b2⟩:=i2 _ _ _ _ h a1;exact ⟨b1,b2.trans a2⟩
  ·unfold J6 at h;dsimp only at h;split at h
   ·cases h;exact ⟨k,rfl⟩
   ·rename_i hk;have hk0:0<=B4 L E s C0:=Classical.byContradiction fun g=>hk (.inl (by omega));obtain ⟨-,hi, -⟩:=O9 hk0;cases hb:E3 L E f (n+1) (B1 s) with
    | none=>rw [hb] at h;cases h
    | some q =>
     obtain ⟨x,s1⟩:=q;rw [hb] at h;obtain ⟨a1,a2⟩:=i1 _ _ _ hb (k.nxt hi);dsimp only at h;split at h
     ·cases h;exact ⟨a1,a2⟩
     ·obtain ⟨b1,b2⟩:=i2 _ _ _ _ h a1;exact ⟨b1,b2.trans a2⟩
  ·unfold K6 at h;dsimp only at h;split at h
   ·cases h;exact k.prim
   ·rename_i hk;have hk0:0<=B4 L E s R0:=by omega
    obtain ⟨-,hi, -⟩:=O9 hk0;split at h
    ·cases h;exact k.lim (by decide)
    ·rename_i hl;have hl:okR (B5 L E s (s.par+1) 16 50)=true:=by simpa using hl
     obtain ⟨h1,h2,h3⟩:=O6 (by decide) hl;rw [h3] at h;have k2:RI L { s with i:=s.i+1,par:=s.par+1 }:=⟨hi,k.o0,k.o1,k.o2,by have:=k.p0;show 0<=s.par+1;omega,h2⟩;have fin:∀ z:Rd,RI L z->z.par=s.par+1->RI L { z with par:=z.par-1 }/\z.par-1=s.par:=fun z hz hp =>
      ⟨⟨hz.i,hz.o0,hz.o1,hz.o2,by have:=k.p0;show 0<=z.par-1;omega,by have:=k.p1;show z.par-1<=16;omega⟩,by omega⟩
     split at h
     ·cases hb:E3 L E f 1 { s with i:=s.i+1,par:=s.par+1 } with
      | none=>rw [hb] at h;cases h
      | some q =>
       obtain ⟨e,s3⟩:=q;rw [hb] at h;cases h;obtain ⟨a1,a2⟩:=i1 _ _ _ hb k2;obtain ⟨b1,b2⟩:=a1.exp (E:=E) (x:=[41]);exact fin _ b1 (b2.trans a2)
     ·cases hb:K6 L E f { s with i:=s.i+1,par:=s.par+1 } with
      | none=>rw [hb] at h;cases h
      | some q =>
       obtain ⟨e,s3⟩:=q;rw [hb] at h;cases h;obtain ⟨a1,a2⟩:=i3 _ _ hb k2;exact fin _ a1 a2
theorem fail_i {s:Rd} {p e:Int}:(J0 s p e).i=s.i:=by unfold J0;split<;>rfl
theorem A1g {s:Rd}:(L8 L E s).i=s.i:=fail_i
theorem Q4 {s:Rd} {n m e:Int}:(B5 L E s n m e).i=s.i:=by unfold B5;split;exact fail_i;rfl
theorem A5p {s:Rd} {x:Int} (hx:x≠0) (h:s.i<=L.length):(A7 L E s x).2.i<=L.length:=by
 unfold A7;cases k:F8 L E s x with
 | false=>rw [if_pos rfl,A1g];exact h
 | true=>rw [if_neg (by simp)];exact (H3 hx (J8 k).2).2
theorem expn_i {f:Nat} {s:Rd} {r:Ex × Rd} (h:E6 L E f s=some r) (hi:s.i<=L.length):r.2.i<=L.length :=
 ((RI.all f).1 1 { s with ops:=0,par:=0 } r h ⟨hi,Int.le_refl 0,(by decide:(0:Int)<=33),fun _=>(by decide:(0:Int)<=32),Int.le_refl 0,(by decide:(0:Int)<=16)⟩).1.i
end
end Go.Pb
namespace Go.Pb
variable [Go.Sym.Tab]
open Go.Sym
def Evt {α : Type} (g:Nat->Option α) (r : α):Prop:=∃ N, ∀ f,N<=f->g f=some r
theorem Evt.one {α : Type} {g:Nat->Option α} {r : α} (h:∀ f,g (f+1)=some r):Evt g r :=
 ⟨1,fun f hf=>by obtain ⟨k,rfl⟩:∃ k,f=k+1:=⟨f-1,by omega⟩;exact h k⟩
theorem Evt.ext {α β : Type} {g:Nat->Option α} {h:Nat->Option β} {r : α} {q : β} (hg:Evt g r) (e:∀ f,g f=some r->h (f+1)=some q):Evt h q:=by
 obtain ⟨N,hg⟩:=hg;exact ⟨N+1,fun f hf=>by obtain ⟨k,rfl⟩:∃ k,f=k+1:=⟨f-1,by omega⟩;exact e k (hg k (by omega))⟩
theorem Evt.map {α β : Type} {g:Nat->Option α} {h:Nat->Option β} {r : α} {q : β} (hg:Evt g r) (e:∀ f,g f=some r->h f=some q):Evt h q:=by
 obtain ⟨N,hg⟩:=hg;exact ⟨N,fun f hf=>e f (hg f hf)⟩
theorem Evt.and {α β : Type} {g:Nat->Option α} {h:Nat->Option β} {r : α} {q : β} (hg:Evt g r) (hh:Evt h q):Evt (fun f=>match g f,h f with|some a,some b=>some (a,b)|_,_=>none) (r,q):=by
 obtain ⟨N,hg⟩:=hg;obtain ⟨M,hh⟩:=hh;exact ⟨max N M,fun f hf=>by dsimp only;rw [hg f (by omega),hh f (by omega)]⟩
theorem Evt.ext2 {α β γ : Type} {g:Nat->Option α} {h:Nat->Option β} {k:Nat->Option γ} {r : α} {q : β} {w : γ} (hg:Evt g r) (hh:Evt h q) (e:∀ f,g f=some r->h f=some q->k (f+1)=some w):Evt k w:=by
 obtain ⟨N,hg⟩:=hg;obtain ⟨M,hh⟩:=hh;exact ⟨max N M+1,fun f hf=>by obtain ⟨j,rfl⟩:∃ j,f=j+1:=⟨f-1,by omega⟩;exact e j (hg j (by omega)) (hh j (by omega))⟩
theorem Evt.map2 {α β γ : Type} {g:Nat->Option α} {h:Nat->Option β} {k:Nat->Option γ} {r : α} {q : β} {w : γ} (hg:Evt g r) (hh:Evt h q) (e:∀ f,g f=some r->h f=some q->k f=some w):Evt k w:=by
 obtain ⟨N,hg⟩:=hg;obtain ⟨M,hh⟩:=hh;exact ⟨max N M,fun f hf=>e f (hg f (by omega)) (hh f (by omega))⟩
theorem Evt.uniq {α : Type} {g:Nat->Option α} {r q : α} (h1:Evt g r) (h2:Evt g q):r=q:=by
 obtain ⟨N,h1⟩:=h1;obtain ⟨M,h2⟩:=h2;exact Option.some.inj ((h1 (max N M) (by omega)).symm.trans (h2 (max N M) (by omega)))
theorem Evt.get {α : Type} {g:Nat->Option α} {r : α} (h:Evt g r):∃ f,g f=some r:=by
 obtain ⟨N,h⟩:=h;exact ⟨N,h N (Nat.le_refl _)⟩
section
variable {L:List Tok} {E:Int}
abbrev Bin (L:List Tok) (E n:Int) (s:Rd) (r:Ex × Rd):Prop:=Evt (fun f=>E3 L E f n s) r
abbrev Lop (L:List Tok) (E n:Int) (e:Ex) (s:Rd) (r:Ex × Rd):Prop:=Evt (fun f=>J6 L E f n e s) r
abbrev Un (L:List Tok) (E:Int) (s:Rd) (r:Ex × Rd):Prop:=Evt (fun f=>K6 L E f s) r
theorem Bin.un {n:Int} {s:Rd} {r:Ex × Rd} (hn:5<n) (h:Un L E s r):Bin L E n s r :=
 h.ext fun f h=>by rw [E3,if_pos hn];exact h
theorem Bin.go {n:Int} {s s1:Rd} {e:Ex} {r:Ex × Rd} (hn:n<=5) (h:Bin L E (n+1) s (e,s1)) (h2:Lop L E n e s1 r):Bin L E n s r :=
 h.ext2 h2 fun f h h2=>by rw [E3,if_neg (by omega),h];exact h2
theorem Lop.stop {n:Int} {e:Ex} {s:Rd} (h:B4 L E s C0<0\/C6 (12+B4 L E s C0)≠n):Lop L E n e s (e,s) :=
 Evt.one fun f=>by rw [J6];dsimp only;rw [if_pos h]
theorem Lop.three {n:Int} {e x:Ex} {s s1:Rd} (h0:0<=B4 L E s C0) (h1:C6 (12+B4 L E s C0)=n) (hn:n=3) (hb:Bin L E (n+1) (B1 s) (x,s1)):Lop L E n e s (.mk (12+B4 L E s C0) 0 [] [e,x] (A4 L E s).pos,s1) :=
 hb.ext fun f h=>by rw [J6];dsimp only;rw [if_neg (by omega),h];dsimp only;rw [if_pos hn]
theorem Lop.more {n:Int} {e x:Ex} {s s1:Rd} {r:Ex × Rd} (h0:0<=B4 L E s C0) (h1:C6 (12+B4 L E s C0)=n) (hn:n≠3) (hb:Bin L E (n+1) (B1 s) (x,s1)) (hl:Lop L E n (.mk (12+B4 L E s C0) 0 [] [e,x] (A4 L E s).pos) s1 r):Lop L E n e s r :=
 hb.ext2 hl fun f h h2=>by rw [J6];dsimp only;rw [if_neg (by omega),h];dsimp only;rw [if_neg hn];exact h2
theorem Un.prim {s:Rd} (h:B4 L E s R0<0):Un L E s (K1 L E s) :=
 Evt.one fun f=>by rw [K6];dsimp only;rw [if_pos h]
theorem Un.bad {s:Rd} (h:0<=B4 L E s R0) (hl:okR (B5 L E s (s.par+1) 16 50)=false):Un L E s (Ex0,B5 L E s (s.par+1) 16 50) :=
 Evt.one fun f=>by rw [K6];dsimp only;rw [if_neg (by omega),if_pos hl]
theorem Un.par {s s3:Rd} {e:Ex} (h:B4 L E s R0=2) (hl:okR (B5 L E s (s.par+1) 16 50)=true) (hb:Bin L E 1 { s with i:=s.i+1,par:=s.par+1 } (e,s3)):Un L E s (e, { C2 L E s3 [41] with par:=(C2 L E s3 [41]).par-1 }) :=
 hb.ext fun f hf=>by
  have e0:=(O6 (by decide) hl).2.2;rw [K6];dsimp only;rw [if_neg (by omega),if_neg (by rw [hl];decide),e0,if_pos h,hf]
theorem Un.pre {s s3:Rd} {e:Ex} (h0:0<=B4 L E s R0) (h:B4 L E s R0≠2) (hl:okR (B5 L E s (s.par+1) 16 50)=true) (hb:Un L E { s with i:=s.i+1,par:=s.par+1 } (e,s3)):Un L E s (.mk (10+B4 L E s R0) 0 [] [e] (A4 L E s).pos, { s3 with par:=s3.par-1 }) :=
 hb.ext fun f hf=>by
  have e0:=(O6 (by decide) hl).2.2;rw [K6];dsimp only;rw [if_neg (by omega),if_neg (by rw [hl];decide),e0,if_neg h,hf]
theorem F1 {s:Rd} {x:List UInt8}:s.i<=(C2 L E s x).i:=by
 unfold C2;cases k:isR L E s x with
 | false=>rw [if_pos rfl,A1g];exact Nat.le_refl _
 | true=>rw [if_neg (by simp)];exact Nat.le_succ _
theorem K3 {s:Rd} {x:Int}:s.i<=(A7 L E s x).2.i:=by
 unfold A7;cases k:F8 L E s x with
 | false=>rw [if_pos rfl];show s.i<=(L8 L E s).i;rw [A1g];exact Nat.le_refl _
 | true=>rw [if_neg (by simp)];exact Nat.le_succ _
theorem prim_ge {s:Rd}:s.i<=(K1 L E s).2.i:=by
 unfold K1;dsimp only;have h2:(B5 L E { s with ops:=s.ops+1 } (s.ops+1) 32 9).i=s.i:=Q4;have h3:(B1 (B5 L E { s with ops:=s.ops+1 } (s.ops+1) 32 9)).i=s.i+1:=by show (B5 L E { s with ops:=s.ops+1 } (s.ops+1) 32 9).i+1=_;rw [h2]
 split
 ·show s.i<=(L8 L E s).i;rw [A1g];exact Nat.le_refl _
 ·split
  ·show s.i<=(B5 L E { s with ops:=s.ops+1 } (s.ops+1) 32 9).i;rw [h2];exact Nat.le_refl _
  ·have:=K3 (L:=L) (E:=E) (s:=B1 (B5 L E { s with ops:=s.ops+1 } (s.ops+1) 32 9)) (x:=1);repeat' split
   all_goals (first|(show s.i<=(A7 L E _ 1).2.i;omega)|(show s.i<=(B1 _).i;omega))
theorem ET.all:∀ (m:Nat),(∀ s:Rd,L.length-s.i<=m->∃ r,Un L E s r/\s.i<=r.2.i)/\(∀ (n:Int) e (s:Rd),n<=5->1<=n->L.length-s.i<=m->∃ r,Lop L E n e s r/\s.i<=r.2.i)/\(∀ (n:Int) (s:Rd),1<=n->L.length-s.i<=m->∃ r,Bin L E n s r/\s.i<=r.2.i):=by
 intro m
 induction m using Nat.strongRecOn with
 | _ m ih =>
  have A:∀ s:Rd,L.length-s.i<=m->∃ r,Un L E s r/\s.i<=r.2.i:=by
   intro s hs;by_cases hk:B4 L E s R0<0
   ·exact ⟨_,Un.prim hk,prim_ge⟩
   ·obtain ⟨-,hi, -⟩:=O9 (show 0<=B4 L E s R0 by omega);cases hl:okR (B5 L E s (s.par+1) 16 50) with
    | false=>exact ⟨_,Un.bad (by omega) hl,by show s.i<=(B5 L E s (s.par+1) 16 50).i;rw [Q4];exact Nat.le_refl _⟩
    | true =>
     by_cases h2:B4 L E s R0=2
     ·obtain ⟨⟨e,s3⟩,hb,hge⟩:=(ih (m-1) (by omega)).2.2 1 { s with i:=s.i+1,par:=s.par+1 } (by decide) (by show L.length-(s.i+1)<=m-1;omega);refine ⟨_,Un.par h2 hl hb,?_⟩;have h4:=F1 (L:=L) (E:=E) (s:=s3) (x:=[41]);have h5:s.i+1<=s3.i:=hge;show s.i<=(C2 L E s3 [41]).i;omega
     ·obtain ⟨⟨e,s3⟩,hb,hge⟩:=(ih (m-1) (by omega)).1 { s with i:=s.i+1,par:=s.par+1 } (by show L.length-(s.i+1)<=m-1;omega);refine ⟨_,Un.pre (by omega) h2 hl hb,?_⟩;have h5:s.i+1<=s3.i:=hge;show s.i<=s3.i;omega
  have B:∀ (n:Int) e (s:Rd),n<=5->1<=n->L.length-s.i<=m->∃ r,Lop L E n e s r/\s.i<=r.2.i:=by
   intro n e s h5 h1 hs;by_cases hk:B4 L E s C0<0\/C6 (12+B4 L E s C0)≠n
   ·exact ⟨_,Lop.stop hk,Nat.le_refl _⟩
   ·have h0:0<=B4 L E s C0:=by omega
    obtain ⟨-,hi, -⟩:=O9 h0;obtain ⟨⟨x,s1⟩,hb,hge⟩:=(ih (m-1) (by omega)).2.2 (n+1) (B1 s) (by omega) (by show L.length-(s.i+1)<=m-1;omega);have hge:s.i+1<=s1.i:=hge;by_cases h3:n=3
    ·exact ⟨_,Lop.three h0 (by omega) h3 hb,by show s.i<=s1.i;omega⟩
    ·obtain ⟨r,hl,hg2⟩:=(ih (m-1) (by omega)).2.1 n (.mk (12+B4 L E s C0) 0 [] [e,x] (A4 L E s).pos) s1 h5 h1 (by omega);exact ⟨_,Lop.more h0 (by omega) h3 hb hl,by omega⟩
  refine ⟨A,B,?_⟩;have C:∀ (j:Nat) (n:Int) (s:Rd),6-n<=j->1<=n->L.length-s.i<=m->∃ r,Bin L E n s r/\s.i<=r.2.i:=by
   intro j
   induction j with
   | zero =>
    intro n s hj h1 hs;obtain ⟨r,h,hg⟩:=A s hs;exact ⟨r,Bin.un (by omega) h,hg⟩
   | succ j ihj =>
    intro n s hj h1 hs;by_cases h5:5<n
    ·obtain ⟨r,h,hg⟩:=A s hs;exact ⟨r,Bin.un h5 h,hg⟩
    ·obtain ⟨⟨e,s1⟩,h,hg⟩:=ihj (n+1) s (by omega) (by omega) hs;have hg:s.i<=s1.i:=hg;obtain ⟨r,h2,hg2⟩:=B n e s1 (by omega) h1 (by omega);exact ⟨r,Bin.go (by omega) h h2,by omega⟩
  exact fun n s h1 hs=>C (6-n).toNat n s (by omega) h1 hs
abbrev Xpn (L:List Tok) (E:Int) (s:Rd) (r:Ex × Rd):Prop:=Evt (fun f=>E6 L E f s) r
theorem R2 (s:Rd):∃ r,Xpn L E s r/\s.i<=r.2.i:=by
 obtain ⟨r,h,hg⟩:=(ET.all (L:=L) (E:=E) (L.length-s.i)).2.2 1 { s with ops:=0,par:=0 } (by decide) (Nat.le_refl _);exact ⟨r,h,hg⟩
theorem tail_tot (k p:Int) (s:Rd):∃ r,Evt (fun f=>S8 L E f k p s) r/\s.i<=r.2.i:=by
 by_cases h4:k=4
 ·obtain ⟨⟨e,s1⟩,h,hg⟩:=R2 (L:=L) (E:=E) s;exact ⟨_,h.map fun f h=>by unfold S8;rw [if_pos h4,h],Nat.le_trans hg F1⟩
 by_cases h18:k=18
 ·obtain ⟨⟨e,s1⟩,h,hg⟩:=R2 (L:=L) (E:=E) (C2 L E (A7 L E s 4).2 [44]);exact ⟨_,h.map fun f h=>by unfold S8;rw [if_neg h4,if_pos h18,h],Nat.le_trans (Nat.le_trans K3 (Nat.le_trans F1 hg)) F1⟩
 by_cases h19:k=19
 ·exact ⟨_,Evt.one fun f=>by unfold S8;rw [if_neg h4,if_neg h18,if_pos h19],F1⟩
 by_cases h8:k=8\/k=9\/k=10
 ·obtain ⟨⟨e,s1⟩,h,hg⟩:=R2 (L:=L) (E:=E) (A7 L E s 1).2;by_cases h9:k=9
  ·obtain ⟨⟨e2,s2⟩,h2,hg2⟩:=R2 (L:=L) (E:=E) (C2 L E s1 [44]);exact ⟨_,h.map2 h2 fun f h h2=>by unfold S8;rw [if_neg h4,if_neg h18,if_neg h19];dsimp only;rw [if_pos h8,h];dsimp only;rw [if_pos h9,h2],Nat.le_trans (Nat.le_trans K3 (Nat.le_trans hg (Nat.le_trans F1 hg2))) F1⟩
  ·exact ⟨_,h.map fun f h=>by unfold S8;rw [if_neg h4,if_neg h18,if_neg h19];dsimp only;rw [if_pos h8,h];dsimp only;rw [if_neg h9],Nat.le_trans (Nat.le_trans K3 hg) F1⟩
 ·exact ⟨_,Evt.one fun f=>by unfold S8;rw [if_neg h4,if_neg h18,if_neg h19];dsimp only;rw [if_neg h8],Nat.le_trans K3 F1⟩
abbrev A6q (L:List Tok) (E d:Int) (s:Rd) (r:List St × Rd):Prop:=Evt (fun f=>G1 L E f d s) r
abbrev Y2 (L:List Tok) (E d:Int) (l:List St) (s:Rd) (r:List St × Rd):Prop:=Evt (fun f=>P0 L E f d l s) r
abbrev S6 (L:List Tok) (E d:Int) (s:Rd) (r:St × Rd):Prop:=Evt (fun f=>L9 L E f d s) r
abbrev Oth' (L:List Tok) (E d:Int) (s:Rd) (r:List St × Rd):Prop:=Evt (fun f=>U9 L E f d s) r
theorem A6q.mk {d:Int} {s:Rd} {r:List St × Rd} (h:Y2 L E d [] (C2 L E s [123]) r):A6q L E d s r :=
 h.ext fun f h=>by rw [G1];exact h
theorem Y2.stop {d:Int} {l:List St} {s:Rd} (h:¬ (okR s=true/\isR L E s [125]=false)):Y2 L E d l s (l,C2 L E s [125]) :=
 Evt.one fun f=>by rw [P0,if_neg h]
theorem Y2.bad {d:Int} {l:List St} {s:Rd} (h:okR s=true/\isR L E s [125]=false) (h2:B4 L E s B3<0/\F8 L E s 1=false):Y2 L E d l s ([],L8 L E s) :=
 Evt.one fun f=>by rw [P0,if_pos h,if_pos h2]
theorem Y2.more {d:Int} {l:List St} {s s1:Rd} {x:St} {r:List St × Rd} (h:okR s=true/\isR L E s [125]=false) (h2:¬ (B4 L E s B3<0/\F8 L E s 1=false)) (hx:S6 L E d (B5 L E s ((l.length:Int)+1) 64 9) (x,s1)) (hl:Y2 L E d (l++[x]) s1 r):Y2 L E d l s r :=
 hx.ext2 hl fun f hx hl=>by rw [P0,if_pos h,if_neg h2,hx];exact hl
theorem S6.bad {d:Int} {s:Rd} (h:okR (B5 L E s d 8 50)=false):S6 L E d s (St0,B5 L E s d 8 50) :=
 Evt.one fun f=>by rw [L9];dsimp only;rw [if_pos h]
theorem S6.set {d:Int} {s s1:Rd} {e:Ex} (h:okR (B5 L E s d 8 50)=true) (hk:B4 L E s B3<0) (he:Xpn L E (C2 L E (A7 L E s 1).2 [61]) (e,s1)):S6 L E d s (.mk 1 (A7 L E s 1).1.text [] [e] [] [] (A4 L E s).pos,C2 L E s1 [59]) :=
 he.ext fun f hf=>by
  have e0:=(O6 (by decide) h).2.2;rw [L9];dsimp only;rw [if_neg (by rw [h];decide),e0,if_pos hk,hf]
theorem S6.els {d:Int} {s s2 s3 s4:Rd} {e:Ex} {t o:List St} (h:okR (B5 L E s d 8 50)=true) (hk:B4 L E s B3=0) (he:Xpn L E (B1 s) (e,s2)) (ht:A6q L E (d+1) s2 (t,s3)) (hi:isR L E s3 [101,108,115,101]=true) (ho:Oth' L E d (B1 s3) (o,s4)):S6 L E d s (.mk 2 [] [] [e] t o (A4 L E s).pos,s4) :=
 (he.and ht).ext2 ho fun f hf h2=>by
  have e0:=(O6 (by decide) h).2.2;cases h3:E6 L E f (B1 s) with
  | none=>rw [h3] at hf;cases hf
  | some q =>
   cases h4:G1 L E f (d+1) s2 with
   | none=>rw [h3,h4] at hf;cases hf
   | some w =>
    rw [h3,h4] at hf;obtain ⟨rfl,rfl⟩:=Prod.mk.inj (Option.some.inj hf);rw [L9];dsimp only;rw [if_neg (by rw [h];decide),e0,if_neg (by omega),if_pos (.inl hk),h3];dsimp only;rw [h4];dsimp only;rw [if_pos ⟨hk,hi⟩,h2]
theorem S6.blk {d:Int} {s s2 s3:Rd} {e:Ex} {t:List St} (h:okR (B5 L E s d 8 50)=true) (hk:B4 L E s B3=0\/B4 L E s B3=1) (he:Xpn L E (B1 s) (e,s2)) (ht:A6q L E (d+1) s2 (t,s3)) (hi:¬ (B4 L E s B3=0/\isR L E s3 [101,108,115,101]=true)):S6 L E d s (.mk (2+B4 L E s B3) [] [] [e] t [] (A4 L E s).pos,s3) :=
 he.ext2 ht fun f h3 h4=>by
  have e0:=(O6 (by decide) h).2.2;rw [L9];dsimp only;rw [if_neg (by rw [h];decide),e0,if_neg (by omega),if_pos hk,h3];dsimp only;rw [h4];dsimp only;rw [if_neg hi]
theorem S6.tail {d:Int} {s:Rd} {r:St × Rd} (h:okR (B5 L E s d 8 50)=true) (hk:2<=B4 L E s B3) (he:Evt (fun f=>S8 L E f (2+B4 L E s B3) (A4 L E s).pos (B1 s)) r):S6 L E d s r :=
 he.ext fun f h3=>by
  have e0:=(O6 (by decide) h).2.2;rw [L9];dsimp only;rw [if_neg (by rw [h];decide),e0,if_neg (by omega),if_neg (by omega)];exact h3
theorem Oth'.iff {d:Int} {s s1:Rd} {x:St} (h:isR L E s [105,102]=true) (hs:S6 L E (d+1) s (x,s1)):Oth' L E d s ([x],s1) :=
 hs.ext fun f hf=>by rw [U9,if_pos h,hf]
theorem Oth'.blk {d:Int} {s:Rd} {r:List St × Rd} (h:isR L E s [105,102]=false) (hs:A6q L E (d+1) s r):Oth' L E d s r :=
 hs.ext fun f hf=>by rw [U9,if_neg (by rw [h];decide)];exact hf
theorem ST.all:∀ (m:Nat),(∀ d (s:Rd),L.length-s.i<=m->∃ r,S6 L E d s r/\s.i<=r.2.i/\(okR (B5 L E s d 8 50)=true->(0<=B4 L E s B3\/F8 L E s 1=true)->s.i<r.2.i)) /\
  (∀ d l (s:Rd),L.length-s.i<=m->∃ r,Y2 L E d l s r/\s.i<=r.2.i):=by
 intro m
 induction m using Nat.strongRecOn with
 | _ m ih =>
  have blk:∀ d (s:Rd),L.length-s.i<m->∃ r,A6q L E d s r/\s.i<=r.2.i:=by
   intro d s hs;have h0:=F1 (L:=L) (E:=E) (s:=s) (x:=[123]);obtain ⟨r,h,hg⟩:=(ih _ hs).2 d [] (C2 L E s [123]) (by omega);exact ⟨r,A6q.mk h,by omega⟩
  have oth:∀ d (s:Rd),L.length-s.i<m->∃ r,Oth' L E d s r/\s.i<=r.2.i:=by
   intro d s hs;cases hi:isR L E s [105,102] with
   | true =>
    obtain ⟨⟨x,s1⟩,h,hg, -⟩:=(ih _ hs).1 (d+1) s (Nat.le_refl _);exact ⟨_,Oth'.iff hi h,hg⟩
   | false =>
    obtain ⟨r,h,hg⟩:=blk (d+1) s hs;exact ⟨r,Oth'.blk hi h,hg⟩
  have A:∀ d (s:Rd),L.length-s.i<=m->∃ r,S6 L E d s r/\s.i<=r.2.i/\(okR (B5 L E s d 8 50)=true->(0<=B4 L E s B3\/F8 L E s 1=true)->s.i<r.2.i):=by
   intro d s hs;cases hl:okR (B5 L E s d 8 50) with
   | false=>exact ⟨_,S6.bad hl,by show s.i<=(B5 L E s d 8 50).i;rw [Q4];exact Nat.le_refl _,fun h=>by cases h⟩
   | true =>
    by_cases hk:B4 L E s B3<0
    ·obtain ⟨⟨e,s1⟩,he,hg⟩:=R2 (L:=L) (E:=E) (C2 L E (A7 L E s 1).2 [61]);have hg:(C2 L E (A7 L E s 1).2 [61]).i<=s1.i:=hg;have h1:=F1 (L:=L) (E:=E) (s:=s1) (x:=[59]);have h2:=F1 (L:=L) (E:=E) (s:=(A7 L E s 1).2) (x:=[61]);have h3:=K3 (L:=L) (E:=E) (s:=s) (x:=1);refine ⟨_,S6.set hl hk he,by show s.i<=(C2 L E s1 [59]).i;omega,fun _ hc=>?_⟩;have h4:F8 L E s 1=true:=hc.resolve_left (by omega);have h5:(A7 L E s 1).2.i=s.i+1:=by unfold A7;rw [if_neg (by rw [h4];decide)];rfl
     show s.i<(C2 L E s1 [59]).i;omega
    ·obtain ⟨-,hi, -,hk18⟩:=O9 (show 0<=B4 L E s B3 by omega);by_cases h01:B4 L E s B3=0\/B4 L E s B3=1
     ·obtain ⟨⟨e,s2⟩,he,hg⟩:=R2 (L:=L) (E:=E) (B1 s);have hg:s.i+1<=s2.i:=hg;obtain ⟨⟨t,s3⟩,ht,hg3⟩:=blk (d+1) s2 (by omega);have hg3:s2.i<=s3.i:=hg3;by_cases hc:B4 L E s B3=0/\isR L E s3 [101,108,115,101]=true
      ·have hi3:=(A1m hc.2).2;obtain ⟨⟨o,s4⟩,ho,hg4⟩:=oth d (B1 s3) (by show L.length-(s3.i+1)<m;omega);have hg4:s3.i+1<=s4.i:=hg4;exact ⟨_,S6.els hl hc.1 he ht hc.2 ho,by show s.i<=s4.i;omega,fun _ _=>by show s.i<s4.i;omega⟩
      ·exact ⟨_,S6.blk hl h01 he ht hc,by show s.i<=s3.i;omega,fun _ _=>by show s.i<s3.i;omega⟩
     ·obtain ⟨r,hr,hg⟩:=tail_tot (L:=L) (E:=E) (2+B4 L E s B3) (A4 L E s).pos (B1 s);have hg:s.i+1<=r.2.i:=hg;exact ⟨_,S6.tail hl (by omega) hr,by omega,fun _ _=>by omega⟩
  refine ⟨A,fun d l s hs=>?_⟩;by_cases hc:okR s=true/\isR L E s [125]=false
  ·by_cases h2:B4 L E s B3<0/\F8 L E s 1=false
   ·exact ⟨_,Y2.bad hc h2,by show s.i<=(L8 L E s).i;rw [A1g];exact Nat.le_refl _⟩
   ·have hlt:s.i<L.length:=by
     by_cases hk:0<=B4 L E s B3
     ·exact (O9 hk).2.1
     ·cases h1:F8 L E s 1 with
      | false=>exact absurd ⟨by omega,h1⟩ h2
      | true=>exact (H3 (by decide) (J8 h1).2).2
    cases hl:okR (B5 L E s ((l.length:Int)+1) 64 9) with
    | false =>
     have hb:okR (B5 L E (B5 L E s ((l.length:Int)+1) 64 9) d 8 50)=false:=by
      cases hz:okR (B5 L E (B5 L E s ((l.length:Int)+1) 64 9) d 8 50) with
      | false=>rfl
      | true=>rw [(O6 (by decide) hz).1] at hl;cases hl
     have hx:=S6.bad hb;refine ⟨_,Y2.more hc h2 hx (Y2.stop (by rw [hb];simp)),?_⟩;have h1:=F1 (L:=L) (E:=E) (s:=B5 L E (B5 L E s ((l.length:Int)+1) 64 9) d 8 50) (x:=[125]);rw [Q4,Q4] at h1;exact h1
    | true =>
     have e0:=(O6 (by decide) hl).2.2;obtain ⟨⟨x,s1⟩,hx,hg,hprog⟩:=A d s hs;have hg:s.i<=s1.i:=hg;cases hd:okR (B5 L E s d 8 50) with
     | false =>
      have hx:=S6.bad hd;refine ⟨_,Y2.more hc h2 (by rw [e0];exact hx) (Y2.stop (by rw [hd];simp)),?_⟩;have h1:=F1 (L:=L) (E:=E) (s:=B5 L E s d 8 50) (x:=[125]);rw [Q4] at h1;exact h1
     | true =>
      have hlt2:s.i<s1.i:=hprog hd (by
       by_cases hk:0<=B4 L E s B3
       ·exact .inl hk
       ·cases h1:F8 L E s 1 with
        | false=>exact absurd ⟨by omega,h1⟩ h2
        | true=>exact .inr rfl)
      obtain ⟨r,hr,hg2⟩:=(ih (L.length-s1.i) (by omega)).2 d (l++[x]) s1 (Nat.le_refl _);exact ⟨r,Y2.more hc h2 (by rw [e0];exact hx) hr,by omega⟩
  ·exact ⟨_,Y2.stop hc,F1⟩
theorem blk_tot (d:Int) (s:Rd):∃ r,A6q L E d s r/\s.i<=r.2.i:=by
 obtain ⟨r,h,hg⟩:=(ST.all (L:=L) (E:=E) _).2 d [] (C2 L E s [123]) (Nat.le_refl _);exact ⟨r,A6q.mk h,Nat.le_trans F1 hg⟩
theorem mlp_tot:∀ (m:Nat) (l:List Hd) (s:Rd),L.length-s.i<=m->∃ r,Evt (fun f=>O4 L E f l s) r/\s.i<=r.2.i:=by
 intro m
 induction m using Nat.strongRecOn with
 | _ m ih =>
  intro l s hs;by_cases hc:okR s=true/\isR L E s [125]=false
  ·cases hon:isR L E s [111,110] with
   | false=>exact ⟨_,Evt.one fun f=>by rw [O4,if_pos hc,if_pos hon],by show s.i<=(L8 L E s).i;rw [A1g];exact Nat.le_refl _⟩
   | true =>
    have hi:=(A1m hon).2;have h1:(B5 L E s ((l.length:Int)+1) 32 9).i=s.i:=Q4;generalize hl:B5 L E s ((l.length:Int)+1) 32 9=s1 at h1;have h2:=F1 (L:=L) (E:=E) (s:=s1) (x:=[111,110]);generalize he:C2 L E s1 [111,110]=s2 at h2;by_cases hk:B4 L E s2 C7<0
    ·exact ⟨_,Evt.one fun f=>by rw [O4,if_pos hc,if_neg (by rw [hon];decide),hl];dsimp only;rw [he,if_pos hk],by show s.i<=(L8 L E s2).i;rw [A1g];omega⟩
    ·have hi2:=(O9 (show 0<=B4 L E s2 C7 by omega)).2.1;have h4:s2.i+1<=(if 2<=B4 L E s2 C7 then (A7 L E (B1 s2) 1).2 else B1 s2).i:=by
      split
      ·exact K3 (L:=L) (E:=E) (s:=B1 s2) (x:=1)
      ·exact Nat.le_refl _
     obtain ⟨⟨b,s5⟩,hb,hg⟩:=blk_tot (L:=L) (E:=E) 1 (if 2<=B4 L E s2 C7 then (A7 L E (B1 s2) 1).2 else B1 s2);have hg:(if 2<=B4 L E s2 C7 then (A7 L E (B1 s2) 1).2 else B1 s2).i<=s5.i:=hg;obtain ⟨r,hr,hg2⟩:=ih (L.length-s5.i) (by omega) (l++[⟨1+B4 L E s2 C7,if 2<=B4 L E s2 C7 then (A7 L E (B1 s2) 1).1.text else [],b,(A4 L E s1).pos⟩]) s5 (Nat.le_refl _);exact ⟨r,hb.ext2 hr fun f hb hr=>by rw [O4,if_pos hc,if_neg (by rw [hon];decide),hl];dsimp only;rw [he,if_neg hk,hb];exact hr,by omega⟩
  ·exact ⟨_,Evt.one fun f=>by rw [O4,if_neg hc],F1⟩
theorem mod_tot (s:Rd):∃ r,Evt (fun f=>A4c L E f s) r/\s.i<=r.2.i/\(isR L E s [109,111,100,101]=true->s.i<r.2.i):=by
 obtain ⟨⟨l,s3⟩,h,hg⟩:=mlp_tot (L:=L) (E:=E) _ [] (C2 L E (A7 L E (A7 L E (C2 L E s [109,111,100,101]) 1).2 3).2 [123]) (Nat.le_refl _);have hg:(C2 L E (A7 L E (A7 L E (C2 L E s [109,111,100,101]) 1).2 3).2 [123]).i<=s3.i:=hg;have h1:=F1 (L:=L) (E:=E) (s:=(A7 L E (A7 L E (C2 L E s [109,111,100,101]) 1).2 3).2) (x:=[123]);have h2:=K3 (L:=L) (E:=E) (s:=(A7 L E (C2 L E s [109,111,100,101]) 1).2) (x:=3);have h3:=K3 (L:=L) (E:=E) (s:=C2 L E s [109,111,100,101]) (x:=1);have h4:=F1 (L:=L) (E:=E) (s:=s) (x:=[109,111,100,101]);refine ⟨_,h.map fun f h=>by unfold A4c;dsimp only;rw [h],by show s.i<=s3.i;omega,fun hi=>?_⟩;have h5:(C2 L E s [109,111,100,101]).i=s.i+1:=by unfold C2;rw [if_neg (by rw [hi];decide)];rfl
 show s.i<s3.i;omega
theorem dcl_ge {k:Int} {s:Rd}:s.i+1<=(A0z L E k s).2.i:=by
 unfold A0z;dsimp only;have h1:=K3 (L:=L) (E:=E) (s:=B1 s) (x:=1);have h0:(B1 s).i=s.i+1:=rfl;split
 ·generalize (A7 L E (B1 s) 1).2=s2 at h1 ⊢;have h3:s2.i<=(if (k+1 == 6 && isR L E s2 [45])=true then B1 s2 else s2).i:=by
   split
   ·exact Nat.le_succ _
   ·exact Nat.le_refl _
  generalize (if (k+1 == 6 && isR L E s2 [45])=true then B1 s2 else s2)=s3 at h3 ⊢;have h4:=K3 (L:=L) (E:=E) (s:=s3) (x:=3);have h5:=F1 (L:=L) (E:=E) (s:=(A7 L E s3 3).2) (x:=[59]);show s.i+1<=(C2 L E (A7 L E s3 3).2 [59]).i;omega
 ·have h5:=F1 (L:=L) (E:=E) (s:=(A7 L E (B1 s) 1).2) (x:=[59]);show s.i+1<=(C2 L E (A7 L E (B1 s) 1).2 [59]).i;omega
theorem U8 {s:Rd} (h:okR s=false):∀ (l:List (List UInt8)) (k:Nat),V7 L E s k l = -1
 | [],k=>rfl
 | t :: l,k=>by rw [V7,show isR L E s t=false by unfold isR;rw [h];rfl,if_neg (by decide),U8 h l]
theorem rld_tot:∀ (m:Nat) (l:List Dc) (s:Rd),L.length-s.i<=m->∃ r,Evt (fun f=>S1 L E f l s) r/\s.i<=r.2.i:=by
 intro m
 induction m using Nat.strongRecOn with
 | _ m ih =>
  intro l s hs;by_cases hk:B4 L E s C4<0
  ·exact ⟨_,Evt.one fun f=>by rw [S1];dsimp only;rw [if_pos hk],Nat.le_refl _⟩
  ·have hi:=(O9 (show 0<=B4 L E s C4 by omega)).2.1;have h1:(B5 L E s ((l.length:Int)+1) 128 9).i=s.i:=Q4;cases hl:okR (B5 L E s ((l.length:Int)+1) 128 9) with
   | false =>
    have hz:B4 L E (B5 L E s ((l.length:Int)+1) 128 9) C4<0:=by
     show V7 L E _ 0 C4<0;rw [U8 hl];decide
    have h2:Evt (fun f=>S1 L E f l (B5 L E s ((l.length:Int)+1) 128 9)) (l,B5 L E s ((l.length:Int)+1) 128 9):=Evt.one fun f=>by rw [S1];dsimp only;rw [if_pos hz]
    exact ⟨_,h2.ext fun f h=>by rw [S1];dsimp only;rw [if_neg hk,if_neg (by rw [hl];decide)];exact h,by show s.i<=(B5 L E s ((l.length:Int)+1) 128 9).i;omega⟩
   | true =>
    have h3:=dcl_ge (L:=L) (E:=E) (k:=B4 L E s C4) (s:=B5 L E s ((l.length:Int)+1) 128 9);obtain ⟨r,hr,hg⟩:=ih (L.length-(A0z L E (B4 L E s C4) (B5 L E s ((l.length:Int)+1) 128 9)).2.i) (by omega) (l++[(A0z L E (B4 L E s C4) (B5 L E s ((l.length:Int)+1) 128 9)).1]) _ (Nat.le_refl _);exact ⟨r,hr.ext fun f h=>by rw [S1];dsimp only;rw [if_neg hk,if_pos hl];exact h,by omega⟩
theorem rlm_tot:∀ (m:Nat) (l:List Md) (s:Rd),L.length-s.i<=m->∃ r,Evt (fun f=>O2 L E f l s) r/\s.i<=r.2.i:=by
 intro m
 induction m using Nat.strongRecOn with
 | _ m ih =>
  intro l s hs;by_cases hc:okR s=true/\s.i<L.length
  ·cases hm:isR L E s [109,111,100,101] with
   | false=>exact ⟨_,Evt.one fun f=>by rw [O2,if_pos hc,if_pos hm],by show s.i<=(L8 L E s).i;rw [A1g];exact Nat.le_refl _⟩
   | true =>
    have h1:(B5 L E s ((l.length:Int)+1) 16 9).i=s.i:=Q4;cases hl:okR (B5 L E s ((l.length:Int)+1) 16 9) with
    | false =>
     have h2:Evt (fun f=>O2 L E f l (B5 L E s ((l.length:Int)+1) 16 9)) (l,B5 L E s ((l.length:Int)+1) 16 9):=Evt.one fun f=>by rw [O2,if_neg (by rw [hl];simp)]
     exact ⟨_,h2.ext fun f h=>by rw [O2,if_pos hc,if_neg (by rw [hm];decide)];dsimp only;rw [if_neg (by rw [hl];decide)];exact h,by show s.i<=(B5 L E s ((l.length:Int)+1) 16 9).i;omega⟩
    | true =>
     have e0:=(O6 (by decide) hl).2.2;obtain ⟨⟨md,s2⟩,h2,hg,hlt⟩:=mod_tot (L:=L) (E:=E) s;have hlt:s.i<s2.i:=hlt hm;obtain ⟨r,hr,hg2⟩:=ih (L.length-s2.i) (by omega) (l++[md]) s2 (Nat.le_refl _);exact ⟨r,h2.ext2 hr fun f h2 hr=>by rw [O2,if_pos hc,if_neg (by rw [hm];decide)];dsimp only;rw [if_pos hl,e0,h2];exact hr,by omega⟩
  ·exact ⟨_,Evt.one fun f=>by rw [O2,if_neg hc],Nat.le_refl _⟩
theorem rul_tot (s:Rd):∃ r,Evt (fun f=>A3y L E f s) r:=by
 obtain ⟨⟨d,s1⟩,h1, -⟩:=rld_tot (L:=L) (E:=E) _ [] s (Nat.le_refl _);obtain ⟨⟨m,s2⟩,h2, -⟩:=rlm_tot (L:=L) (E:=E) _ [] s1 (Nat.le_refl _);exact ⟨_,h1.map2 h2 fun f h1 h2=>by unfold A3y;rw [h1];dsimp only;rw [h2]⟩
end
end Go.Pb
namespace Go.Pb
variable [Go.Sym.Tab]
open Go.Sym
def B8 (s:List UInt8):Tok:=⟨if E2 s=true then 2 else if C1 s=true then 1 else 5,s,0,0⟩
def F0 (s:List UInt8):List Tok:=if C1 s=false then [P1] else [⟨1,s,0,0⟩]
def A0v (n:Int):List Tok:=if n<0\/2147483647<n then [P1] else [⟨3,[],n,0⟩]
def txB (c:UInt8):Bool:=decide (32<=c.toNat) && decide (c.toNat<=126)
def A2p (s:List UInt8):List Tok:=if s.all txB=false\/32<s.length then [P1] else [⟨4,s,0,0⟩]
def N8 (q:Int × List Tok) (least:Int):List Tok:=if C6 q.1<least then [B8 [40]]++q.2++[B8 [41]] else q.2
def G5 (k v:Int) (n:List UInt8) (as1:List (Int × List Tok)):List Tok :=
 let lv:=C6 k
 if k=1 then A0v v
 else if k=2 then F0 n
 else if k=3 then [B8 [116,114,117,101]]
 else if k=4 then [B8 [102,97,108,115,101]]
 else if k=8 then [B8 [112,108,97,121,101,114]]
 else if k=9 then [B8 [98,97,108,108]]
 else if k=5 then [B8 [99,108,111,115,101,100]]++F0 n
 else if k=6 then [B8 [97,99,116,105,118,101]]++F0 n
 else if k=7 then [B8 [108,101,102,116]]++F0 n
 else match as1 with
  | [q]=>if lv=6 then [B8 (if k=10 then [45] else [33])]++N8 q 6 else [P1]
  | [q,r]=>if lv<6 then N8 q (if lv=3 then 4 else lv)++[B8 (C0.getD (k-12).toNat [])]++N8 r (lv+1) else [P1]
  | _=>[P1]
mutual
def exT:Ex->List Tok
 | .mk k v n a p=>G5 k v n (exTs a)
def exTs:List Ex->List (Int × List Tok)
 | []=>[]
 | e :: l=>(e.kind,exT e) :: exTs l
end
def agT (l:List Ex) (i:Nat):List Tok:=match l[i]? with
 | some e=>exT e
 | none=>[P1]
mutual
def stT:St->List Tok
 | .mk k n t a x y p =>
  if k=1 then F0 n++[B8 [61]]++agT a 0++[B8 [59]]
  else if k<2\/19<k then [P1]
  else
   let w:=B8 (B3.getD (k-2).toNat [])
   if k=2\/k=3 then
    let o:=[w]++agT a 0++([B8 [123]]++Y0 x++[B8 [125]])
    match y with
    | []=>o
    | [s]=>if s.kind=2 then o++[B8 [101,108,115,101]]++stT s else o++[B8 [101,108,115,101]]++([B8 [123]]++stT s++[B8 [125]])
    | s :: s2 :: r=>o++[B8 [101,108,115,101]]++([B8 [123]]++Y0 (s :: s2 :: r)++[B8 [125]])
   else if k=4 then [w]++agT a 0++[B8 [59]]
   else if k=18 then [w]++A2p t++[B8 [44]]++agT a 0++[B8 [59]]
   else if k=8\/k=10 then [w]++F0 n++agT a 0++[B8 [59]]
   else if k=9 then [w]++F0 n++agT a 0++[B8 [44]]++agT a 1++[B8 [59]]
   else if k=19 then [w]++[B8 [59]]
   else [w]++F0 n++[B8 [59]]
def Y0:List St->List Tok
 | []=>[]
 | s :: l=>stT s++Y0 l
end
def blT (l:List St):List Tok:=[B8 [123]]++Y0 l++[B8 [125]]
def dcT (d:Dc):List Tok :=
 if d.kind<1\/8<d.kind then [P1]
 else
  let o:=[B8 (C4.getD (d.kind-1).toNat [])]++F0 d.name
  (if 6<d.kind then o
  else if d.value<0 /\ -2147483647<=d.value/\d.kind=6 then o++[B8 [45]]++A0v (-d.value)
  else o++A0v d.value)++[B8 [59]]
def hdT (h:Hd):List Tok:=[B8 [111,110],B8 (C7.getD (h.trig-1).toNat [])]++(if 2<h.trig then F0 h.name else [])++blT h.body
def hdBad (h:Hd):Bool:=decide (h.trig<1) || decide (6<h.trig)
def mdT (m:Md):List Tok:=[B8 [109,111,100,101]]++F0 m.name++A0v m.prio++[B8 [123]]++m.hds.flatMap hdT++[B8 [125]]
def ruT (r:Ru):List Tok:=if (r.modes.any fun m=>m.hds.any hdBad)=true then [P1] else r.decls.flatMap dcT++r.modes.flatMap mdT
mutual
def A4f (p:Bool):Ex->Ex->Bool
 | .mk k v n a q,.mk k' v' n' a' q'=>k == k' && (v == v' && (n == n' && ((p || q == q') && Q6 p a a')))
def Q6 (p:Bool):List Ex->List Ex->Bool
 | [],[]=>true
 | e :: l,e' :: l'=>A4f p e e' && Q6 p l l'
 | _,_=>false
end
end Go.Pb
namespace Go.Pb
variable [Go.Sym.Tab]
open Go.Sym
def I4 (k:Int):Nat:=if C6 k=6 then 1 else if C6 k<6 then 2 else 0
def Z1 (k:Int):Bool:=k == 5 || (k == 6 || k == 7)
def kOk (k:Int):Bool:=decide (C6 k<7) || (decide (1<=k) && decide (k<=24))
def A0a (k:Int) (n:List UInt8):Bool:=if k=2\/Z1 k=true then C1 n else n == []
def A2j (k v:Int):Bool:=v == 0 || (k == 1 && (decide (0<v) && decide (v<=2147483647)))
def V3 (k q:Int) (i:Nat):Bool:=decide (C6 q<C6 k) || (C6 q == C6 k && (i == 1 || C6 k == 3))
mutual
def msM:Ex->Option (Nat × Nat)
 | .mk k v n a p =>
  if kOk k=false\/a.length≠I4 k\/A0a k n=false\/A2j k v=false then none
  else if I4 k=0 then some (1,0)
  else match msL k 0 a with
   | none=>none
   | some (o,d)=>some (o,if I4 k=1 then d+1 else d)
def msL (k:Int):Nat->List Ex->Option (Nat × Nat)
 | _,[]=>some (0,0)
 | i,e :: l=>match msM e with
  | none=>none
  | some (o,d)=>match msL k (i+1) l with
   | none=>none
   | some (o2,d2)=>some (o+o2,max (if V3 k e.kind i=true then d+1 else d) d2)
end
def A2k (e:Ex):Bool:=match msM e with
 | some (o,d)=>decide (o<=32) && decide (d<=16)
 | none=>false
structure Shp where
 name:Bool
 text:Bool
 args:Nat
 thn:Bool
 els:Bool
def J7 (k:Int):Shp :=
 if k=1\/k=8\/k=10 then ⟨true,false,1,false,false⟩
 else if k=9 then ⟨true,false,2,false,false⟩
 else if k=2 then ⟨false,false,1,true,true⟩
 else if k=3 then ⟨false,false,1,true,false⟩
 else if k=4 then ⟨false,false,1,false,false⟩
 else if k=18 then ⟨false,true,1,false,false⟩
 else if k=19 then ⟨false,false,0,false,false⟩
 else ⟨true,false,0,false,false⟩
def R6 (s:List UInt8):Bool:=s.all txB && decide (s.length<=32)
mutual
def A0p:Nat->St->Bool
 | d,.mk k n t a x y p =>
  (decide (1<=k) && decide (k<=19)) && (a.length == (J7 k).args && a.all A2k) &&
   ((if (J7 k).name=true then C1 n else n == []) && (if (J7 k).text=true then R6 t else t == [])) &&
   (((J7 k).thn || x.isEmpty) && ((J7 k).els || y.isEmpty)) &&
   ((decide (x.length<=64) && (x.isEmpty || decide (d+1<=8)) && Z7 (d+1) x) && (decide (y.length<=64) && (y.isEmpty || decide (d+1<=8)) && Z7 (d+1) y))
def Z7:Nat->List St->Bool
 | _,[]=>true
 | d,s :: l=>A0p d s && Z7 d l
end
def Z8 (l:List St) (d:Nat):Bool:=decide (l.length<=64) && (l.isEmpty || decide (d<=8)) && Z7 d l
def A3v (d:Dc):Bool:=decide (1<=d.kind) && decide (d.kind<=8) && C1 d.name && decide ((if d.kind=6 then -2147483647 else 0)<=d.value) && decide (d.value<=(if d.kind=7\/d.kind=8 then 0 else 2147483647))
def A0q (h:Hd):Bool:=decide (1<=h.trig) && decide (h.trig<=6) && (if 3<=h.trig then C1 h.name else h.name == []) && Z8 h.body 1
def X9 (m:Md):Bool:=C1 m.name && decide (0<=m.prio) && decide (m.prio<=2147483647) && decide (m.hds.length<=32) && m.hds.all A0q
def A5m (r:Ru):Bool:=decide (r.decls.length<=128) && decide (r.modes.length<=16) && r.decls.all A3v && r.modes.all X9
def A0m (t:Tok):Prop:=(t.kind=1->C1 t.text=true)/\(t.kind=3->0<=t.value/\t.value<=2147483647)/\(t.kind=4->R6 t.text=true)
theorem lev_range (k:Int):1<=C6 k/\C6 k<=7:=by
 unfold C6;repeat' split
 all_goals omega
theorem lev_lt {k:Int} (h:C6 k<7):10<=k/\k<=24:=by
 unfold C6 at h;repeat' split at h
 all_goals omega
theorem A6f {k:Int} (h:k=10\/k=11):C6 k=6:=by
 rcases h with rfl|rfl<;>rfl
section
variable {L:List Tok} {E:Int}
end
end Go.Pb
namespace Go.Pb
variable [Go.Sym.Tab]
open Go.Sym
def T0:Tok:=⟨0,[],0,0⟩
theorem A4q:∀ (f:Nat) (s:List UInt8) (k:Nat) (acc:List Tok),acc.length<=k->k<=s.length->(M0 f s k acc).1.length<=s.length
 | 0,s,k,acc,h1,h2=>by simp only [M0];omega
 | f+1,s,k,acc,h1,h2=>by
  rw [M0];split
  ·simp only;omega
  ·split
   ·simp
   ·rename_i h3 h4;have h4:(B2 (s.drop k)).err=0:=by simpa using h4
    have hn:=A6b h4;rw [List.length_drop] at hn;have hk:=U3 false (s.drop (k+(B2 (s.drop k)).n));rw [List.length_drop] at hk;exact A4q f s _ _ (by rw [List.length_append,List.length_singleton];omega) (by omega)
theorem scanM_len (s:List UInt8):(B9 s).1.length<=s.length:=by
 unfold B9;split
 ·simp
 ·have:=U3 false s;exact A4q _ _ _ _ (by simp) this
end Go.Pb
namespace Go.Pb
variable [Go.Sym.Tab]
open Go.Sym
def O3 (t:Tok):List UInt8:=if t.kind=1\/t.kind=2\/t.kind=5 then t.text else if t.kind=3 then O8 t.value else if t.kind=4 then Q1 t.text else []
def nxT (x:Nx) (p:Int):Tok:=⟨x.kind,x.text,x.value,p⟩
def A5l (s:List UInt8):Nat->List Tok->Prop
 | k,[]=>s.length<=k
 | k,t :: l=>k<s.length/\(B2 (s.drop k)).err=0/\t=nxT (B2 (s.drop k)) (k:Int)/\A5l s (k+(B2 (s.drop k)).n+skM false (s.drop (k+(B2 (s.drop k)).n))) l
theorem A1k:∀ (f:Nat) (s:List UInt8) (k:Nat) (acc:List Tok),s.length+1<=k+f->(M0 f s k acc).2.2=0->∃ l,(M0 f s k acc).1=acc++l/\A5l s k l
 | 0,s,k,acc,hf,h=>⟨[],by simp [M0],by show s.length<=k;omega⟩
 | f+1,s,k,acc,hf,h=>by
  rw [M0] at h ⊢;by_cases h1:s.length<=k
  ·rw [if_pos h1];exact ⟨[],by simp,h1⟩
  ·rw [if_neg h1] at h ⊢;by_cases h2:(B2 (s.drop k)).err=0
   ·rw [if_neg (by simpa using h2)] at h ⊢;have hn:=A6b h2;obtain ⟨l,e,hr⟩:=A1k f s _ _ (by omega) h;exact ⟨_ :: l,by rw [e,List.append_assoc];rfl,by omega,h2,rfl,hr⟩
   ·rw [if_pos h2] at h;exact absurd h h2
theorem A1l {s:List UInt8} (h:(B9 s).2.2=0):s.length<=20000/\A5l s (skM false s) (B9 s).1:=by
 unfold B9 at h ⊢;by_cases h1:20000<s.length
 ·rw [if_pos h1] at h;cases h
 ·rw [if_neg h1] at h ⊢;have:=U3 false s;obtain ⟨l,e,hr⟩:=A1k _ s _ [] (by omega) h;rw [e];exact ⟨by omega,hr⟩
def TOk (t:Tok):Prop:=∃ s p,(B2 s).err=0/\t=nxT (B2 s) p
theorem A5l.ok {s:List UInt8}:∀ {k:Nat} {l:List Tok},A5l s k l->∀ t∈l,TOk t
 | k,[],_,t,h=>by cases h
 | k,x :: l,h,t,ht=>by
  rcases List.mem_cons.1 ht with rfl|ht
  ·exact ⟨_,_,h.2.1,h.2.2.1⟩
  ·exact A5l.ok h.2.2.2 t ht
def sumT (l:List Tok):Nat:=(l.map fun t=>(O3 t).length).sum
def A1n (sp:Nat->List UInt8):Nat->List Tok->List UInt8
 | _,[]=>[]
 | i,t :: l=>sp i++O3 t++A1n sp (i+1) l
theorem glue_len {sp:Nat->List UInt8} {m:Nat} (h:∀ i,(sp i).length<=m):∀ (l:List Tok) (i:Nat),(A1n sp i l).length<=m * l.length+sumT l
 | [],i=>by simp [A1n]
 | t :: l,i=>by
  have ih:=glue_len h l (i+1);have hi:=h i;simp only [A1n,List.length_append,sumT,List.map_cons,List.sum_cons,List.length_cons,Nat.mul_succ] at ih ⊢;omega
end Go.Pb
namespace Go.Pb
variable [Go.Sym.Tab]
open Go.Sym
def spB (i:Nat):List UInt8:=if i=0 then [] else [32]
def A1e (l:List Tok):List UInt8:=A1n spB 0 l
theorem spB_len (i:Nat):(spB i).length<=1:=by unfold spB;split<;>simp
theorem A4r (s:List UInt8):(Q1 s).length<=2 * s.length+2:=by
 have:=qpre_len s;unfold Q1;rw [List.length_append,List.length_singleton];omega
def Fit (t:Tok):Prop:=t.text.length<=100000/\I6 t.value
theorem oneT_len {t:Tok} (h:Fit t):(O3 t).length<=200024:=by
 have h1:=A4r t.text;have h2:=decI_len h.2.1 h.2.2;have h3:=h.1;unfold O3;split
 ·omega
 ·split
  ·omega
  ·split
   ·omega
   ·simp
theorem sumT_le:∀ {l:List Tok},(∀ t∈l,Fit t)->sumT l<=200024 * l.length
 | [],_=>by simp [sumT]
 | t :: l,h=>by
  have h1:=oneT_len (h t List.mem_cons_self);have h2:=sumT_le (l:=l) fun x hx=>h x (List.mem_cons_of_mem _ hx);simp only [sumT,List.map_cons,List.sum_cons,List.length_cons] at h2 ⊢;omega
theorem A4m {l:List Tok} (h:∀ t∈l,Fit t):(A1e l).length<=200025 * l.length:=by
 have h1:=glue_len spB_len l 0;have h2:=sumT_le h;unfold A1e;omega
theorem A4z:∀ (l:List Tok) (i:Nat),1<=i->A1n spB i l=Lib.joinTail [32] (l.map O3)
 | [],i,_=>rfl
 | t :: l,i,h=>by
  have ih:=A4z l (i+1) (by omega);simp only [A1n,ih,Lib.joinTail,List.map_cons,List.flatten_cons];rw [spB,if_neg (by omega)]
theorem W9 (l:List Tok):Lib.join (l.map O3) [32]=A1e l:=by
 cases l with
 | nil=>rfl
 | cons t l =>
  rw [List.map_cons,Lib.join_cons,A1e,A1n,A4z l 1 (by omega),spB,if_pos rfl];simp
theorem A5r {s:List UInt8} (h:(B9 s).2.2=0):∀ t∈(B9 s).1,TOk t:=(A1l h).2.ok
end Go.Pb
namespace Go.Pb
variable [Go.Sym.Tab]
open Go.Sym
theorem A4o {p:UInt8->Bool}:∀ (s:List UInt8),C3 p (s.take (C3 p s))=C3 p s
 | []=>rfl
 | c :: r=>by
  have ih:=A4o (p:=p) r;by_cases h:p c=true
  ·simp only [C3,h,if_true,List.take_succ_cons];rw [ih]
  ·simp only [C3,h,if_false,List.take_zero,Bool.false_eq_true]
theorem A5w:∀ {s t:List UInt8} {n:Nat},quM s=some (t,n)->t.all txB=true
 | [],t,n,h=>by simp [quM] at h
 | c :: r,t,n,h=>by
  rw [Q2] at h;split at h
  ·cases h;rfl
  ·split at h
   ·cases h
   ·rename_i h34 hr;split at h
    ·cases r with
     | nil=>cases h
     | cons d q =>
      simp only at h;split at h
      ·rename_i hd;obtain ⟨⟨t',n'⟩,h1,h2⟩:=Option.map_eq_some_iff.1 h;have:=A5w h1;cases h2;simp only [List.all_cons,this,Bool.and_true,txB,Bool.and_eq_true,decide_eq_true_eq];omega
      ·cases h
    ·obtain ⟨⟨t',n'⟩,h1,h2⟩:=Option.map_eq_some_iff.1 h;have:=A5w h1;cases h2;simp only [List.all_cons,this,Bool.and_true,txB,Bool.and_eq_true,decide_eq_true_eq];omega
theorem nextM_good {s:List UInt8} {p:Int} (h:(B2 s).err=0):A0m (nxT (B2 s) p)/\0<=(B2 s).value/\(B2 s).value<=2147483647:=by
 unfold A0m;cases s with
 | nil=>simp [B2,nxE] at h
 | cons c q =>
  by_cases hl:ltB c=true
  ·by_cases h12:12<C3 ptB (c :: q)
   ·rw [B2,if_pos hl,if_pos h12] at h;simp [nxE] at h
   ·rw [B2,if_pos hl,if_neg h12,nxT];refine ⟨⟨fun hk=>?_,fun hk=>?_,fun hk=>?_⟩,by simp,by simp⟩
    ·simp only at hk ⊢;have hw:E2 ((c :: q).take (C3 ptB (c :: q)))=false:=by
      cases hz:E2 ((c :: q).take (C3 ptB (c :: q))) with
      | false=>rfl
      | true=>rw [hz] at hk;simp at hk
     have hp:ptB c=true:=by unfold ptB;rw [hl];rfl
     have h1:1<=C3 ptB (c :: q):=by simp only [C3,hp,if_true];omega
     have hle:=R3 ptB (c :: q);have hlen:((c :: q).take (C3 ptB (c :: q))).length=C3 ptB (c :: q):=by rw [List.length_take];omega
     have hhd:∃ r,(c :: q).take (C3 ptB (c :: q))=c :: r:=by
      obtain ⟨k,hk⟩:∃ k,C3 ptB (c :: q)=k+1:=⟨C3 ptB (c :: q)-1,by omega⟩;rw [hk];exact ⟨_,rfl⟩
     unfold C1;rw [hlen,hw,A4o];obtain ⟨r,hr⟩:=hhd;rw [hr];simp only [hl,Bool.and_true,Bool.not_false,Bool.and_eq_true,decide_eq_true_eq];exact ⟨⟨h1,by omega⟩,trivial⟩
    ·simp only at hk;split at hk<;>simp at hk
    ·simp only at hk;split at hk<;>simp at hk
  ·by_cases hd:dgB c=true
   ·by_cases h3:1<C3 dgB (c :: q)/\c.toNat=48
    ·rw [B2,if_neg hl,if_pos hd,if_pos h3] at h;simp [nxE] at h
    ·by_cases h2:2147483647<V9 ((c :: q).take (C3 dgB (c :: q)))
     ·rw [B2,if_neg hl,if_pos hd,if_neg h3,if_pos h2] at h;simp [nxE] at h
     ·rw [B2,if_neg hl,if_pos hd,if_neg h3,if_neg h2,nxT];refine ⟨⟨fun hk=>by simp at hk,fun hk=>?_,fun hk=>by simp at hk⟩,?_⟩
      ·simp only;omega
      ·simp only;omega
   ·by_cases h34:c.toNat=34
    ·cases hq:quM q with
     | none=>rw [B2,if_neg hl,if_neg hd,if_pos h34,hq] at h;simp [nxE] at h
     | some x =>
      obtain ⟨t,m⟩:=x;by_cases h32:32<t.length
      ·rw [B2,if_neg hl,if_neg hd,if_pos h34,hq] at h;simp only at h;rw [if_pos h32] at h;simp [nxE] at h
      ·rw [B2,if_neg hl,if_neg hd,if_pos h34,hq];simp only;rw [if_neg h32,nxT];refine ⟨⟨fun hk=>by simp at hk,fun hk=>by simp at hk,fun hk=>?_⟩,by simp,by simp⟩;simp only [R6,A5w hq,Bool.true_and,decide_eq_true_eq];omega
    ·by_cases hs:L6 (c :: q)=0
     ·rw [B2,if_neg hl,if_neg hd,if_neg h34,if_pos hs] at h;simp [nxE] at h
     ·rw [B2,if_neg hl,if_neg hd,if_neg h34,if_neg hs,nxT];exact ⟨⟨fun hk=>by simp at hk,fun hk=>by simp at hk,fun hk=>by simp at hk⟩,by simp,by simp⟩
theorem TOk.good {t:Tok} (h:TOk t):A0m t/\0<=t.value/\t.value<=2147483647:=by
 obtain ⟨s,p,h1,rfl⟩:=h;obtain ⟨h2,h3⟩:=nextM_good (p:=p) h1;exact ⟨h2,h3⟩
theorem scanT_good {s:List UInt8} (h:(B9 s).2.2=0):∀ t∈(B9 s).1,A0m t:=fun t ht=>(A5r h t ht).good.1
theorem scan_val {s:List UInt8} (h:(B9 s).2.2=0):∀ t∈(B9 s).1,0<=t.value/\t.value<=9223372036854775807:=fun t ht=>by
 have:=(A5r h t ht).good.2;omega
theorem A5s {s:List UInt8} (h:(B9 s).2.2=0):(B9 s).1.length<=20000:=Nat.le_trans (scanM_len s) (A1l h).1
def rd0:Rd:=⟨0,0,0,0,0⟩
def A2s (L:List Tok) (E:Int):Ru × Rd:=Classical.choose (rul_tot (L:=L) (E:=E) rd0)
theorem rulF_e (L:List Tok) (E:Int):Evt (fun f=>A3y L E f rd0) (A2s L E):=Classical.choose_spec (rul_tot (L:=L) (E:=E) rd0)
def xpnF (L:List Tok) (E:Int):Ex × Rd:=Classical.choose (R2 (L:=L) (E:=E) rd0)
theorem xpnF_e (L:List Tok) (E:Int):Xpn L E rd0 (xpnF L E):=(Classical.choose_spec (R2 (L:=L) (E:=E) rd0)).1
def Ru0:Ru:=⟨[],[]⟩
def parM (s:List UInt8):Ru × Int × Int :=
 let q:=B9 s
 if q.2.2≠0 then (Ru0,q.2.1,q.2.2)
 else if okR (A2s q.1 s.length).2=false then (Ru0,(A2s q.1 s.length).2.pos,(A2s q.1 s.length).2.e)
 else ((A2s q.1 s.length).1,0,0)
abbrev parV (q:Ru × Int × Int):DV:=.tup [q.1.v,I64 q.2.1,I64 q.2.2]
def J3 (s:List UInt8):Ex × Int × Int :=
 let q:=B9 s
 if q.2.2≠0 then (Ex0,q.2.1,q.2.2)
 else
  let w:=xpnF q.1 s.length
  let z:=if okR w.2=true/\w.2.i<q.1.length then L8 q.1 s.length w.2 else w.2
  if okR z=false then (Ex0,z.pos,z.e) else (w.1,0,0)
abbrev A2w (q:Ex × Int × Int):DV:=.tup [q.1.v,I64 q.2.1,I64 q.2.2]
theorem parV_nl (q:Ru × Int × Int):(parV q).nl=true:=by
 simp only [DV.nl,DV.nlL,Ru.nl,X2,X1,Bool.and_true]
theorem parEV_nl (q:Ex × Int × Int):(A2w q).nl=true:=by
 simp only [DV.nl,DV.nlL,Ex.nl,Bool.and_true]
end Go.Pb
namespace Go.Pb
variable [Go.Sym.Tab]
open Go.Sym
def E7 (t:Tok):Prop:=(t.kind=2->E2 t.text=true)/\(t.kind=5->E2 t.text=false)
theorem word_hd {s:List UInt8} (h:E2 s=true):∃ c r,s=c :: r/\ltB c=true:=by
 have key:∀ w∈D8,(match w with|c :: _=>ltB c | []=>false)=true:=by decide +kernel
 have hm:s∈D8:=by simpa [E2] using h
 have:=key s hm;cases s with
 | nil=>simp at this
 | cons c r=>exact ⟨c,r,rfl,this⟩
theorem nextM_kind {s:List UInt8} {p:Int} (h:(B2 s).err=0):E7 (nxT (B2 s) p):=by
 unfold E7;cases s with
 | nil=>simp [B2,nxE] at h
 | cons c q =>
  by_cases hl:ltB c=true
  ·by_cases h12:12<C3 ptB (c :: q)
   ·rw [B2,if_pos hl,if_pos h12] at h;simp [nxE] at h
   ·rw [B2,if_pos hl,if_neg h12,nxT];cases hz:E2 ((c :: q).take (C3 ptB (c :: q))) with
    | true=>exact ⟨fun _=>rfl,fun hk=>by simp at hk⟩
    | false=>exact ⟨fun hk=>by simp at hk,fun _=>rfl⟩
  ·by_cases hd:dgB c=true
   ·by_cases h3:1<C3 dgB (c :: q)/\c.toNat=48
    ·rw [B2,if_neg hl,if_pos hd,if_pos h3] at h;simp [nxE] at h
    ·by_cases h2:2147483647<V9 ((c :: q).take (C3 dgB (c :: q)))
     ·rw [B2,if_neg hl,if_pos hd,if_neg h3,if_pos h2] at h;simp [nxE] at h
     ·rw [B2,if_neg hl,if_pos hd,if_neg h3,if_neg h2,nxT];exact ⟨fun hk=>by simp at hk,fun hk=>by simp at hk⟩
   ·by_cases h34:c.toNat=34
    ·cases hq:quM q with
     | none=>rw [B2,if_neg hl,if_neg hd,if_pos h34,hq] at h;simp [nxE] at h
     | some x =>
      obtain ⟨t,m⟩:=x;by_cases h32:32<t.length
      ·rw [B2,if_neg hl,if_neg hd,if_pos h34,hq] at h;simp only at h;rw [if_pos h32] at h;simp [nxE] at h
      ·rw [B2,if_neg hl,if_neg hd,if_pos h34,hq];simp only;rw [if_neg h32,nxT];exact ⟨fun hk=>by simp at hk,fun hk=>by simp at hk⟩
    ·by_cases hs:L6 (c :: q)=0
     ·rw [B2,if_neg hl,if_neg hd,if_neg h34,if_pos hs] at h;simp [nxE] at h
     ·rw [B2,if_neg hl,if_neg hd,if_neg h34,if_neg hs,nxT];refine ⟨fun hk=>by simp at hk,fun _=>?_⟩;simp only;cases hz:E2 ((c :: q).take (L6 (c :: q))) with
      | false=>rfl
      | true =>
       obtain ⟨d,r,h1,h2⟩:=word_hd hz;obtain ⟨k,hk⟩:∃ k,L6 (c :: q)=k+1:=⟨L6 (c :: q)-1,by omega⟩;rw [hk] at h1;simp only [List.take_succ_cons,List.cons.injEq] at h1;rw [<- h1.1] at h2;exact absurd h2 hl
theorem A4p {s:List UInt8} (h:(B9 s).2.2=0):∀ t∈(B9 s).1,E7 t:=fun t ht=>by
 obtain ⟨s,p,h1,rfl⟩:=A5r h t ht;exact nextM_kind h1
def J9 (x:List UInt8):Nat->List (List UInt8)->Int
 | _,[] => -1
 | k,w :: l=>if (x == w)=true then (k:Int) else J9 x (k+1) l
theorem A3f (x:List UInt8):∀ (l:List (List UInt8)) (k:Nat),(J9 x k l = -1/\l.contains x=false)\/((k:Int)<=J9 x k l/\J9 x k l<((k+l.length:Nat):Int)/\l.contains x=true)
 | [],k=>.inl ⟨rfl,rfl⟩
 | w :: l,k=>by
  have:=A3f x l (k+1);unfold J9;cases h:(x == w) with
  | true=>exact .inr ⟨by simp,by simp only [if_true,List.length_cons];omega,by simp at h;simp [h]⟩
  | false =>
   simp only [Bool.false_eq_true,if_false,List.length_cons,List.contains_cons,h,Bool.false_or];rcases this with ⟨h1,h2⟩|⟨h1,h2,h3⟩
   ·exact .inl ⟨h1,h2⟩
   ·exact .inr ⟨by omega,by omega,h3⟩
section
variable {L:List Tok} {E:Int}
def isP (L:List Tok) (E:Int) (s:Rd) (k:Int) (l:List (List UInt8)):Bool:=okR s && (A4 L E s).kind == k && l.contains (A4 L E s).text
theorem A4t (hK:∀ t∈L,E7 t) (s:Rd):E7 (A4 L E s):=by
 by_cases h:(A4 L E s).kind=0
 ·unfold E7;rw [h];exact ⟨fun h=>(by cases h),fun h=>(by cases h)⟩
 ·exact hK _ (H3 h rfl).1
theorem O0 (hK:∀ t∈L,E7 t) {s:Rd} {w:List UInt8} (hw:E2 w=true):isR L E s w=isP L E s 2 [w]:=by
 have:=A4t (E:=E) hK s;unfold isR isP;generalize A4 L E s=t at *;cases okR s<;>simp only [Bool.true_and,Bool.false_and];by_cases ht:t.text=w
 ·subst ht;have h5:t.kind≠5:=fun h=>by rw [this.2 h] at hw;cases hw
  simp [h5]
 ·simp [ht]
theorem D6 (hK:∀ t∈L,E7 t) {s:Rd} {w:List UInt8} (hw:E2 w=false):isR L E s w=isP L E s 5 [w]:=by
 have:=A4t (E:=E) hK s;unfold isR isP;generalize A4 L E s=t at *;cases okR s<;>simp only [Bool.true_and,Bool.false_and];by_cases ht:t.text=w
 ·subst ht;have h5:t.kind≠2:=fun h=>by rw [this.1 h] at hw;cases hw
  simp [h5]
 ·simp [ht]
theorem A3s {s:Rd} {k:Int}:∀ {l:List (List UInt8)},(∀ w∈l,isR L E s w=isP L E s k [w])->(okR s && (A4 L E s).kind == k)=false->∀ j,V7 L E s j l = -1
 | [],_,_,_=>rfl
 | w :: l,h,h0,j=>by
  have h1:=h w (List.mem_cons_self);have:isP L E s k [w]=false:=by unfold isP;rw [h0];rfl
  rw [V7,h1,this,if_neg (by decide)];exact A3s (fun w hw=>h w (List.mem_cons_of_mem _ hw)) h0 (j+1)
theorem R9 {s:Rd} {k:Int}:∀ {l:List (List UInt8)},(∀ w∈l,isR L E s w=isP L E s k [w])->(okR s && (A4 L E s).kind == k)=true->∀ j,V7 L E s j l=J9 (A4 L E s).text j l
 | [],_,_,_=>rfl
 | w :: l,h,h0,j=>by
  have h1:=h w (List.mem_cons_self);have:isP L E s k [w]=((A4 L E s).text == w):=by unfold isP;rw [h0];simp only [List.contains_cons,List.contains_nil,Bool.or_false,Bool.true_and]
  rw [V7,J9,h1,this,R9 (fun w hw=>h w (List.mem_cons_of_mem _ hw)) h0 (j+1)]
theorem A2e {s:Rd} {k:Int} {l:List (List UInt8)} (h:∀ w∈l,isR L E s w=isP L E s k [w]):isP L E s k l=decide (0<=B4 L E s l):=by
 unfold B4 isP;cases h0:(okR s && (A4 L E s).kind == k) with
 | false=>rw [A3s h h0];rfl
 | true =>
  rw [R9 h h0];rcases A3f (A4 L E s).text l 0 with ⟨h1,h2⟩|⟨h1,h2,h3⟩
  ·rw [h1,h2];rfl
  ·rw [h3];simp only [Bool.and_true];exact (decide_eq_true (by simpa using h1)).symm
theorem Y7 (hK:∀ t∈L,E7 t) (s:Rd) {l:List (List UInt8)} (h:l.all E2=true):∀ w∈l,isR L E s w=isP L E s 2 [w]:=fun w hw=>O0 hK (List.all_eq_true.1 h w hw)
theorem signsR (hK:∀ t∈L,E7 t) (s:Rd) {l:List (List UInt8)} (h:l.all (fun w => !E2 w)=true):∀ w∈l,isR L E s w=isP L E s 5 [w]:=fun w hw=>D6 hK (by simpa using List.all_eq_true.1 h w hw)
def pfl (L:List Tok) (E:Int) (s:Rd) (e:Int):Rd:=J0 s (A4 L E s).pos e
theorem P5 {s:Rd} {n m e:Int}:B5 L E s n m e=if m<n then pfl L E s e else s:=rfl
def C5 (L:List Tok) (E:Int) (s:Rd) (k:Int) (w:List UInt8):Rd:=if isP L E s k [w]=false then pfl L E s 4 else B1 s
structure Eqv (s m:Rd):Prop where
 e:s.e=m.e
 p:s.pos=m.pos
 s:okR m=true->s=m
theorem Eqv.refl (s:Rd):Eqv s s:=⟨rfl,rfl,fun _=>rfl⟩
theorem Eqv.ok {s m:Rd} (h:Eqv s m):okR s=okR m:=by unfold okR;rw [h.e]
theorem Eqv.cas {s m:Rd} (h:Eqv s m):(s=m/\okR m=true)\/(okR s=false/\okR m=false):=by
 cases k:okR m with
 | true=>exact .inl ⟨h.s k,rfl⟩
 | false=>exact .inr ⟨by rw [h.ok,k],rfl⟩
theorem P3 {s:Rd} {e:Int} (h:okR s=false):pfl L E s e=s:=by unfold pfl J0;rw [h];rfl
theorem A6h {s:Rd} {k:Int} {l:List (List UInt8)} (h:okR s=false):isP L E s k l=false:=by unfold isP;rw [h];rfl
theorem isR_nok {s:Rd} {w:List UInt8} (h:okR s=false):isR L E s w=false:=by unfold isR;rw [h];rfl
theorem A6i {s:Rd} {k:Int} (h:okR s=false):F8 L E s k=false:=by unfold F8;rw [h];rfl
theorem A2h {s:Rd} {k:Int} {w:List UInt8} (h:okR s=false):C5 L E s k w=s:=by unfold C5;rw [A6h h,if_pos rfl,P3 h]
theorem A1y {s:Rd} (h:okR s=false):L8 L E s=s:=P3 h
theorem lim_nok {s:Rd} {n m e:Int} (h:okR s=false):B5 L E s n m e=s:=by rw [P5,P3 h];split<;>rfl
theorem A0h {s:Rd} {w:List UInt8} (h:okR s=false):C2 L E s w=s:=by unfold C2;rw [isR_nok h,if_pos rfl,A1y h]
theorem take_nok {s:Rd} {k:Int} (h:okR s=false):A7 L E s k=(P1,s):=by unfold A7;rw [A6i h,if_pos rfl,A1y h]
theorem Eqv.want {s m:Rd} {k:Int} {w:List UInt8} (h:Eqv s m) (hw:∀ s:Rd,isR L E s w=isP L E s k [w]):Eqv (C5 L E s k w) (C2 L E m w):=by
 rcases h.cas with ⟨rfl,_⟩|⟨h1,h2⟩
 ·unfold C5 C2;rw [hw];exact .refl _
 ·rw [A2h h1,A0h h2];exact h
theorem Eqv.take {s m:Rd} {k:Int} (h:Eqv s m):Eqv (A7 L E s k).2 (A7 L E m k).2/\(A7 L E s k).1=(A7 L E m k).1:=by
 rcases h.cas with ⟨rfl,_⟩|⟨h1,h2⟩
 ·exact ⟨.refl _,rfl⟩
 ·rw [take_nok h1,take_nok h2];exact ⟨h,rfl⟩
theorem Eqv.bad {s m:Rd} (e:s.e=m.e) (p:s.pos=m.pos) (h:okR m=false):Eqv s m:=⟨e,p,fun k=>by rw [h] at k;cases k⟩
structure PI (L:List Tok) (s:Rd):Prop where
 i:s.i<=L.length
 o0:0<=s.ops
 o1:s.ops<=32
 p0:0<=s.par
 p1:s.par<=16
theorem A2v {s:Rd} {e:Int}:(pfl L E s e).i=s.i/\(pfl L E s e).ops=s.ops/\(pfl L E s e).par=s.par:=by unfold pfl J0;split<;>exact ⟨rfl,rfl,rfl⟩
theorem PI.fl {s:Rd} {e:Int} (h:PI L s):PI L (pfl L E s e):=by
 obtain ⟨h1,h2,h3⟩:=A2v (L:=L) (E:=E) (s:=s) (e:=e);exact ⟨by rw [h1];exact h.i,by rw [h2];exact h.o0,by rw [h2];exact h.o1,by rw [h3];exact h.p0,by rw [h3];exact h.p1⟩
theorem M6 {s:Rd} {k:Int} {l:List (List UInt8)} (hk:k≠0) (h:isP L E s k l=true):okR s=true/\s.i<L.length/\(A4 L E s).kind=k:=by
 unfold isP at h;simp only [Bool.and_eq_true,beq_iff_eq] at h;exact ⟨h.1.1,(H3 hk h.1.2).2,h.1.2⟩
theorem PI.nxt {s:Rd} (h:PI L s) (hi:s.i<L.length):PI L (B1 s):=⟨hi,h.o0,h.o1,h.p0,h.p1⟩
theorem PI.want {s:Rd} {k:Int} {w:List UInt8} (hk:k≠0) (h:PI L s):PI L (C5 L E s k w)/\(C5 L E s k w).par=s.par:=by
 unfold C5;cases q:isP L E s k [w] with
 | false=>rw [if_pos rfl];exact ⟨h.fl,A2v.2.2⟩
 | true=>rw [if_neg (by decide)];exact ⟨h.nxt (M6 hk q).2.1,rfl⟩
theorem PI.take {s:Rd} {x:Int} (hx:x≠0) (h:PI L s):PI L (A7 L E s x).2/\(A7 L E s x).2.par=s.par:=by
 unfold A7;cases k:F8 L E s x with
 | false=>rw [if_pos rfl];exact ⟨h.fl,A2v.2.2⟩
 | true=>rw [if_neg (by simp)];exact ⟨h.nxt (H3 hx (J8 k).2).2,rfl⟩
theorem A2u {s:Rd} (h:okR s=false):K1 L E s=(Ex0,s):=by
 unfold K1;dsimp only;rw [B4,U8 h,A6i h,A6i h,A1y h,if_pos ⟨by decide,rfl,rfl⟩]
theorem EN.all:∀ f:Nat,(∀ n s r,E3 L E f n s=some r->okR s=false->r=(Ex0,s))/\(∀ n e s r,J6 L E f n e s=some r->okR s=false->r=(e,s))/\(∀ s r,K6 L E f s=some r->okR s=false->r=(Ex0,s))
 | 0=>⟨fun n s r h=>(by simp [E3] at h),fun n e s r h=>(by simp [J6] at h),fun s r h=>(by simp [K6] at h)⟩
 | f+1=>by
  obtain ⟨ib,il,iu⟩:=EN.all f;refine ⟨fun n s r h ho=>?_,fun n e s r h ho=>?_,fun s r h ho=>?_⟩
  ·unfold E3 at h;split at h
   ·exact iu _ _ h ho
   ·cases hb:E3 L E f (n+1) s with
    | none=>rw [hb] at h;cases h
    | some q =>
     obtain rfl:=ib _ _ _ hb ho;rw [hb] at h;exact il _ _ _ _ h ho
  ·unfold J6 at h;dsimp only at h;rw [B4,U8 ho,if_pos (.inl (by decide))] at h;cases h;rfl
  ·unfold K6 at h;dsimp only at h;rw [B4,U8 ho,if_pos (by decide),A2u ho] at h;cases h;rfl
theorem expn_nok {f:Nat} {s:Rd} {r:Ex × Rd} (h:E6 L E f s=some r) (ho:okR s=false):r=(Ex0, { s with ops:=0,par:=0 }):=(EN.all f).1 _ _ _ h ho
theorem st_nok2 {f:Nat} {d:Int} {s:Rd} {r:St × Rd} (h:L9 L E f d s=some r) (ho:okR s=false):r=(St0,s):=by
 cases f with
 | zero=>simp [L9] at h
 | succ f =>
  unfold L9 at h;simp only [lim_nok ho,ho] at h;cases h;rfl
theorem blp_nok {f:Nat} {d:Int} {l:List St} {s:Rd} {r:List St × Rd} (h:P0 L E f d l s=some r) (ho:okR s=false):r=(l,s):=by
 cases f with
 | zero=>simp [P0] at h
 | succ f =>
  unfold P0 at h;rw [ho,if_neg (by simp),A0h ho] at h;cases h;rfl
theorem blk_nok {f:Nat} {d:Int} {s:Rd} {r:List St × Rd} (h:G1 L E f d s=some r) (ho:okR s=false):r=([],s):=by
 cases f with
 | zero=>simp [G1] at h
 | succ f =>
  unfold G1 at h;rw [A0h ho] at h;exact blp_nok h ho
theorem Eqv.isP {s m:Rd} {k:Int} {l:List (List UInt8)} (h:Eqv s m):isP L E s k l=isP L E m k l:=by
 rcases h.cas with ⟨rfl,_⟩|⟨h1,h2⟩
 ·rfl
 ·rw [A6h h1,A6h h2]
theorem Eqv.par {s m:Rd} {a b:Int} (h:Eqv s m) (hab:okR m=true->a=b):Eqv { s with par:=a } { m with par:=b }:=by
 refine ⟨h.e,h.p,fun k=>?_⟩;have:=h.s k;subst this;rw [hab k]
theorem amg_tx (hK:∀ t∈L,E7 t) {m:Rd} {w:List UInt8} (hp:isP L E m 5 [w]=true) (l:List (List UInt8)) (hl:l.all (fun w => !E2 w)=true):B4 L E m l=J9 w 0 l:=by
 have ho:(okR m && (A4 L E m).kind == 5)=true:=by unfold Go.Pb.isP at hp;simp only [Bool.and_eq_true] at hp ⊢;exact hp.1
 have ht:(A4 L E m).text=w:=by
  unfold Go.Pb.isP at hp;simp only [Bool.and_eq_true,List.contains_cons,List.contains_nil,Bool.or_false,beq_iff_eq] at hp;exact hp.2
 rw [B4,R9 (signsR hK m hl) ho,ht]
theorem pre_no (hK:∀ t∈L,E7 t) {m:Rd} (h1:isP L E m 5 [[45],[33]]=false) (h2:isP L E m 5 [[40]]=false):B4 L E m R0<0:=by
 have:=A2e (E:=E) (signsR hK m (l:=R0) (by decide +kernel));have h3:isP L E m 5 R0=false:=by
  unfold Go.Pb.isP at h1 h2 ⊢;unfold R0;cases ho:(okR m && (A4 L E m).kind == 5) with
  | false=>rfl
  | true=>rw [ho] at h1 h2;simp only [List.contains_cons,List.contains_nil,Bool.true_and,Bool.or_false,Bool.or_eq_false_iff] at h1 h2 ⊢;exact ⟨h1.1,h1.2,h2⟩
 rw [h3] at this;have:=of_decide_eq_false this.symm;omega
theorem isP_two {m:Rd} {a b:List UInt8} (h:isP L E m 5 [a,b]=true):isP L E m 5 [a]=true\/isP L E m 5 [b]=true:=by
 unfold Go.Pb.isP at h ⊢;simp only [Bool.and_eq_true,List.contains_cons,List.contains_nil,Bool.or_false,Bool.or_eq_true] at h ⊢;rcases h with ⟨h1,h2|h2⟩
 ·exact .inl ⟨h1,h2⟩
 ·exact .inr ⟨h1,h2⟩
theorem isP_tx {m:Rd} {k:Int} {w:List UInt8} (hp:isP L E m k [w]=true):(A4 L E m).text=w:=by
 unfold Go.Pb.isP at hp;simp only [Bool.and_eq_true,List.contains_cons,List.contains_nil,Bool.or_false,beq_iff_eq] at hp;exact hp.2
def lkI (ks:List (List UInt8)) (vs:List Int) (x:List UInt8):Int:=if J9 x 0 ks = -1 then 0 else vs.getD (J9 x 0 ks).toNat 0
def nmdB (k:Int):Bool:=k == 5 || k == 6 || k == 7
def lfK (t:Tok):Int × Int × List UInt8:=if t.kind=3 then (1,t.value,[]) else if t.kind=1 then (2,0,t.text) else if t.kind=2 then (lkI E5 F2 t.text,0,[]) else (0,0,[])
def leafR (L:List Tok) (E:Int) (s:Rd):Ex × Rd :=
 let q:=lfK (A4 L E s)
 if q.1=0 then (Ex0,pfl L E s 4)
 else if 32<s.ops+1 then (Ex0,B5 L E { s with ops:=s.ops+1 } (s.ops+1) 32 9)
 else
  let s3:Rd:={ s with i:=s.i+1,ops:=s.ops+1 }
  if nmdB q.1=true then (.mk q.1 0 (A7 L E s3 1).1.text [] (A4 L E s).pos,(A7 L E s3 1).2) else (.mk q.1 q.2.1 q.2.2 [] (A4 L E s).pos,s3)
theorem S4 {s:Rd} {n m e:Int} (h:¬ m<n):B5 L E s n m e=s:=by unfold B5;rw [if_neg h]
theorem A2c {s:Rd} {n m e:Int} (h:m<n) (he:e≠0):okR (B5 L E s n m e)=false:=by unfold B5;rw [if_pos h];exact J5 he
theorem lim_at {s:Rd} {b n m e:Int} (h:m<n) (ho:okR s=true):B5 L E ({ s with ops:=b }:Rd) n m e=({ s with ops:=b,e:=e,pos:=(A4 L E s).pos }:Rd):=by
 unfold B5 J0;rw [if_pos h,if_pos (show okR ({ s with ops:=b }:Rd)=true from ho)];rfl
theorem pfl_at {s:Rd} {e:Int} (ho:okR s=true):pfl L E s e=({ s with e:=e,pos:=(A4 L E s).pos }:Rd):=by unfold pfl J0;rw [if_pos ho]
theorem A4s (hK:∀ t∈L,E7 t) {s:Rd} (ho:okR s=true):K1 L E s=leafR L E s:=by
 have hw:=Y7 (E:=E) hK s (l:=E5) (by decide +kernel);have hki:∀ k,F8 L E s k=((A4 L E s).kind == k):=fun k=>by unfold F8;rw [ho];rfl
 unfold K1 leafR lfK;dsimp only;have hok2:okR ({ s with ops:=s.ops+1 }:Rd)=true:=ho;have pos2:∀ b:Int,A4 L E ({ s with ops:=b }:Rd)=A4 L E s:=fun _=>rfl;by_cases h2:(A4 L E s).kind=2
 ·have ha:B4 L E s E5=J9 (A4 L E s).text 0 E5:=R9 hw (by rw [ho,h2];rfl) 0;rw [ha,hki,hki,h2];have hl:=A3f (A4 L E s).text E5 0;generalize (A4 L E s).text=x at *;simp only [show ((2:Int) == 3)=false from rfl,show ((2:Int) == 1)=false from rfl,show ¬ (2:Int)=3 by decide,show ¬ (2:Int)=1 by decide,if_false,if_true,and_true];unfold lkI;rcases hl with ⟨h3, -⟩|⟨h3,h4, -⟩
  ·rw [h3];rfl
  ·have h5:J9 x 0 E5<7:=by have:E5.length=7:=rfl;omega
   have h6:(0:Int)<=J9 x 0 E5:=h3;generalize J9 x 0 E5=k at *;have hv:F2.getD k.toNat 0≠0/\(nmdB (F2.getD k.toNat 0)=true↔4<=k):=by
    have:k=0\/k=1\/k=2\/k=3\/k=4\/k=5\/k=6:=by omega
    rcases this with rfl|rfl|rfl|rfl|rfl|rfl|rfl<;>decide
   have g1:¬ k<0:=by omega
   have g2:¬ k = -1:=by omega
   simp only [g1,g2,h6,hv.1,false_and,if_false,if_true];by_cases ho:32<s.ops+1
   ·rw [if_pos ho,if_pos (A2c ho (by decide))]
   ·simp only [ho,if_false,S4 ho,hok2,reduceCtorEq];by_cases h4:4<=k
    ·simp only [h4,hv.2.2 h4,if_true];rfl
    ·have h7:¬ nmdB (F2.getD k.toNat 0)=true:=fun h=>h4 (hv.2.1 h);simp only [h4,h7,if_false];rfl
 ·have ha:B4 L E s E5 = -1:=A3s hw (by simp [h2]) 0;rw [ha,hki,hki];by_cases h3:(A4 L E s).kind=3
  ·simp only [h3,if_true,show ((3:Int) == 3)=true from rfl,reduceCtorEq,false_and,and_false,if_false,show ¬ (0:Int) <= -1 by decide,show ¬ (1:Int)=0 by decide];by_cases ho:32<s.ops+1
   ·rw [if_pos ho,if_pos (A2c ho (by decide))]
   ·rw [if_neg ho,S4 ho,if_neg (by rw [hok2];decide)];rfl
  ·by_cases h1:(A4 L E s).kind=1
   ·simp only [h1,show ¬ (1:Int)=3 by decide,if_true,show ((1:Int) == 1)=true from rfl,reduceCtorEq,and_false,if_false,show ¬ (0:Int) <= -1 by decide,show ¬ (2:Int)=0 by decide];by_cases ho:32<s.ops+1
    ·rw [if_pos ho,if_pos (A2c ho (by decide))]
    ·rw [if_neg ho,S4 ho,if_neg (by rw [hok2];decide)];rfl
   ·have e3:((A4 L E s).kind == 3)=false:=by simpa using h3
    have e1:((A4 L E s).kind == 1)=false:=by simpa using h1
    rw [e3,e1,if_pos ⟨by decide,rfl,rfl⟩,if_neg h3,if_neg h1,if_neg h2,if_pos rfl];rfl
def A3z:List Int:=[12,13,14,15,16,17,18,19,20,21,22,23,24]
def Q9:List Int:=[2,3,4,5,6,7,8,9,10,11,12,13,14,15,16,17,18,19]
theorem lkI_at {ks:List (List UInt8)} {vs:List Int} {b:Int} (hv:∀ j:Nat,j<ks.length->vs.getD j 0=b+j) (x:List UInt8):(J9 x 0 ks = -1/\lkI ks vs x=0)\/(0<=J9 x 0 ks/\J9 x 0 ks<ks.length/\lkI ks vs x=b+J9 x 0 ks):=by
 unfold lkI;rcases A3f x ks 0 with ⟨h1, -⟩|⟨h1,h2, -⟩
 ·rw [h1];exact .inl ⟨rfl,rfl⟩
 ·have h3:(0:Int)<=J9 x 0 ks:=h1;have h4:=hv (J9 x 0 ks).toNat (by omega);rw [if_neg (by omega),h4];exact .inr ⟨h3,by omega,by omega⟩
theorem lop_lk (hK:∀ t∈L,E7 t) {s:Rd} {n:Int} (ho:okR s=true) (h1:1<=n) (h5:n<=5) :
  ((B4 L E s C0<0\/C6 (12+B4 L E s C0)≠n)↔((A4 L E s).kind≠5\/C6 (lkI C0 A3z (A4 L E s).text)≠n)) /\
  (0<=B4 L E s C0->lkI C0 A3z (A4 L E s).text=12+B4 L E s C0/\(A4 L E s).kind=5/\B4 L E s C0<13):=by
 have hs:=signsR (E:=E) hK s (l:=C0) (by decide +kernel);by_cases hk:(A4 L E s).kind=5
 ·have ha:B4 L E s C0=J9 (A4 L E s).text 0 C0:=R9 hs (by rw [ho,hk];rfl) 0;rw [ha];have h7:C6 0=7:=rfl;have hlen:C0.length=13:=rfl;rcases lkI_at (vs:=A3z) (b:=12) (by decide +kernel) (ks:=C0) (A4 L E s).text with ⟨h2,h3⟩|⟨h2,h3,h4⟩
  ·rw [h2,h3,h7];exact ⟨⟨fun _=>.inr (by omega),fun _=>.inl (by decide)⟩,fun h=>absurd h (by decide)⟩
  ·rw [h4];refine ⟨⟨fun h=>?_,fun h=>?_⟩,fun _=>⟨rfl,hk,by omega⟩⟩
   ·rcases h with h|h
    ·omega
    ·exact .inr h
   ·rcases h with h|h
    ·exact absurd hk h
    ·exact .inr h
 ·have ha:B4 L E s C0 = -1:=A3s hs (by simp [hk]) 0;rw [ha];exact ⟨⟨fun _=>.inl hk,fun _=>.inl (by decide)⟩,fun h=>absurd h (by decide)⟩
def A3q (L:List Tok) (E:Int) (s:Rd):Bool:=okR s && ((A4 L E s).kind == 1 || ((A4 L E s).kind == 2 && lkI B3 Q9 (A4 L E s).text != 0))
theorem stm_lk (hK:∀ t∈L,E7 t) {s:Rd} (ho:okR s=true) :
  (0<=B4 L E s B3->(A4 L E s).kind=2/\lkI B3 Q9 (A4 L E s).text=2+B4 L E s B3/\B4 L E s B3<18) /\
  (B4 L E s B3<0->(A4 L E s).kind=2->lkI B3 Q9 (A4 L E s).text=0):=by
 have hs:=Y7 (E:=E) hK s (l:=B3) (by decide +kernel);by_cases hk:(A4 L E s).kind=2
 ·have ha:B4 L E s B3=J9 (A4 L E s).text 0 B3:=R9 hs (by rw [ho,hk];rfl) 0;rw [ha];have hlen:B3.length=18:=rfl;rcases lkI_at (vs:=Q9) (b:=2) (by decide +kernel) (ks:=B3) (A4 L E s).text with ⟨h2,h3⟩|⟨h2,h3,h4⟩
  ·rw [h2,h3];exact ⟨fun h=>absurd h (by decide),fun _ _=>rfl⟩
  ·exact ⟨fun _=>⟨hk,h4,by omega⟩,fun h=>absurd h (by omega)⟩
 ·have ha:B4 L E s B3 = -1:=A3s hs (by simp [hk]) 0;rw [ha];exact ⟨fun h=>absurd h (by decide),fun _ h=>absurd h hk⟩
theorem beg_amg (hK:∀ t∈L,E7 t) {s:Rd}:A3q L E s=true↔okR s=true/\(0<=B4 L E s B3\/F8 L E s 1=true):=by
 unfold A3q F8;cases ho:okR s with
 | false=>simp
 | true =>
  obtain ⟨h1,h2⟩:=stm_lk (E:=E) hK ho;simp only [Bool.true_and,Bool.or_eq_true,Bool.and_eq_true,beq_iff_eq,bne_iff_ne,ne_eq,true_and];constructor
  ·rintro (h|⟨h,h'⟩)
   ·exact .inr h
   ·by_cases hk:0<=B4 L E s B3
    ·exact .inl hk
    ·exact absurd (h2 (by omega) h) h'
  ·rintro (h|h)
   ·obtain ⟨g1,g2, -⟩:=h1 h;exact .inr ⟨g1,by omega⟩
   ·exact .inl h
end
end Go.Pb
namespace Go.Sym
variable [Go.Sym.Tab]
open Go.Eng (KKey)
inductive Mz (id:Nat) (r:DV):DV->DV->Prop where
 | same (d:DV):Mz id r d d
 | mid:Mz id r (.mid id) r
 | agg (a a':List DV) (hl:a.length=a'.length) (h:∀ (i:Nat) x y,a[i]? = some x->a'[i]? = some y->Mz id r x y):Mz id r (.agg a) (.agg a')
 | tup (a a':List DV) (hl:a.length=a'.length) (h:∀ (i:Nat) x y,a[i]? = some x->a'[i]? = some y->Mz id r x y):Mz id r (.tup a) (.tup a')
theorem Mz.rel {ρ ρ':Ren} {id:Nat} {r:DV} (hl : ρ.le ρ') (hr:∀ v,VRel ρ (.mid id) v->VRel ρ' r v) {d d':DV} (h:Mz id r d d'):∀ v,VRel ρ d v->VRel ρ' d' v:=by
 induction h with
 | same d=>exact fun v hv=>hv.mono hl
 | mid=>exact hr
 | agg a a' hl' _ ih =>
  intro v hv;obtain ⟨b,rfl,h1,h2⟩:=hv.agg_inv;refine .agg _ _ (hl'▸h1) fun i x y hx hy=>?_;have hi:i<a.length:=by have:=(List.getElem?_eq_some_iff.1 hx).1;omega
  exact ih i a[i] x (List.getElem?_eq_getElem hi) hx y (h2 i _ y (List.getElem?_eq_getElem hi) hy)
 | tup a a' hl' _ ih =>
  intro v hv;obtain ⟨b,rfl,h1,h2⟩:=hv.tup_inv;refine .tup _ _ (hl'▸h1) fun i x y hx hy=>?_;have hi:i<a.length:=by have:=(List.getElem?_eq_some_iff.1 hx).1;omega
  exact ih i a[i] x (List.getElem?_eq_getElem hi) hx y (h2 i _ y (List.getElem?_eq_getElem hi) hy)
theorem GL.frzm {H H':Hp} {ds ds':List DV} {id u:Nat} {kd:KKey} {ks vs:List DV} (hb:H id=some ⟨u,true,[.mpc kd ks vs]⟩) (hH:∀ j,H' j=none\/(j≠id/\H' j=H j))
  (hl:ds.length=ds'.length) (hd:∀ (i:Nat) x y,ds[i]? = some x->ds'[i]? = some y->Mz id (.mp kd ks vs) x y):GL H ds H' ds':=by
 refine ⟨fun j hj=>?_,fun ρ w a2 hR hA=>?_⟩
 ·rcases hH j with h0|⟨-,h0⟩
  ·exact absurd h0 hj
  ·rw [<- h0];exact hj
 have back:∀ j bj,H' j=some bj->j≠id/\H j=some bj:=by
  intro j bj hj;rcases hH j with h0|⟨hne,h0⟩
  ·rw [h0] at hj;cases hj
  ·exact ⟨hne,by rw [<- h0];exact hj⟩
 obtain ⟨t,ht,hB⟩:=hR.blk id _ hb;rcases hB with ⟨hm,c,e,fr, -, -, -, -,g5, -⟩|⟨hm, -,hs,es,cl,kd',ks',vs',g1,g2,g3,g6⟩
 ·have:=(g5 0 _ rfl).1;simp [DV.one] at this
 cases g2;have hnone : ρ.fm t.block=none:=by
  cases hf : ρ.fm t.block with
  | none=>rfl
  | some es'=>exact absurd rfl ((hR.frm _ _ hf).2 id _ t hb rfl ht)
 obtain ⟨ρ2,hρ⟩:∃ ρ2:Ren, ρ2=⟨ρ.nm, ρ.fz, ρ.tab,fun k=>if k=t.block then some es else ρ.fm k⟩:=⟨_,rfl⟩;have n1 : ρ2.nm = ρ.nm:=by rw [hρ]
 have n2 : ρ2.fz = ρ.fz:=by rw [hρ]
 have n3:∀ k r, ρ2.fm k=some r->(k=t.block/\r=es) \/ ρ.fm k=some r:=by
  intro k r hk;rw [hρ] at hk;simp only at hk;split at hk
  ·rename_i h;cases hk;exact .inl ⟨h,rfl⟩
  ·exact .inr hk
 have n4 : ρ2.fm t.block=some es:=by rw [hρ];simp
 have hle : ρ.le ρ2:=⟨fun i x h=>by rw [n1];exact h,fun b r h=>by rw [n2];exact h,fun b r h=>by
  rw [hρ];simp only;rw [if_neg (fun e=>by rw [e,hnone] at h;cases h)];exact h⟩
 have hval:∀ v,VRel ρ (.mid id) v->VRel ρ2 (.mp kd ks vs) v:=by
  intro v hv;obtain ⟨t',ht', -,rfl⟩:=hv.mid_inv;rw [ht] at ht';cases ht';obtain ⟨a1,a2,a3,a4,a5⟩:=g3;exact .mp kd ks vs t.block es n4 a1 a2 a3 (fun i x e hx he=>(a4 i x e hx he).mono hle) (fun i x e hx he=>(a5 i x e hx he).mono hle)
 refine ⟨ρ2,n1,⟨fun j bj hj=>?_,fun i j bi bj ti tj hi hj hij h1 h2 ho=>?_,fun k r hk=>?_,fun j bj tj hj ho hjt=>?_,fun k r hk=>?_⟩,⟨hl▸hA.1,fun i x y hx hy=>?_⟩,?_⟩
 ·rw [n1];obtain ⟨-,h1⟩:=back j bj hj;obtain ⟨tj,q1,q2⟩:=hR.blk j bj h1;exact ⟨tj,q1,q2.mono hle⟩
 ·rw [n1] at h1 h2;exact hR.sep i j bi bj ti tj (back i bi hi).2 (back j bj hj).2 hij h1 h2 ho
 ·rw [n2] at hk;exact hR.frz k r hk
 ·rw [n1] at hjt;rw [n2];exact hR.dis j bj tj (back j bj hj).2 ho hjt
 ·rcases n3 k r hk with ⟨rfl,rfl⟩|h1
  ·refine ⟨⟨cl,g1,g6⟩,fun j bj tj hj ho hjt=>?_⟩;rw [n1] at hjt;obtain ⟨hne,h2⟩:=back j bj hj;exact hR.sep j id bj _ tj t h2 hb hne hjt ht ho
  ·refine ⟨(hR.frm k r h1).1,fun j bj tj hj ho hjt=>?_⟩;rw [n1] at hjt;exact (hR.frm k r h1).2 j bj tj (back j bj hj).2 ho hjt
 ·have hi:i<ds.length:=by have:=(List.getElem?_eq_some_iff.1 hx).1;omega
  exact (hd i ds[i] x (List.getElem?_eq_getElem hi) hx).rel hle hval y (hA.2 i _ y (List.getElem?_eq_getElem hi) hy)
 ·refine ⟨hle,rfl,rfl,rfl,Nat.le_refl _,fun _ _ _=>rfl,fun j bj tj hj hjt=>?_,fun k r hk=>.inl (by rw [<- n2];exact hk),fun k r hk=>?_⟩
  ·rw [n1] at hjt;exact .inr ⟨j,bj,tj,(back j bj hj).2,fun h=>h,hjt,rfl⟩
  ·rcases n3 k r hk with ⟨rfl,rfl⟩|h1
   ·exact .inr (.inr ⟨id,_,t,hb,rfl,ht,rfl⟩)
   ·exact .inl h1
theorem A5x {H:Hp} {id u:Nat} {kd:KKey} {ks vs:List DV} (hb:H id=some ⟨u,true,[.mpc kd ks vs]⟩):∃ H2,GL H [.mid id] H2 [.mp kd ks vs] :=
 ⟨nil,GL.frzm hb (fun j=>.inl rfl) rfl (fun i x y hx hy=>by
  match i with
  | 0=>cases hx;cases hy;exact .mid
  | _+1=>cases hx)⟩
theorem T2 {a b:List UInt8}:A3d (.str a) (.str b)=(a == b):=id rfl
theorem A0w {s:List UInt8}:∀ (l:List (List UInt8)) (i:Nat),(G7 (.str s) (l.map DV.str) i).isSome=l.contains s
 | [],i=>rfl
 | x :: r,i=>by
  simp only [List.map_cons,G7,T2,List.contains_cons];cases h:s == x with
  | true=>simp
  | false=>simp [A0w r (i+1)]
theorem A2z {s:List UInt8} {l:List (List UInt8)} (h:l.contains s=false) (i:Nat):G7 (.str s) (l.map DV.str) i=none:=by
 have:=A0w (s:=s) l i;rw [h] at this;cases hm:G7 (.str s) (l.map DV.str) i with
 | none=>rfl
 | some j=>rw [hm] at this;cases this
theorem mfind_some {s:List UInt8} {l:List (List UInt8)} (h:l.contains s=true) (i:Nat):∃ j,G7 (.str s) (l.map DV.str) i=some j:=by
 have:=A0w (s:=s) l i;rw [h] at this;cases hm:G7 (.str s) (l.map DV.str) i with
 | none=>rw [hm] at this;cases this
 | some j=>exact ⟨j,rfl⟩
theorem mfind_lt {k:DV}:∀ {ks:List DV} {i j:Nat},G7 k ks i=some j->i<=j/\j<i+ks.length
 | [],i,j,h=>by cases h
 | x :: r,i,j,h=>by
  simp only [G7] at h;split at h
  ·cases h;simp
  ·have:=mfind_lt h;simp only [List.length_cons];omega
end Go.Sym
namespace Go.Sym
variable [Go.Sym.Tab]
open Go.Eng (E8)
open Go.RowKit
variable {P:Program}
theorem PC.of_callsF {f:Nat} {args:List DV} {r:DV} (hc:E8 P f=true) (na:DV.nlL args=true) (nr:r.nl=true)
  (h:∀ (ρ : Ren) (w:World) (vs:Array Value),(∀ b r, ρ.fz b=some r->∃ e fr,w.heap[b]? = some (.cells r e fr))->D2 ρ args vs ->
   Calls P f vs w fun e w' => ∃ v' b row ty fr,e=.returned v'/\w.heap.size<=b/\w'.heap[b]? = some (.cells row ty fr)/\(∀ ρ':Ren, ρ'.fz b=some row->VRel ρ' r v')/\Below w.heap.size w w'):PC P f args r:=by
 refine ⟨na,nr,hc,fun ρ w vs hR hf hA=>?_⟩;refine (h ρ w vs hR.frz hA).mono ?_;rintro e w' ⟨v',b,row,ty,fr,rfl,hb,hrow,hv,b1,b2,b3,b4,b5⟩;have hnone : ρ.fz b=none:=by
  cases hz : ρ.fz b with
  | none=>rfl
  | some r=>have:=hR.flt hz;omega
 have hfz:(ρ.frz b row hnone).fz b=some row:=by simp [Ren.frz]
 refine ⟨r,v',nil,0, ρ.frz b row hnone,rfl,rfl,hv _ hfz,⟨fun id b h=>(by cases h),fun i j bi bj ti tj h=>(by cases h),fun k r' hk=>?_,fun id b t h=>(by cases h),fun k r' hk=>⟨?_,fun id b t h=>(by cases h)⟩⟩,hf,Nat.le_refl _,fun id hid h=>absurd rfl h,fun _ _=>rfl,
  ⟨Ren.le_frz hnone,b1,b2,b3,b4,fun k hk _=>b5 k hk,fun id b t h1=>(by cases h1),fun k r' hk=>?_,fun k r h=>.inl h⟩⟩
 ·simp only [Ren.frz] at hk;split at hk
  ·rename_i hkb;cases hk;rw [hkb];exact ⟨ty,fr,hrow⟩
  ·obtain ⟨e,fr,h1⟩:=hR.frz k r' hk;exact ⟨e,fr,by rw [b5 k (hR.flt hk)];exact h1⟩
 ·obtain ⟨⟨cl,h1,hst⟩, -⟩:=hR.frm k r' hk;exact ⟨cl,by rw [b5 k (Array.getElem?_eq_some_iff.1 h1).1];exact h1,hst⟩
 ·simp only [Ren.frz] at hk;split at hk
  ·rename_i hkb;subst hkb;exact .inr (.inl hb)
  ·exact .inl hk
theorem VRel.strs {ρ : Ren} {l:List (List UInt8)} {b n c:Nat} (h : ρ.fz b=some ((l.map fun s=>Value.string ⟨s.toArray⟩).toArray)) (hn:n=l.length) (hc:n<=c) (hm:c<=maxLen) :
  VRel ρ (.lst (l.map DV.str)) (.slice (some ⟨b,0,none⟩) n c):=by
 have hcl:A6 (l.map DV.str)=l.map DV.str:=by
  clear h hn
  induction l with
  | nil=>rfl
  | cons x r ih =>
   have:A6 ((x :: r).map DV.str)=[DV.str x]++A6 (r.map DV.str):=rfl;rw [this,ih];rfl
 refine .lst _ n 1 b 0 c _ h (by simpa using hn) hc hm (fun x hx=>by obtain ⟨y, -,rfl⟩:=List.mem_map.1 hx;rfl) ?_ ?_ ?_
 ·rw [hcl];simp
 ·rw [hcl];intro d hd;obtain ⟨y, -,rfl⟩:=List.mem_map.1 hd;rfl
 ·rw [hcl];intro k d v hd hv;rw [List.getElem?_map] at hd;obtain ⟨s,hs,rfl⟩:=Option.map_eq_some_iff.1 hd;simp only [Nat.zero_add,List.getElem?_toArray,List.getElem?_map,hs,Option.map_some,Option.some.injEq] at hv;subst hv;exact .mkStr
end Go.Sym
namespace Go.Proofs.YthlpinppaclofaaGreatDoor
open Go.Eng (IC IOper DReg IFn G0)
open Go.Sym Go.Pb
theorem ne_own {H:Hp} {cc j:Nat} {b:Blk} (hfr:∀ i,cc<=i->H i=none) (h:H j=some b):j≠cc:=by
 rintro rfl;rw [hfr _ (Nat.le_refl _)] at h;cases h
theorem Z2 {H:Hp} {cc:Nat} {b:Blk} {ds:List DV} (hfr:∀ i,cc<=i->H i=none):GL (H.upd cc b) ds H ds:=GL.less' fun j b hj=>by rw [A3 (ne_own hfr hj)];exact hj
theorem I7 {K H':Hp} {cc:Nat} {ds:List DV} (hK:∀ i,cc<=i->K i=none) (h:∀ j,j<cc->H' j=K j):GL H' ds K ds:=GL.less fun j=>by
 by_cases hj:j<cc
 ·exact .inr (h j hj).symm
 ·exact .inl (hK j (by omega))
theorem B7 {H:Hp} {cc t:Nat} {b:Blk} (hfr:∀ i,cc<=i->H i=none) (htc:t<cc):∀ i,cc<=i->H.upd t b i=none:=fun i hi=>by rw [A3 (by omega)];exact hfr i hi
theorem rv4 {s:Sym.St} {x i u:Nat} {a b c d:DV} {o:Bool} (h:s.T x=.ptr i 0) (hb:s.H i=some ⟨u,o,[a,b,c,d]⟩):V5 s [.cell x 4 true]=some (.agg [a,b,c,d]):=by
 simp only [V5,Z0,h,ldv,ldB,hb];rfl
theorem upd_same {H:Hp} {t:Nat} {b:Blk} (h:H t=some b):H.upd t b=H:=by
 funext j
 by_cases ej:j=t
 ·subst ej;rw [A0,h]
 ·rw [A3 ej]
abbrev A1h (l:List (List UInt8)):DV:=.lst (l.map DV.str)
theorem cells_strs (l:List (List UInt8)):A6 (l.map DV.str)=l.map DV.str:=W3 (fun _=>rfl) l
theorem v_ex {ρ : Ren} {v:Value} {a b c e:DV} (h:VRel ρ (.agg [a,b,c,.snil,e]) v):VRel ρ (.agg [a,b,c,.lst [],e]) v:=by
 obtain ⟨bb,rfl,k1,k2⟩:=h.agg_inv;refine .agg _ _ k1 fun j x y hx hy=>?_
 match j with
 | 0=>cases hx;exact k2 0 _ y rfl hy
 | 1=>cases hx;exact k2 1 _ y rfl hy
 | 2=>cases hx;exact k2 2 _ y rfl hy
 | 3=>cases hx;exact (k2 3 _ y rfl hy).snil_lst
 | 4=>cases hx;exact k2 4 _ y rfl hy
 | _+5=>cases hx
theorem gl_ex {K H':Hp} {cc:Nat} {a b c e:DV} (hK:∀ i,cc<=i->K i=none) (h:∀ j,j<cc->H' j=K j):GL H' [.agg [a,b,c,.snil,e]] K [.agg [a,b,c,.lst [],e]] :=
 (I7 hK h).trans (GL.view fun ρ vs hA=>J1 (fun v h=>v_ex h) vs hA)
theorem rv5 {s:Sym.St} {x i u:Nat} {a b c d e:DV} {o:Bool} (h:s.T x=.ptr i 0) (hb:s.H i=some ⟨u,o,[a,b,c,d,e]⟩):V5 s [.cell x 5 true]=some (.agg [a,b,c,d,e]):=by
 simp only [V5,Z0,h,ldv,hb];rfl
theorem amg_lt (L:List Tok) (E:Int) (s:Rd):∀ (l:List (List UInt8)) (k:Nat), -1<=V7 L E s k l/\V7 L E s k l<((k+l.length:Nat):Int)
 | [],k=>by simp [V7];omega
 | x :: l,k=>by
  have:=amg_lt L E s l (k+1);unfold V7;split
  ·simp only [List.length_cons];omega
  ·simp only [List.length_cons];omega
abbrev tkB (a:Tok):Blk:=⟨0,true,[I64 a.kind,.str a.text,I64 a.value,I64 a.pos]⟩
abbrev A4g:Blk:=⟨0,true,[I64 0,I64 0,.str [],.snil,I64 0]⟩
abbrev paB (L:List Tok) (E:Int) (s:Rd):Blk:=⟨0,true,[toksV L,I64 s.i,I64 E,I64 s.e,I64 s.pos,I64 s.ops,I64 s.par]⟩
theorem c_here (L:List Tok) (E:Int) (s:Rd) (H:Hp) (cc t:Nat) (ht:H t=some (paB L E s)) (htc:t<cc):AC Tryz.prog 167 [.ptr t 0] H cc (fun v H' c'=>v=(A4 L E s).v/\H'=H):=by
 refine AC.bodyT A9 rfl (Nat.le_of_ble_eq_true rfl) fun hfr=>?_;have ne0:=A6c t cc (by omega);by_cases hlt:s.i<L.length
 ·have hd:decide ((s.i:Int)<L.length)=true:=by simpa using hlt
  have hg:=List.getElem?_eq_getElem hlt;have e:A4 L E s=L[s.i]:=by unfold A4;rw [List.getD_eq_getElem?_getD,hg];rfl
  rw [e];generalize L[s.i]=a at hg;repeat' ((with_reducible first|refine wr ?_|refine A2 ?_ ?_|fail)<;>try simp only [go_sem,seval,ht,hd,hg,ne0,A0,A1])
  rw [D4 (v:=a.v) (rv4 rfl A0)];exact ⟨_,_,Z2 hfr,rfl,rfl⟩
 ·have hd:decide ((s.i:Int)<L.length)=false:=by simpa using hlt
  have e:A4 L E s=⟨0,[],0,E⟩:=by unfold A4;rw [List.getD_eq_getElem?_getD,List.getElem?_eq_none (by omega)];rfl
  rw [e];repeat' ((with_reducible first|refine wr ?_|refine A2 ?_ ?_|fail)<;>try simp only [go_sem,seval,ht,hd,ne0,A0,A1])
  rw [D4 (v:=Tok.v ⟨0,[],0,E⟩) (rv4 rfl A0)];exact ⟨_,_,Z2 hfr,rfl,rfl⟩
theorem c_pok (L:List Tok) (E:Int) (s:Rd) (H:Hp) (cc t:Nat) (ht:H t=some (paB L E s)) (htc:t<cc):AC Tryz.prog 71 [.ptr t 0] H cc (fun v H' c'=>v=.bool (okR s)/\H'=H):=by
 refine AC.bodyT A9 rfl (Nat.le_of_ble_eq_true rfl) fun hfr=>?_;repeat' ((with_reducible first|refine wr ?_|refine A2 ?_ ?_|fail)<;>try simp only [go_sem,seval,ht])
 exact ⟨_,_,GL.refl _ _,rfl,rfl⟩
theorem c_pfail (L:List Tok) (E:Int) (s:Rd) (H:Hp) (cc t:Nat) (ht:H t=some (paB L E s)) (htc:t<cc) (e:Int):AC Tryz.prog 124 [.ptr t 0,I64 e] H cc (fun v H' c'=>v=.tup []/\H'=H.upd t (paB L E (pfl L E s e))):=by
 refine AC.bodyT A9 rfl (Nat.le_of_ble_eq_true rfl) fun hfr=>?_;cases h:okR s with
 | true =>
  have e0:pfl L E s e = { s with e:=e,pos:=(A4 L E s).pos }:=by rw [pfl,J0,if_pos h]
  have h':(s.e == 0)=true:=h;rw [e0];repeat' ((with_reducible first|refine wr ?_|refine A2 ?_ ?_|fail)<;>try simp only [go_sem,seval,ht,h',h,A0,A1])
  refine AC.call (c_here L E s _ _ t ht (by omega)) ?_;rintro v H' c1 ⟨rfl,rfl⟩ hc;simp only [go_sem,seval,ht,A0,A1];repeat' ((with_reducible first|refine wr ?_|refine A2 ?_ ?_|fail)<;>try simp only [go_sem,seval,ht,A0,A1])
  exact ⟨_,_,GL.refl _ _,rfl,rfl⟩
 | false =>
  have e0:pfl L E s e=s:=P3 h;have h':(s.e == 0)=false:=h;rw [e0];repeat' ((with_reducible first|refine wr ?_|refine A2 ?_ ?_|fail)<;>try simp only [go_sem,seval,ht,h',h,A0,A1])
  exact ⟨_,_,GL.refl _ _,rfl,(upd_same ht).symm⟩
theorem c_Idx (x:List UInt8) (l:List (List UInt8)) (hl:l.length<=1000000):PC Tryz.prog 170 [A1h l,.str x] (I64 (J9 x 0 l)):=by
 refine PC.ofT A9 rfl (Nat.le_of_ble_eq_true rfl) (by simp [DV.nlL,DV.nl]) (by simp [DV.nlL,DV.nl]) ?_;repeat' ((with_reducible first|refine wr ?_|refine A2 ?_ ?_|fail)<;>try simp only [go_sem,seval])
 refine F3 (fun k:Nat=>[(0,A1h l),(1,.str x),(7,I64 l.length),(8,I64 k)]) (fun _=>Sym.nil) (fun k c=>k<=l.length/\J9 x 0 l=J9 x k (l.drop k)) (fun k=>l.length-k) 0 (by simp [D5,tm,Tm.upd]) (Sub.refl _) ⟨by omega,rfl⟩ ?_;rintro k c ⟨hk,hv⟩;by_cases hlt:k<l.length
 ·have hd:decide ((k:Int)<l.length)=true:=by simpa using hlt
  have hg:=List.getElem?_eq_getElem hlt;have hw:IntKind.i64.wrap ((k:Int)+1)=((k+1:Nat):Int):=by rw [w6z (by omega)];omega
  rw [List.drop_eq_getElem_cons hlt,J9] at hv;generalize l[k]=a at hg hv;cases h:(x == a) with
  | true =>
   rw [if_pos h] at hv;rw [hv];repeat' ((with_reducible first|refine wr ?_|refine A2 ?_ ?_|fail)<;>try simp only [go_sem,seval,hd,hg,h])
   exact A5 rfl
  | false =>
   rw [if_neg (by simp [h])] at hv;repeat' ((with_reducible first|refine wr ?_|refine A2 ?_ ?_|fail)<;>try simp only [go_sem,seval,hd,hg,h,hw])
   exact ⟨k+1,rfl,Sub.refl _,inv ⟨hlt,hv⟩,by omega⟩
 ·have hd:decide ((k:Int)<l.length)=false:=by simpa using hlt
  have hk:k=l.length:=by omega
  rw [hk,List.drop_length,J9] at hv;rw [hv];repeat' ((with_reducible first|refine wr ?_|refine A2 ?_ ?_|fail)<;>try simp only [go_sem,seval,hd])
  exact A5 rfl
theorem c_Cont (x:List UInt8) (l:List (List UInt8)) (hl:l.length<=1000000):PC Tryz.prog 168 [A1h l,.str x] (.bool (l.contains x)):=by
 have e:decide (J9 x 0 l≥0)=l.contains x:=by
  rcases A3f x l 0 with ⟨h1,h2⟩|⟨h1,h2,h3⟩
  ·rw [h1,h2];rfl
  ·rw [h3];exact decide_eq_true (by simpa using h1)
 refine PC.ofT A9 rfl (Nat.le_of_ble_eq_true rfl) (by simp [DV.nlL,DV.nl]) (by simp [DV.nlL,DV.nl]) ?_;repeat' ((with_reducible first|refine wr ?_|refine cpc (c_Idx x l hl) ?_|refine A2 ?_ ?_|fail)<;>try simp only [go_sem,seval,e])
 exact A5 rfl
theorem c_pis (L:List Tok) (E:Int) (s:Rd) (H:Hp) (cc t:Nat) (ht:H t=some (paB L E s)) (htc:t<cc) (k:Int) (l:List (List UInt8)) (hl:l.length<=1000000):AC Tryz.prog 125 [.ptr t 0,I64 k,A1h l] H cc (fun v H' c'=>v=.bool (isP L E s k l)/\H'=H):=by
 refine AC.bodyT A9 rfl (Nat.le_of_ble_eq_true rfl) fun hfr=>?_;repeat' ((with_reducible first|refine wr ?_|refine A2 ?_ ?_|fail)<;>try simp only [go_sem,seval])
 refine AC.call (c_here L E s _ _ t ht (by omega)) ?_;rintro v H' c1 ⟨rfl,rfl⟩ hc;have ne0:=A6c t c1 (by omega);simp only [go_sem,seval,ne0,A0,A1];repeat' ((with_reducible first|refine wr ?_|refine A2 ?_ ?_|fail)<;>try simp only [go_sem,seval,ne0,A0,A1])
 refine AC.call (c_pok L E s _ _ t (by rw [A3 (by omega)];exact ht) (by omega)) ?_;rintro v H' c2 ⟨rfl,rfl⟩ hc2;simp only [go_sem,seval,ne0,A0,A1];repeat' ((with_reducible first|refine wr ?_|refine cpc (c_Cont _ l hl) ?_|refine A2 ?_ ?_|refine wb2 ?_ ?_<;>(intro hb;try simp only [hb])|fail)<;>try simp only [go_sem,seval,ne0,A0,A1])
 all_goals exact ⟨_,_,Z2 (fun i hi=>hfr i (by omega)),by simp_all [isP],rfl⟩
theorem c_pisO (L:List Tok) (E:Int) (s:Rd) (K:Hp) (cc t b:Nat) (hK:K b=none) (ht:K t=some (paB L E s)) (htc:t<cc) (k:Int) (l:List (List UInt8)) (hl:l.length<=1000000) :
  AC Tryz.prog 125 [.ptr t 0,I64 k,.slc b 0 l.length] (K.upd b ⟨1,true,l.map DV.str⟩) cc (fun v H' c'=>v=.bool (isP L E s k l)/\H'=K) :=
 AC.ghost (GL.frzS (id:=b) A0 rfl (fun j=>by
  by_cases e:j=b
  ·subst e;exact .inl hK
  ·exact .inr ⟨e,(A3 e).symm⟩) (.cons _ _ _ _ (.same _) (.cons _ _ _ _ (.same _) (.cons _ _ _ _ (I8 (u:=1) (by simp) (N7 _) ⟨[],by rw [List.append_nil,cells_strs]⟩) .nil)))) (c_pis L E s K cc t ht htc k l hl)
theorem c_want (L:List Tok) (E:Int) (s:Rd) (H:Hp) (cc t:Nat) (ht:H t=some (paB L E s)) (htc:t<cc) (hi:s.i<=10000000000) (k:Int) (w:List UInt8):AC Tryz.prog 171 [.ptr t 0,I64 k,.str w] H cc (fun v H' c'=>v=.tup []/\H'=H.upd t (paB L E (C5 L E s k w))):=by
 refine AC.bodyT A9 rfl (Nat.le_of_ble_eq_true rfl) fun hfr=>?_;have hio:=c_pisO L E s H (cc+1) t cc (hfr _ (Nat.le_refl _)) ht (by omega) k [w] (by simp);repeat' ((with_reducible first|refine wr ?_|refine A2 ?_ ?_|fail)<;>try simp only [go_sem,seval])
 refine AC.call hio ?_;rintro v H' c1 ⟨rfl,rfl⟩ hc;cases h:isP L E s k [w] with
 | false =>
  have e0:C5 L E s k w=pfl L E s 4:=by rw [C5,if_pos h]
  rw [e0];simp only [go_sem,seval,h];repeat' ((with_reducible first|refine wr ?_|refine A2 ?_ ?_|fail)<;>try simp only [go_sem,seval,h])
  refine AC.call (c_pfail L E s _ _ t ht (by omega) 4) ?_;rintro v H' c2 ⟨rfl,rfl⟩ hc2;simp only [go_sem,seval];repeat' ((with_reducible first|refine wr ?_|refine A2 ?_ ?_|fail)<;>try simp only [go_sem,seval])
  exact ⟨_,_,GL.refl _ _,rfl,rfl⟩
 | true =>
  have hw:IntKind.i64.wrap ((s.i:Int)+1)=((s.i+1:Nat):Int):=by rw [w6z (by omega)];omega
  have e0:C5 L E s k w=B1 s:=by rw [C5,if_neg (by simp [h])]
  rw [e0];simp only [go_sem,seval,h];repeat' ((with_reducible first|refine wr ?_|refine A2 ?_ ?_|fail)<;>try simp only [go_sem,seval,h,ht,hw,A0,A1])
  exact ⟨_,_,GL.refl _ _,rfl,rfl⟩
theorem c_ptake (L:List Tok) (E:Int) (s:Rd) (H:Hp) (cc t:Nat) (ht:H t=some (paB L E s)) (htc:t<cc) (hi:s.i<=10000000000) (k:Int):AC Tryz.prog 169 [.ptr t 0,I64 k] H cc (fun v H' c'=>v=(A7 L E s k).1.v/\H'=H.upd t (paB L E (A7 L E s k).2)):=by
 refine AC.bodyT A9 rfl (Nat.le_of_ble_eq_true rfl) fun hfr=>?_;repeat' ((with_reducible first|refine wr ?_|refine A2 ?_ ?_|fail)<;>try simp only [go_sem,seval])
 refine AC.call (c_here L E s _ _ t (by rw [A3 (by omega)];exact ht) (by omega)) ?_;rintro v H' c1 ⟨rfl,rfl⟩ hc;have ne0:=R1 t cc c1 (by omega);have hGt:((H.upd cc ⟨0,true,[I64 0,.str [],I64 0,I64 0]⟩).upd c1 (tkB (A4 L E s))) t=some (paB L E s):=by rw [A3 (by omega),A3 (by omega)];exact ht
 simp only [go_sem,seval,ne0,A0,A1];repeat' ((with_reducible first|refine wr ?_|refine A2 ?_ ?_|fail)<;>try simp only [go_sem,seval,ne0,A0,A1])
 refine AC.call (c_pok L E s _ _ t hGt (by omega)) ?_;rintro v H' c2 ⟨rfl,rfl⟩ hc2;have hks:F8 L E s k=(okR s && (A4 L E s).kind == k):=rfl;cases h1:okR s with
 | false =>
  have e0:A7 L E s k=(P1,pfl L E s 4):=by rw [A7,hks,h1];rfl
  rw [e0];simp only [go_sem,seval,ne0,h1,A0,A1];repeat' ((with_reducible first|refine wr ?_|refine A2 ?_ ?_|fail)<;>try simp only [go_sem,seval,ne0,h1,A0,A1])
  refine AC.call (c_pfail L E s _ _ t hGt (by omega) 4) ?_;rintro v H' c3 ⟨rfl,rfl⟩ hc3;simp only [go_sem,seval,ne0,A0,A1];repeat' ((with_reducible first|refine wr ?_|refine A2 ?_ ?_|fail)<;>try simp only [go_sem,seval,ne0,A0,A1])
  rw [D4 (v:=P1.v) (rv4 rfl A0)];exact ⟨_,_,I7 (B7 hfr htc) (fun j hj=>by simp [Hp.upd,show ¬j=cc by omega,show ¬j=c1 by omega]),rfl,rfl⟩
 | true =>
  cases h2:((A4 L E s).kind == k) with
  | false =>
   have h3:((A4 L E s).kind != k)=true:=by rw [bne,h2];rfl
   have e0:A7 L E s k=(P1,pfl L E s 4):=by rw [A7,hks,h1,h2];rfl
   rw [e0];simp only [go_sem,seval,ne0,h1,A0,A1];repeat' ((with_reducible first|refine wr ?_|refine A2 ?_ ?_|fail)<;>try simp only [go_sem,seval,ne0,h1,h3,A0,A1])
   refine AC.call (c_pfail L E s _ _ t hGt (by omega) 4) ?_;rintro v H' c3 ⟨rfl,rfl⟩ hc3;simp only [go_sem,seval,ne0,A0,A1];repeat' ((with_reducible first|refine wr ?_|refine A2 ?_ ?_|fail)<;>try simp only [go_sem,seval,ne0,A0,A1])
   rw [D4 (v:=P1.v) (rv4 rfl A0)];exact ⟨_,_,I7 (B7 hfr htc) (fun j hj=>by simp [Hp.upd,show ¬j=cc by omega,show ¬j=c1 by omega]),rfl,rfl⟩
  | true =>
   have h3:((A4 L E s).kind != k)=false:=by rw [bne,h2];rfl
   have hw:IntKind.i64.wrap ((s.i:Int)+1)=((s.i+1:Nat):Int):=by rw [w6z (by omega)];omega
   have e0:A7 L E s k=(A4 L E s,B1 s):=by rw [A7,hks,h1,h2];rfl
   rw [e0];simp only [go_sem,seval,ne0,h1,A0,A1];repeat' ((with_reducible first|refine wr ?_|refine A2 ?_ ?_|fail)<;>try simp only [go_sem,seval,ne0,h1,h3,hGt,ht,hw,A0,A1])
   rw [D4 (v:=(A4 L E s).v) (rv4 rfl A0)];exact ⟨_,_,I7 (B7 hfr htc) (fun j hj=>by simp [Hp.upd,show ¬j=cc by omega,show ¬j=c1 by omega];rfl),rfl,rfl⟩
theorem c_pend (L:List Tok) (E:Int) (s:Rd) (H:Hp) (cc t:Nat) (ht:H t=some (paB L E s)) (htc:t<cc):AC Tryz.prog 70 [.ptr t 0] H cc (fun v H' c'=>v=.tup []/\H'=H.upd t (paB L E (if s.i<L.length then pfl L E s 4 else s))):=by
 refine AC.bodyT A9 rfl (Nat.le_of_ble_eq_true rfl) fun hfr=>?_;by_cases h:s.i<L.length
 ·have hd:decide ((s.i:Int)<L.length)=true:=by simpa using h
  rw [if_pos h];repeat' ((with_reducible first|refine wr ?_|refine A2 ?_ ?_|fail)<;>try simp only [go_sem,seval,ht,hd])
  refine AC.call (c_pfail L E s _ _ t ht (by omega) 4) ?_;rintro v H' c1 ⟨rfl,rfl⟩ hc;simp only [go_sem,seval];repeat' ((with_reducible first|refine wr ?_|refine A2 ?_ ?_|fail)<;>try simp only [go_sem,seval])
  exact ⟨_,_,GL.refl _ _,rfl,rfl⟩
 ·have hd:decide ((s.i:Int)<L.length)=false:=by simpa using h
  rw [if_neg h];repeat' ((with_reducible first|refine wr ?_|refine A2 ?_ ?_|fail)<;>try simp only [go_sem,seval,ht,hd])
  exact ⟨_,_,GL.refl _ _,rfl,(upd_same ht).symm⟩
open Go.Sym
abbrev x34:XT Tryz.prog 34:=mkF
instance t34:FT Tryz.prog 34 x34.d:=x34.ft
abbrev x72:XT Tryz.prog 72:=mkF
instance t72:FT Tryz.prog 72 x72.d:=x72.ft
abbrev x66:XT Tryz.prog 66:=mkF
instance t66:FT Tryz.prog 66 x66.d:=x66.ft
abbrev x30:XT Tryz.prog 30:=mkF
instance t30:FT Tryz.prog 30 x30.d:=x30.ft
abbrev x116:XT Tryz.prog 116:=mkF
instance t116:FT Tryz.prog 116 x116.d:=x116.ft
abbrev x112:XT Tryz.prog 112:=mkF
instance t112:FT Tryz.prog 112 x112.d:=x112.ft
abbrev x111:XT Tryz.prog 111:=mkF
instance t111:FT Tryz.prog 111 x111.d:=x111.ft
abbrev x153:XT Tryz.prog 153:=mkF
instance t153:FT Tryz.prog 153 x153.d:=x153.ft
abbrev x180:XT Tryz.prog 180:=mkF
instance t180:FT Tryz.prog 180 x180.d:=x180.ft
abbrev x93:XT Tryz.prog 93:=mkF
instance t93:FT Tryz.prog 93 x93.d:=x93.ft
abbrev x147:XT Tryz.prog 147:=mkF
instance t147:FT Tryz.prog 147 x147.d:=x147.ft
abbrev x148:XT Tryz.prog 148:=mkF
instance t148:FT Tryz.prog 148 x148.d:=x148.ft
abbrev x179:XT Tryz.prog 179:=mkF
instance t179:FT Tryz.prog 179 x179.d:=x179.ft
abbrev x51:XT Tryz.prog 51:=mkF
instance t51:FT Tryz.prog 51 x51.d:=x51.ft
abbrev x54:XT Tryz.prog 54:=mkF
instance t54:FT Tryz.prog 54 x54.d:=x54.ft
abbrev x23:XT Tryz.prog 23:=mkF
instance t23:FT Tryz.prog 23 x23.d:=x23.ft
abbrev x50:XT Tryz.prog 50:=mkF
instance t50:FT Tryz.prog 50 x50.d:=x50.ft
abbrev x53:XT Tryz.prog 53:=mkF
instance t53:FT Tryz.prog 53 x53.d:=x53.ft
abbrev x49:XT Tryz.prog 49:=mkF
instance t49:FT Tryz.prog 49 x49.d:=x49.ft
abbrev x90:XT Tryz.prog 90:=mkF
instance t90:FT Tryz.prog 90 x90.d:=x90.ft
abbrev x52:XT Tryz.prog 52:=mkF
instance t52:FT Tryz.prog 52 x52.d:=x52.ft
abbrev x92:XT Tryz.prog 92:=mkF
instance t92:FT Tryz.prog 92 x92.d:=x92.ft
abbrev x146:XT Tryz.prog 146:=mkF
instance t146:FT Tryz.prog 146 x146.d:=x146.ft
abbrev x177:XT Tryz.prog 177:=mkF
instance t177:FT Tryz.prog 177 x177.d:=x177.ft
abbrev x178:XT Tryz.prog 178:=mkF
instance t178:FT Tryz.prog 178 x178.d:=x178.ft
abbrev x200:XT Tryz.prog 200:=mkF
instance t200:FT Tryz.prog 200 x200.d:=x200.ft
end Go.Proofs.YthlpinppaclofaaGreatDoor
namespace Go.Sym
variable [Go.Sym.Tab]
variable {P:Program}
theorem AC.own {f:Nat} {args:List DV} {V:Nat->DV} {u:Nat} {cs:List DV} (h:AC P f args nil 0 (fun v H' _ => ∃ id,v=V id/\H'=nil.upd id ⟨u,true,cs⟩)) (hn:DV.nlL args=true) (hcs:∀ d∈cs,d.nl=true)
  (hV:∀ (ρ ρ':Ren) (id id':Nat) (v:Value), ρ.nm id = ρ'.nm id'->((∀ b r, ρ.fz b=some r -> ρ'.fz b=some r)/\∀ b r, ρ.fm b=some r -> ρ'.fm b=some r)->VRel ρ (V id) v->VRel ρ' (V id') v) (H:Hp) (c:Nat) :
  AC P f args H c (fun v H' c'=>v=V c/\H'=H.upd c ⟨u,true,cs⟩/\c'=c+1):=by
 refine ⟨h.1,fun ρ w vs hR hf hA=>?_⟩;refine (h.2 ⟨fun _=>none, ρ.fz, ρ.tab, ρ.fm⟩ w vs hR.nil (fun _ _=>rfl) (hA.nl (ρ := ρ) (ρ':=⟨fun _=>none, ρ.fz, ρ.tab, ρ.fm⟩) (fun _ _ h=>h) (fun _ _ h=>h) hn)).mono ?_;rintro e w' ⟨v,v',H1,c1, ρ1,rfl,⟨id,rfl,rfl⟩,d⟩;have hb:=d.ext.below (fun id b hb=>by cases hb);obtain ⟨b1,b2,b3,b4,b5⟩:=hb;obtain ⟨t,ht,hbr⟩:=d.rep.blk id _ A0;have hsz:w.heap.size<=t.block:=by
  rcases d.ext.mine id _ t A0 ht with h1|⟨i,b0,t0,e1, -⟩
  ·exact h1
  ·cases e1
 obtain ⟨ρ2,hρ⟩:∃ ρ2:Ren, ρ2=⟨fun j=>if j=c then some t else ρ.nm j, ρ1.fz, ρ1.tab, ρ1.fm⟩:=⟨_,rfl⟩;have n1 : ρ2.nm c=some t:=by rw [hρ];simp
 have n2:∀ {j},¬ j=c -> ρ2.nm j = ρ.nm j:=fun {j} hj=>by rw [hρ];simp [hj]
 have n3 : ρ2.fz = ρ1.fz:=by rw [hρ]
 have n4 : ρ2.fm = ρ1.fm:=by rw [hρ]
 have hle : ρ.le ρ2:=⟨fun j x hj=>by
  rw [n2 (fun e=>by subst e;rw [hf j (Nat.le_refl _)] at hj;cases hj)];exact hj,fun b r hb=>by rw [n3];exact d.ext.le.fz b r hb,fun b r hb=>by rw [n4];exact d.ext.le.fm b r hb⟩
 refine ⟨V c,v',_,_, ρ2,rfl,⟨rfl,rfl,rfl⟩,hV ρ1 ρ2 id c v' (by rw [ht,n1]) ⟨fun b r hb=>by rw [n3];exact hb,fun b r hb=>by rw [n4];exact hb⟩ d.val,?_,fun j hj=>by rw [n2 (by omega)];exact hf j (by omega),by omega,
  fun j hj hne=>by rw [A3 (by omega)] at hne;exact hne,fun j hj=>n2 (by omega),?_⟩
 ·refine ⟨fun j b hb=>?_,fun i j bi bj ti tj hi hj hij h1 h2 ho=>?_,by rw [n3];exact d.rep.frz,fun j b t2 hb ho ht2=>?_,fun k es hk=>?_⟩
  ·by_cases e:j=c
   ·subst e;rw [A0] at hb;cases hb;refine ⟨t,n1,?_⟩;rcases hbr with ⟨gm,c0,e0,fr,g1,g2,g3,g4,g5,g6⟩|⟨-, -, -,es,cl,kd,ks,vs', -,g2, -⟩
    case inr =>
     simp only at g2;subst g2;have:=hcs _ List.mem_cons_self;simp [DV.nl] at this
    refine .inl ⟨gm,c0,e0,fr,g1,g2,g3,g4,fun i x hx=>?_,g6⟩;obtain ⟨q1,x',q2,q3⟩:=g5 i x hx;exact ⟨q1,x',q2,q3.nl (ρ := ρ1) (ρ' := ρ2) (fun b r hb=>by rw [n3];exact hb) (fun b r hb=>by rw [n4];exact hb) (hcs x (List.mem_of_getElem? hx))⟩
   ·rw [A3 e] at hb;obtain ⟨t2,ht2,hb2⟩:=hR.blk j b hb;exact ⟨t2,by rw [n2 e];exact ht2,(hb2.mono hle).world (b5 _ hb2.lt)⟩
  ·by_cases e1:i=c
   ·subst e1;have e2:¬ j=i:=fun e=>hij e.symm;rw [A3 e2] at hj;rw [n1] at h1;cases h1;rw [n2 e2] at h2;have:=(hR.blk j bj hj);obtain ⟨t2,ht2,hb2⟩:=this;rw [h2] at ht2;cases ht2;have:=hb2.lt;omega
   ·rw [A3 e1] at hi;rw [n2 e1] at h1;by_cases e2:j=c
    ·subst e2;rw [n1] at h2;cases h2;obtain ⟨t2,ht2,hb2⟩:=hR.blk i bi hi;rw [h1] at ht2;cases ht2;have:=hb2.lt;omega
    ·rw [A3 e2] at hj;rw [n2 e2] at h2;exact hR.sep i j bi bj ti tj hi hj hij h1 h2 ho
  ·rw [n3];by_cases e:j=c
   ·subst e;rw [A0] at hb;cases hb;rw [n1] at ht2;cases ht2;exact d.rep.dis id _ t A0 rfl ht
   ·rw [A3 e] at hb;rw [n2 e] at ht2;cases hf1 : ρ1.fz t2.block with
    | none=>rfl
    | some r =>
     rcases d.ext.fzn _ _ hf1 with h1|h1|⟨i,b0,t0,e1, -⟩
     ·rw [hR.dis j b t2 hb ho ht2] at h1;cases h1
     ·have:=(hR.lookb hb ht2).lt;omega
     ·cases e1
  ·rw [n4] at hk;refine ⟨(d.rep.frm k es hk).1,fun j b t2 hb ho ht2=>?_⟩;by_cases e:j=c
   ·subst e;rw [A0] at hb;cases hb;rw [n1] at ht2;cases ht2;exact (d.rep.frm k es hk).2 id _ t A0 rfl ht
   ·rw [A3 e] at hb;rw [n2 e] at ht2;rcases d.ext.fmn _ _ hk with h1|h1|⟨i,b0,t0,e1, -⟩
    ·exact (hR.frm k es h1).2 j b t2 hb ho ht2
    ·have:=(hR.lookb hb ht2).lt;omega
    ·cases e1
 ·refine ⟨hle,b1,b2,b3,b4,fun k hk _=>b5 k hk,fun j b t2 h1 h2=>?_,fun k r hk=>?_,fun k r hk=>?_⟩
  ·by_cases e:j=c
   ·subst e;rw [n1] at h2;cases h2;exact .inl hsz
   ·rw [A3 e] at h1;rw [n2 e] at h2;exact .inr ⟨j,b,t2,h1,fun h=>h,h2,rfl⟩
  ·rw [n3] at hk;rcases d.ext.fzn k r hk with h1|h1|⟨i,b0,t0,e1, -⟩
   ·exact .inl h1
   ·exact .inr (.inl h1)
   ·cases e1
  ·rw [n4] at hk;rcases d.ext.fmn k r hk with h1|h1|⟨i,b0,t0,e1, -⟩
   ·exact .inl h1
   ·exact .inr (.inl h1)
   ·cases e1
section
open Go.Eng (IC)
variable {N:Nat} {x:IC} {T:Tm} {H:Hp} {c:Nat} {Q:Exit->St->Prop}
theorem IW.gl {s:St} (h:IW P N x s (fun e s'=>Q e s'\/∃ (ks:List Nat) (ds':List DV) (H2:Hp),GL s'.H (ks.map s'.T) H2 ds'/\Q e ⟨tm (ks.zip ds'),H2,s'.c⟩)):IW P N x s Q:=by
 intro hm cd hc ρ a w hS;refine wp_mono (h hm cd hc ρ a w hS) fun e a' w' hq=>?_;obtain ⟨ρ2,s2,q,hS2,hst⟩:=hq;rcases q with q|⟨ks,ds',H2,g,q⟩
 ·exact ⟨ρ2,s2,q,hS2,hst⟩
 have hA:D2 ρ2 (ks.map s2.T) ((ks.map fun k=>a'.tmps.getD k undef)).toArray:=by
  refine ⟨by simp,fun i x y hx hy=>?_⟩;simp only [List.getElem?_map,Option.map_eq_some_iff,List.getElem?_toArray] at hx hy;obtain ⟨k,hk,rfl⟩:=hx;obtain ⟨k',hk',rfl⟩:=hy;rw [hk] at hk';cases hk';exact hS2.tm k
 obtain ⟨ρ1,e1,r1,a1,x1⟩:=g.2 ρ2 w' _ hS2.rep hA;refine ⟨ρ1,⟨tm (ks.zip ds'),H2,s2.c⟩,q,⟨tm_of fun i k d hk hd=>a1.2 i d _ hd (by simp [hk]),r1,by rw [e1];exact hS2.fresh,hS2.size,hS2.dfr⟩,?_⟩;exact ⟨hst.up,fun id hid hne=>hst.dom id hid (g.1 id hne),fun id hid=>by rw [e1];exact hst.same id hid,hst.ext.trans x1⟩
theorem tmLe_map:∀ {L:List (Nat × DV)} {T:Tm},D5 L T->(L.map Prod.fst).map T=L.map Prod.snd
 | [],_,_=>rfl
 | (k,v) :: r,T,⟨h1,h2⟩=>by simp only [List.map_cons,h1,tmLe_map h2]
theorem zip_fs (L:List (Nat × DV)):(L.map Prod.fst).zip (L.map Prod.snd)=L:=by
 induction L with
 | nil=>rfl
 | cons a r ih=>simp [ih]
def lpG {σ : Type} (L : σ -> List (Nat × DV)) (h : σ -> Hp) (I : σ -> Nat->Prop) (μ : σ -> Nat) (m:Nat) (Q:Exit->St->Prop):Exit->St->Prop
 | .normal,⟨T,H,c⟩ => ∃ b,D5 (L b) T/\GL H ((L b).map Prod.snd) (h b) ((L b).map Prod.snd)/\I b c /\ μ b<m
 | e,s=>Q e s
theorem X4 {σ : Type} (L : σ -> List (Nat × DV)) (h : σ -> Hp) (I : σ -> Nat->Prop) (μ : σ -> Nat) (a : σ) (hL:∀ b,D5 (L b) (tm (L b))) (h0:D5 (L a) T) (hH:Sub (h a) H) (hI:I a c)
  (step:∀ a c,I a c->IW P N x ⟨tm (L a),h a,c⟩ (lpG L h I μ (μ a) Q)):IW P N (.loop x) ⟨T,H,c⟩ Q:=by
 refine F3 L h I μ a h0 hH hI fun a c hI=>IW.gl ((step a c hI).mono fun e s' q=>?_);obtain ⟨T',H',c'⟩:=s';cases e with
 | normal =>
  obtain ⟨b,q1,q2,q3,q4⟩:=q;refine .inr ⟨(L b).map Prod.fst,(L b).map Prod.snd,h b,by rw [tmLe_map q1];exact q2,?_⟩;rw [zip_fs];exact ⟨b,hL b,Sub.refl _,q3,q4⟩
 | _=>exact .inl q
theorem k_lnG {σ : Type} {L : σ -> List (Nat × DV)} {h : σ -> Hp} {I : σ -> Nat->Prop} {μ : σ -> Nat} {m:Nat}:lpG L h I μ m Q .normal ⟨T,H,c⟩ = ∃ b,D5 (L b) T/\GL H ((L b).map Prod.snd) (h b) ((L b).map Prod.snd)/\Keep I b c /\ μ b<m:=propext Iff.rfl
theorem k_leG {σ : Type} {L : σ -> List (Nat × DV)} {h : σ -> Hp} {I : σ -> Nat->Prop} {μ : σ -> Nat} {m i:Nat}:lpG L h I μ m Q (.exit i) ⟨T,H,c⟩=Q (.exit i) ⟨T,H,c⟩:=propext Iff.rfl
end
section
open Go.Eng (AOp)
variable {c0:Nat} {T:Tm} {H:Hp}
def agN (T:Tm) (H:Hp) (d n:Nat):Option (Option Nat × Blk)->Prop
 | some (k,b)=>T d=mkv n k/\H n=some b
 | none=>False
theorem ag_n' {j d:Nat} {f:AOp}:agK c0 j T H (some d) (.new f) (some true)=agN T H d (c0+j) (aev (ev T) f):=by
 simp only [agK,agN];cases aev (ev T) f with
 | none=>simp
 | some x=>obtain ⟨k,b⟩:=x;simp
theorem agN_s {d n:Nat} {k:Option Nat} {b:Blk}:agN T H d n (some (k,b))=(T d=mkv n k/\H n=some b):=propext Iff.rfl
end
attribute [go_sem] ag_n' agN_s
attribute [go_sem] k_lnG k_leG
end Go.Sym
namespace Go.Proofs.YthlpinppaclofaaGreatDoor
open Go.Eng (IC IOper DReg IFn G0)
open Go.Sym Go.Pb
theorem gl_fr {K H':Hp} {cc b:Nat} {a b' c e:DV} (l:List Ex) (hK:∀ i,cc<=i->K i=none) (hb0:cc<=b) (hb:H' b=some ⟨5,true,A6 (l.map Ex.v)⟩) (h:∀ j,j<cc->H' j=K j) :
  GL H' [.agg [a,b',c,.slc b 0 l.length,e]] K [.agg [a,b',c,H7 l,e]] :=
 GL.frzS (id:=b) hb rfl (fun j=>by
  by_cases hj:j<cc
  ·exact .inr ⟨by omega,(h j hj).symm⟩
  ·exact .inl (hK j (by omega))) (.cons _ _ _ _ (.agg _ _ (.cons _ _ _ _ (.same _) (.cons _ _ _ _ (.same _) (.cons _ _ _ _ (.same _) (.cons _ _ _ _ (I8 (u:=5) (by simp) (A6l l) ⟨[],by simp⟩) (.cons _ _ _ _ (.same _) .nil)))))) .nil)
theorem A0i (e:Ex):A6 ([e].map Ex.v)=[I64 e.kind,I64 e.value,.str e.name,H7 e.args,I64 e.pos]:=by
 rw [List.map_cons,Ex.v_w];rfl
theorem ex_c2 (e x:Ex):A6 ([e,x].map Ex.v)=[I64 e.kind,I64 e.value,.str e.name,H7 e.args,I64 e.pos,I64 x.kind,I64 x.value,.str x.name,H7 x.args,I64 x.pos]:=by
 rw [List.map_cons,List.map_cons,Ex.v_w,Ex.v_w];rfl
abbrev exB (e:Ex):Blk:=⟨0,true,[I64 e.kind,I64 e.value,.str e.name,H7 e.args,I64 e.pos]⟩
theorem nlL_i64:∀ l:List Int,DV.nlL (l.map fun k=>I64 k)=true:=fun l=>K4 (fun _=>rfl) l
abbrev tabV (ks:List (List UInt8)) (vs:List Int):DV:=.mp .s (ks.map DV.str) (vs.map fun k=>I64 k)
theorem tab_nl (ks:List (List UInt8)) (vs:List Int):(tabV ks vs).nl=true:=by simp only [DV.nl,N9,nlL_i64,Bool.and_true]
theorem A4v (x:List UInt8):∀ (l:List (List UInt8)) (k:Nat),(J9 x k l = -1/\G7 (.str x) (l.map DV.str) k=none)\/∃ j:Nat,J9 x k l=j/\G7 (.str x) (l.map DV.str) k=some j/\j<k+l.length
 | [],k=>.inl ⟨rfl,rfl⟩
 | w :: l,k=>by
  simp only [List.map_cons,G7,T2,J9];cases h:(x == w) with
  | true=>exact .inr ⟨k,by simp,by simp,by simp⟩
  | false =>
   simp only [Bool.false_eq_true,if_false];rcases A4v x l (k+1) with h|⟨j,h1,h2,h3⟩
   ·exact .inl h
   ·exact .inr ⟨j,h1,h2,by simp only [List.length_cons];omega⟩
theorem A6e (ks:List (List UInt8)) (vs:List Int) (hl:ks.length=vs.length) (x:List UInt8):lkV (I64 0) false (vs.map fun k=>I64 k) (G7 (.str x) (ks.map DV.str) 0)=some (I64 (lkI ks vs x)):=by
 unfold lkI;rcases A4v x ks 0 with ⟨h1,h2⟩|⟨j,h1,h2,h3⟩
 ·rw [h1,h2,if_pos rfl];rfl
 ·have hj:j<vs.length:=by omega
  rw [h1,h2,if_neg (by omega),l_some,List.getElem?_map,List.getElem?_eq_getElem hj,Int.toNat_natCast,List.getD_eq_getElem?_getD,List.getElem?_eq_getElem hj];rfl
theorem c_ops:PC Tryz.prog 159 [] (tabV C0 A3z):=by
 refine PC.ofT A9 rfl (Nat.le_of_ble_eq_true rfl) rfl (tab_nl _ _) ?_;repeat' ((with_reducible first|refine wr ?_|refine A2 ?_ ?_|fail)<;>try simp only [go_sem,seval,G7,T2,List.cons_beq_cons,List.nil_beq_eq,List.beq_nil_eq,List.isEmpty_cons,List.isEmpty_nil,Bool.false_and,Bool.true_and,Bool.and_true,Bool.and_false,A1])
 exact A5x A0
theorem c_stms:PC Tryz.prog 188 [] (tabV B3 Q9):=by
 refine PC.ofT A9 rfl (Nat.le_of_ble_eq_true rfl) rfl (tab_nl _ _) ?_;repeat' ((with_reducible first|refine wr ?_|refine A2 ?_ ?_|fail)<;>try simp only [go_sem,seval,G7,T2,List.cons_beq_cons,List.nil_beq_eq,List.beq_nil_eq,List.isEmpty_cons,List.isEmpty_nil,Bool.false_and,Bool.true_and,Bool.and_true,Bool.and_false,A1])
 exact A5x A0
theorem c_lvs:PC Tryz.prog 115 [] (tabV E5 F2):=by
 refine PC.ofT A9 rfl (Nat.le_of_ble_eq_true rfl) rfl (tab_nl _ _) ?_;repeat' ((with_reducible first|refine wr ?_|refine A2 ?_ ?_|fail)<;>try simp only [go_sem,seval,G7,T2,List.cons_beq_cons,List.nil_beq_eq,List.beq_nil_eq,List.isEmpty_cons,List.isEmpty_nil,Bool.false_and,Bool.true_and,Bool.and_true,Bool.and_false,A1])
 exact A5x A0
theorem c_pdecls:PC Tryz.prog 56 [] (A1h C4):=by
 refine PC.ofT A9 rfl (Nat.le_of_ble_eq_true rfl) rfl (N9 _) ?_;repeat' ((with_reducible first|refine wr ?_|refine A2 ?_ ?_|fail)<;>try simp only [go_sem,seval])
 exact pc_slc (xs:=C4.map DV.str) (u:=1) A0 rfl rfl (N7 _) ⟨[],rfl⟩
theorem c_ptrigs:PC Tryz.prog 58 [] (A1h C7):=by
 refine PC.ofT A9 rfl (Nat.le_of_ble_eq_true rfl) rfl (N9 _) ?_;repeat' ((with_reducible first|refine wr ?_|refine A2 ?_ ?_|fail)<;>try simp only [go_sem,seval])
 exact pc_slc (xs:=C7.map DV.str) (u:=1) A0 rfl rfl (N7 _) ⟨[],rfl⟩
theorem c_levP (k:Int):PC Tryz.prog 112 [I64 k] (I64 (C6 k)):=by
 refine PC.ofT A9 rfl (Nat.le_of_ble_eq_true rfl) (by simp [DV.nlL,DV.nl]) (by simp [DV.nlL,DV.nl]) ?_;repeat' ((with_reducible first|refine wr ?_|refine A2 ?_ ?_|refine wb2 ?_ ?_<;>(intro hb;try simp only [hb])|fail)<;>try simp only [go_sem,seval])
 all_goals
  refine A5 (congrArg I64 ?_);simp only [beq_iff_eq,beq_eq_false_iff_ne,decide_eq_true_eq,decide_eq_false_iff_not,Bool.and_eq_true,Bool.or_eq_true,Bool.and_eq_false_iff,Bool.or_eq_false_iff] at *;unfold C6;repeat' split
  all_goals omega
theorem c_nmdP (k:Int):PC Tryz.prog 116 [I64 k] (.bool (nmdB k)):=by
 refine PC.ofT A9 rfl (Nat.le_of_ble_eq_true rfl) (by simp [DV.nlL,DV.nl]) (by simp [DV.nlL,DV.nl]) ?_;repeat' ((with_reducible first|refine wr ?_|refine A2 ?_ ?_|refine wb2 ?_ ?_<;>(intro hb;try simp only [hb])|fail)<;>try simp only [go_sem,seval])
 all_goals exact A5 (by simp_all [nmdB])
theorem c_deeper (L:List Tok) (E:Int) (s:Rd) (H:Hp) (cc t:Nat) (ht:H t=some (paB L E s)) (htc:t<cc) (hi:s.i<=10000000000) (h0:0<=s.par) (h1:s.par<=16):AC Tryz.prog 197 [.ptr t 0] H cc (fun v H' c'=>v=.bool (!(s.par == 16))/\H'=H.upd t (paB L E (if s.par=16 then pfl L E s 50 else { s with i:=s.i+1,par:=s.par+1 }))):=by
 refine AC.bodyT A9 rfl (Nat.le_of_ble_eq_true rfl) fun hfr=>?_;by_cases h:s.par=16
 ·have hd:(s.par == 16)=true:=by simpa using h
  rw [if_pos h,hd];repeat' ((with_reducible first|refine wr ?_|refine A2 ?_ ?_|fail)<;>try simp only [go_sem,seval,ht,hd])
  refine AC.call (c_pfail L E s _ _ t ht (by omega) 50) ?_;rintro v H' c1 ⟨rfl,rfl⟩ hc;simp only [go_sem,seval];repeat' ((with_reducible first|refine wr ?_|refine A2 ?_ ?_|fail)<;>try simp only [go_sem,seval])
  exact ⟨_,_,GL.refl _ _,rfl,rfl⟩
 ·have hd:(s.par == 16)=false:=by simpa using h
  have hw:IntKind.i64.wrap ((s.i:Int)+1)=((s.i+1:Nat):Int):=by rw [w6z (by omega)];omega
  have hw2:IntKind.i64.wrap (s.par+1)=s.par+1:=w6z (by omega);rw [if_neg h,hd];repeat' ((with_reducible first|refine wr ?_|refine A2 ?_ ?_|fail)<;>try simp only [go_sem,seval,ht,hd,hw,hw2,A0,A1])
  exact ⟨_,_,GL.refl _ _,rfl,rfl⟩
structure PaE (L:List Tok) (s:Rd) (q:Ex × Rd) (x:Ex) (s':Rd):Prop where
 eq:Eqv s' q.2
 vl:okR q.2=true->x=q.1
 bd:PI L s'
 pr:s'.par=s.par
abbrev PeC (L:List Tok) (E:Int) (f:Nat) (vs:List DV) (s:Rd) (q:Ex × Rd):Prop :=
 ∀ (H:Hp) (cc t:Nat),H t=some (paB L E s)->t<cc->AC Tryz.prog f (.ptr t 0 :: vs) H cc (fun v H' c' => ∃ x s',v=x.v/\H'=H.upd t (paB L E s')/\PaE L s q x s')
abbrev exBk (k v:Int) (n:List UInt8) (p:Int):Blk:=⟨0,true,[I64 k,I64 v,.str n,.snil,I64 p]⟩
theorem c_pleaf (L:List Tok) (E:Int) (hL:L.length<=1000000000) (hK:∀ t∈L,E7 t) (s m:Rd) (hq:Eqv s m) (hP:PI L s) (hp:isP L E s 5 [[40]]=false):PeC L E 196 [] s (K1 L E m):=by
 intro H cc t ht htc;have hri:=hP.i;have hro:=hP.o0;have hro1:=hP.o1;refine AC.bodyT A9 rfl (Nat.le_of_ble_eq_true rfl) fun hfr=>?_;have hio:=c_pisO L E s (H.upd cc A4g) (cc+2) t (cc+1) (by rw [A3 (by omega)];exact hfr _ (by omega)) (by rw [A3 (by omega)];exact ht) (by omega) 5 [[40]] (by simp);repeat' ((with_reducible first|refine wr ?_|refine A2 ?_ ?_|fail)<;>try simp only [go_sem,seval])
 refine AC.call hio ?_;rintro v H' c1 ⟨rfl,rfl⟩ hc1;simp only [go_sem,seval,hp];repeat' ((with_reducible first|refine wr ?_|refine A2 ?_ ?_|fail)<;>try simp only [go_sem,seval,hp])
 refine AC.call (c_here L E s _ _ t (by rw [A3 (by omega)];exact ht) (by omega)) ?_;rintro v H' c2 ⟨rfl,rfl⟩ hc2;have ne0:=A4b t cc c2 (c2+1) (by omega);have tail:∀ (kd vl:Int) (nm:List UInt8) (c3:Nat),c2+2<=c3->(kd,vl,nm)=lfK (A4 L E s)->IW Tryz.prog 96 (pz Tryz.prog 196 (.o (.o (.i (.i (.o .h)))))) ⟨tm [(0,.ptr t 0),(2,.ptr cc 0),(5,.ptr (c2+1) 0)],((H.upd cc A4g).upd c2 (tkB (A4 L E s))).upd (c2+1) (exBk kd vl nm (A4 L E s).pos),c3⟩ (rt [.cell 2 5 true] fun v H' c' => ∃ v2 H2,GL H' [v] H2 [v2]/\∃ x s',v2=x.v/\H2=H.upd t (paB L E s')/\PaE L s (K1 L E m) x s'):=by
  intro kd vl nm c3 hc3 hlf;have hGt:(((H.upd cc A4g).upd c2 (tkB (A4 L E s))).upd (c2+1) (exBk kd vl nm (A4 L E s).pos)) t=some (paB L E s):=by rw [A3 (by omega),A3 (by omega),A3 (by omega)];exact ht
  have hbad:∀ (e:Int) (c4:Nat),PaE L s (K1 L E m) Ex0 (pfl L E s e)->GL (((((H.upd cc A4g).upd c2 (tkB (A4 L E s))).upd (c2+1) (exBk kd vl nm (A4 L E s).pos)).upd t (paB L E (pfl L E s e))).upd cc A4g) [.agg [I64 0,I64 0,.str [],.snil,I64 0]] (H.upd t (paB L E (pfl L E s e))) [.agg [I64 0,I64 0,.str [],.lst [],I64 0]]:=fun e c4 _ =>
   gl_ex (cc:=cc) (B7 hfr htc) (fun j hj=>by simp [Hp.upd,show ¬j=cc by omega,show ¬j=c2 by omega,show ¬j=c2+1 by omega])
  by_cases hk0:kd=0
  ·have hd:(kd == 0)=true:=by simpa using hk0
   have hr:PaE L s (K1 L E m) Ex0 (pfl L E s 4):=by
    rcases hq.cas with ⟨rfl,ho⟩|⟨h1,h2⟩
    ·rw [A4s hK ho];unfold leafR;dsimp only;rw [<- hlf,if_pos hk0];exact ⟨.refl _,fun _=>rfl,hP.fl,A2v.2.2⟩
    ·rw [A2u h2,P3 h1];exact ⟨hq,fun h=>(by simp [h2] at h),hP,rfl⟩
   repeat' ((with_reducible first|refine wr ?_|refine A2 ?_ ?_|fail)<;>try simp only [go_sem,seval,hd,ne0,A0,A1])
   refine AC.call (c_pfail L E s _ _ t hGt (by omega) 4) ?_;rintro v H' c4 ⟨rfl,rfl⟩ hc4;simp only [go_sem,seval,ne0,A0,A1];repeat' ((with_reducible first|refine wr ?_|refine A2 ?_ ?_|fail)<;>try simp only [go_sem,seval,ne0,A0,A1])
   rw [D4 (rv5 rfl A0)];exact ⟨_,_,hbad 4 c4 hr,Ex0,_,rfl,rfl,hr⟩
  have hd:(kd == 0)=false:=by simpa using hk0
  repeat' ((with_reducible first|refine wr ?_|refine A2 ?_ ?_|fail)<;>try simp only [go_sem,seval,hd,ne0,A0,A1])
  refine AC.call (c_pok L E s _ _ t hGt (by omega)) ?_;rintro v H' c4 ⟨rfl,rfl⟩ hc4;cases ho:okR s with
  | false =>
   have hm:okR m=false:=by rw [<- hq.ok,ho]
   have hr:PaE L s (K1 L E m) Ex0 (pfl L E s 4):=by
    rw [A2u hm,P3 ho];exact ⟨hq,fun h=>(by simp [hm] at h),hP,rfl⟩
   simp only [go_sem,seval,ho];repeat' ((with_reducible first|refine wr ?_|refine A2 ?_ ?_|fail)<;>try simp only [go_sem,seval,ho,ne0,A0,A1])
   refine AC.call (c_pfail L E s _ _ t hGt (by omega) 4) ?_;rintro v H' c5 ⟨rfl,rfl⟩ hc5;simp only [go_sem,seval,ne0,A0,A1];repeat' ((with_reducible first|refine wr ?_|refine A2 ?_ ?_|fail)<;>try simp only [go_sem,seval,ne0,A0,A1])
   rw [D4 (rv5 rfl A0)];exact ⟨_,_,hbad 4 c4 hr,Ex0,_,rfl,rfl,hr⟩
  | true =>
   obtain rfl:s=m:=hq.s (by rw [<- hq.ok,ho]);have hpr:K1 L E s=leafR L E s:=A4s hK ho;unfold leafR at hpr;dsimp only at hpr;rw [<- hlf] at hpr;dsimp only at hpr;rw [if_neg hk0] at hpr;by_cases h32:s.ops=32
   ·have hd2:(s.ops == 32)=true:=by simpa using h32
    rw [if_pos (by omega)] at hpr;have hr:PaE L s (K1 L E s) Ex0 (pfl L E s 9):=by
     rw [hpr];refine ⟨.bad ?_ ?_ (A2c (by omega) (by decide)),fun _=>rfl,hP.fl,A2v.2.2⟩
     ·dsimp only;rw [lim_at (by omega) ho,pfl_at ho]
     ·dsimp only;rw [lim_at (by omega) ho,pfl_at ho]
    simp only [go_sem,seval,ho];repeat' ((with_reducible first|refine wr ?_|refine A2 ?_ ?_|fail)<;>try simp only [go_sem,seval,ho,hd2,hGt,ne0,A0,A1])
    refine AC.call (c_pfail L E s _ _ t hGt (by omega) 9) ?_;rintro v H' c5 ⟨rfl,rfl⟩ hc5;simp only [go_sem,seval,ne0,A0,A1];repeat' ((with_reducible first|refine wr ?_|refine A2 ?_ ?_|fail)<;>try simp only [go_sem,seval,ne0,A0,A1])
    rw [D4 (rv5 rfl A0)];exact ⟨_,_,hbad 9 c4 hr,Ex0,_,rfl,rfl,hr⟩
   ·have hd2:(s.ops == 32)=false:=by simpa using h32
    have hlt:s.i<L.length:=by
     have hk:(A4 L E s).kind≠0:=fun h=>by
      rw [lfK,if_neg (by omega),if_neg (by omega),if_neg (by omega)] at hlf;exact hk0 (congrArg (·.1) hlf)
     exact (H3 hk rfl).2
    have hw1:IntKind.i64.wrap (s.ops+1)=s.ops+1:=w6z (by omega);have hw2:IntKind.i64.wrap ((s.i:Int)+1)=((s.i+1:Nat):Int):=by rw [w6z (by omega)];omega
    rw [if_neg (by omega)] at hpr;have hP3:PI L ({ s with i:=s.i+1,ops:=s.ops+1 }:Rd):=⟨hlt,by show 0<=s.ops+1;omega,by show s.ops+1<=32;omega,hP.p0,hP.p1⟩;have hcn:=c_nmdP kd;cases hn:nmdB kd with
    | true =>
     rw [hn] at hcn;simp only [go_sem,seval,ho];repeat' ((with_reducible first|refine wr ?_|refine cpc hcn ?_|refine A2 ?_ ?_|fail)<;>try simp only [go_sem,seval,ho,hd2,hGt,hw1,hw2,ne0,A0,A1])
     rw [if_pos hn] at hpr;obtain ⟨g1,g2⟩:=hP3.take (E:=E) (x:=1) (by decide);have hnm:vl=0/\nm=[]:=by
      unfold lfK at hlf;split at hlf
      ·cases hlf;cases hn
      ·split at hlf
       ·cases hlf;cases hn
       ·split at hlf<;>cases hlf<;>exact ⟨rfl,rfl⟩
     obtain ⟨rfl,rfl⟩:=hnm;refine AC.call (c_ptake L E { s with i:=s.i+1,ops:=s.ops+1 } _ _ t A0 (by omega) (by show s.i+1<=10000000000;omega) 1) ?_;rintro v H' c5 ⟨rfl,rfl⟩ hc5;simp only [go_sem,seval,ne0,A0,A1];repeat' ((with_reducible first|refine wr ?_|refine A2 ?_ ?_|fail)<;>try simp only [go_sem,seval,ne0,A0,A1])
     rw [D4 (rv5 rfl A0)];refine ⟨_,_,gl_ex (cc:=cc) (K:=H.upd t (paB L E (A7 L E ({ s with i:=s.i+1,ops:=s.ops+1 }:Rd) 1).2)) (B7 hfr htc) (fun j hj=>?_),.mk kd 0 (A7 L E ({ s with i:=s.i+1,ops:=s.ops+1 }:Rd) 1).1.text [] (A4 L E s).pos,_,rfl,rfl,?_⟩
     ·simp [Hp.upd,show ¬j=cc by omega,show ¬j=c2 by omega,show ¬j=c2+1 by omega];try (split<;>rfl)
     ·rw [hpr];exact ⟨.refl _,fun _=>rfl,g1,g2⟩
    | false =>
     rw [if_neg (by simp [hn])] at hpr;rw [hn] at hcn;simp only [go_sem,seval,ho];repeat' ((with_reducible first|refine wr ?_|refine cpc hcn ?_|refine A2 ?_ ?_|fail)<;>try simp only [go_sem,seval,ho,hd2,hGt,hw1,hw2,ne0,A0,A1])
     rw [D4 (rv5 rfl A0)];refine ⟨_,_,gl_ex (cc:=cc) (K:=H.upd t (paB L E ({ s with i:=s.i+1,ops:=s.ops+1 }:Rd))) (B7 hfr htc) (fun j hj=>?_),.mk kd vl nm [] (A4 L E s).pos,_,rfl,rfl,?_⟩
     ·simp [Hp.upd,show ¬j=cc by omega,show ¬j=c2 by omega,show ¬j=c2+1 by omega];try (split<;>rfl)
     ·rw [hpr];exact ⟨.refl _,fun _=>rfl,hP3,rfl⟩
 have hlk:=A6e E5 F2 rfl (A4 L E s).text;by_cases h3:(A4 L E s).kind=3
 ·have e3:((A4 L E s).kind == 3)=true:=by simpa using h3
  simp only [go_sem,seval,ne0,A0,A1];repeat' ((with_reducible first|refine E1 (p:=IW _ _ (pz Tryz.prog 196 (.o (.o (.i (.i (.o .h)))))) _ _) ?_|refine wr ?_|refine A2 ?_ ?_|fail)<;>try simp only [go_sem,seval,e3,ne0,A0,A1])
  and_intros
  all_goals try ((repeat rw [A3 (by omega)]);exact hfr _ (by omega))
  repeat' ((with_reducible first|refine E1 (p:=IW _ _ (pz Tryz.prog 196 (.o (.o (.i (.i (.o .h)))))) _ _) ?_|refine wr ?_|refine A2 ?_ ?_|fail)<;>try simp only [go_sem,seval,e3,ne0,A0,A1])
  exact IW.stage (by simp [D5,tm,Tm.upd]) (tail 1 (A4 L E s).value [] _ (by omega) (by rw [lfK,if_pos h3]))
 have e3:((A4 L E s).kind == 3)=false:=by simpa using h3
 by_cases h1:(A4 L E s).kind=1
 ·have e1:((A4 L E s).kind == 1)=true:=by simpa using h1
  simp only [go_sem,seval,ne0,A0,A1];repeat' ((with_reducible first|refine E1 (p:=IW _ _ (pz Tryz.prog 196 (.o (.o (.i (.i (.o .h)))))) _ _) ?_|refine wr ?_|refine A2 ?_ ?_|fail)<;>try simp only [go_sem,seval,e3,e1,ne0,A0,A1])
  and_intros
  all_goals try ((repeat rw [A3 (by omega)]);exact hfr _ (by omega))
  repeat' ((with_reducible first|refine E1 (p:=IW _ _ (pz Tryz.prog 196 (.o (.o (.i (.i (.o .h)))))) _ _) ?_|refine wr ?_|refine A2 ?_ ?_|fail)<;>try simp only [go_sem,seval,e3,e1,ne0,A0,A1])
  exact IW.stage (by simp [D5,tm,Tm.upd]) (tail 2 0 (A4 L E s).text _ (by omega) (by rw [lfK,if_neg h3,if_pos h1]))
 have e1:((A4 L E s).kind == 1)=false:=by simpa using h1
 by_cases h2:(A4 L E s).kind=2
 ·have e2:((A4 L E s).kind == 2)=true:=by simpa using h2
  simp only [go_sem,seval,ne0,A0,A1];repeat' ((with_reducible first|refine E1 (p:=IW _ _ (pz Tryz.prog 196 (.o (.o (.i (.i (.o .h)))))) _ _) ?_|refine wr ?_|refine cpc c_lvs ?_|refine A2 ?_ ?_|fail)<;>try simp only [go_sem,seval,e3,e1,e2,hlk,ne0,A0,A1])
  and_intros
  all_goals try ((repeat rw [A3 (by omega)]);exact hfr _ (by omega))
  repeat' ((with_reducible first|refine E1 (p:=IW _ _ (pz Tryz.prog 196 (.o (.o (.i (.i (.o .h)))))) _ _) ?_|refine wr ?_|refine cpc c_lvs ?_|refine A2 ?_ ?_|fail)<;>try simp only [go_sem,seval,e3,e1,e2,hlk,ne0,A0,A1])
  exact IW.stage (by simp [D5,tm,Tm.upd]) (tail (lkI E5 F2 (A4 L E s).text) 0 [] _ (by omega) (by rw [lfK,if_neg h3,if_neg h1,if_pos h2]))
 have e2:((A4 L E s).kind == 2)=false:=by simpa using h2
 simp only [go_sem,seval,ne0,A0,A1];repeat' ((with_reducible first|refine E1 (p:=IW _ _ (pz Tryz.prog 196 (.o (.o (.i (.i (.o .h)))))) _ _) ?_|refine wr ?_|refine A2 ?_ ?_|fail)<;>try simp only [go_sem,seval,e3,e1,e2,ne0,A0,A1])
 exact IW.stage (by simp [D5,tm,Tm.upd]) (tail 0 0 [] _ (by omega) (by rw [lfK,if_neg h3,if_neg h1,if_neg h2]))
theorem hideP {G:Hp} {k t:Nat} {b:Blk} (h:¬ t=k):P6 (G.upd k b) [k] t=G t:=by
 simp only [P6];rw [if_neg (by simpa using h),A3 h]
theorem mgP {X:Hp} {k t:Nat} {B:Blk} (h:¬ t=k):H6 [k] X ((P6 X [k]).upd t B)=X.upd t B:=by
 funext j
 simp only [H6];by_cases e:j=k
 ·subst e;rw [if_pos (by simp),A3 (fun e=>h e.symm)]
 ·rw [if_neg (by simpa using e)];by_cases e2:j=t
  ·subst e2;rw [A0,A0]
  ·rw [A3 e2,A3 e2];simp only [P6];rw [if_neg (by simpa using e)]
theorem c_pprim (L:List Tok) (E:Int) (hL:L.length<=1000000000) (hK:∀ t∈L,E7 t) (f:Nat)
  (ib:∀ n s m r,1<=n->n<=6->Eqv s m->E3 L E f n m=some r->PI L s->PeC L E 123 [I64 n] s r)
  (s m:Rd) (r:Ex × Rd) (hq:Eqv s m) (h:K6 L E (f+1) m=some r) (hP:PI L s) (hp0:isP L E s 5 [[45],[33]]=false):PeC L E 196 [] s r:=by
 unfold K6 at h;dsimp only at h;cases hp:isP L E s 5 [[40]] with
 | false =>
  rw [if_pos (pre_no hK (by rw [<- hq.isP];exact hp0) (by rw [<- hq.isP];exact hp))] at h;cases h;exact c_pleaf L E hL hK s m hq hP hp
 | true =>
  obtain ⟨ho,hlt, -⟩:=M6 (by decide) hp;obtain rfl:s=m:=hq.s (by rw [<- hq.ok,ho]);have hk:B4 L E s R0=2:=amg_tx hK hp R0 (by decide +kernel);rw [hk,if_neg (by decide)] at h;have hri:=hP.i;have hp0':=hP.p0;have hp1:=hP.p1;intro H cc t ht htc;refine AC.bodyT A9 rfl (Nat.le_of_ble_eq_true rfl) fun hfr=>?_;have hio:=c_pisO L E s (H.upd cc A4g) (cc+2) t (cc+1) (by rw [A3 (by omega)];exact hfr _ (by omega)) (by rw [A3 (by omega)];exact ht) (by omega) 5 [[40]] (by simp);repeat' ((with_reducible first|refine wr ?_|refine A2 ?_ ?_|fail)<;>try simp only [go_sem,seval])
  refine AC.call hio ?_;rintro v H' c1 ⟨rfl,rfl⟩ hc1;simp only [go_sem,seval,hp];repeat' ((with_reducible first|refine wr ?_|refine A2 ?_ ?_|fail)<;>try simp only [go_sem,seval,hp])
  refine AC.call (c_deeper L E s _ _ t (by rw [A3 (by omega)];exact ht) (by omega) (by omega) hp0' hp1) ?_;rintro v H' c2 ⟨rfl,rfl⟩ hc2;have ne0:=R1 t cc c2 (by omega);by_cases h16:s.par=16
  ·have hd:(s.par == 16)=true:=by simpa using h16
   have hl:B5 L E s (s.par+1) 16 50=pfl L E s 50:=by rw [P5,if_pos (by omega)]
   rw [hl,if_pos (by unfold pfl;exact J5 (by decide))] at h;cases h;rw [if_pos h16];simp only [go_sem,seval,hd,ne0,A0,A1];repeat' ((with_reducible first|refine wr ?_|refine A2 ?_ ?_|fail)<;>try simp only [go_sem,seval,hd,ne0,A0,A1])
   rw [D4 (rv5 rfl A0)];refine ⟨_,_,gl_ex (cc:=cc) (K:=H.upd t (paB L E (pfl L E s 50))) (B7 hfr htc) (fun j hj=>by simp [Hp.upd,show ¬j=cc by omega]),Ex0,_,rfl,rfl,.refl _,fun _=>rfl,hP.fl,A2v.2.2⟩
  ·have hd:(s.par == 16)=false:=by simpa using h16
   rw [S4 (by omega),if_neg (by rw [ho];decide),if_pos rfl] at h;rw [if_neg h16];have hP2:PI L ({ s with i:=s.i+1,par:=s.par+1 }:Rd):=⟨hlt,hP.o0,hP.o1,by show 0<=s.par+1;omega,by show s.par+1<=16;omega⟩;cases hb:E3 L E f 1 { s with i:=s.i+1,par:=s.par+1 } with
   | none=>rw [hb] at h;cases h
   | some q =>
    obtain ⟨e,m3⟩:=q;rw [hb] at h;dsimp only at h;cases h;simp only [go_sem,seval,hd,ne0,A0,A1];repeat' ((with_reducible first|refine wr ?_|refine A2 ?_ ?_|fail)<;>try simp only [go_sem,seval,hd,ne0,A0,A1])
    refine AC.call (ib 1 _ _ _ (by decide) (by decide) (.refl _) hb hP2 _ _ t A0 (by omega)) ?_;rintro v H' c3 ⟨x,s3,rfl,rfl,hx⟩ hc3;have hi3:=hx.bd.i;have ne0:=R1 t cc c3 (by omega);simp only [go_sem,seval,ne0,A0,A1,Ex.v_w];repeat' ((with_reducible first|refine wr ?_|refine A2 ?_ ?_|fail)<;>try simp only [go_sem,seval,ne0,A0,A1])
    refine AC.call (c_want L E s3 _ _ t (by repeat (first|exact A0|rw [A3 (by omega)])) (by omega) (by omega) 5 [41]) ?_;rintro v H' c4 ⟨rfl,rfl⟩ hc4;obtain ⟨w1,w2⟩:=hx.bd.want (E:=E) (k:=5) (w:=[41]) (by decide);have hpr3:=hx.pr;dsimp only at hpr3;have hw5:IntKind.i64.wrap ((C5 L E s3 5 [41]).par-1)=(C5 L E s3 5 [41]).par-1:=w6z (by omega);have heq:=hx.eq.want (L:=L) (E:=E) (k:=5) (w:=[41]) (fun s=>D6 hK (by decide +kernel));have hres:PaE L s (e, { C2 L E m3 [41] with par:=(C2 L E m3 [41]).par-1 }) x ({ C5 L E s3 5 [41] with par:=(C5 L E s3 5 [41]).par-1 }:Rd):=by
     refine ⟨heq.par (fun k=>by rw [heq.s k]),fun k=>?_,⟨w1.i,w1.o0,w1.o1,by show 0<=(C5 L E s3 5 [41]).par-1;omega,by show (C5 L E s3 5 [41]).par-1<=16;omega⟩,by show (C5 L E s3 5 [41]).par-1=s.par;omega⟩;have k2:okR (C2 L E m3 [41])=true:=k;exact hx.vl (A1m (exp_ok k2).1).1
    generalize C5 L E s3 5 [41]=s4 at *;simp only [go_sem,seval,ne0,A0,A1];repeat' ((with_reducible first|refine wr ?_|refine A2 ?_ ?_|fail)<;>try simp only [go_sem,seval,hw5,ne0,A0,A1])
    rw [D4 (rv5 rfl A0)];refine ⟨_,_,I7 (cc:=cc) (K:=H.upd t (paB L E { s4 with par:=s4.par-1 })) (B7 hfr htc) (fun j hj=>?_),x,_,rfl,rfl,hres⟩;simp [Hp.upd,show ¬j=cc by omega,show ¬j=c3 by omega];try (split<;>rfl)
theorem c_punary (L:List Tok) (E:Int) (hL:L.length<=1000000000) (hK:∀ t∈L,E7 t) (f:Nat)
  (ib:∀ n s m r,1<=n->n<=6->Eqv s m->E3 L E f n m=some r->PI L s->PeC L E 123 [I64 n] s r)
  (iu:∀ s m r,Eqv s m->K6 L E f m=some r->PI L s->PeC L E 166 [] s r)
  (s m:Rd) (r:Ex × Rd) (hq:Eqv s m) (h:K6 L E (f+1) m=some r) (hP:PI L s):PeC L E 166 [] s r:=by
 intro H cc t ht htc;have hri:=hP.i;have hp0':=hP.p0;have hp1:=hP.p1;refine AC.bodyT A9 rfl (Nat.le_of_ble_eq_true rfl) fun hfr=>?_;repeat' ((with_reducible first|refine wr ?_|refine A2 ?_ ?_|fail)<;>try simp only [go_sem,seval])
 refine AC.call (c_here L E s _ _ t (by rw [A3 (by omega)];exact ht) (by omega)) ?_;rintro v H' c1 ⟨rfl,rfl⟩ hc;have ne0:=A4b t cc c1 (c1+1) (by omega);have hio:=c_pisO L E s ((H.upd cc A4g).upd c1 (tkB (A4 L E s))) (c1+1+1) t (c1+1) (by rw [A3 (by omega),A3 (by omega)];exact hfr _ (by omega)) (by rw [A3 (by omega),A3 (by omega)];exact ht) (by omega) 5 [[45],[33]] (by simp);simp only [go_sem,seval,ne0,A0,A1];repeat' ((with_reducible first|refine wr ?_|refine A2 ?_ ?_|fail)<;>try simp only [go_sem,seval,ne0,A0,A1])
 refine AC.call hio ?_;rintro v H' c2 ⟨rfl,rfl⟩ hc2;have hGt:((H.upd cc A4g).upd c1 (tkB (A4 L E s))) t=some (paB L E s):=by rw [A3 (by omega),A3 (by omega)];exact ht
 cases hp:isP L E s 5 [[45],[33]] with
 | false =>
  simp only [go_sem,seval,hp];repeat' ((with_reducible first|refine wr ?_|refine A2 ?_ ?_|fail)<;>try simp only [go_sem,seval,hp])
  refine AC.call (c_pprim L E hL hK f ib s m r hq h hP hp _ _ t hGt (by omega)) ?_;rintro v H' c3 ⟨x,s3,rfl,rfl,hx⟩ hc3;simp only [go_sem,seval,ne0,A0,A1,Ex.v_w];repeat' ((with_reducible first|refine wr ?_|refine A2 ?_ ?_|fail)<;>try simp only [go_sem,seval,ne0,A0,A1])
  rw [D4 (rv5 rfl A0)];refine ⟨_,_,I7 (cc:=cc) (K:=H.upd t (paB L E s3)) (B7 hfr htc) (fun j hj=>?_),x,s3,rfl,rfl,hx⟩;simp [Hp.upd,show ¬j=cc by omega,show ¬j=c1 by omega]
 | true =>
  obtain ⟨ho,hlt, -⟩:=M6 (by decide) hp;obtain rfl:s=m:=hq.s (by rw [<- hq.ok,ho]);obtain ⟨b,hb33,hk⟩:∃ b:Bool,((A4 L E s).text == [33])=b/\B4 L E s R0=if b=true then 1 else 0:=by
   rcases isP_two hp with h1|h1
   ·exact ⟨false,by rw [isP_tx h1];rfl,amg_tx hK h1 R0 (by decide +kernel)⟩
   ·exact ⟨true,by rw [isP_tx h1];rfl,amg_tx hK h1 R0 (by decide +kernel)⟩
  unfold K6 at h;dsimp only at h;rw [hk,if_neg (by cases b<;>decide)] at h;simp only [go_sem,seval,hp];repeat' ((with_reducible first|refine wr ?_|refine A2 ?_ ?_|fail)<;>try simp only [go_sem,seval,hp])
  refine AC.call (c_deeper L E s _ _ t hGt (by omega) (by omega) hp0' hp1) ?_;rintro v H' c3 ⟨rfl,rfl⟩ hc3;by_cases h16:s.par=16
  ·have hd:(s.par == 16)=true:=by simpa using h16
   have hl:B5 L E s (s.par+1) 16 50=pfl L E s 50:=by rw [P5,if_pos (by omega)]
   rw [hl,if_pos (by unfold pfl;exact J5 (by decide))] at h;cases h;rw [if_pos h16];simp only [go_sem,seval,hd,ne0,A0,A1];repeat' ((with_reducible first|refine wr ?_|refine A2 ?_ ?_|fail)<;>try simp only [go_sem,seval,hd,ne0,A0,A1])
   rw [D4 (rv5 rfl A0)];refine ⟨_,_,gl_ex (cc:=cc) (K:=H.upd t (paB L E (pfl L E s 50))) (B7 hfr htc) (fun j hj=>by simp [Hp.upd,show ¬j=cc by omega,show ¬j=c1 by omega]),Ex0,_,rfl,rfl,.refl _,fun _=>rfl,hP.fl,A2v.2.2⟩
  have hd:(s.par == 16)=false:=by simpa using h16
  rw [S4 (by omega),if_neg (by rw [ho];decide),if_neg (by cases b<;>decide)] at h;rw [if_neg h16];have hP2:PI L ({ s with i:=s.i+1,par:=s.par+1 }:Rd):=⟨hlt,hP.o0,hP.o1,by show 0<=s.par+1;omega,by show s.par+1<=16;omega⟩;cases hu:K6 L E f { s with i:=s.i+1,par:=s.par+1 } with
  | none=>rw [hu] at h;cases h
  | some q =>
   obtain ⟨e,m3⟩:=q;rw [hu] at h;dsimp only at h;cases h;have ne0:=S3 t cc c1 (c3+2) (c3+6) (by omega);simp only [go_sem,seval,hd,ne0,A0,A1];repeat' ((with_reducible first|refine wr ?_|refine A2 ?_ ?_|fail)<;>try simp only [go_sem,seval,hd,ne0,A0,A1])
   refine AC.call (iu _ _ _ (.refl _) hu hP2 _ _ t (by rw [hideP (by omega)];exact A0) (by omega)) ?_;rintro v H' c4 ⟨x,s3,rfl,rfl,hx⟩ hc4;have hi3:=hx.bd.i;have hpr3:=hx.pr;have hb3:=hx.bd;have hxe:=hx.eq;have hxv:=hx.vl;dsimp only at hpr3 hxe hxv;have hw5:IntKind.i64.wrap (s3.par-1)=s3.par-1:=w6z (by omega);have hres:PaE L s (.mk (10+if b=true then 1 else 0) 0 [] [e] (A4 L E s).pos, { m3 with par:=m3.par-1 }) (.mk (if b=true then 11 else 10) 0 [] [x] (A4 L E s).pos) ({ s3 with par:=s3.par-1 }:Rd):=by
    refine ⟨hxe.par (fun k=>by rw [hxe.s k]),fun k=>?_,⟨hb3.i,hb3.o0,hb3.o1,by show 0<=s3.par-1;omega,by show s3.par-1<=16;omega⟩,by show s3.par-1=s.par;omega⟩;have k2:okR m3=true:=k;rw [hxv k2];cases b<;>rfl
   have hmg:∀ (X:Hp) (B:Blk),H6 [c3+6] X ((P6 X [c3+6]).upd t B)=X.upd t B:=fun X B=>mgP (by omega);cases b with
   | true =>
    simp only [go_sem,seval,ne0,A0,A1,hmg,Ex.v_w];repeat' ((with_reducible first|refine wr ?_|refine A2 ?_ ?_|fail)<;>try simp only [go_sem,seval,ne0,A0,A1,hb33])
    and_intros
    all_goals try ((repeat rw [A3 (by omega)]);exact hfr _ (by omega))
    repeat' ((with_reducible first|refine wr ?_|refine A2 ?_ ?_|fail)<;>try simp only [go_sem,seval,hw5,ne0,A0,A1,hb33])
    rw [D4 (rv5 rfl A0)];refine ⟨_,_,gl_fr (cc:=cc) (b:=c3+2) (K:=H.upd t (paB L E { s3 with par:=s3.par-1 })) [x] (B7 hfr htc) (by omega) ?_ (fun j hj=>?_),.mk 11 0 [] [x] (A4 L E s).pos,_,rfl,rfl,hres⟩
    ·rw [A0i];dsimp only
     repeat (first|exact A0|rw [A3 (by omega)])
    simp [Hp.upd,show ¬j=cc by omega,show ¬j=c1 by omega,show ¬j=c3+2 by omega,show ¬j=c3+6 by omega];try (split<;>rfl)
   | false =>
    simp only [go_sem,seval,ne0,A0,A1,hmg,Ex.v_w];repeat' ((with_reducible first|refine wr ?_|refine A2 ?_ ?_|fail)<;>try simp only [go_sem,seval,ne0,A0,A1,hb33])
    and_intros
    all_goals try ((repeat rw [A3 (by omega)]);exact hfr _ (by omega))
    repeat' ((with_reducible first|refine wr ?_|refine A2 ?_ ?_|fail)<;>try simp only [go_sem,seval,hw5,ne0,A0,A1,hb33])
    rw [D4 (rv5 rfl A0)];refine ⟨_,_,gl_fr (cc:=cc) (b:=c3+2) (K:=H.upd t (paB L E { s3 with par:=s3.par-1 })) [x] (B7 hfr htc) (by omega) ?_ (fun j hj=>?_),.mk 10 0 [] [x] (A4 L E s).pos,_,rfl,rfl,hres⟩
    ·rw [A0i];dsimp only
     repeat (first|exact A0|rw [A3 (by omega)])
    simp [Hp.upd,show ¬j=cc by omega,show ¬j=c1 by omega,show ¬j=c3+2 by omega,show ¬j=c3+6 by omega];try (split<;>rfl)
theorem c_plevel (L:List Tok) (E:Int) (hL:L.length<=1000000000) (hK:∀ t∈L,E7 t) (f:Nat)
  (ib:∀ g,g<=f->∀ n s m r,1<=n->n<=6->Eqv s m->E3 L E g n m=some r->PI L s->PeC L E 123 [I64 n] s r)
  (iu:∀ s m r,Eqv s m->K6 L E f m=some r->PI L s->PeC L E 166 [] s r)
  (n:Int) (s m:Rd) (r:Ex × Rd) (hn1:1<=n) (hn6:n<=6) (hq:Eqv s m) (h:E3 L E (f+1) n m=some r) (hP:PI L s):PeC L E 123 [I64 n] s r:=by
 intro H cc t ht htc;refine AC.bodyT A9 rfl (Nat.le_of_ble_eq_true rfl) fun hfr=>?_;unfold E3 at h;have ne0:=A6c t cc (by omega);by_cases h5:5<n
 ·rw [if_pos h5] at h;have hd:(n == 6)=true:=by simp;omega
  repeat' ((with_reducible first|refine wr ?_|refine A2 ?_ ?_|fail)<;>try simp only [go_sem,seval,hd])
  refine AC.call (iu _ _ _ hq h hP _ _ t (by rw [A3 (by omega)];exact ht) (by omega)) ?_;rintro v H' c1 ⟨x,s1,rfl,rfl,hx⟩ hc1;simp only [go_sem,seval,ne0,A0,A1,Ex.v_w];repeat' ((with_reducible first|refine wr ?_|refine A2 ?_ ?_|fail)<;>try simp only [go_sem,seval,ne0,A0,A1])
  rw [D4 (rv5 rfl A0)];refine ⟨_,_,I7 (cc:=cc) (K:=H.upd t (paB L E s1)) (B7 hfr htc) (fun j hj=>?_),x,s1,rfl,rfl,hx⟩;simp [Hp.upd,show ¬j=cc by omega]
 rw [if_neg h5] at h;have hd:(n == 6)=false:=by simp;omega
 have hw:IntKind.i64.wrap (n+1)=n+1:=w6z (by omega);cases hb:E3 L E f (n+1) m with
 | none=>rw [hb] at h;cases h
 | some q =>
  obtain ⟨e,m1⟩:=q;rw [hb] at h;dsimp only at h;repeat' ((with_reducible first|refine wr ?_|refine A2 ?_ ?_|fail)<;>try simp only [go_sem,seval,hd,hw])
  refine AC.call (ib f (Nat.le_refl _) (n+1) _ _ _ (by omega) (by omega) hq hb hP _ _ t (by rw [A3 (by omega)];exact ht) (by omega)) ?_;rintro v H' c1 ⟨x,s1,rfl,rfl,hx⟩ hc1;have hx1:=hx.eq;have hx2:=hx.vl;have hx3:=hx.bd;have hx4:=hx.pr;dsimp only at hx1 hx2;have ne0:=R1 t cc c1 (by omega);simp only [go_sem,seval,ne0,A0,A1,Ex.v_w];repeat' ((with_reducible first|refine wr ?_|refine A2 ?_ ?_|fail)<;>try simp only [go_sem,seval,ne0,A0,A1])
  refine X4 (fun _:Nat × Ex × Rd × Ex × Rd=>[(0,.ptr t 0),(1,I64 n),(4,.ptr cc 0),(5,.ptr c1 0)]) (fun q=>((H.upd cc A4g).upd t (paB L E q.2.2.2.2)).upd c1 (exB q.2.2.2.1))
   (fun q c=>c1+1<=c/\q.1<=f/\J6 L E q.1 n q.2.1 q.2.2.1=some r/\Eqv q.2.2.2.2 q.2.2.1/\(okR q.2.2.1=true->q.2.2.2.1=q.2.1)/\PI L q.2.2.2.2/\q.2.2.2.2.par=s.par) (fun q=>q.1) (f,e,m1,x,s1) (fun b=>by simp [D5,tm,Tm.upd]) (by simp [D5,tm,Tm.upd]) (Sub.refl _) ⟨Nat.le_refl _,Nat.le_refl _,h,hx1,hx2,hx3,hx4⟩ ?_
  clear h hb hx hx1 hx2 hx3 hx4 s1 e m1 x;rintro ⟨g,e,m1,x,s1⟩ c ⟨hc,hg,hv,k1,k2,k3,k4⟩;dsimp only at hc hg hv k1 k2 k3 k4 ⊢;have hri:=k3.i;cases g with
  | zero=>simp [J6] at hv
  | succ g =>
  have hTt:∀ b:Blk,(((H.upd cc A4g).upd t (paB L E s1)).upd c1 b) t=some (paB L E s1):=fun b=>by rw [A3 (by omega),A0]
  repeat' ((with_reducible first|refine wr ?_|refine A2 ?_ ?_|fail)<;>try simp only [go_sem,seval])
  refine AC.call (c_pok L E s1 _ _ t (hTt _) (by omega)) ?_;rintro v H' c2 ⟨rfl,rfl⟩ hc2;cases ho:okR s1 with
  | false =>
   have hm:okR m1=false:=by rw [<- k1.ok,ho]
   obtain rfl:=(EN.all (g+1)).2.1 _ _ _ _ hv hm;simp only [go_sem,seval,ho];repeat' ((with_reducible first|refine wr ?_|refine A2 ?_ ?_|fail)<;>try simp only [go_sem,seval,ho,ne0,A0,A1])
   rw [D4 (rv5 rfl A0)];refine ⟨_,_,I7 (cc:=cc) (K:=H.upd t (paB L E s1)) (B7 hfr htc) (fun j hj=>?_),x,s1,rfl,rfl,k1,fun k=>(by simp [hm] at k),k3,k4⟩;simp [Hp.upd,show ¬j=cc by omega,show ¬j=c1 by omega]
  | true =>
  obtain rfl:s1=m1:=k1.s (by rw [<- k1.ok,ho]);obtain rfl:=k2 ho;unfold J6 at hv;dsimp only at hv;obtain ⟨hl1,hl2⟩:=lop_lk (E:=E) hK ho hn1 (by omega:n<=5);have hnn:0<=B4 L E s1 C0->s1.i<L.length:=fun h=>(O9 h).2.1;have hlk:=A6e C0 A3z rfl (A4 L E s1).text;simp only [go_sem,seval,ho];repeat' ((with_reducible first|refine wr ?_|refine A2 ?_ ?_|fail)<;>try simp only [go_sem,seval,ho,ne0,A0,A1])
  refine AC.call (c_here L E s1 _ _ t (hTt _) (by omega)) ?_;rintro v H' c3 ⟨rfl,rfl⟩ hc3;have ne0:=S3 t cc c1 c3 (c3+12) (by omega);by_cases hstop:B4 L E s1 C0<0\/C6 (12+B4 L E s1 C0)≠n
  ·rw [if_pos hstop] at hv;cases hv;have hs2:=hl1.1 hstop;by_cases hk5:(A4 L E s1).kind=5
   ·have e5:((A4 L E s1).kind != 5)=false:=by simpa using hk5
    have el:(C6 (lkI C0 A3z (A4 L E s1).text) != n)=true:=by
     rcases hs2 with h|h
     ·exact absurd hk5 h
     ·simpa using h
    simp only [go_sem,seval,ne0,A0,A1];repeat' ((with_reducible first|refine wr ?_|refine cpc c_ops ?_|refine cpc (c_levP _) ?_|refine A2 ?_ ?_|fail)<;>try simp only [go_sem,seval,e5,el,hlk,ne0,A0,A1])
    and_intros
    all_goals try ((repeat rw [A3 (by omega)]);exact hfr _ (by omega))
    repeat' ((with_reducible first|refine wr ?_|refine cpc c_ops ?_|refine cpc (c_levP _) ?_|refine A2 ?_ ?_|fail)<;>try simp only [go_sem,seval,e5,el,hlk,ne0,A0,A1])
    rw [D4 (rv5 rfl A0)];refine ⟨_,_,I7 (cc:=cc) (K:=H.upd t (paB L E s1)) (B7 hfr htc) (fun j hj=>?_),_,s1,rfl,rfl,.refl _,fun _=>rfl,k3,k4⟩;simp [Hp.upd,show ¬j=cc by omega,show ¬j=c1 by omega,show ¬j=c3 by omega]
   ·have e5:((A4 L E s1).kind != 5)=true:=by simpa using hk5
    simp only [go_sem,seval,ne0,A0,A1];repeat' ((with_reducible first|refine wr ?_|refine cpc c_ops ?_|refine cpc (c_levP _) ?_|refine A2 ?_ ?_|fail)<;>try simp only [go_sem,seval,e5,hlk,ne0,A0,A1])
    and_intros
    all_goals try ((repeat rw [A3 (by omega)]);exact hfr _ (by omega))
    repeat' ((with_reducible first|refine wr ?_|refine cpc c_ops ?_|refine cpc (c_levP _) ?_|refine A2 ?_ ?_|fail)<;>try simp only [go_sem,seval,e5,hlk,ne0,A0,A1])
    rw [D4 (rv5 rfl A0)];refine ⟨_,_,I7 (cc:=cc) (K:=H.upd t (paB L E s1)) (B7 hfr htc) (fun j hj=>?_),_,s1,rfl,rfl,.refl _,fun _=>rfl,k3,k4⟩;simp [Hp.upd,show ¬j=cc by omega,show ¬j=c1 by omega,show ¬j=c3 by omega]
  rw [if_neg hstop] at hv;have hk0:0<=B4 L E s1 C0:=by omega
  have hlt:=hnn hk0;obtain ⟨hl3,hk5,hl4⟩:=hl2 hk0;have e5:((A4 L E s1).kind != 5)=false:=by simpa using hk5
  have el:(C6 (lkI C0 A3z (A4 L E s1).text) != n)=false:=by
   rw [hl3];simp;omega
  have hP2:=k3.nxt hlt;have hwi:IntKind.i64.wrap ((s1.i:Int)+1)=((s1.i+1:Nat):Int):=by rw [w6z (by omega)];omega
  cases hb:E3 L E g (n+1) (B1 s1) with
  | none=>rw [hb] at hv;cases hv
  | some q =>
   obtain ⟨e2,m2⟩:=q;rw [hb] at hv;dsimp only at hv;rw [<- hl3] at hv;simp only [go_sem,seval,ne0,A0,A1];repeat' ((with_reducible first|refine wr ?_|refine cpc c_ops ?_|refine cpc (c_levP _) ?_|refine A2 ?_ ?_|fail)<;>try simp only [go_sem,seval,e5,el,hlk,hwi,hw,ne0,A0,A1])
   and_intros
   all_goals try ((repeat rw [A3 (by omega)]);exact hfr _ (by omega))
   repeat' ((with_reducible first|refine wr ?_|refine cpc c_ops ?_|refine cpc (c_levP _) ?_|refine A2 ?_ ?_|fail)<;>try simp only [go_sem,seval,e5,el,hlk,hwi,hw,ne0,A0,A1])
   refine AC.call (ib g (by omega) (n+1) (B1 s1) (B1 s1) _ (by omega) (by omega) (.refl _) hb hP2 _ _ t (by repeat (first|exact A0|rw [A3 (by omega)])) (by omega)) ?_;rintro v H' c4 ⟨y,s2,rfl,rfl,hy⟩ hc4;have y1:=hy.eq;have y2:=hy.vl;have y3:=hy.bd;have y4:=hy.pr;dsimp only at y1 y2;generalize lkI C0 A3z (A4 L E s1).text=kd at *;simp only [go_sem,seval,ne0,A0,A1,Ex.v_w];repeat' ((with_reducible first|refine wr ?_|refine A2 ?_ ?_|fail)<;>try simp only [go_sem,seval,ne0,A0,A1])
   and_intros
   all_goals try ((repeat rw [A3 (by omega)]);exact hfr _ (by omega))
   by_cases h3:n=3
   ·have hd3:(n == 3)=true:=by simpa using h3
    rw [if_pos h3] at hv;cases hv;repeat' ((with_reducible first|refine wr ?_|refine A2 ?_ ?_|fail)<;>try simp only [go_sem,seval,hd3,ne0,A0,A1])
    rw [D4 (rv5 rfl A0)];refine ⟨_,_,gl_fr (cc:=cc) (b:=c3+12) (K:=H.upd t (paB L E s2)) [x,y] (B7 hfr htc) (by omega) ?_ (fun j hj=>?_),.mk kd 0 [] [x,y] (A4 L E s1).pos,s2,rfl,rfl,y1,fun k=>(by rw [y2 k]),y3,y4.trans k4⟩
    ·rw [ex_c2];dsimp only
     repeat (first|exact A0|rw [A3 (by omega)])
    simp [Hp.upd,show ¬j=cc by omega,show ¬j=c1 by omega,show ¬j=c3 by omega,show ¬j=c3+12 by omega];try (split<;>rfl)
   ·have hd3:(n == 3)=false:=by simpa using h3
    rw [if_neg h3] at hv;repeat' ((with_reducible first|refine wr ?_|refine A2 ?_ ?_|fail)<;>try simp only [go_sem,seval,hd3,ne0,A0,A1])
    refine ⟨(g,.mk kd 0 [] [x,e2] (A4 L E s1).pos,m2,.mk kd 0 [] [x,y] (A4 L E s1).pos,s2),?_,inv ⟨by omega,by simp only;omega,hv,y1,fun k=>(by simp only [y2 k]),y3,y4.trans k4⟩,by simp only;omega⟩;refine GL.frzT (id:=c3+12) (b:=⟨5,true,A6 ([x,y].map Ex.v)⟩) ?_ rfl (fun j=>?_) (FzL.refl _)
    ·rw [ex_c2]
     repeat (first|exact A0|rw [A3 (by omega)])
    by_cases j1:j=c1
    ·subst j1;refine .inr ⟨by omega,.inr ⟨_,_,A0,A0,rfl,rfl,.cons _ _ _ _ (.same _) (.cons _ _ _ _ (.same _) (.cons _ _ _ _ (.same _) (.cons _ _ _ _ (I8 (u:=5) (xs:=[x,y].map Ex.v) (by simp) (A6l _) ⟨[],by simp⟩) (.cons _ _ _ _ (.same _) .nil)))),by simp [DV.one]⟩⟩
    ·by_cases j2:j=c3+12
     ·subst j2;left
      repeat rw [A3 (by omega)]
      exact hfr _ (by omega)
     ·by_cases j3:j=c3
      ·subst j3;left
       repeat rw [A3 (by omega)]
       exact hfr _ (by omega)
      refine .inr ⟨j2,.inl ?_⟩;simp [Hp.upd,j1,j2,j3];try (split<;>rfl)
theorem c_plu (L:List Tok) (E:Int) (hL:L.length<=1000000000) (hK:∀ t∈L,E7 t):∀ f:Nat,(∀ n s m r,1<=n->n<=6->Eqv s m->E3 L E f n m=some r->PI L s->PeC L E 123 [I64 n] s r)/\(∀ s m r,Eqv s m->K6 L E f m=some r->PI L s->PeC L E 166 [] s r):=by
 intro f
 induction f using Nat.strongRecOn with
 | _ f ih =>
  cases f with
  | zero=>exact ⟨fun n s m r _ _ _ h=>by simp [E3] at h,fun s m r _ h=>by simp [K6] at h⟩
  | succ f =>
   exact ⟨fun n s m r h1 h2 hq h hP=>c_plevel L E hL hK f (fun g hg=>(ih g (by omega)).1) (ih f (by omega)).2 n s m r h1 h2 hq h hP,
    fun s m r hq h hP=>c_punary L E hL hK f (ih f (by omega)).1 (ih f (by omega)).2 s m r hq h hP⟩
theorem c_pexpr (L:List Tok) (E:Int) (hL:L.length<=1000000000) (hK:∀ t∈L,E7 t) (f:Nat) (s m:Rd) (r:Ex × Rd) (hq:Eqv s m) (h:E6 L E f m=some r) (hi:s.i<=L.length) :
  ∀ (H:Hp) (cc t:Nat),H t=some (paB L E s)->t<cc->AC Tryz.prog 69 [.ptr t 0] H cc (fun v H' c' => ∃ x s',v=x.v/\H'=H.upd t (paB L E s')/\Eqv s' r.2/\(okR r.2=true->x=r.1)/\PI L s'):=by
 intro H cc t ht htc;refine AC.bodyT A9 rfl (Nat.le_of_ble_eq_true rfl) fun hfr=>?_;have ne0:=A6c t cc (by omega);repeat' ((with_reducible first|refine wr ?_|refine A2 ?_ ?_|fail)<;>try simp only [go_sem,seval,ht,ne0,A0,A1])
 refine AC.call ((c_plu L E hL hK f).1 1 { s with ops:=0,par:=0 } { m with ops:=0,par:=0 } r (by decide) (by decide) ⟨hq.e,hq.p,fun k=>by rw [hq.s k]⟩ h ⟨hi,Int.le_refl 0,(by decide:(0:Int)<=32),Int.le_refl 0,(by decide:(0:Int)<=16)⟩ _ _ t (by exact A0) (by omega)) ?_;rintro v H' c1 ⟨x,s1,rfl,rfl,hx⟩ hc1;simp only [go_sem,seval,ne0,A0,A1,Ex.v_w];repeat' ((with_reducible first|refine wr ?_|refine A2 ?_ ?_|fail)<;>try simp only [go_sem,seval,ne0,A0,A1])
 rw [D4 (rv5 rfl A0)];refine ⟨_,_,I7 (cc:=cc) (K:=H.upd t (paB L E s1)) (B7 hfr htc) (fun j hj=>?_),x,s1,rfl,rfl,hx.eq,hx.vl,hx.bd⟩;simp [Hp.upd,show ¬j=cc by omega];try (split<;>rfl)
theorem gl_frS {K H':Hp} {cc b:Nat} (l:List Pb.St) (hK:∀ i,cc<=i->K i=none) (hb0:cc<=b) (hb:H' b=some ⟨7,true,A6 (l.map Pb.St.v)⟩) (h:∀ j,j<cc->H' j=K j) :
  GL H' [.slc b 0 l.length] K [G6 l] :=
 GL.frzS (id:=b) hb rfl (fun j=>by
  by_cases hj:j<cc
  ·exact .inr ⟨by omega,(h j hj).symm⟩
  ·exact .inl (hK j (by omega))) (.cons _ _ _ _ (I8 (u:=7) (by simp) (st_unit l) ⟨[],by simp⟩) .nil)
theorem st_c1 (e:Pb.St):A6 ([e].map Pb.St.v)=[I64 e.kind,.str e.name,.str e.text,H7 e.args,G6 e.thn,G6 e.els,I64 e.pos]:=by
 rw [List.map_cons,Pb.St.v_w];rfl
theorem gl_todoS {K H':Hp} {cc:Nat} {o:Option Nat} (l:List Pb.St) (hK:∀ i,cc<=i->K i=none) (ho:∀ i,o=some i->cc<=i) (hno:o=none->l=[]) (hb:∀ i,o=some i->H' i=some ⟨7,true,A6 (l.map Pb.St.v)⟩) (h:∀ j,j<cc->H' j=K j) :
  GL H' [B6 o l.length] K [G6 l]:=by
 cases o with
 | none =>
  obtain rfl:=hno rfl;exact (I7 hK h).trans (GL.view fun ρ vs hA=>J1 (fun v h=>h.snil_lst) vs hA)
 | some b=>exact gl_frS l hK (ho b rfl) (hb b rfl) h
end Go.Proofs.YthlpinppaclofaaGreatDoor
set_option maxHeartbeats 8000000
namespace Go.Proofs.YthlpinppaclofaaGreatDoor
open Go.Eng (IC IOper DReg IFn G0)
open Go.Sym Go.Pb
def NlR (a b:DV):Prop:=b=a\/(a=.snil/\b=.lst [])
theorem NlR.v {ρ : Ren} {v:Value} {a b:DV} (h:NlR a b) (k:VRel ρ a v):VRel ρ b v:=by
 rcases h with rfl|⟨rfl,rfl⟩
 ·exact k
 ·exact k.snil_lst
theorem v_st {ρ : Ren} {v:Value} {a b c d e f g d' e' f':DV} (hd:NlR d d') (he:NlR e e') (hf:NlR f f') (h:VRel ρ (.agg [a,b,c,d,e,f,g]) v):VRel ρ (.agg [a,b,c,d',e',f',g]) v:=by
 obtain ⟨bb,rfl,k1,k2⟩:=h.agg_inv;refine .agg _ _ k1 fun j x y hx hy=>?_
 match j with
 | 0=>cases hx;exact k2 0 _ y rfl hy
 | 1=>cases hx;exact k2 1 _ y rfl hy
 | 2=>cases hx;exact k2 2 _ y rfl hy
 | 3=>cases hx;exact hd.v (k2 3 _ y rfl hy)
 | 4=>cases hx;exact he.v (k2 4 _ y rfl hy)
 | 5=>cases hx;exact hf.v (k2 5 _ y rfl hy)
 | 6=>cases hx;exact k2 6 _ y rfl hy
 | _+7=>cases hx
theorem gl_st {K H':Hp} {cc:Nat} {a b c d e f g d' e' f':DV} (hd:NlR d d') (he:NlR e e') (hf:NlR f f') (hK:∀ i,cc<=i->K i=none) (h:∀ j,j<cc->H' j=K j):GL H' [.agg [a,b,c,d,e,f,g]] K [.agg [a,b,c,d',e',f',g]] :=
 (I7 hK h).trans (GL.view fun ρ vs hA=>J1 (fun v h=>v_st hd he hf h) vs hA)
theorem W0 {K H':Hp} {cc i:Nat} {a b c e f g e' f':DV} (l:List Ex) (he:NlR e e') (hf:NlR f f') (hK:∀ i,cc<=i->K i=none) (hi0:cc<=i) (hb:H' i=some ⟨5,true,A6 (l.map Ex.v)⟩) (h:∀ j,j<cc->H' j=K j):GL H' [.agg [a,b,c,.slc i 0 l.length,e,f,g]] K [.agg [a,b,c,H7 l,e',f',g]] :=
 (GL.frzS (id:=i) hb rfl (fun j=>by
  by_cases hj:j<cc
  ·exact .inr ⟨by omega,(h j hj).symm⟩
  ·exact .inl (hK j (by omega))) (.cons _ _ _ _ (.agg _ _ (.cons _ _ _ _ (.same _) (.cons _ _ _ _ (.same _) (.cons _ _ _ _ (.same _) (.cons _ _ _ _ (I8 (u:=5) (by simp) (A6l l) ⟨[],by simp⟩) (.cons _ _ _ _ (.same _) (.cons _ _ _ _ (.same _) (.cons _ _ _ _ (.same _) .nil)))))))) .nil)).trans (GL.view fun ρ vs hA=>J1 (fun v h=>v_st (.inl rfl) he hf h) vs hA)
theorem rv7 {s:Sym.St} {x i u:Nat} {a b c d e f g:DV} {o:Bool} (h:s.T x=.ptr i 0) (hb:s.H i=some ⟨u,o,[a,b,c,d,e,f,g]⟩):V5 s [.cell x 7 true]=some (.agg [a,b,c,d,e,f,g]):=by
 simp only [V5,Z0,h,ldv,hb];rfl
theorem c_begins (L:List Tok) (E:Int) (s:Rd) (H:Hp) (cc t:Nat) (ht:H t=some (paB L E s)) (htc:t<cc):AC Tryz.prog 210 [.ptr t 0] H cc (fun v H' c'=>v=.bool (A3q L E s)/\H'=H):=by
 refine AC.bodyT A9 rfl (Nat.le_of_ble_eq_true rfl) fun hfr=>?_;repeat' ((with_reducible first|refine wr ?_|refine A2 ?_ ?_|fail)<;>try simp only [go_sem,seval])
 refine AC.call (c_here L E s _ _ t ht (by omega)) ?_;rintro v H' c1 ⟨rfl,rfl⟩ hc;have ne0:=A6c t c1 (by omega);have hlk:=A6e B3 Q9 rfl (A4 L E s).text;simp only [go_sem,seval,ne0,A0,A1];repeat' ((with_reducible first|refine wr ?_|refine A2 ?_ ?_|fail)<;>try simp only [go_sem,seval,ne0,A0,A1])
 refine AC.call (c_pok L E s _ _ t (by rw [A3 (by omega)];exact ht) (by omega)) ?_;rintro v H' c2 ⟨rfl,rfl⟩ hc2;unfold A3q;cases ho:okR s with
 | false =>
  simp only [go_sem,seval,ne0,A0,A1,ho];repeat' ((with_reducible first|refine wr ?_|refine A2 ?_ ?_|fail)<;>try simp only [go_sem,seval,ne0,A0,A1,ho])
  and_intros
  all_goals try ((repeat rw [A3 (by omega)]);exact hfr _ (by omega))
  repeat' ((with_reducible first|refine wr ?_|refine A2 ?_ ?_|fail)<;>try simp only [go_sem,seval,ne0,A0,A1,ho])
  exact ⟨_,_,Z2 (fun i hi=>hfr i (by omega)),by simp [*],rfl⟩
 | true =>
  by_cases h1:(A4 L E s).kind=1
  ·have e1:((A4 L E s).kind == 1)=true:=by simpa using h1
   simp only [go_sem,seval,ne0,A0,A1,ho,e1];repeat' ((with_reducible first|refine wr ?_|refine A2 ?_ ?_|fail)<;>try simp only [go_sem,seval,ne0,A0,A1,ho,e1])
   and_intros
   all_goals try ((repeat rw [A3 (by omega)]);exact hfr _ (by omega))
   repeat' ((with_reducible first|refine wr ?_|refine A2 ?_ ?_|fail)<;>try simp only [go_sem,seval,ne0,A0,A1,ho])
   exact ⟨_,_,Z2 (fun i hi=>hfr i (by omega)),by simp [*],rfl⟩
  have e1:((A4 L E s).kind == 1)=false:=by simpa using h1
  by_cases h2:(A4 L E s).kind=2
  ·have e2:((A4 L E s).kind == 2)=true:=by simpa using h2
   simp only [go_sem,seval,ne0,A0,A1,ho,e1,e2,hlk];repeat' ((with_reducible first|refine wr ?_|refine cpc c_stms ?_|refine A2 ?_ ?_|fail)<;>try simp only [go_sem,seval,ne0,A0,A1,ho,e1,e2,hlk])
   and_intros
   all_goals try ((repeat rw [A3 (by omega)]);exact hfr _ (by omega))
   repeat' ((with_reducible first|refine wr ?_|refine A2 ?_ ?_|fail)<;>try simp only [go_sem,seval,ne0,A0,A1,ho])
   exact ⟨_,_,Z2 (fun i hi=>hfr i (by omega)),by simp [*],rfl⟩
  have e2:((A4 L E s).kind == 2)=false:=by simpa using h2
  simp only [go_sem,seval,ne0,A0,A1,ho,e1,e2];repeat' ((with_reducible first|refine wr ?_|refine A2 ?_ ?_|fail)<;>try simp only [go_sem,seval,ne0,A0,A1,ho,e1,e2])
  and_intros
  all_goals try ((repeat rw [A3 (by omega)]);exact hfr _ (by omega))
  repeat' ((with_reducible first|refine wr ?_|refine A2 ?_ ?_|fail)<;>try simp only [go_sem,seval,ne0,A0,A1,ho])
  exact ⟨_,_,Z2 (fun i hi=>hfr i (by omega)),by simp [*],rfl⟩
end Go.Proofs.YthlpinppaclofaaGreatDoor
end
