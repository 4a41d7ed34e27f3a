/-
  HELPERS of the claim: part 4 of its texts.
-/
import Derived.ReadAgain
import Derived.ChangeBears
import Derived.Deep.Slices
import Derived.Below
import Derived.OpenShut
import Derived.Lib.ItoaNum
import Derived.Test.YtcallbfckjlagaaDoorProg
import Derived.KernelRfl
import Derived.Test.YtcallbfckjlagaaDoorJudc
noncomputable section
set_option linter.unusedVariables false
set_option linter.unusedSectionVars false
set_option linter.unusedSimpArgs false
namespace Go.Sym
variable [Go.Sym.Tab]
open Go.RowKit Go.Pb Go.Deep
section
variable {H:Type} {enc:TypeId × Value→H} {P:Program} {T:TypeId→Prop} {W W':World} {hT:TabOk W}
theorem arg_kept (K:Kids P T) (hz:∀ t e,T t→P.underlying t=some (.slice e)→0<P.cellsOf e) (hb:Below W.heap.size W W') {sp:Nat→Bool} :
  ∀ {ts:List TypeId} {vs:List Value} {ds:List (DataW H)} {ps:List MemPlace},(∀ t∈ts,T t)→DataW.TrodAll enc P W 0 (fun _=>true) true ts vs ds ps→(∀ p∈ps,sp p.block=true)→DataW.TrodAll enc P W' 0 sp true ts vs ds ps
 | [],[],[],_,_,h,_=>h
 | t :: ts,v :: vs,d :: ds,ps,hT,⟨p,q,h1,h2,e⟩,hs=>by
  have hlt:=h1
  refine ⟨p,q,?_,arg_kept K hz hb (fun t ht=>hT t (List.mem_cons.2 (Or.inr ht))) h2 (fun x hx=>hs x (by rw [e];exact List.mem_append_right _ hx)),e⟩
  have h3:=h1.respare K hz (hT _ (List.mem_cons.2 (Or.inl rfl))) (spare':=sp) (fun x hx=>hs x (by rw [e];exact List.mem_append_left _ hx))
  obtain ⟨n,hn⟩:=h3
  obtain ⟨m,hm⟩:=h1
  exact ⟨n,DataW.trod_carry n _ _ _ hn fun x hx=>hb.same (DataW.trod_lt m _ _ _ hm x hx)⟩
theorem u8_of {n:Int} (h:(Lit.int .u8 n).wf=true):n=((UInt8.ofNat n.toNat).toNat:Int):=by
 have:=bounds_u8 h
 simp
 omega
theorem open_bytes {t e:TypeId} {v:Value} {d:DataW H} {ps:List MemPlace} (ht:P.underlying t=some (.slice e)) (he:P.underlying e=some (.int .u8)) (hc:P.cellsOf e=1)
  (h:DataW.Trod enc P W 0 (fun _=>true) true t v d ps) (hv:v.cells = #[v]):∃ l:List UInt8,l.length≤9223372036854775807∧VRel (topR W hT) (.lst (bytesC l)) v:=by
 obtain ⟨n,hn⟩:=h
 rcases open_slice1 ht hc hn with ⟨h1, -⟩|⟨a,len,cap,m,n',V,D,Pl,h1,h2,h3,h4,h5,h6,h7⟩
 ·rw [hv] at h1
  have:v=.slice none 0 0:=by simpa using h1
  subst this
  exact ⟨[],by simp,.lnil0⟩
 ·rw [hv] at h1
  have hva:v=.slice (some a) len cap:=by simpa using h1
  subst hva
  simp only [if_true] at h5
  have hk:∀ i,i<len→∃ k:Int,V i=.int .u8 k∧(Lit.int .u8 k).wf=true:=by
   intro i hi
   obtain ⟨k,q1,q2,q3⟩:=DataW.trod_int he (h7 i (by omega)).2
   exact ⟨k,by simpa using q1,q3⟩
  by_cases hl0:len=0
  ·subst hl0
   exact ⟨[],by simp,.lnil a cap⟩
  have hcell:=(h7 0 (by omega)).1
  have hadd0:a.add 0=a:=by simp [Addr.add]
  rw [hadd0] at hcell
  obtain ⟨b,off,spot⟩:=a
  have hspot:spot=none:=by
   simp only [World.cell?] at hcell
   split at hcell
   ·split at hcell
    ·cases hcell
    ·rename_i h;cases spot with
     | none=>rfl
     | some s=>simp at h
   ·cases hcell
  subst hspot
  have hrow:∃ row ty fr,W.heap[b]? = some (.cells row ty fr):=by
   simp only [World.cell?] at hcell
   split at hcell
   ·rename_i row ty fr h;exact ⟨row,ty,fr,h⟩
   ·cases hcell
  obtain ⟨row,ty,fr,hb⟩:=hrow
  have hget:∀ i,i<len→row[off+i]? = some (V i):=by
   intro i hi
   have h8:=(h7 i (by omega)).1
   have e1:(⟨b,off,none⟩:Addr).add i=⟨b,off+i,none⟩:=by
    unfold Addr.add
    split
    ·rename_i h0;subst h0;rfl
    ·rfl
   rw [e1] at h8
   simp only [World.cell?,hb] at h8
   exact h8
  obtain ⟨F,hF⟩:∃ F:Nat→UInt8, ∀ i,i<len→V i=.int .u8 ((F i).toNat:Int):=by
   have:∀ i, ∃ f:UInt8,i<len→V i=.int .u8 (f.toNat:Int):=fun i=>by
    by_cases hi:i<len
    ·obtain ⟨k,q1,q2⟩:=hk i hi
     exact ⟨UInt8.ofNat k.toNat,fun _=>by rw [q1, ← u8_of q2]⟩
    ·exact ⟨0,fun h=>absurd h hi⟩
   exact ⟨fun i=>Classical.choose (this i),fun i hi=>Classical.choose_spec (this i) hi⟩
  refine ⟨(List.range len).map F,by simp only [List.length_map,List.length_range];simp only [maxLen] at h4;omega,?_⟩
  have hcl:cellsL (bytesC ((List.range len).map F))=bytesC ((List.range len).map F):=cellsL_map1 (fun _=>rfl) _
  have hlen:(bytesC ((List.range len).map F)).length=len:=by rw [bytesC_len];simp
  refine .lst _ _ 1 b off cap row (topR_cells hb) hlen.symm h3 h4 (fun x hx=>by obtain ⟨y, -,rfl⟩:=List.mem_map.1 hx;rfl) ?_ ?_ ?_
  ·rw [hcl,hlen]
   have:=(Array.getElem?_eq_some_iff.1 (hget (len-1) (by omega))).1
   omega
  ·rw [hcl];intro x hx;obtain ⟨y, -,rfl⟩:=List.mem_map.1 hx;rfl
  ·rw [hcl]
   intro k x y hx hy
   have hkl:k<len:=by have:=(List.getElem?_eq_some_iff.1 hx).1;omega
   rw [hget k hkl,hF k hkl] at hy
   cases hy
   have hx2:(bytesC ((List.range len).map F))[k]? = some (DV.int .u8 ((F k).toNat:Int)):=by simp [bytesC,hkl]
   rw [hx2] at hx
   cases hx
   exact .int _ _
end
end Go.Sym
namespace Go.Pb
variable [Go.Sym.Tab]
open Go.Sym
abbrev Sm (n:Int):Prop := -4611686018427387904≤n∧n≤4611686018427387903
structure Bnd (c:Prg):Prop where
 ins:∀ i∈c.instrs,Sm i.op∧Sm i.A
 ent:∀ e∈c.entries,Sm e.mode∧Sm e.trigger∧Sm e.index∧Sm e.pos
 pri:∀ n∈c.prios,Sm n
 var:∀ n∈c.vars,Sm n
 tim:Sm c.timers
 evt:Sm c.events
 str:∀ s∈c.strings,s.length≤32
theorem sm_in {n lo hi:Int} (h:inM n lo hi=true) (h1 : -4611686018427387904≤lo) (h2:hi≤4611686018427387903):Sm n:=by
 simp only [inM,Bool.and_eq_true,decide_eq_true_eq] at h
 exact ⟨by omega,by omega⟩
theorem op_bd {op:Int} (h:(effM op).2.2 ≠ -1):1≤op∧op≤31:=by
 by_cases h2:1≤op∧op≤31
 ·exact h2
 ·exfalso;apply h
  have h101:¬op=1:=by omega
  have h102:¬op=2:=by omega
  have h103:¬op=3:=by omega
  have h104:¬op=4:=by omega
  have h105:¬op=5:=by omega
  have h106:¬op=6:=by omega
  have h107:¬op=7:=by omega
  have h108:¬op=8:=by omega
  have h109:¬op=9:=by omega
  have h110:¬op=10:=by omega
  have h111:¬op=11:=by omega
  have h112:¬op=12:=by omega
  have h113:¬op=13:=by omega
  have h114:¬op=14:=by omega
  have h115:¬op=15:=by omega
  have h116:¬op=16:=by omega
  have h117:¬op=17:=by omega
  have h118:¬op=18:=by omega
  have h119:¬op=19:=by omega
  have h120:¬op=20:=by omega
  have h121:¬op=21:=by omega
  have h122:¬op=22:=by omega
  have h123:¬op=23:=by omega
  have h124:¬op=24:=by omega
  have h125:¬op=25:=by omega
  have h126:¬op=26:=by omega
  have h127:¬op=27:=by omega
  have h128:¬op=28:=by omega
  have h129:¬op=29:=by omega
  have h130:¬op=30:=by omega
  have h131:¬op=31:=by omega
  have e:effM op=(0,0, -1):=by
   unfold effM
   rw [if_neg h101,if_neg h102,if_neg h103,if_neg h104,if_neg h105,if_neg h106,if_neg h107,if_neg h108,if_neg h109,if_neg h110,if_neg h111,if_neg h112,if_neg h113,if_neg h114,if_neg h115,if_neg h116,if_neg h117,if_neg h118,if_neg h119,if_neg h120,if_neg h121,if_neg h122,if_neg h123,if_neg h124,if_neg h125,if_neg h126,if_neg h127,if_neg h128,if_neg h129,if_neg h130,if_neg h131]
  rw [e]
theorem Lim.dims {c:Prg} (h:limitsM c=true):c.instrs.length≤4000∧c.strings.length≤200∧c.entries.length≤512∧c.prios.length≤16∧c.vars.length≤128∧0≤c.timers∧c.timers≤128∧0≤c.events∧c.events≤128:=by
 simp only [limitsM,inM,Bool.and_eq_true,decide_eq_true_eq] at h
 omega
theorem kind_sm {c:Prg} (hL:limitsM c=true) {k a:Int} (hJ:k≠7) (h:kindM c k a=true):Sm a:=by
 obtain ⟨d1,d2,d3,d4,d5,d6,d7,d8,d9⟩:=Lim.dims hL
 by_cases e0:k=0
 ·subst e0
  have h':decide (a=0)=true:=h
  simp only [decide_eq_true_eq] at h';exact ⟨by omega,by omega⟩
 by_cases e1:k=1
 ·subst e1;exact sm_in (lo:=(-2147483647)) (hi:=2147483647) h (by omega) (by omega)
 by_cases e2:k=2
 ·subst e2;exact sm_in (lo:=0) (hi:=(c.vars.length-1)) h (by omega) (by omega)
 by_cases e3:k=3
 ·subst e3;exact sm_in (lo:=0) (hi:=63) h (by omega) (by omega)
 by_cases e9:k=9
 ·subst e9;exact sm_in (lo:=0) (hi:=63) h (by omega) (by omega)
 by_cases e4:k=4
 ·subst e4;exact sm_in (lo:=0) (hi:=(c.prios.length-1)) h (by omega) (by omega)
 by_cases e5:k=5
 ·subst e5;exact sm_in (lo:=0) (hi:=(c.timers-1)) h (by omega) (by omega)
 by_cases e6:k=6
 ·subst e6;exact sm_in (lo:=12) (hi:=24) h (by omega) (by omega)
 by_cases e8:k=8
 ·subst e8;exact sm_in (lo:=0) (hi:=31) h (by omega) (by omega)
 by_cases e10:k=10
 ·subst e10;exact sm_in (lo:=0) (hi:=(c.events-1)) h (by omega) (by omega)
 by_cases e11:k=11
 ·subst e11;exact sm_in (lo:=0) (hi:=(c.strings.length-1)) h (by omega) (by omega)
 have:kindM c k a=false:=by
  unfold kindM
  rw [if_neg e0,if_neg e1,if_neg e2,if_neg e3,if_neg e9,if_neg e4,if_neg e5,if_neg e6,if_neg hJ,if_neg e8,if_neg e10,if_neg e11]
 rw [this] at h;cases h
theorem Bnd.of {c:Prg} (hL:limitsM c=true) (hp:partsM c=true) (hj:jumpsM c=true):Bnd c:=by
 obtain ⟨d1,d2,d3,d4,d5,d6,d7,d8,d9⟩:=Lim.dims hL
 simp only [partsM,Bool.and_eq_true,List.all_eq_true] at hp
 obtain ⟨⟨⟨⟨p1,p2⟩,p3⟩,p4⟩,p5⟩:=hp
 refine ⟨fun i hi=>?_,fun e he=>?_,fun n hn=>sm_in (p2 n hn) (by omega) (by omega),fun n hn=>sm_in (p3 n hn) (by omega) (by omega),⟨by omega,by omega⟩,⟨by omega,by omega⟩,fun s hs=>?_⟩
 ·have h:=p5 i hi
  have h7:=jump_bd hj i hi
  have hk:(effM i.op).2.2 ≠ -1:=by
   intro e;rw [numberM,e] at h;simp [kindM] at h
  obtain ⟨o1,o2⟩:=op_bd hk
  refine ⟨⟨by omega,by omega⟩,?_⟩
  by_cases hJ:(effM i.op).2.2=7
  ·have hop:i.op=12∨i.op=13∨i.op=14:=by
    have:=isJ_kind i.op
    rw [hJ] at this
    simpa [isJ] using this
   have:=h7 hop
   exact ⟨by omega,by omega⟩
  ·exact kind_sm hL hJ h
 ·have h:=p4 e he
  have h7:=ent_bd hj e he
  simp only [entryM,Bool.and_eq_true] at h
  obtain ⟨h1,h2⟩:=h
  refine ⟨sm_in h1 (by omega) (by omega),?_,?_,⟨by omega,by omega⟩⟩
  ·repeat' split at h2
   all_goals first
    | cases h2;done
    | exact ⟨by omega,by omega⟩
  ·repeat' split at h2
   all_goals first
    | exact sm_in h2 (by omega) (by omega)
    | (simp only [decide_eq_true_eq] at h2;exact ⟨by omega,by omega⟩)
    | cases h2
 ·have h:=p1 s hs
  simp only [printM,Bool.and_eq_true,decide_eq_true_eq] at h
  exact h.2
theorem valid_all {c:Prg} (h0:validM c=0):limitsM c=true∧partsM c=true∧jumpsM c=true∧chainM c.entries=true∧∃ h,hR c=some h:=by
 unfold validM at h0
 split at h0
 ·exact absurd h0 (by decide)
 split at h0
 ·exact absurd h0 (by decide)
 split at h0
 ·exact absurd h0 (by decide)
 split at h0
 ·exact absurd h0 (by decide)
 split at h0
 ·exact absurd h0 (by decide)
 ·rename_i h1 h2 h3 h4 h5
  refine ⟨by simpa using h1,by simpa using h2,by simpa using h3,by simpa using h4,?_⟩
  cases hh:hR c with
  | none=>rw [hh] at h5;exact absurd rfl h5
  | some h=>exact ⟨h,rfl⟩
theorem Bnd.valid {c:Prg} (h0:validM c=0):Bnd c :=
 let ⟨a,b,d,_⟩:=valid_all h0
 Bnd.of a b d
theorem numI_len {n:Int} (h:Sm n):(numI n).length≤10:=numB_len 9 _ (by have:=zig_lt h.1 h.2;omega)
theorem numI_ne (n:Int):numI n≠[]:=by
 unfold numI
 by_cases h:zig n<128
 ·rw [numB_lt h];simp
 ·rw [numB_ge h];simp
def numsB (l:List Int):List UInt8:=numI l.length++l.flatMap numI
def insB (i:Ins):List UInt8:=numI i.op++numI i.A
def strB (s:List UInt8):List UInt8:=numI s.length++s
def entB (e:Ent):List UInt8:=numI e.mode++numI e.trigger++numI e.index++numI e.pos
def encM (c:Prg):List UInt8 :=
 numI c.instrs.length++c.instrs.flatMap insB++numI c.strings.length++c.strings.flatMap strB++numI c.entries.length++c.entries.flatMap entB++numsB c.prios++numsB c.vars++numI c.timers++numI c.events
theorem flat_len {α : Type} (f : α → List UInt8) (m:Nat):∀ (l:List α),(∀ x∈l,(f x).length≤m)→(l.flatMap f).length≤m * l.length
 | [],_=>by simp
 | x :: l,h=>by
  have h1:=h x List.mem_cons_self
  have h2:=flat_len f m l (fun y hy=>h y (List.mem_cons_of_mem _ hy))
  rw [List.flatMap_cons,List.length_append,List.length_cons,Nat.mul_succ]
  omega
theorem flat_take {α : Type} (f : α → List UInt8) (m:Nat) (l:List α) (h:∀ x∈l,(f x).length≤m) (k:Nat):((l.take k).flatMap f).length≤m * l.length:=by
 have h1:=flat_len f m (l.take k) (fun x hx=>h x (List.mem_of_mem_take hx))
 have h2:m * (l.take k).length≤m * l.length:=Nat.mul_le_mul_left _ (by simp;omega)
 omega
theorem flat_step {α : Type} (f : α → List UInt8) {l:List α} {k:Nat} {x : α} (h:l[k]? = some x):(l.take (k+1)).flatMap f=(l.take k).flatMap f++f x:=by
 rw [List.take_add_one,h,List.flatMap_append];simp
theorem sadd {s t:List UInt8} (h:s.length+t.length≤9223372036854775807):binR .add (.str s) (.str t)=some (.str (s++t)):=r_sadd (by simpa [maxLen] using h)
theorem numsB_len {l:List Int} (h:∀ n∈l,Sm n) (hl:l.length≤100000):(numsB l).length≤10+10 * l.length:=by
 have h1:=numI_len (n:=(l.length:Int)) ⟨by omega,by omega⟩
 have h2:=flat_len numI 10 l (fun x hx=>numI_len (h x hx))
 rw [numsB,List.length_append];omega
def encV (c:Prg):List UInt8:=if validM c=0 then encM c else []
def EH (c:Prg) (o:Option Nat) (bs:List UInt8):Hp :=
 optH ((Sym.nil.upd 0 ⟨0,true,c.cs⟩).upd 1 ⟨0,true,[todoV o bs.length]⟩) o ⟨1,true,bytesC bs⟩
theorem EH_0 {c:Prg} {o:Option Nat} {bs:List UInt8} {cc:Nat} (h:∀ i,o=some i→2≤i∧i<cc):EH c o bs 0=some ⟨0,true,c.cs⟩:=by
 cases o with
 | none=>rfl
 | some i=>have:=h i rfl;simp only [EH,optH];rw [h_ne (by omega)];rfl
theorem EH_n {c:Prg} {o:Option Nat} {bs:List UInt8} {x:Nat} (h0:2≤x) (h:o≠some x):EH c o bs x=none:=by
 cases o with
 | none=>simp only [EH,optH];rw [h_ne (by omega),h_ne (by omega)];rfl
 | some i =>
  have:¬x=i:=fun e=>h (by rw [e])
  simp only [EH,optH];rw [h_ne this,h_ne (by omega),h_ne (by omega)];rfl
theorem EH_one {c:Prg} {o:Option Nat} {bs:List UInt8}:∀ j bj,EH c o bs j=some bj→∀ d∈bj.cells,d.one=true:=by
 intro j bj h d hd
 have hB:∀ d∈bytesC bs,d.one=true:=fun d hd=>by obtain ⟨b, -,rfl⟩:=List.mem_map.1 hd;rfl
 have hT:(todoV o bs.length).one=true:=by cases o<;>rfl
 have hC:∀ d∈c.cs,d.one=true:=fun d hd=>by
  simp only [Prg.cs,List.mem_cons,List.not_mem_nil,or_false] at hd
  rcases hd with rfl|rfl|rfl|rfl|rfl|rfl|rfl<;>rfl
 have base:∀ bj,((Sym.nil.upd 0 ⟨0,true,c.cs⟩).upd 1 ⟨0,true,[todoV o bs.length]⟩) j=some bj→∀ d∈bj.cells,d.one=true:=by
  intro bj h d hd
  simp only [Hp.upd,Sym.nil] at h
  split at h
  ·cases h;simp only [List.mem_singleton] at hd;subst hd;exact hT
  ·split at h
   ·cases h;exact hC d hd
   ·cases h
 cases o with
 | none=>exact base bj h d hd
 | some i =>
  simp only [EH,optH] at h
  by_cases e:j=i
  ·subst e;rw [h_same] at h;cases h;exact hB d hd
  ·rw [h_ne e] at h;exact base bj h d hd
theorem g_put {c:Prg} {o:Option Nat} {bs:List UInt8} {H:Hp} {x:Nat} {l:List Int} (hS:Sub (EH c o bs) H) (hx:H x=some ⟨1,true,l.map I64⟩) (h0:2≤x) (ho:o≠some x) :
  GL H [.ptr 1 0,.slc x 0 l.length] (EH c o bs) [.ptr 1 0,ints l]:=by
 refine GL.frz hx rfl (FzH.less (fun j=>?_) EH_one) (.cons _ _ _ _ (.same _) (.cons _ _ _ _ (.slc 0 l.length 1 (l.map I64) (by simp) (ints_unit l) (by simp) (by rw [cells_ints,List.drop_zero,Nat.mul_one,List.take_of_length_le (by simp)])) .nil))
 cases hj:EH c o bs j with
 | none=>exact .inl rfl
 | some b =>
  refine .inr ⟨fun e=>?_,(hS j b hj).symm⟩
  subst e;rw [EH_n h0 ho] at hj;cases hj
end Go.Pb
namespace Go.Pb
variable [Go.Sym.Tab]
open Go.Sym
def digB (d:Nat):UInt8:=UInt8.ofNat (48+d)
def decB (n:Nat):List UInt8:=if n<10 then [digB n] else decB (n / 10)++[digB (n % 10)]
termination_by n
decreasing_by omega
theorem decB_lt {n:Nat} (h:n<10):decB n=[digB n]:=by rw [decB,if_pos h]
theorem decB_ge {n:Nat} (h:¬n<10):decB n=decB (n / 10)++[digB (n % 10)]:=by rw [decB,if_neg h]
theorem decB_len:∀ (k n:Nat),n<10 ^ (k+1)→(decB n).length≤k+1
 | 0,n,h=>by rw [decB_lt (by omega)];simp
 | k+1,n,h=>by
  by_cases h0:n<10
  ·rw [decB_lt h0];simp
  ·rw [decB_ge h0,List.length_append]
   have:=decB_len k (n / 10) (by rw [Nat.pow_succ] at h;omega)
   simp only [List.length_singleton];omega
def decI (n:Int):List UInt8:=if n<0 then 45 :: decB n.natAbs else decB n.natAbs
theorem decI_len {n:Int} (h1 : -9223372036854775808≤n) (h2:n≤9223372036854775807):(decI n).length≤21:=by
 have:=decB_len 19 n.natAbs (by omega)
 unfold decI;split
 ·rw [List.length_cons];omega
 ·omega
theorem dig_u8 {d:Nat} (h:d<10):IntKind.u8.wrap (IntKind.i64.wrap (48+(d:Int)))=((digB d).toNat:Int):=by
 rw [w64 (by omega) (by omega),wu8 (by omega) (by omega),digB]
 simp
 omega
def lo10 (n:Int):Nat:=n.natAbs % 10
def hi10 (n:Int):Nat:=n.natAbs / 10
theorem lo10_lt (n:Int):lo10 n<10:=by unfold lo10;omega
theorem hi10_le {n:Int} (h:n≠0):hi10 n<n.natAbs:=by unfold hi10;omega
theorem neg_div {n:Int} (h:n<0):n.tdiv 10 = -((hi10 n:Nat):Int):=by
 unfold hi10
 obtain ⟨k,rfl⟩:∃ k:Nat,n = -(k:Int):=⟨n.natAbs,by omega⟩
 rw [Int.neg_tdiv];simp [Int.tdiv]
theorem neg_mod {n:Int} (h:n<0):n.tmod 10 = -((lo10 n:Nat):Int):=by
 unfold lo10
 obtain ⟨k,rfl⟩:∃ k:Nat,n = -(k:Int):=⟨n.natAbs,by omega⟩
 rw [Int.neg_tmod];simp [Int.tmod]
theorem pos_div {n:Int} (h:0≤n):n.tdiv 10=((hi10 n:Nat):Int):=by
 unfold hi10
 obtain ⟨k,rfl⟩:∃ k:Nat,n=(k:Int):=⟨n.natAbs,by omega⟩
 simp [Int.tdiv]
theorem pos_mod {n:Int} (h:0≤n):n.tmod 10=((lo10 n:Nat):Int):=by
 unfold lo10
 obtain ⟨k,rfl⟩:∃ k:Nat,n=(k:Int):=⟨n.natAbs,by omega⟩
 simp [Int.tmod]
theorem decI_neg0 {n:Int} (h:n<0) (h1:hi10 n=0):decI n=[45]++[digB (lo10 n)]:=by
 unfold hi10 at h1
 have h2:n.natAbs<10:=by omega
 have h3:lo10 n=n.natAbs:=by unfold lo10;omega
 rw [decI,if_pos h,decB_lt h2,h3];rfl
theorem decI_neg {n:Int} (h:n<0) (h1:hi10 n≠0):decI n=decI (-(hi10 n:Int))++[digB (lo10 n)]:=by
 have h2:¬n.natAbs<10:=by unfold hi10 at h1;omega
 rw [decI,if_pos h,decB_ge h2,decI,if_pos (by omega),Int.natAbs_neg,Int.natAbs_natCast];rfl
theorem decI_lt {n:Int} (h:0≤n) (h1:n<10):decI n=[digB (lo10 n)]:=by
 have h3:lo10 n=n.natAbs:=by unfold lo10;omega
 rw [decI,if_neg (by omega),decB_lt (by omega),h3]
theorem decI_ge {n:Int} (h:¬n<10):decI n=decI (hi10 n:Int)++[digB (lo10 n)]:=by
 rw [decI,if_neg (by omega),decB_ge (by omega),decI,if_neg (by omega),Int.natAbs_natCast];rfl
def lineB (k:Nat) (i:Ins):List UInt8:=decI k++[32]++decI i.op++[32]++decI i.A++[10]
def lstF:List Ins→Nat→List UInt8
 | [],_=>[]
 | i :: r,k=>lineB k i++lstF r (k+1)
theorem lstF_app:∀ (a b:List Ins) (n:Nat),lstF (a++b) n=lstF a n++lstF b (n+a.length)
 | [],b,n=>by simp [lstF]
 | i :: a,b,n=>by
  simp only [List.cons_append,lstF,List.length_cons]
  rw [lstF_app a b (n+1),List.append_assoc]
  congr 3;omega
theorem lstF_step {l:List Ins} {k:Nat} {i:Ins} (h:l[k]? = some i):lstF (l.take (k+1)) 0=lstF (l.take k) 0++lineB k i:=by
 have hk:k<l.length:=(List.getElem?_eq_some_iff.1 h).1
 rw [List.take_add_one,h,lstF_app]
 have:(l.take k).length=k:=by simp;omega
 simp [lstF,this]
abbrev I6 (n:Int):Prop := -9223372036854775808≤n∧n≤9223372036854775807
theorem lineB_len {k:Nat} {i:Ins} (hk:k≤1000000) (h1:I6 i.op) (h2:I6 i.A):(lineB k i).length≤66:=by
 have a:=decI_len (n:=(k:Int)) (by omega) (by omega)
 have b:=decI_len h1.1 h1.2
 have d:=decI_len h2.1 h2.2
 simp only [lineB,List.length_append,List.length_singleton];omega
theorem lstF_len:∀ (l:List Ins) (k:Nat),k+l.length≤1000000→(∀ i∈l,I6 i.op∧I6 i.A)→(lstF l k).length≤66 * l.length
 | [],_,_,_=>by simp [lstF]
 | i :: r,k,h,hb=>by
  simp only [List.length_cons] at h
  have h1:=lstF_len r (k+1) (by omega) (fun x hx=>hb x (List.mem_cons_of_mem _ hx))
  have h2:=lineB_len (k:=k) (by omega) (hb i List.mem_cons_self).1 (hb i List.mem_cons_self).2
  simp only [lstF,List.length_append,List.length_cons];omega
end Go.Pb
namespace Go.Sym
variable [Go.Sym.Tab]
open Go.RowKit Go.Pb Go.Deep
theorem mem_cellsL:∀ {xs:List DV} {d:DV},d∈cellsL xs→∃ y∈xs,d∈y.cells
 | [],d,h=>by cases h
 | x :: r,d,h=>by
  rcases List.mem_append.1 h with h|h
  ·exact ⟨x,List.mem_cons_self,h⟩
  ·obtain ⟨y,h1,h2⟩:=mem_cellsL h
   exact ⟨y,List.mem_cons_of_mem _ h1,h2⟩
theorem bounds_i64 {n:Int} (h:(Lit.int .i64 n).wf=true):I6 n:=by
 simp [Lit.wf,IntKind.min,IntKind.max,IntKind.signed,IntKind.bits] at h
 exact ⟨by omega,by omega⟩
section
variable {H:Type} {enc:TypeId × Value→H} {P:Program} {W W':World} {hT:TabOk W}
theorem trod_list {α : Type} {t e:TypeId} {v:Value} {n:Nat} {x:DataW H × List MemPlace} {u:Nat} (F : α → DV) (R : α → Prop) (hu0:0<u) (ht:P.underlying t=some (.slice e)) (hc:P.cellsOf e=u)
  (hF:∀ a,(F a).cells.length=u) (h1:∀ a, ∀ d∈(F a).cells,d.one=true)
  (elem:∀ (n:Nat) (cs:List Value) (x:DataW H × List MemPlace),DataW.trod enc P W 0 (fun _=>true) true n e cs=some x→∃ a : α,R a∧∀ (j:Nat) d,(F a).cells[j]? = some d→∃ v,cs[j]? = some v∧VRel (topR W hT) d v)
  (hn:DataW.trod enc P W 0 (fun _=>true) true n t [v]=some x):∃ l:List α,l.length≤9223372036854775807∧(∀ a∈l,R a)∧VRel (topR W hT) (.lst (l.map F)) v:=by
 rcases open_slice ht hn with ⟨h1', -⟩|⟨a,len,cap,m,n',D,Pl,g1,g2,g3,g4,g5,g6,g7⟩
 ·have:v=.slice none 0 0:=by simpa using h1'
  subst this
  exact ⟨[],by simp,by simp,.lnil0⟩
 have hva:v=.slice (some a) len cap:=by simpa using g1
 subst hva
 simp only [if_true] at g5
 by_cases hl0:len=0
 ·subst hl0
  exact ⟨[],by simp,by simp,.lnil a cap⟩
 rw [hc] at g7
 have E:∀ i,i<len→∃ (cs:List Value) (y : α),R y∧cs.length=u∧(∀ j,j<u→W.cell? ((a.add (i * u)).add j)=cs[j]?)∧∀ (j:Nat) d,(F y).cells[j]? = some d→∃ v,cs[j]? = some v∧VRel (topR W hT) d v:=by
  intro i hi
  obtain ⟨cs,q1,q2⟩:=g7 i (by omega)
  obtain ⟨-,q3,q4⟩:=World.cells?_some q1
  obtain ⟨y,q5,q6⟩:=elem n' cs _ q2
  exact ⟨cs,y,q5,q3,q4,q6⟩
 obtain ⟨cs0,y0, -,z1,z2, -⟩:=E 0 (by omega)
 obtain ⟨v0,hv0⟩:∃ v0,cs0[0]? = some v0:=⟨_,List.getElem?_eq_getElem (by omega)⟩
 have hcell:=z2 0 hu0
 rw [hv0,Nat.zero_mul] at hcell
 have hadd0:∀ b:Addr,b.add 0=b:=fun b=>by simp [Addr.add]
 rw [hadd0,hadd0] at hcell
 obtain ⟨b,off,spot⟩:=a
 have hspot:spot=none:=by
  simp only [World.cell?] at hcell
  split at hcell
  ·split at hcell
   ·cases hcell
   ·rename_i h;cases spot with
    | none=>rfl
    | some s=>simp at h
  ·cases hcell
 subst hspot
 have hrow:∃ row ty fr,W.heap[b]? = some (.cells row ty fr):=by
  simp only [World.cell?] at hcell
  split at hcell
  ·rename_i row ty fr h;exact ⟨row,ty,fr,h⟩
  ·cases hcell
 obtain ⟨row,ty,fr,hb⟩:=hrow
 have hadd:∀ o i,(⟨b,o,none⟩:Addr).add i=⟨b,o+i,none⟩:=by
  intro o i
  unfold Addr.add
  split
  ·rename_i h0;subst h0;rfl
  ·rfl
 have E2:∀ i, ∃ y : α,i<len→R y∧∀ (j:Nat) d,(F y).cells[j]? = some d→∃ v,row[off+i * u+j]? = some v∧VRel (topR W hT) d v:=by
  intro i
  by_cases hi:i<len
  ·obtain ⟨cs,y,q1,q2,q3,q4⟩:=E i hi
   refine ⟨y,fun _=>⟨q1,fun j d hd=>?_⟩⟩
   have hj:j<u:=by have:=(List.getElem?_eq_some_iff.1 hd).1;rw [hF] at this;exact this
   obtain ⟨v,e1,e2⟩:=q4 j d hd
   have e3:=q3 j hj
   rw [hadd,hadd,e1] at e3
   simp only [World.cell?,hb] at e3
   exact ⟨v,e3,e2⟩
  ·exact ⟨y0,fun h=>absurd h hi⟩
 obtain ⟨G,hG⟩:∃ G:Nat → α, ∀ i,i<len→R (G i)∧∀ (j:Nat) d,(F (G i)).cells[j]? = some d→∃ v,row[off+i * u+j]? = some v∧VRel (topR W hT) d v :=
  ⟨fun i=>Classical.choose (E2 i),fun i hi=>Classical.choose_spec (E2 i) hi⟩
 have hU:∀ y∈((List.range len).map G).map F,y.cells.length=u:=fun y hy=>by obtain ⟨z, -,rfl⟩:=List.mem_map.1 hy;exact hF z
 have hlen:(((List.range len).map G).map F).length=len:=by simp
 have hcl:(cellsL (((List.range len).map G).map F)).length=len * u:=by rw [cellsL_length hU,hlen]
 have hget:∀ i j,i<len→j<u→(cellsL (((List.range len).map G).map F))[i * u+j]? = (F (G i)).cells[j]? := by
  intro i j hi hj
  have e1:(((List.range len).map G).map F)[i]? = some (F (G i)):=by simp [hi]
  have e2:=cellsL_elem hU e1
  rw [← e2,List.getElem?_take,if_pos hj,List.getElem?_drop]
 refine ⟨(List.range len).map G,by simp only [List.length_map,List.length_range];simp only [maxLen] at g4;omega,fun y hy=>?_,?_⟩
 ·obtain ⟨i,hi,rfl⟩:=List.mem_map.1 hy
  exact (hG i (List.mem_range.1 hi)).1
 ·refine .lst _ len u b off cap row (topR_cells hb) hlen.symm g3 g4 hU ?_ ?_ ?_
  ·rw [hcl]
   obtain ⟨k,rfl⟩:∃ k,len=k+1:=⟨len-1,by omega⟩
   obtain ⟨d,hd⟩:∃ d,(F (G k)).cells[u-1]? = some d:=⟨_,List.getElem?_eq_getElem (by rw [hF];omega)⟩
   obtain ⟨v,e1, -⟩:=(hG k (by omega)).2 _ _ hd
   have:=(Array.getElem?_eq_some_iff.1 e1).1
   rw [Nat.succ_mul]
   omega
  ·intro d hd
   obtain ⟨y,hy,hd2⟩:=mem_cellsL hd
   obtain ⟨z, -,rfl⟩:=List.mem_map.1 hy
   exact h1 z d hd2
  ·intro k d v hd hv
   have hk:k<len * u:=by have:=(List.getElem?_eq_some_iff.1 hd).1;rw [hcl] at this;exact this
   have hi:k / u<len:=Nat.div_lt_of_lt_mul (by rw [Nat.mul_comm];exact hk)
   have hj:=Nat.mod_lt k hu0
   have hkk:k / u * u+k % u=k:=by rw [Nat.mul_comm];exact Nat.div_add_mod k u
   have e1:=hget (k / u) (k % u) hi hj
   rw [hkk,hd] at e1
   obtain ⟨v2,e2,e3⟩:=(hG (k / u) hi).2 _ _ e1.symm
   rw [Nat.add_assoc,hkk,hv] at e2
   cases e2
   exact e3
theorem trod_nums {e i:TypeId} {fs:Array Field} {k:Nat} (he:P.underlying e=some (.struct fs)) (hk:fs.size=k) (hi:P.underlying i=some (.int .i64)) (hci:P.cellsOf i=1)
  (hf:∀ (j:Nat) f,fs[j]? = some f→f.offset=j∧f.type=i) (hc:P.cellsOf e=k) {n:Nat} {cs:List Value} {x:DataW H × List MemPlace} (h:DataW.trod enc P W 0 (fun _=>true) true n e cs=some x) :
  ∃ L:List Int,L.length=k∧(∀ m∈L,I6 m)∧cs=L.map (Value.int .i64):=by
 obtain ⟨xs,m, -, -,hl,h3,h4⟩:=DataW.trod_struct he h
 rw [hc] at hl
 have E:∀ j, ∃ m:Int,j<k→cs[j]? = some (.int .i64 m)∧I6 m:=by
  intro j
  by_cases hj:j<k
  ·obtain ⟨f,hfj⟩:∃ f,fs[j]? = some f:=⟨_,Array.getElem?_eq_getElem (by omega)⟩
   obtain ⟨e1,e2⟩:=hf j f hfj
   have e3:=h4 j f hfj
   rw [e1,e2,hci,List.getElem?_eq_getElem (by omega)] at e3
   obtain ⟨m,q1,q2,q3⟩:=DataW.trod_int hi e3
   refine ⟨m,fun _=>⟨?_,bounds_i64 q3⟩⟩
   have q4:((cs.drop j).take 1)[0]? = some (Value.int .i64 m):=by rw [q1];rfl
   rw [List.getElem?_take,if_pos (by omega),List.getElem?_drop] at q4
   exact q4
  ·exact ⟨0,fun h=>absurd h hj⟩
 refine ⟨(List.range k).map fun j=>Classical.choose (E j),by simp,fun m hm=>?_,?_⟩
 ·obtain ⟨j,hj,rfl⟩:=List.mem_map.1 hm
  exact (Classical.choose_spec (E j) (List.mem_range.1 hj)).2
 ·apply List.ext_getElem?
  intro j
  by_cases hj:j<k
  ·rw [(Classical.choose_spec (E j) hj).1]
   simp [hj]
  ·rw [List.getElem?_eq_none (by omega),List.getElem?_eq_none (by simp;omega)]
theorem open_code {t sI sS sE sN tI tS tE i:TypeId} {f0 f1 f2 f3 f4 f5 f6:Field} {fI fE:Array Field} {v:Value} {d:DataW H} {ps:List MemPlace} (ht:P.underlying t=some (.struct #[f0,f1,f2,f3,f4,f5,f6]))
  (h:DataW.Trod enc P W 0 (fun _=>true) true t v d ps) (hv:∃ cs:Array Value,v=.agg cs∧cs.size=7)
  (hf:[f0.offset,f1.offset,f2.offset,f3.offset,f4.offset,f5.offset,f6.offset]=[0,1,2,3,4,5,6]) (hy:[f0.type,f1.type,f2.type,f3.type,f4.type,f5.type,f6.type]=[sI,sS,sE,sN,sN,i,i])
  (hsI:P.underlying sI=some (.slice tI)) (hsS:P.underlying sS=some (.slice tS)) (hsE:P.underlying sE=some (.slice tE)) (hsN:P.underlying sN=some (.slice i))
  (hI:P.underlying tI=some (.struct fI)) (hS:P.underlying tS=some .string) (hE:P.underlying tE=some (.struct fE)) (hi:P.underlying i=some (.int .i64))
  (kI:fI.size=2) (kE:fE.size=4) (gI:∀ (j:Nat) f,fI[j]? = some f→f.offset=j∧f.type=i) (gE:∀ (j:Nat) f,fE[j]? = some f→f.offset=j∧f.type=i)
  (hc:[P.cellsOf sI,P.cellsOf sS,P.cellsOf sE,P.cellsOf sN,P.cellsOf i,P.cellsOf tI,P.cellsOf tS,P.cellsOf tE]=[1,1,1,1,1,2,1,4]) :
  ∃ c:Prg,(∀ i∈c.instrs,I6 i.op∧I6 i.A)∧VRel (topR W hT) c.v v:=by
 obtain ⟨cs,rfl,hsz⟩:=hv
 obtain ⟨n,hn⟩:=h
 simp only [List.cons.injEq,and_true] at hf hy hc
 obtain ⟨a0,a1,a2,a3,a4,a5,a6⟩:=hf
 obtain ⟨b0,b1,b2,b3,b4,b5,b6⟩:=hy
 obtain ⟨c0,c1,c2,c3,c4,c5,c6,c7⟩:=hc
 obtain ⟨xs,m, -, -, -,h3,h4⟩:=DataW.trod_struct ht hn
 obtain ⟨x0,x1,x2,x3,x4,x5,x6,hcs⟩:∃ x0 x1 x2 x3 x4 x5 x6,cs.toList=[x0,x1,x2,x3,x4,x5,x6]:=by
  have:cs.toList.length=7:=by simpa using hsz
  match hl:cs.toList,this with
  | [x0,x1,x2,x3,x4,x5,x6],_=>exact ⟨x0,x1,x2,x3,x4,x5,x6,rfl⟩
 have hcell:(Value.agg cs).cells.toList=[x0,x1,x2,x3,x4,x5,x6]:=by simpa [Value.cells] using hcs
 match xs,h3 with
 | [y0,y1,y2,y3,y4,y5,y6],_ =>
 have g0:=h4 0 f0 rfl
 have g1:=h4 1 f1 rfl
 have g2:=h4 2 f2 rfl
 have g3:=h4 3 f3 rfl
 have g4:=h4 4 f4 rfl
 have g5:=h4 5 f5 rfl
 have g6:=h4 6 f6 rfl
 rw [hcell,a0,b0,c0] at g0
 rw [hcell,a1,b1,c1] at g1
 rw [hcell,a2,b2,c2] at g2
 rw [hcell,a3,b3,c3] at g3
 rw [hcell,a4,b4,c3] at g4
 rw [hcell,a5,b5,c4] at g5
 rw [hcell,a6,b6,c4] at g6
 have num:∀ (n:Nat) (cs:List Value) (x:DataW H × List MemPlace),DataW.trod enc P W 0 (fun _=>true) true n i cs=some x→∃ a:Int,True∧∀ (j:Nat) d,(I64 a).cells[j]? = some d→∃ v,cs[j]? = some v∧VRel (topR W hT) d v:=by
  intro n cs x h
  obtain ⟨k,rfl, -, -⟩:=DataW.trod_int hi h
  exact ⟨k,trivial,fun j d hd=>by
   match j with
   | 0=>cases hd;exact ⟨_,rfl,.int _ _⟩
   | _+1=>cases hd⟩
 obtain ⟨l0, -,r0,w0⟩:=trod_list (hT:=hT) (v:=x0) (x:=y0) Ins.v (fun i=>I6 i.op∧I6 i.A) (by omega) hsI c5 (fun _=>rfl) (fun a d hd=>by simp [DV.cells] at hd;rcases hd with rfl|rfl<;>rfl) (fun n cs x h=>by
  obtain ⟨L,e1,e2,rfl⟩:=trod_nums hI kI hi c4 gI c5 h
  match L,e1 with
  | [o,A],_ =>
  refine ⟨⟨o,A⟩,⟨e2 o (by simp),e2 A (by simp)⟩,fun j d hd=>?_⟩
  match j with
  | 0=>cases hd;exact ⟨_,rfl,.int _ _⟩
  | 1=>cases hd;exact ⟨_,rfl,.int _ _⟩
  | _+2=>cases hd) g0
 obtain ⟨l1, -, -,w1⟩:=trod_list (hT:=hT) (v:=x1) (x:=y1) DV.str (fun _=>True) (by omega) hsS c6 (fun _=>rfl) (fun a d hd=>by simp [DV.cells] at hd;subst hd;rfl) (fun n cs x h=>by
  obtain ⟨s,q1,q2,q3⟩:=DataW.trod_string hS h
  subst q1
  refine ⟨s.data.toList,trivial,fun j d hd=>?_⟩
  match j with
  | 0=>cases hd;exact ⟨_,rfl,.str s⟩
  | _+1=>cases hd) g1
 obtain ⟨l2, -, -,w2⟩:=trod_list (hT:=hT) (v:=x2) (x:=y2) Ent.v (fun _=>True) (by omega) hsE c7 (fun _=>rfl) (fun a d hd=>by simp [DV.cells] at hd;rcases hd with rfl|rfl|rfl|rfl<;>rfl) (fun n cs x h=>by
  obtain ⟨L,e1,e2,rfl⟩:=trod_nums hE kE hi c4 gE c7 h
  match L,e1 with
  | [m1,m2,m3,m4],_ =>
  refine ⟨⟨m1,m2,m3,m4⟩,trivial,fun j d hd=>?_⟩
  match j with
  | 0=>cases hd;exact ⟨_,rfl,.int _ _⟩
  | 1=>cases hd;exact ⟨_,rfl,.int _ _⟩
  | 2=>cases hd;exact ⟨_,rfl,.int _ _⟩
  | 3=>cases hd;exact ⟨_,rfl,.int _ _⟩
  | _+4=>cases hd) g2
 obtain ⟨l3, -, -,w3⟩:=trod_list (hT:=hT) (v:=x3) (x:=y3) I64 (fun _=>True) (by omega) hsN c4 (fun _=>rfl) (fun a d hd=>by simp [DV.cells] at hd;subst hd;rfl) num g3
 obtain ⟨l4, -, -,w4⟩:=trod_list (hT:=hT) (v:=x4) (x:=y4) I64 (fun _=>True) (by omega) hsN c4 (fun _=>rfl) (fun a d hd=>by simp [DV.cells] at hd;subst hd;rfl) num g4
 obtain ⟨k5,e5, -, -⟩:=DataW.trod_int hi (cs:=[x5]) (x:=y5) g5
 obtain ⟨k6,e6, -, -⟩:=DataW.trod_int hi (cs:=[x6]) (x:=y6) g6
 simp only [List.cons.injEq,and_true] at e5 e6
 subst e5 e6
 have ha:cs = #[x0,x1,x2,x3,x4,.int .i64 k5,.int .i64 k6]:=by rw [← Array.toList_inj];exact hcs
 subst ha
 refine ⟨⟨l0,l1,l2,l3,l4,k5,k6⟩,r0,.agg _ _ rfl (fun i x y hx hy=>?_)⟩
 rcases i with _|_|_|_|_|_|_|i
 ·cases hx;cases hy;exact w0
 ·cases hx;cases hy;exact w1
 ·cases hx;cases hy;exact w2
 ·cases hx;cases hy;exact w3
 ·cases hx;cases hy;exact w4
 ·cases hx;cases hy;exact .int _ _
 ·cases hx;cases hy;exact .int _ _
 ·cases hx
end
end Go.Sym
namespace Go.Proofs.YtcallbfckjlagaaDoor
instance tabI:Go.Sym.Tab:=⟨[(0,(Lib.pow10Tab.map fun z=>Value.int .u64 z).toArray)]⟩
end Go.Proofs.YtcallbfckjlagaaDoor
set_option maxHeartbeats 4000000
set_option maxRecDepth 100000
namespace Go.Proofs.YtcallbfckjlagaaDoor
open Go.Eng (IC IOper DReg IFn IsFn)
open Go.Sym
section
abbrev u67_2:IC:=qS [oM 7 0,oM 8 1,oB 9 7 8 .geq,oM 10 9,gM 11 0 10,gM 12 2 10,oG 13 (.bin .leq (.t 11) (.t 12)) 10,oJ 14 10 13,oM 6 14] .ret [0,1,2]
abbrev u67_1:IC:=qS [oV 6 (.bool false)] u67_2 [0,1,2]
def u67:IFn:=⟨15,u67_1,[.tmp 6]⟩
end
theorem isU67:IsFn Tryd.prog 67 u67:=by unfold IsFn;kernel_rfl
section
abbrev u53_2:IC:=qS [oF 3 1 0,oL 4 3,oH 5 4,oK 6 5 .leq 4000,oM 7 6,gF 8 1 1 7,gL 9 8 7,oG 10 (.len (.t 9)) 7,gK 11 10 7 .leq 200,oJ 12 7 11,oM 13 12,gF 14 1 2 13,gL 15 14 13,oG 16 (.len (.t 15)) 13,gK 17 16 13 .leq 512,oJ 18 13 17,oM 19 18,gF 20 1 3 19,gL 21 20 19,oG 22 (.len (.t 21)) 19,gK 23 22 19 .leq 16,oJ 24 19 23,oM 25 24,gF 26 1 4 25,gL 27 26 25,oG 28 (.len (.t 27)) 25,gK 29 28 25 .leq 128,oJ 30 25 29,oM 31 30,gF 32 1 5 31,gL 33 32 31,⟨some 34,.call 67 [.t 33,.k (.int .i64 0),.k (.int .i64 128)],some (31,true)⟩,oJ 35 31 34,oM 36 35,gF 37 1 6 36,gL 38 37 36,⟨some 39,.call 67 [.t 38,.k (.int .i64 0),.k (.int .i64 128)],some (36,true)⟩,oJ 40 36 39,oM 2 40] .ret [1]
abbrev u53_1:IC:=qS [oX 1 0,oV 2 (.bool false)] u53_2 [0]
def u53:IFn:=⟨41,u53_1,[.tmp 2]⟩
end
theorem isU53:IsFn Tryd.prog 53 u53:=by unfold IsFn;kernel_rfl
section
abbrev u70_7:IC:=qK .skip (.exit 0) (.t 7) [0,3,7]
abbrev u70_6:IC:=qS [oM 4 3,oM 5 0,oP 6 (.lens (.t 5)),oB 7 4 6 .lss] u70_7 [0,3]
abbrev u70_11:IC:=qS [oV 2 (.bool false)] .ret []
abbrev u70_10:IC:=qK u70_11 .skip (.t 19) [0,3,19]
abbrev u70_9:IC:=qS [oM 10 0,oM 11 3,oP 12 (.idx (.t 10) (.t 11)),oP 13 (.bin .lss (.t 12) (.k (.int .u8 32))),oM 14 13,hM 15 0 14,hM 16 3 14,oR 17 (.idx (.t 15) (.t 16)) 14,oR 18 (.bin .gtr (.t 17) (.k (.int .u8 126))) 14,oO 19 14 18] u70_10 [0,3]
abbrev u70_12:IC:=qE [oM 8 3,oK 9 8 .add 1,oM 3 9] [0,3]
abbrev u70_8:IC:=qB u70_9 u70_12 1 [0,3]
abbrev u70_5:IC:=qQ u70_6 u70_8 [0,3]
abbrev u70_4:IC:=qJ (.loop u70_5) 0 [0,3]
abbrev u70_3:IC:=qS [oI 3 0] u70_4 [0]
abbrev u70_13:IC:=qS [oM 20 0,oP 21 (.lens (.t 20)),oK 22 21 .leq 32,oM 2 22] .ret [0]
abbrev u70_2:IC:=qQ u70_3 u70_13 [0]
abbrev u70_1:IC:=qS [oV 2 (.bool false)] u70_2 [0]
def u70:IFn:=⟨23,u70_1,[.tmp 2]⟩
end
theorem isU70:IsFn Tryd.prog 70 u70:=by unfold IsFn;kernel_rfl
section
abbrev u76_5:IC:=qS [oV 4 (.bool false)] .ret []
abbrev u76_4:IC:=qK u76_5 .skip (.t 12) [2,3,12]
abbrev u76_3:IC:=qS [oF 5 3 0,oL 6 5,oF 7 2 3,oL 8 7,oH 9 8,oK 10 9 .sub 1,oC 11 67 [.t 6,.k (.int .i64 0),.t 10],oY 12 11] u76_4 [2,3]
abbrev u76_12:IC:=qE [oK 17 14 .eql 2,oM 15 17] [2,3,14]
abbrev u76_11:IC:=qK .skip u76_12 (.t 15) [2,3,14,15]
abbrev u76_10:IC:=qS [oK 16 14 .eql 1,oM 15 16] u76_11 [2,3,14]
abbrev u76_14:IC:=qS [oF 18 3 2,oL 19 18,oK 20 19 .eql 0,oM 4 20] .ret [3]
abbrev u76_18:IC:=qE [oK 23 14 .eql 4,oM 21 23] [2,3,14]
abbrev u76_17:IC:=qK .skip u76_18 (.t 21) [2,3,14,21]
abbrev u76_16:IC:=qS [oK 22 14 .eql 3,oM 21 22] u76_17 [2,3,14]
abbrev u76_20:IC:=qS [oF 24 3 2,oL 25 24,oC 26 67 [.t 25,.k (.int .i64 0),.k (.int .i64 63)],oM 4 26] .ret [3]
abbrev u76_23:IC:=qS [oF 29 3 2,oL 30 29,oF 31 2 5,oL 32 31,oK 33 32 .sub 1,oC 34 67 [.t 30,.k (.int .i64 0),.t 33],oM 4 34] .ret [2,3]
abbrev u76_26:IC:=qS [oF 37 3 2,oL 38 37,oF 39 2 6,oL 40 39,oK 41 40 .sub 1,oC 42 67 [.t 38,.k (.int .i64 0),.t 41],oM 4 42] .ret [2,3]
abbrev u76_25:IC:=qK u76_26 .skip (.t 35) [2,3,35]
abbrev u76_24:IC:=qS [oK 36 14 .eql 6,oM 35 36] u76_25 [2,3,14]
abbrev u76_22:IC:=qK u76_23 u76_24 (.t 27) [2,3,14,27]
abbrev u76_21:IC:=qS [oK 28 14 .eql 5,oM 27 28] u76_22 [2,3,14]
abbrev u76_19:IC:=qK u76_20 u76_21 (.t 21) [2,3,14,21]
abbrev u76_15:IC:=qQ u76_16 u76_19 [2,3,14]
abbrev u76_13:IC:=qK u76_14 u76_15 (.t 15) [2,3,14,15]
abbrev u76_9:IC:=qQ u76_10 u76_13 [2,3,14]
abbrev u76_8:IC:=qJ u76_9 0 [2,3,14]
abbrev u76_7:IC:=qS [oF 13 3 1,oL 14 13] u76_8 [2,3]
abbrev u76_27:IC:=qS [oV 4 (.bool false)] .ret []
abbrev u76_6:IC:=qQ u76_7 u76_27 [2,3]
abbrev u76_2:IC:=qQ u76_3 u76_6 [2,3]
abbrev u76_1:IC:=qS [oX 2 0,oX 3 1,oV 4 (.bool false)] u76_2 [0,1]
def u76:IFn:=⟨43,u76_1,[.tmp 4]⟩
end
theorem isU76:IsFn Tryd.prog 76 u76:=by unfold IsFn;kernel_rfl
section
abbrev u78_2:IC:=qS [oM 3 0,oK 4 3 .eql 12,oM 5 4,hM 6 0 5,hK 7 6 5 .eql 13,oO 8 5 7,oM 9 8,hM 10 0 9,hK 11 10 9 .eql 14,oO 12 9 11,oM 2 12] .ret [0]
abbrev u78_1:IC:=qS [oV 2 (.bool false)] u78_2 [0]
def u78:IFn:=⟨13,u78_1,[.tmp 2]⟩
end
theorem isU78:IsFn Tryd.prog 78 u78:=by unfold IsFn;kernel_rfl
section
abbrev u77_7:IC:=qS [oI 4 (-2147483647),oI 5 2147483647] .ret []
abbrev u77_11:IC:=qE [oK 11 6 .eql 3,oM 9 11] [2,6]
abbrev u77_10:IC:=qK .skip u77_11 (.t 9) [2,6,9]
abbrev u77_9:IC:=qS [oK 10 6 .eql 2,oM 9 10] u77_10 [2,6]
abbrev u77_13:IC:=qD [oF 12 2 4,oL 13 12,oH 14 13,oK 15 14 .sub 1,oI 4 0,oM 5 15] .ret [(0,none),(1,none),(2,none),(3,none),(4,some [0,1,2,3]),(5,some [])] 6 [2]
abbrev u77_16:IC:=qS [oI 4 0,oI 5 63] .ret []
abbrev u77_22:IC:=qE [oK 21 6 .eql 24,oM 18 21] [2,6]
abbrev u77_21:IC:=qK .skip u77_22 (.t 18) [2,6,18]
abbrev u77_20:IC:=qS [oK 20 6 .eql 23,oM 18 20] u77_21 [2,6]
abbrev u77_19:IC:=qK .skip u77_20 (.t 18) [2,6,18]
abbrev u77_18:IC:=qS [oK 19 6 .eql 5,oM 18 19] u77_19 [2,6]
abbrev u77_24:IC:=qD [oF 22 2 3,oL 23 22,oH 24 23,oK 25 24 .sub 1,oI 4 0,oM 5 25] .ret [(0,none),(1,none),(2,none),(3,none),(4,some [0,1,2,3]),(5,some [])] 6 [2]
abbrev u77_30:IC:=qE [oK 29 6 .eql 22,oM 26 29] [2,6]
abbrev u77_29:IC:=qK .skip u77_30 (.t 26) [2,6,26]
abbrev u77_28:IC:=qS [oK 28 6 .eql 21,oM 26 28] u77_29 [2,6]
abbrev u77_27:IC:=qK .skip u77_28 (.t 26) [2,6,26]
abbrev u77_26:IC:=qS [oK 27 6 .eql 6,oM 26 27] u77_27 [2,6]
abbrev u77_32:IC:=qD [oF 30 2 5,oL 31 30,oK 32 31 .sub 1,oI 4 0,oM 5 32] .ret [(0,none),(1,none),(2,none),(3,some [0,1,2]),(4,some [])] 5 [2]
abbrev u77_35:IC:=qS [oI 4 12,oI 5 24] .ret []
abbrev u77_41:IC:=qE [oK 38 6 .eql 18,oM 35 38] [2,6]
abbrev u77_40:IC:=qK .skip u77_41 (.t 35) [2,6,35]
abbrev u77_39:IC:=qS [oK 37 6 .eql 17,oM 35 37] u77_40 [2,6]
abbrev u77_38:IC:=qK .skip u77_39 (.t 35) [2,6,35]
abbrev u77_37:IC:=qS [oK 36 6 .eql 16,oM 35 36] u77_38 [2,6]
abbrev u77_43:IC:=qS [oI 4 0,oI 5 31] .ret []
abbrev u77_53:IC:=qE [oK 44 6 .eql 28,oM 39 44] [2,6]
abbrev u77_52:IC:=qK .skip u77_53 (.t 39) [2,6,39]
abbrev u77_51:IC:=qS [oK 43 6 .eql 27,oM 39 43] u77_52 [2,6]
abbrev u77_50:IC:=qK .skip u77_51 (.t 39) [2,6,39]
abbrev u77_49:IC:=qS [oK 42 6 .eql 26,oM 39 42] u77_50 [2,6]
abbrev u77_48:IC:=qK .skip u77_49 (.t 39) [2,6,39]
abbrev u77_47:IC:=qS [oK 41 6 .eql 20,oM 39 41] u77_48 [2,6]
abbrev u77_46:IC:=qK .skip u77_47 (.t 39) [2,6,39]
abbrev u77_45:IC:=qS [oK 40 6 .eql 19,oM 39 40] u77_46 [2,6]
abbrev u77_55:IC:=qS [oI 4 0,oI 5 63] .ret []
abbrev u77_58:IC:=qD [oF 47 2 6,oL 48 47,oK 49 48 .sub 1,oI 4 0,oM 5 49] .ret [(0,none),(1,none),(2,none),(3,some [0,1,2]),(4,some [])] 5 [2]
abbrev u77_61:IC:=qD [oF 52 2 1,oL 53 52,oH 54 53,oK 55 54 .sub 1,oI 4 0,oM 5 55] .ret [(0,none),(1,none),(2,none),(3,none),(4,some [0,1,2,3]),(5,some [])] 6 [2]
abbrev u77_75:IC:=qE [oK 63 6 .eql 31,oM 56 63] [6]
abbrev u77_74:IC:=qK .skip u77_75 (.t 56) [6,56]
abbrev u77_73:IC:=qS [oK 62 6 .eql 30,oM 56 62] u77_74 [6]
abbrev u77_72:IC:=qK .skip u77_73 (.t 56) [6,56]
abbrev u77_71:IC:=qS [oK 61 6 .eql 15,oM 56 61] u77_72 [6]
abbrev u77_70:IC:=qK .skip u77_71 (.t 56) [6,56]
abbrev u77_69:IC:=qS [oK 60 6 .eql 10,oM 56 60] u77_70 [6]
abbrev u77_68:IC:=qK .skip u77_69 (.t 56) [6,56]
abbrev u77_67:IC:=qS [oK 59 6 .eql 9,oM 56 59] u77_68 [6]
abbrev u77_66:IC:=qK .skip u77_67 (.t 56) [6,56]
abbrev u77_65:IC:=qS [oK 58 6 .eql 8,oM 56 58] u77_66 [6]
abbrev u77_64:IC:=qK .skip u77_65 (.t 56) [6,56]
abbrev u77_63:IC:=qS [oK 57 6 .eql 7,oM 56 57] u77_64 [6]
abbrev u77_77:IC:=qS [oI 4 0,oI 5 0] .ret []
abbrev u77_76:IC:=qK u77_77 .skip (.t 56) [56]
abbrev u77_62:IC:=qQ u77_63 u77_76 [6]
abbrev u77_60:IC:=qK u77_61 u77_62 (.t 50) [2,6,50]
abbrev u77_59:IC:=qS [oK 51 6 .eql 29,oM 50 51] u77_60 [2,6]
abbrev u77_57:IC:=qK u77_58 u77_59 (.t 45) [2,6,45]
abbrev u77_56:IC:=qS [oK 46 6 .eql 25,oM 45 46] u77_57 [2,6]
abbrev u77_54:IC:=qK u77_55 u77_56 (.t 39) [2,6,39]
abbrev u77_44:IC:=qQ u77_45 u77_54 [2,6]
abbrev u77_42:IC:=qK u77_43 u77_44 (.t 35) [2,6,35]
abbrev u77_36:IC:=qQ u77_37 u77_42 [2,6]
abbrev u77_34:IC:=qK u77_35 u77_36 (.t 33) [2,6,33]
abbrev u77_33:IC:=qS [oK 34 6 .eql 11,oM 33 34] u77_34 [2,6]
abbrev u77_31:IC:=qK u77_32 u77_33 (.t 26) [2,6,26]
abbrev u77_25:IC:=qQ u77_26 u77_31 [2,6]
abbrev u77_23:IC:=qK u77_24 u77_25 (.t 18) [2,6,18]
abbrev u77_17:IC:=qQ u77_18 u77_23 [2,6]
abbrev u77_15:IC:=qK u77_16 u77_17 (.t 16) [2,6,16]
abbrev u77_14:IC:=qS [oK 17 6 .eql 4,oM 16 17] u77_15 [2,6]
abbrev u77_12:IC:=qK u77_13 u77_14 (.t 9) [2,6,9]
abbrev u77_8:IC:=qQ u77_9 u77_12 [2,6]
abbrev u77_6:IC:=qK u77_7 u77_8 (.t 7) [2,6,7]
abbrev u77_5:IC:=qS [oK 8 6 .eql 1,oM 7 8] u77_6 [2,6]
abbrev u77_4:IC:=qJ u77_5 0 [2,6]
abbrev u77_3:IC:=qS [oM 6 1] u77_4 [1,2]
abbrev u77_78:IC:=qS [oI 4 1,oI 5 0] .ret []
abbrev u77_2:IC:=qQ u77_3 u77_78 [1,2]
abbrev u77_1:IC:=qS [oX 2 0,oI 4 0,oI 5 0] u77_2 [0,1]
def u77:IFn:=⟨64,u77_1,[.tmp 4,.tmp 5]⟩
end
theorem isU77:IsFn Tryd.prog 77 u77:=by unfold IsFn;kernel_rfl
section
abbrev u81_18:IC:=qE [oK 12 4 .eql 8,oM 5 12] [4]
abbrev u81_17:IC:=qK .skip u81_18 (.t 5) [4,5]
abbrev u81_16:IC:=qS [oK 11 4 .eql 7,oM 5 11] u81_17 [4]
abbrev u81_15:IC:=qK .skip u81_16 (.t 5) [4,5]
abbrev u81_14:IC:=qS [oK 10 4 .eql 6,oM 5 10] u81_15 [4]
abbrev u81_13:IC:=qK .skip u81_14 (.t 5) [4,5]
abbrev u81_12:IC:=qS [oK 9 4 .eql 5,oM 5 9] u81_13 [4]
abbrev u81_11:IC:=qK .skip u81_12 (.t 5) [4,5]
abbrev u81_10:IC:=qS [oK 8 4 .eql 4,oM 5 8] u81_11 [4]
abbrev u81_9:IC:=qK .skip u81_10 (.t 5) [4,5]
abbrev u81_8:IC:=qS [oK 7 4 .eql 2,oM 5 7] u81_9 [4]
abbrev u81_7:IC:=qK .skip u81_8 (.t 5) [4,5]
abbrev u81_6:IC:=qS [oK 6 4 .eql 1,oM 5 6] u81_7 [4]
abbrev u81_20:IC:=qS [oI 2 0,oI 3 1] .ret []
abbrev u81_26:IC:=qE [oK 16 4 .eql 14,oM 13 16] [4]
abbrev u81_25:IC:=qK .skip u81_26 (.t 13) [4,13]
abbrev u81_24:IC:=qS [oK 15 4 .eql 10,oM 13 15] u81_25 [4]
abbrev u81_23:IC:=qK .skip u81_24 (.t 13) [4,13]
abbrev u81_22:IC:=qS [oK 14 4 .eql 9,oM 13 14] u81_23 [4]
abbrev u81_28:IC:=qS [oI 2 1,oI 3 1] .ret []
abbrev u81_31:IC:=qS [oI 2 2,oI 3 1] .ret []
abbrev u81_34:IC:=qS [oI 2 2,oI 3 0] .ret []
abbrev u81_46:IC:=qE [oK 27 4 .eql 29,oM 21 27] [4]
abbrev u81_45:IC:=qK .skip u81_46 (.t 21) [4,21]
abbrev u81_44:IC:=qS [oK 26 4 .eql 21,oM 21 26] u81_45 [4]
abbrev u81_43:IC:=qK .skip u81_44 (.t 21) [4,21]
abbrev u81_42:IC:=qS [oK 25 4 .eql 19,oM 21 25] u81_43 [4]
abbrev u81_41:IC:=qK .skip u81_42 (.t 21) [4,21]
abbrev u81_40:IC:=qS [oK 24 4 .eql 15,oM 21 24] u81_41 [4]
abbrev u81_39:IC:=qK .skip u81_40 (.t 21) [4,21]
abbrev u81_38:IC:=qS [oK 23 4 .eql 13,oM 21 23] u81_39 [4]
abbrev u81_37:IC:=qK .skip u81_38 (.t 21) [4,21]
abbrev u81_36:IC:=qS [oK 22 4 .eql 3,oM 21 22] u81_37 [4]
abbrev u81_48:IC:=qS [oI 2 1,oI 3 0] .ret []
abbrev u81_47:IC:=qK u81_48 .skip (.t 21) [21]
abbrev u81_35:IC:=qQ u81_36 u81_47 [4]
abbrev u81_33:IC:=qK u81_34 u81_35 (.t 19) [4,19]
abbrev u81_32:IC:=qS [oK 20 4 .eql 20,oM 19 20] u81_33 [4]
abbrev u81_30:IC:=qK u81_31 u81_32 (.t 17) [4,17]
abbrev u81_29:IC:=qS [oK 18 4 .eql 11,oM 17 18] u81_30 [4]
abbrev u81_27:IC:=qK u81_28 u81_29 (.t 13) [4,13]
abbrev u81_21:IC:=qQ u81_22 u81_27 [4]
abbrev u81_19:IC:=qK u81_20 u81_21 (.t 5) [4,5]
abbrev u81_5:IC:=qQ u81_6 u81_19 [4]
abbrev u81_4:IC:=qJ u81_5 0 [4]
abbrev u81_3:IC:=qS [oM 4 0] u81_4 [0]
abbrev u81_49:IC:=qS [oI 2 0,oI 3 0] .ret []
abbrev u81_2:IC:=qQ u81_3 u81_49 [0]
abbrev u81_1:IC:=qS [oI 2 0,oI 3 0] u81_2 [0]
def u81:IFn:=⟨28,u81_1,[.tmp 2,.tmp 3]⟩
end
theorem isU81:IsFn Tryd.prog 81 u81:=by unfold IsFn;kernel_rfl
section
abbrev u54_11:IC:=qE [oM 41 3,oM 42 41,hF 43 5 0 42,hL 44 43 42,⟨some 45,.call 78 [.t 44],some (42,false)⟩,oR 46 (.un .not (.t 45)) 42,hM 47 46 42,gF 48 5 1 47,gL 49 48 47,gM 50 6 47,gM 51 7 47,⟨some 52,.call 67 [.t 49,.t 50,.t 51],some (47,true)⟩,oG 53 (.un .not (.t 52)) 47,oR 54 (.pick (.t 47) (.t 53) (.k (.bool false))) 42,oO 55 42 54,oM 3 55] [1,3,5,6,7,28,29,30]
abbrev u54_10:IC:=qS [oD 35 1 7,oF 36 5 0,oL 37 36,oC 38 77 [.t 35,.t 37],oM 34 38,oE 39 34 0,oE 40 34 1,oM 6 39,oM 7 40] u54_11 [1,3,5,28,29,30]
abbrev u54_9:IC:=qS [oA 32 28 30 2,oD 33 32 2,oW 5 (.agg #[.int .i64 0,.int .i64 0]),oS 5 33 2] u54_10 [1,3,28,29,30]
abbrev u54_12:IC:=qE [oK 56 30 .add 1,oM 30 56] [1,3,28,29,30]
abbrev u54_8:IC:=qB u54_9 u54_12 1 [1,3,28,29,30]
abbrev u54_7:IC:=qC .skip u54_8 (.exit 0) (.t 31) [1,3,28,29,30,31]
abbrev u54_6:IC:=qS [oB 31 30 29 .lss] u54_7 [1,3,28,29,30]
abbrev u54_5:IC:=qJ (.loop u54_6) 0 [1,3,28,29,30]
abbrev u54_4:IC:=qS [oF 27 1 0,oL 28 27,oH 29 28,oI 30 0] u54_5 [1,3]
abbrev u54_13:IC:=qS [oM 57 3,oY 58 57,oM 2 58] .ret [3]
abbrev u54_3:IC:=qQ u54_4 u54_13 [1,3]
abbrev u54_2:IC:=qS [oF 8 1 1,oL 9 8,oC 10 68 [.t 9,.f 69],oM 11 10,hF 12 1 3 11,hL 13 12 11,⟨some 14,.call 71 [.t 13,.f 72],some (11,false)⟩,oO 15 11 14,oM 16 15,hF 17 1 4 16,hL 18 17 16,⟨some 19,.call 71 [.t 18,.f 73],some (16,false)⟩,oO 20 16 19,oM 21 20,hF 22 1 2 21,hL 23 22 21,oR 24 (.mkf 75 [] [.t 1]) 21,⟨some 25,.call 74 [.t 23,.t 24],some (21,false)⟩,oO 26 21 25,oM 3 26] u54_3 [1]
abbrev u54_1:IC:=qS [oX 1 0,oV 2 (.bool false)] u54_2 [0]
def u54:IFn:=⟨59,u54_1,[.tmp 2]⟩
end
theorem isU54:IsFn Tryd.prog 54 u54:=by unfold IsFn;kernel_rfl
section
abbrev u69_2:IC:=qS [oM 3 0,oC 4 70 [.t 3],oY 5 4,oM 2 5] .ret [0]
abbrev u69_1:IC:=qS [oV 2 (.bool false)] u69_2 [0]
def u69:IFn:=⟨6,u69_1,[.tmp 2]⟩
end
theorem isU69:IsFn Tryd.prog 69 u69:=by unfold IsFn;kernel_rfl
section
abbrev u72_2:IC:=qS [oM 3 0,oC 4 67 [.t 3,.k (.int .i64 0),.k (.int .i64 99)],oY 5 4,oM 2 5] .ret [0]
abbrev u72_1:IC:=qS [oV 2 (.bool false)] u72_2 [0]
def u72:IFn:=⟨6,u72_1,[.tmp 2]⟩
end
theorem isU72:IsFn Tryd.prog 72 u72:=by unfold IsFn;kernel_rfl
section
abbrev u73_2:IC:=qS [oM 3 0,oC 4 67 [.t 3,.k (.int .i64 (-2147483647)),.k (.int .i64 2147483647)],oY 5 4,oM 2 5] .ret [0]
abbrev u73_1:IC:=qS [oV 2 (.bool false)] u73_2 [0]
def u73:IFn:=⟨6,u73_1,[.tmp 2]⟩
end
theorem isU73:IsFn Tryd.prog 73 u73:=by unfold IsFn;kernel_rfl
section
abbrev u75_2:IC:=qS [oD 4 1 7,oD 5 2 4,oC 6 76 [.t 4,.t 5],oY 7 6,oM 3 7] .ret [1,2]
abbrev u75_1:IC:=qS [oX 2 0,oV 3 (.bool false)] u75_2 [0,1]
def u75:IFn:=⟨8,u75_1,[.tmp 3]⟩
end
theorem isU75:IsFn Tryd.prog 75 u75:=by unfold IsFn;kernel_rfl
section
abbrev u55_11:IC:=qS [oV 2 (.bool false)] .ret []
abbrev u55_10:IC:=qK u55_11 .skip (.t 24) [1,6,7,8,24]
abbrev u55_9:IC:=qS [oF 12 4 0,oL 13 12,oC 14 78 [.t 13],oM 15 14,gF 16 4 1 15,gL 17 16 15,gF 18 1 0 15,gL 19 18 15,oG 20 (.len (.t 19)) 15,gK 21 20 15 .sub 1,⟨some 22,.call 67 [.t 17,.k (.int .i64 0),.t 21],some (15,true)⟩,oG 23 (.un .not (.t 22)) 15,oJ 24 15 23] u55_10 [1,4,6,7,8]
abbrev u55_8:IC:=qS [oA 10 6 8 2,oD 11 10 2,oW 4 (.agg #[.int .i64 0,.int .i64 0]),oS 4 11 2] u55_9 [1,6,7,8]
abbrev u55_12:IC:=qE [oK 25 8 .add 1,oM 8 25] [1,6,7,8]
abbrev u55_7:IC:=qB u55_8 u55_12 1 [1,6,7,8]
abbrev u55_6:IC:=qC .skip u55_7 (.exit 0) (.t 9) [1,6,7,8,9]
abbrev u55_5:IC:=qS [oB 9 8 7 .lss] u55_6 [1,6,7,8]
abbrev u55_4:IC:=qJ (.loop u55_5) 0 [1,6,7,8]
abbrev u55_3:IC:=qS [oF 5 1 0,oL 6 5,oH 7 6,oI 8 0] u55_4 [1]
abbrev u55_13:IC:=qS [oF 26 1 2,oL 27 26,oP 28 (.mkf 79 [] [.t 1]),oC 29 74 [.t 27,.t 28],oY 30 29,oM 2 30] .ret [1]
abbrev u55_2:IC:=qQ u55_3 u55_13 [1]
abbrev u55_1:IC:=qS [oX 1 0,oV 2 (.bool false)] u55_2 [0]
def u55:IFn:=⟨31,u55_1,[.tmp 2]⟩
end
theorem isU55:IsFn Tryd.prog 55 u55:=by unfold IsFn;kernel_rfl
section
abbrev u79_2:IC:=qS [oF 4 2 3,oL 5 4,oF 6 1 0,oL 7 6,oH 8 7,oK 9 8 .sub 1,oC 10 67 [.t 5,.k (.int .i64 0),.t 9],oY 11 10,oM 3 11] .ret [1,2]
abbrev u79_1:IC:=qS [oX 2 0,oV 3 (.bool false)] u79_2 [0,1]
def u79:IFn:=⟨12,u79_1,[.tmp 3]⟩
end
theorem isU79:IsFn Tryd.prog 79 u79:=by unfold IsFn;kernel_rfl
section
abbrev u56_5:IC:=qS [oF 10 2 0,oL 11 10,oF 12 3 0,oL 13 12,oB 14 11 13 .lss,oM 4 14] .ret [2,3]
abbrev u56_4:IC:=qK u56_5 .skip (.t 9) [2,3,9]
abbrev u56_3:IC:=qS [oF 5 2 0,oL 6 5,oF 7 3 0,oL 8 7,oB 9 6 8 .neq] u56_4 [2,3]
abbrev u56_9:IC:=qS [oF 20 2 1,oL 21 20,oF 22 3 1,oL 23 22,oB 24 21 23 .lss,oM 4 24] .ret [2,3]
abbrev u56_8:IC:=qK u56_9 .skip (.t 19) [2,3,19]
abbrev u56_7:IC:=qS [oF 15 2 1,oL 16 15,oF 17 3 1,oL 18 17,oB 19 16 18 .neq] u56_8 [2,3]
abbrev u56_10:IC:=qS [oF 25 2 2,oL 26 25,oF 27 3 2,oL 28 27,oB 29 26 28 .lss,oM 4 29] .ret [2,3]
abbrev u56_6:IC:=qQ u56_7 u56_10 [2,3]
abbrev u56_2:IC:=qQ u56_3 u56_6 [2,3]
abbrev u56_1:IC:=qS [oX 2 0,oX 3 1,oV 4 (.bool false)] u56_2 [0,1]
def u56:IFn:=⟨30,u56_1,[.tmp 4]⟩
end
theorem isU56:IsFn Tryd.prog 56 u56:=by unfold IsFn;kernel_rfl
section
abbrev u57_10:IC:=qE [oL 25 4,oM 26 5,oA 27 25 26 1,⟨none,.eff (.st 1 (.t 27) (.k (.int .i64 (-1)))),none⟩] [1,4,5,21,22]
abbrev u57_9:IC:=qS [oM 24 22,oM 5 24] u57_10 [1,4,21,22]
abbrev u57_11:IC:=qE [oK 28 22 .add 1,oM 22 28] [1,4,21,22]
abbrev u57_8:IC:=qB u57_9 u57_11 1 [1,4,21,22]
abbrev u57_7:IC:=qC .skip u57_8 (.exit 0) (.t 23) [1,4,21,22,23]
abbrev u57_6:IC:=qS [oB 23 22 21 .lss] u57_7 [1,4,21,22]
abbrev u57_5:IC:=qJ (.loop u57_6) 0 [1,4,21,22]
abbrev u57_4:IC:=qS [oL 20 4,oH 21 20,oI 22 0] u57_5 [1,4]
abbrev u57_23:IC:=qS [oV 2 (.slice none 0 0),oV 3 (.bool false)] .ret []
abbrev u57_22:IC:=qK u57_23 .skip (.t 41) [1,4,6,7,31,32,33,41]
abbrev u57_21:IC:=qS [oM 37 7,oF 38 9 3,oL 39 38,⟨some 40,.callv (.t 37) [.t 39,.k (.int .i64 0)],none⟩,oY 41 40] u57_22 [1,4,6,7,9,31,32,33]
abbrev u57_20:IC:=qS [oA 35 31 33 4,oD 36 35 4,oW 9 (.agg #[.int .i64 0,.int .i64 0,.int .i64 0,.int .i64 0]),oS 9 36 4] u57_21 [1,4,6,7,31,32,33]
abbrev u57_24:IC:=qE [oK 42 33 .add 1,oM 33 42] [1,4,6,7,31,32,33]
abbrev u57_19:IC:=qB u57_20 u57_24 3 [1,4,6,7,31,32,33]
abbrev u57_18:IC:=qC .skip u57_19 (.exit 2) (.t 34) [1,4,6,7,31,32,33,34]
abbrev u57_17:IC:=qS [oB 34 33 32 .lss] u57_18 [1,4,6,7,31,32,33]
abbrev u57_16:IC:=qJ (.loop u57_17) 2 [1,4,6,7,31,32,33]
abbrev u57_15:IC:=qS [oF 30 1 2,oL 31 30,oH 32 31,oI 33 0] u57_16 [1,4,6,7]
abbrev u57_28:IC:=qK .skip (.exit 4) (.t 45) [1,4,6,7,45]
abbrev u57_27:IC:=qS [oL 43 6,oH 44 43,oK 45 44 .gtr 0] u57_28 [1,4,6,7]
abbrev u57_41:IC:=qE [oM 94 15,oM 95 94,gL 96 4 95,gM 97 10 95,oG 98 (.iad 1 (.t 96) (.t 97)) 95,gL 99 98 95,gK 100 99 95 .eql 0,oJ 101 95 100,oM 15 101] [1,4,6,7,10,15]
abbrev u57_44:IC:=qE [oM 104 15,oM 105 104,gM 106 7 105,gF 107 11 1 105,gL 108 107 105,gM 109 14 105,⟨some 110,.callv (.t 106) [.t 108,.t 109],some (105,true)⟩,oJ 111 105 110,oM 15 111] [1,4,6,7,11,14,15]
abbrev u57_47:IC:=qE [oM 114 15,oM 115 114,gM 116 7 115,gM 117 10 115,gK 118 117 115 .add 1,gM 119 14 115,⟨some 120,.callv (.t 116) [.t 118,.t 119],some (115,true)⟩,oJ 121 115 120,oM 122 121,gM 123 7 122,gF 124 11 1 122,gL 125 124 122,gM 126 14 122,⟨some 127,.callv (.t 123) [.t 125,.t 126],some (122,true)⟩,oJ 128 122 127,oM 15 128] [1,4,6,7,10,11,14,15]
abbrev u57_50:IC:=qE [oM 131 15,oM 132 131,gM 133 7 132,gM 134 10 132,gK 135 134 132 .add 1,gM 136 14 132,⟨some 137,.callv (.t 133) [.t 135,.t 136],some (132,true)⟩,oJ 138 132 137,oM 139 138,gM 140 7 139,gF 141 11 1 139,gL 142 141 139,gM 143 14 139,gK 144 143 139 .sub 1,⟨some 145,.callv (.t 140) [.t 142,.t 144],some (139,true)⟩,oJ 146 139 145,oM 15 146] [1,4,6,7,10,11,14,15]
abbrev u57_51:IC:=qE [oM 84 15,oM 85 84,gM 86 7 85,gM 87 10 85,gK 88 87 85 .add 1,gM 89 14 85,⟨some 90,.callv (.t 86) [.t 88,.t 89],some (85,true)⟩,oJ 91 85 90,oM 15 91] [1,4,6,7,10,14,15]
abbrev u57_49:IC:=qK u57_50 u57_51 (.t 129) [1,4,6,7,10,11,14,15,129]
abbrev u57_48:IC:=qS [oK 130 83 .eql 14,oM 129 130] u57_49 [1,4,6,7,10,11,14,15,83]
abbrev u57_46:IC:=qK u57_47 u57_48 (.t 112) [1,4,6,7,10,11,14,15,83,112]
abbrev u57_45:IC:=qS [oK 113 83 .eql 13,oM 112 113] u57_46 [1,4,6,7,10,11,14,15,83]
abbrev u57_43:IC:=qK u57_44 u57_45 (.t 102) [1,4,6,7,10,11,14,15,83,102]
abbrev u57_42:IC:=qS [oK 103 83 .eql 12,oM 102 103] u57_43 [1,4,6,7,10,11,14,15,83]
abbrev u57_40:IC:=qK u57_41 u57_42 (.t 92) [1,4,6,7,10,11,14,15,83,92]
abbrev u57_39:IC:=qS [oK 93 83 .eql 31,oM 92 93] u57_40 [1,4,6,7,10,11,14,15,83]
abbrev u57_38:IC:=qJ u57_39 6 [1,4,6,7,10,11,14,15,83]
abbrev u57_37:IC:=qS [oF 82 11 0,oL 83 82] u57_38 [1,4,6,7,10,11,14,15]
abbrev u57_54:IC:=qS [oV 2 (.slice none 0 0),oV 3 (.bool false)] .ret []
abbrev u57_53:IC:=qK u57_54 .skip (.t 148) [1,4,6,7,148]
abbrev u57_52:IC:=qS [oM 147 15,oY 148 147] u57_53 [1,4,6,7,15]
abbrev u57_36:IC:=qQ u57_37 u57_52 [1,4,6,7,10,11,14,15]
abbrev u57_35:IC:=qS [oL 76 4,oM 77 10,oA 78 76 77 1,oL 79 78,oM 80 12,oB 81 79 80 .geq,oM 15 81] u57_36 [1,4,6,7,10,11,12,14]
abbrev u57_34:IC:=qS [oL 68 4,oM 69 10,oA 70 68 69 1,oL 71 70,oM 72 12,oB 73 71 72 .sub,oM 74 13,oB 75 73 74 .add,oM 14 75] u57_35 [1,4,6,7,10,11,12,13]
abbrev u57_33:IC:=qS [oF 63 11 0,oL 64 63,oC 65 81 [.t 64],oM 62 65,oE 66 62 0,oE 67 62 1,oM 12 66,oM 13 67] u57_34 [1,4,6,7,10,11]
abbrev u57_32:IC:=qS [oF 57 1 0,oL 58 57,oM 59 10,oA 60 58 59 2,oD 61 60 2,oW 11 (.agg #[.int .i64 0,.int .i64 0]),oS 11 61 2] u57_33 [1,4,6,7,10]
abbrev u57_31:IC:=qS [oL 52 6,oL 53 6,oH 54 53,oK 55 54 .sub 1,oP 56 (.slc 1 (.t 52) none (some (.t 55))),oS 6 56 1] u57_32 [1,4,6,7,10]
abbrev u57_30:IC:=qS [oL 46 6,oL 47 6,oH 48 47,oK 49 48 .sub 1,oA 50 46 49 1,oL 51 50,oM 10 51] u57_31 [1,4,6,7]
abbrev u57_29:IC:=qJ u57_30 5 [1,4,6,7]
abbrev u57_26:IC:=qQ u57_27 u57_29 [1,4,6,7]
abbrev u57_55:IC:=qS [oL 149 4,oM 2 149,oV 3 (.bool true)] .ret [4]
abbrev u57_25:IC:=qB (.loop u57_26) u57_55 4 [1,4,6,7]
abbrev u57_14:IC:=qQ u57_15 u57_25 [1,4,6,7]
abbrev u57_13:IC:=qS [oP 29 (.mkf 80 [] [.t 4,.t 6]),oM 7 29] u57_14 [1,4,6]
abbrev u57_12:IC:=qS [oW 6 (.slice none 0 0)] u57_13 [1,4]
abbrev u57_3:IC:=qQ u57_4 u57_12 [1,4]
abbrev u57_2:IC:=qS [oF 16 1 0,oL 17 16,oH 18 17,⟨some 19,.new (.msl 1 8 #[.int .i64 0] (.t 18) (.t 18)),none⟩,oW 4 (.slice none 0 0),oS 4 19 1] u57_3 [1]
abbrev u57_1:IC:=qS [oX 1 0,oV 2 (.slice none 0 0),oV 3 (.bool false)] u57_2 [0]
def u57:IFn:=⟨150,u57_1,[.tmp 2,.tmp 3]⟩
end
theorem isU57:IsFn Tryd.prog 57 u57:=by unfold IsFn;kernel_rfl
section
abbrev u80_5:IC:=qS [oV 6 (.bool false)] .ret []
abbrev u80_4:IC:=qK u80_5 .skip (.t 29) [0,1,2,3,29]
abbrev u80_3:IC:=qS [oM 7 0,oL 8 2,oH 9 8,oB 10 7 9 .geq,oM 11 10,hM 12 1 11,hK 13 12 11 .gtr 48,oO 14 11 13,oM 15 14,hL 16 2 15,hM 17 0 15,oR 18 (.iad 1 (.t 16) (.t 17)) 15,hL 19 18 15,hK 20 19 15 .geq 0,hM 21 20 15,gL 22 2 21,gM 23 0 21,oG 24 (.iad 1 (.t 22) (.t 23)) 21,gL 25 24 21,gM 26 1 21,oG 27 (.bin .neq (.t 25) (.t 26)) 21,oR 28 (.pick (.t 21) (.t 27) (.k (.bool false))) 15,oO 29 15 28] u80_4 [0,1,2,3]
abbrev u80_10:IC:=qE [oL 39 3,oM 40 0,⟨some 41,.new (.bsl 1 1 #[.int .i64 0] [(0,.t 40)]),none⟩,oT 42 39 41 1 8,oS 3 42 1] [0,3]
abbrev u80_9:IC:=qS [oL 35 2,oM 36 0,oM 37 1,oA 38 35 36 1,oS 38 37 1] u80_10 [0,1,2,3]
abbrev u80_8:IC:=qK u80_9 .skip (.t 34) [0,1,2,3,34]
abbrev u80_7:IC:=qS [oL 30 2,oM 31 0,oA 32 30 31 1,oL 33 32,oK 34 33 .lss 0] u80_8 [0,1,2,3]
abbrev u80_11:IC:=qS [oV 6 (.bool true)] .ret []
abbrev u80_6:IC:=qQ u80_7 u80_11 [0,1,2,3]
abbrev u80_2:IC:=qQ u80_3 u80_6 [0,1,2,3]
abbrev u80_1:IC:=qS [oV 6 (.bool false)] u80_2 [0,1,2,3]
def u80:IFn:=⟨43,u80_1,[.tmp 6]⟩
end
theorem isU80:IsFn Tryd.prog 80 u80:=by unfold IsFn;kernel_rfl
section
abbrev u30_5:IC:=qS [oV 2 (.slice none 0 0),oI 3 9] .ret []
abbrev u30_8:IC:=qS [oV 2 (.slice none 0 0),oI 3 51] .ret []
abbrev u30_11:IC:=qS [oV 2 (.slice none 0 0),oI 3 54] .ret []
abbrev u30_10:IC:=qK u30_11 .skip (.t 15) [1,15]
abbrev u30_9:IC:=qS [oD 16 1 7,oC 17 55 [.t 16],oY 18 17,oM 15 18] u30_10 [1]
abbrev u30_7:IC:=qK u30_8 u30_9 (.t 11) [1,11]
abbrev u30_6:IC:=qS [oD 12 1 7,oC 13 54 [.t 12],oY 14 13,oM 11 14] u30_7 [1]
abbrev u30_4:IC:=qK u30_5 u30_6 (.t 7) [1,7]
abbrev u30_3:IC:=qS [oD 8 1 7,oC 9 53 [.t 8],oY 10 9,oM 7 10] u30_4 [1]
abbrev u30_17:IC:=qK .skip (.exit 1) (.t 23) [1,4,23]
abbrev u30_16:IC:=qS [oM 19 4,oF 20 1 2,oL 21 20,oH 22 21,oB 23 19 22 .lss] u30_17 [1,4]
abbrev u30_21:IC:=qS [oV 2 (.slice none 0 0),oI 3 66] .ret []
abbrev u30_20:IC:=qK u30_21 .skip (.t 38) [1,4,38]
abbrev u30_19:IC:=qP [oF 26 1 2,oL 27 26,oM 28 4,oK 29 28 .sub 1,oA 30 27 29 4,oD 31 30 4,oF 32 1 2,oL 33 32,oM 34 4,oA 35 33 34 4,oD 36 35 4,oC 37 56 [.t 31,.t 36],oY 38 37] u30_20 0 13 [1,4]
abbrev u30_22:IC:=qE [oM 24 4,oK 25 24 .add 1,oM 4 25] [1,4]
abbrev u30_18:IC:=qB u30_19 u30_22 2 [1,4]
abbrev u30_15:IC:=qQ u30_16 u30_18 [1,4]
abbrev u30_14:IC:=qJ (.loop u30_15) 1 [1,4]
abbrev u30_13:IC:=qS [oI 4 1] u30_14 [1]
abbrev u30_27:IC:=qS [oV 2 (.slice none 0 0),oI 3 53] .ret []
abbrev u30_26:IC:=qK u30_27 .skip (.t 45) [5,45]
abbrev u30_25:IC:=qS [oM 44 6,oY 45 44] u30_26 [5,6]
abbrev u30_28:IC:=qS [oM 46 5,oM 2 46,oI 3 0] .ret [5]
abbrev u30_24:IC:=qQ u30_25 u30_28 [5,6]
abbrev u30_23:IC:=qS [oD 40 1 7,oC 41 57 [.t 40],oM 39 41,oE 42 39 0,oE 43 39 1,oM 5 42,oM 6 43] u30_24 [1]
abbrev u30_12:IC:=qQ u30_13 u30_23 [1]
abbrev u30_2:IC:=qB u30_3 u30_12 0 [1]
abbrev u30_1:IC:=qS [oX 1 0,oV 2 (.slice none 0 0),oI 3 0] u30_2 [0]
def u30:IFn:=⟨47,u30_1,[.tmp 2,.tmp 3]⟩
end
theorem isU30:IsFn Tryd.prog 30 u30:=by unfold IsFn;kernel_rfl
section
abbrev u14_3:IC:=qS [oM 10 4,oM 2 10] .ret [4]
abbrev u14_2:IC:=qS [oD 6 1 7,oC 7 30 [.t 6],oM 5 7,oE 8 5 0,oE 9 5 1,oM 3 8,oM 4 9] u14_3 [1]
abbrev u14_1:IC:=qS [oX 1 0,oI 2 0] u14_2 [0]
def u14:IFn:=⟨11,u14_1,[.tmp 2]⟩
end
theorem isU14:IsFn Tryd.prog 14 u14:=by unfold IsFn;kernel_rfl
section
abbrev u85_11:IC:=qS [oM 17 5,oM 4 17] .ret [5]
abbrev u85_10:IC:=qK u85_11 .skip (.t 16) [0,1,5,7,8,16]
abbrev u85_9:IC:=qS [oM 11 1,oM 12 0,oM 13 5,oA 14 12 13 1,oL 15 14,⟨some 16,.callv (.t 11) [.t 15],none⟩] u85_10 [0,1,5,7,8]
abbrev u85_8:IC:=qS [oM 10 8,oM 5 10] u85_9 [0,1,7,8]
abbrev u85_12:IC:=qE [oK 18 8 .add 1,oM 8 18] [0,1,7,8]
abbrev u85_7:IC:=qB u85_8 u85_12 1 [0,1,7,8]
abbrev u85_6:IC:=qC .skip u85_7 (.exit 0) (.t 9) [0,1,7,8,9]
abbrev u85_5:IC:=qS [oB 9 8 7 .lss] u85_6 [0,1,7,8]
abbrev u85_4:IC:=qJ (.loop u85_5) 0 [0,1,7,8]
abbrev u85_3:IC:=qS [oM 6 0,oH 7 6,oI 8 0] u85_4 [0,1]
abbrev u85_13:IC:=qS [oI 4 (-1)] .ret []
abbrev u85_2:IC:=qQ u85_3 u85_13 [0,1]
abbrev u85_1:IC:=qS [oI 4 0] u85_2 [0,1]
def u85:IFn:=⟨19,u85_1,[.tmp 4]⟩
end
theorem isU85:IsFn Tryd.prog 85 u85:=by unfold IsFn;kernel_rfl
section
abbrev u86_11:IC:=qS [oM 17 5,oM 4 17] .ret [5]
abbrev u86_10:IC:=qK u86_11 .skip (.t 16) [0,1,5,7,8,16]
abbrev u86_9:IC:=qS [oM 11 1,oM 12 0,oM 13 5,oA 14 12 13 1,oL 15 14,⟨some 16,.callv (.t 11) [.t 15],none⟩] u86_10 [0,1,5,7,8]
abbrev u86_8:IC:=qS [oM 10 8,oM 5 10] u86_9 [0,1,7,8]
abbrev u86_12:IC:=qE [oK 18 8 .add 1,oM 8 18] [0,1,7,8]
abbrev u86_7:IC:=qB u86_8 u86_12 1 [0,1,7,8]
abbrev u86_6:IC:=qC .skip u86_7 (.exit 0) (.t 9) [0,1,7,8,9]
abbrev u86_5:IC:=qS [oB 9 8 7 .lss] u86_6 [0,1,7,8]
abbrev u86_4:IC:=qJ (.loop u86_5) 0 [0,1,7,8]
abbrev u86_3:IC:=qS [oM 6 0,oH 7 6,oI 8 0] u86_4 [0,1]
abbrev u86_13:IC:=qS [oI 4 (-1)] .ret []
abbrev u86_2:IC:=qQ u86_3 u86_13 [0,1]
abbrev u86_1:IC:=qS [oI 4 0] u86_2 [0,1]
def u86:IFn:=⟨19,u86_1,[.tmp 4]⟩
end
theorem isU86:IsFn Tryd.prog 86 u86:=by unfold IsFn;kernel_rfl
section
abbrev u87_11:IC:=qS [oM 17 5,oM 4 17] .ret [5]
abbrev u87_10:IC:=qK u87_11 .skip (.t 16) [0,1,5,7,8,16]
abbrev u87_9:IC:=qS [oM 11 1,oM 12 0,oM 13 5,oA 14 12 13 4,oD 15 14 4,⟨some 16,.callv (.t 11) [.t 15],none⟩] u87_10 [0,1,5,7,8]
abbrev u87_8:IC:=qS [oM 10 8,oM 5 10] u87_9 [0,1,7,8]
abbrev u87_12:IC:=qE [oK 18 8 .add 1,oM 8 18] [0,1,7,8]
abbrev u87_7:IC:=qB u87_8 u87_12 1 [0,1,7,8]
abbrev u87_6:IC:=qC .skip u87_7 (.exit 0) (.t 9) [0,1,7,8,9]
abbrev u87_5:IC:=qS [oB 9 8 7 .lss] u87_6 [0,1,7,8]
abbrev u87_4:IC:=qJ (.loop u87_5) 0 [0,1,7,8]
abbrev u87_3:IC:=qS [oM 6 0,oH 7 6,oI 8 0] u87_4 [0,1]
abbrev u87_13:IC:=qS [oI 4 (-1)] .ret []
abbrev u87_2:IC:=qQ u87_3 u87_13 [0,1]
abbrev u87_1:IC:=qS [oI 4 0] u87_2 [0,1]
def u87:IFn:=⟨19,u87_1,[.tmp 4]⟩
end
theorem isU87:IsFn Tryd.prog 87 u87:=by unfold IsFn;kernel_rfl
section
abbrev u68_2:IC:=qS [oM 5 0,oM 6 1,oC 7 85 [.t 5,.t 6],oK 8 7 .geq 0,oM 4 8] .ret [0,1]
abbrev u68_1:IC:=qS [oV 4 (.bool false)] u68_2 [0,1]
def u68:IFn:=⟨9,u68_1,[.tmp 4]⟩
end
theorem isU68:IsFn Tryd.prog 68 u68:=by unfold IsFn;kernel_rfl
section
abbrev u71_2:IC:=qS [oM 5 0,oM 6 1,oC 7 86 [.t 5,.t 6],oK 8 7 .geq 0,oM 4 8] .ret [0,1]
abbrev u71_1:IC:=qS [oV 4 (.bool false)] u71_2 [0,1]
def u71:IFn:=⟨9,u71_1,[.tmp 4]⟩
end
theorem isU71:IsFn Tryd.prog 71 u71:=by unfold IsFn;kernel_rfl
section
abbrev u74_2:IC:=qS [oM 5 0,oM 6 1,oC 7 87 [.t 5,.t 6],oK 8 7 .geq 0,oM 4 8] .ret [0,1]
abbrev u74_1:IC:=qS [oV 4 (.bool false)] u74_2 [0,1]
def u74:IFn:=⟨9,u74_1,[.tmp 4]⟩
end
theorem isU74:IsFn Tryd.prog 74 u74:=by unfold IsFn;kernel_rfl
end Go.Proofs.YtcallbfckjlagaaDoor
namespace Go.Proofs.YtcallbfckjlagaaDoor
open Go.Eng (IC IOper DReg IFn IsFn)
open Go.Sym
theorem mixedU:Tryd.prog.follows .mixedOrders=true:=by kernel_rfl
section
abbrev u45_2:IC:=qS [oM 7 0,oM 8 1,oB 9 7 8 .geq,oM 10 9,gM 11 0 10,gM 12 2 10,oG 13 (.bin .leq (.t 11) (.t 12)) 10,oJ 14 10 13,oM 6 14] .ret [0,1,2]
abbrev u45_1:IC:=qS [oV 6 (.bool false)] u45_2 [0,1,2]
def u45:IFn:=⟨15,u45_1,[.tmp 6]⟩
end
theorem isU45:IsFn Tryd.prog 45 u45:=by unfold IsFn;kernel_rfl
section
abbrev u48_5:IC:=qS [oF 10 2 0,oL 11 10,oF 12 3 0,oL 13 12,oB 14 11 13 .lss,oM 4 14] .ret [2,3]
abbrev u48_4:IC:=qK u48_5 .skip (.t 9) [2,3,9]
abbrev u48_3:IC:=qS [oF 5 2 0,oL 6 5,oF 7 3 0,oL 8 7,oB 9 6 8 .neq] u48_4 [2,3]
abbrev u48_9:IC:=qS [oF 20 2 1,oL 21 20,oF 22 3 1,oL 23 22,oB 24 21 23 .lss,oM 4 24] .ret [2,3]
abbrev u48_8:IC:=qK u48_9 .skip (.t 19) [2,3,19]
abbrev u48_7:IC:=qS [oF 15 2 1,oL 16 15,oF 17 3 1,oL 18 17,oB 19 16 18 .neq] u48_8 [2,3]
abbrev u48_10:IC:=qS [oF 25 2 2,oL 26 25,oF 27 3 2,oL 28 27,oB 29 26 28 .lss,oM 4 29] .ret [2,3]
abbrev u48_6:IC:=qQ u48_7 u48_10 [2,3]
abbrev u48_2:IC:=qQ u48_3 u48_6 [2,3]
abbrev u48_1:IC:=qS [oX 2 0,oX 3 1,oV 4 (.bool false)] u48_2 [0,1]
def u48:IFn:=⟨30,u48_1,[.tmp 4]⟩
end
theorem isU48:IsFn Tryd.prog 48 u48:=by unfold IsFn;kernel_rfl
section
abbrev u58_7:IC:=qS [oI 2 0,oI 3 1,oI 4 1] .ret []
abbrev u58_10:IC:=qS [oI 2 0,oI 3 1,oI 4 2] .ret []
abbrev u58_13:IC:=qS [oI 2 1,oI 3 0,oI 4 2] .ret []
abbrev u58_16:IC:=qS [oI 2 0,oI 3 1,oI 4 3] .ret []
abbrev u58_19:IC:=qS [oI 2 0,oI 3 1,oI 4 4] .ret []
abbrev u58_22:IC:=qS [oI 2 0,oI 3 1,oI 4 5] .ret []
abbrev u58_26:IC:=qE [oK 20 5 .eql 8,oM 18 20] [5]
abbrev u58_25:IC:=qK .skip u58_26 (.t 18) [5,18]
abbrev u58_24:IC:=qS [oK 19 5 .eql 7,oM 18 19] u58_25 [5]
abbrev u58_28:IC:=qS [oI 2 0,oI 3 1,oI 4 0] .ret []
abbrev u58_32:IC:=qE [oK 23 5 .eql 10,oM 21 23] [5]
abbrev u58_31:IC:=qK .skip u58_32 (.t 21) [5,21]
abbrev u58_30:IC:=qS [oK 22 5 .eql 9,oM 21 22] u58_31 [5]
abbrev u58_34:IC:=qS [oI 2 1,oI 3 1,oI 4 0] .ret []
abbrev u58_37:IC:=qS [oI 2 2,oI 3 1,oI 4 6] .ret []
abbrev u58_40:IC:=qS [oI 2 0,oI 3 0,oI 4 7] .ret []
abbrev u58_43:IC:=qS [oI 2 1,oI 3 0,oI 4 7] .ret []
abbrev u58_46:IC:=qS [oI 2 1,oI 3 1,oI 4 7] .ret []
abbrev u58_49:IC:=qS [oI 2 1,oI 3 0,oI 4 0] .ret []
abbrev u58_55:IC:=qE [oK 37 5 .eql 18,oM 34 37] [5]
abbrev u58_54:IC:=qK .skip u58_55 (.t 34) [5,34]
abbrev u58_53:IC:=qS [oK 36 5 .eql 17,oM 34 36] u58_54 [5]
abbrev u58_52:IC:=qK .skip u58_53 (.t 34) [5,34]
abbrev u58_51:IC:=qS [oK 35 5 .eql 16,oM 34 35] u58_52 [5]
abbrev u58_57:IC:=qS [oI 2 0,oI 3 0,oI 4 8] .ret []
abbrev u58_60:IC:=qS [oI 2 1,oI 3 0,oI 4 9] .ret []
abbrev u58_63:IC:=qS [oI 2 2,oI 3 0,oI 4 9] .ret []
abbrev u58_66:IC:=qS [oI 2 1,oI 3 0,oI 4 5] .ret []
abbrev u58_69:IC:=qS [oI 2 0,oI 3 0,oI 4 5] .ret []
abbrev u58_73:IC:=qE [oK 48 5 .eql 24,oM 46 48] [5]
abbrev u58_72:IC:=qK .skip u58_73 (.t 46) [5,46]
abbrev u58_71:IC:=qS [oK 47 5 .eql 23,oM 46 47] u58_72 [5]
abbrev u58_75:IC:=qS [oI 2 0,oI 3 0,oI 4 4] .ret []
abbrev u58_78:IC:=qS [oI 2 0,oI 3 0,oI 4 10] .ret []
abbrev u58_84:IC:=qE [oK 54 5 .eql 28,oM 51 54] [5]
abbrev u58_83:IC:=qK .skip u58_84 (.t 51) [5,51]
abbrev u58_82:IC:=qS [oK 53 5 .eql 27,oM 51 53] u58_83 [5]
abbrev u58_81:IC:=qK .skip u58_82 (.t 51) [5,51]
abbrev u58_80:IC:=qS [oK 52 5 .eql 26,oM 51 52] u58_81 [5]
abbrev u58_86:IC:=qS [oI 2 0,oI 3 0,oI 4 9] .ret []
abbrev u58_89:IC:=qS [oI 2 1,oI 3 0,oI 4 11] .ret []
abbrev u58_93:IC:=qE [oK 59 5 .eql 31,oM 57 59] [5]
abbrev u58_92:IC:=qK .skip u58_93 (.t 57) [5,57]
abbrev u58_91:IC:=qS [oK 58 5 .eql 30,oM 57 58] u58_92 [5]
abbrev u58_95:IC:=qS [oI 2 0,oI 3 0,oI 4 0] .ret []
abbrev u58_94:IC:=qK u58_95 .skip (.t 57) [57]
abbrev u58_90:IC:=qQ u58_91 u58_94 [5]
abbrev u58_88:IC:=qK u58_89 u58_90 (.t 55) [5,55]
abbrev u58_87:IC:=qS [oK 56 5 .eql 29,oM 55 56] u58_88 [5]
abbrev u58_85:IC:=qK u58_86 u58_87 (.t 51) [5,51]
abbrev u58_79:IC:=qQ u58_80 u58_85 [5]
abbrev u58_77:IC:=qK u58_78 u58_79 (.t 49) [5,49]
abbrev u58_76:IC:=qS [oK 50 5 .eql 25,oM 49 50] u58_77 [5]
abbrev u58_74:IC:=qK u58_75 u58_76 (.t 46) [5,46]
abbrev u58_70:IC:=qQ u58_71 u58_74 [5]
abbrev u58_68:IC:=qK u58_69 u58_70 (.t 44) [5,44]
abbrev u58_67:IC:=qS [oK 45 5 .eql 22,oM 44 45] u58_68 [5]
abbrev u58_65:IC:=qK u58_66 u58_67 (.t 42) [5,42]
abbrev u58_64:IC:=qS [oK 43 5 .eql 21,oM 42 43] u58_65 [5]
abbrev u58_62:IC:=qK u58_63 u58_64 (.t 40) [5,40]
abbrev u58_61:IC:=qS [oK 41 5 .eql 20,oM 40 41] u58_62 [5]
abbrev u58_59:IC:=qK u58_60 u58_61 (.t 38) [5,38]
abbrev u58_58:IC:=qS [oK 39 5 .eql 19,oM 38 39] u58_59 [5]
abbrev u58_56:IC:=qK u58_57 u58_58 (.t 34) [5,34]
abbrev u58_50:IC:=qQ u58_51 u58_56 [5]
abbrev u58_48:IC:=qK u58_49 u58_50 (.t 32) [5,32]
abbrev u58_47:IC:=qS [oK 33 5 .eql 15,oM 32 33] u58_48 [5]
abbrev u58_45:IC:=qK u58_46 u58_47 (.t 30) [5,30]
abbrev u58_44:IC:=qS [oK 31 5 .eql 14,oM 30 31] u58_45 [5]
abbrev u58_42:IC:=qK u58_43 u58_44 (.t 28) [5,28]
abbrev u58_41:IC:=qS [oK 29 5 .eql 13,oM 28 29] u58_42 [5]
abbrev u58_39:IC:=qK u58_40 u58_41 (.t 26) [5,26]
abbrev u58_38:IC:=qS [oK 27 5 .eql 12,oM 26 27] u58_39 [5]
abbrev u58_36:IC:=qK u58_37 u58_38 (.t 24) [5,24]
abbrev u58_35:IC:=qS [oK 25 5 .eql 11,oM 24 25] u58_36 [5]
abbrev u58_33:IC:=qK u58_34 u58_35 (.t 21) [5,21]
abbrev u58_29:IC:=qQ u58_30 u58_33 [5]
abbrev u58_27:IC:=qK u58_28 u58_29 (.t 18) [5,18]
abbrev u58_23:IC:=qQ u58_24 u58_27 [5]
abbrev u58_21:IC:=qK u58_22 u58_23 (.t 16) [5,16]
abbrev u58_20:IC:=qS [oK 17 5 .eql 6,oM 16 17] u58_21 [5]
abbrev u58_18:IC:=qK u58_19 u58_20 (.t 14) [5,14]
abbrev u58_17:IC:=qS [oK 15 5 .eql 5,oM 14 15] u58_18 [5]
abbrev u58_15:IC:=qK u58_16 u58_17 (.t 12) [5,12]
abbrev u58_14:IC:=qS [oK 13 5 .eql 4,oM 12 13] u58_15 [5]
abbrev u58_12:IC:=qK u58_13 u58_14 (.t 10) [5,10]
abbrev u58_11:IC:=qS [oK 11 5 .eql 3,oM 10 11] u58_12 [5]
abbrev u58_9:IC:=qK u58_10 u58_11 (.t 8) [5,8]
abbrev u58_8:IC:=qS [oK 9 5 .eql 2,oM 8 9] u58_9 [5]
abbrev u58_6:IC:=qK u58_7 u58_8 (.t 6) [5,6]
abbrev u58_5:IC:=qS [oK 7 5 .eql 1,oM 6 7] u58_6 [5]
abbrev u58_4:IC:=qJ u58_5 0 [5]
abbrev u58_3:IC:=qS [oM 5 0] u58_4 [0]
abbrev u58_96:IC:=qS [oI 2 0,oI 3 0,oI 4 (-1)] .ret []
abbrev u58_2:IC:=qQ u58_3 u58_96 [0]
abbrev u58_1:IC:=qS [oI 2 0,oI 3 0,oI 4 0] u58_2 [0]
def u58:IFn:=⟨60,u58_1,[.tmp 2,.tmp 3,.tmp 4]⟩
end
theorem isU58:IsFn Tryd.prog 58 u58:=by unfold IsFn;kernel_rfl
section
abbrev u60_7:IC:=qK .skip (.exit 0) (.t 7) [0,3,7]
abbrev u60_6:IC:=qS [oM 4 3,oM 5 0,oP 6 (.lens (.t 5)),oB 7 4 6 .lss] u60_7 [0,3]
abbrev u60_11:IC:=qS [oV 2 (.bool false)] .ret []
abbrev u60_10:IC:=qK u60_11 .skip (.t 19) [0,3,19]
abbrev u60_9:IC:=qS [oM 10 0,oM 11 3,oP 12 (.idx (.t 10) (.t 11)),oP 13 (.bin .lss (.t 12) (.k (.int .u8 32))),oM 14 13,hM 15 0 14,hM 16 3 14,oR 17 (.idx (.t 15) (.t 16)) 14,oR 18 (.bin .gtr (.t 17) (.k (.int .u8 126))) 14,oO 19 14 18] u60_10 [0,3]
abbrev u60_12:IC:=qE [oM 8 3,oK 9 8 .add 1,oM 3 9] [0,3]
abbrev u60_8:IC:=qB u60_9 u60_12 1 [0,3]
abbrev u60_5:IC:=qQ u60_6 u60_8 [0,3]
abbrev u60_4:IC:=qJ (.loop u60_5) 0 [0,3]
abbrev u60_3:IC:=qS [oI 3 0] u60_4 [0]
abbrev u60_13:IC:=qS [oM 20 0,oP 21 (.lens (.t 20)),oK 22 21 .leq 32,oM 2 22] .ret [0]
abbrev u60_2:IC:=qQ u60_3 u60_13 [0]
abbrev u60_1:IC:=qS [oV 2 (.bool false)] u60_2 [0]
def u60:IFn:=⟨23,u60_1,[.tmp 2]⟩
end
theorem isU60:IsFn Tryd.prog 60 u60:=by unfold IsFn;kernel_rfl
section
abbrev u61_5:IC:=qS [oV 4 (.bool false)] .ret []
abbrev u61_4:IC:=qK u61_5 .skip (.t 12) [2,3,12]
abbrev u61_3:IC:=qS [oF 5 3 0,oL 6 5,oF 7 2 3,oL 8 7,oH 9 8,oK 10 9 .sub 1,oC 11 45 [.t 6,.k (.int .i64 0),.t 10],oY 12 11] u61_4 [2,3]
abbrev u61_12:IC:=qE [oK 17 14 .eql 2,oM 15 17] [2,3,14]
abbrev u61_11:IC:=qK .skip u61_12 (.t 15) [2,3,14,15]
abbrev u61_10:IC:=qS [oK 16 14 .eql 1,oM 15 16] u61_11 [2,3,14]
abbrev u61_14:IC:=qS [oF 18 3 2,oL 19 18,oK 20 19 .eql 0,oM 4 20] .ret [3]
abbrev u61_18:IC:=qE [oK 23 14 .eql 4,oM 21 23] [2,3,14]
abbrev u61_17:IC:=qK .skip u61_18 (.t 21) [2,3,14,21]
abbrev u61_16:IC:=qS [oK 22 14 .eql 3,oM 21 22] u61_17 [2,3,14]
abbrev u61_20:IC:=qS [oF 24 3 2,oL 25 24,oC 26 45 [.t 25,.k (.int .i64 0),.k (.int .i64 63)],oM 4 26] .ret [3]
abbrev u61_23:IC:=qS [oF 29 3 2,oL 30 29,oF 31 2 5,oL 32 31,oK 33 32 .sub 1,oC 34 45 [.t 30,.k (.int .i64 0),.t 33],oM 4 34] .ret [2,3]
abbrev u61_26:IC:=qS [oF 37 3 2,oL 38 37,oF 39 2 6,oL 40 39,oK 41 40 .sub 1,oC 42 45 [.t 38,.k (.int .i64 0),.t 41],oM 4 42] .ret [2,3]
abbrev u61_25:IC:=qK u61_26 .skip (.t 35) [2,3,35]
abbrev u61_24:IC:=qS [oK 36 14 .eql 6,oM 35 36] u61_25 [2,3,14]
abbrev u61_22:IC:=qK u61_23 u61_24 (.t 27) [2,3,14,27]
abbrev u61_21:IC:=qS [oK 28 14 .eql 5,oM 27 28] u61_22 [2,3,14]
abbrev u61_19:IC:=qK u61_20 u61_21 (.t 21) [2,3,14,21]
abbrev u61_15:IC:=qQ u61_16 u61_19 [2,3,14]
abbrev u61_13:IC:=qK u61_14 u61_15 (.t 15) [2,3,14,15]
abbrev u61_9:IC:=qQ u61_10 u61_13 [2,3,14]
abbrev u61_8:IC:=qJ u61_9 0 [2,3,14]
abbrev u61_7:IC:=qS [oF 13 3 1,oL 14 13] u61_8 [2,3]
abbrev u61_27:IC:=qS [oV 4 (.bool false)] .ret []
abbrev u61_6:IC:=qQ u61_7 u61_27 [2,3]
abbrev u61_2:IC:=qQ u61_3 u61_6 [2,3]
abbrev u61_1:IC:=qS [oX 2 0,oX 3 1,oV 4 (.bool false)] u61_2 [0,1]
def u61:IFn:=⟨43,u61_1,[.tmp 4]⟩
end
theorem isU61:IsFn Tryd.prog 61 u61:=by unfold IsFn;kernel_rfl
section
abbrev u62_8:IC:=qS [oF 18 3 1,oL 19 18,oK 20 19 .eql 0,oM 4 20] .ret [3]
abbrev u62_11:IC:=qS [oF 23 3 1,oL 24 23,oC 25 45 [.t 24,.k (.int .i64 (-2147483647)),.k (.int .i64 2147483647)],oM 4 25] .ret [3]
abbrev u62_14:IC:=qS [oF 28 3 1,oL 29 28,oF 30 2 4,oL 31 30,oH 32 31,oK 33 32 .sub 1,oC 34 45 [.t 29,.k (.int .i64 0),.t 33],oM 4 34] .ret [2,3]
abbrev u62_18:IC:=qE [oK 37 15 .eql 9,oM 35 37] [2,3,15]
abbrev u62_17:IC:=qK .skip u62_18 (.t 35) [2,3,15,35]
abbrev u62_16:IC:=qS [oK 36 15 .eql 3,oM 35 36] u62_17 [2,3,15]
abbrev u62_20:IC:=qS [oF 38 3 1,oL 39 38,oC 40 45 [.t 39,.k (.int .i64 0),.k (.int .i64 63)],oM 4 40] .ret [3]
abbrev u62_23:IC:=qS [oF 43 3 1,oL 44 43,oF 45 2 3,oL 46 45,oH 47 46,oK 48 47 .sub 1,oC 49 45 [.t 44,.k (.int .i64 0),.t 48],oM 4 49] .ret [2,3]
abbrev u62_26:IC:=qS [oF 52 3 1,oL 53 52,oF 54 2 5,oL 55 54,oK 56 55 .sub 1,oC 57 45 [.t 53,.k (.int .i64 0),.t 56],oM 4 57] .ret [2,3]
abbrev u62_29:IC:=qS [oF 60 3 1,oL 61 60,oC 62 45 [.t 61,.k (.int .i64 12),.k (.int .i64 24)],oM 4 62] .ret [3]
abbrev u62_32:IC:=qS [oV 4 (.bool true)] .ret []
abbrev u62_35:IC:=qS [oF 67 3 1,oL 68 67,oC 69 45 [.t 68,.k (.int .i64 0),.k (.int .i64 31)],oM 4 69] .ret [3]
abbrev u62_38:IC:=qS [oF 72 3 1,oL 73 72,oF 74 2 6,oL 75 74,oK 76 75 .sub 1,oC 77 45 [.t 73,.k (.int .i64 0),.t 76],oM 4 77] .ret [2,3]
abbrev u62_41:IC:=qS [oF 80 3 1,oL 81 80,oF 82 2 1,oL 83 82,oH 84 83,oK 85 84 .sub 1,oC 86 45 [.t 81,.k (.int .i64 0),.t 85],oM 4 86] .ret [2,3]
abbrev u62_40:IC:=qK u62_41 .skip (.t 78) [2,3,78]
abbrev u62_39:IC:=qS [oK 79 15 .eql 11,oM 78 79] u62_40 [2,3,15]
abbrev u62_37:IC:=qK u62_38 u62_39 (.t 70) [2,3,15,70]
abbrev u62_36:IC:=qS [oK 71 15 .eql 10,oM 70 71] u62_37 [2,3,15]
abbrev u62_34:IC:=qK u62_35 u62_36 (.t 65) [2,3,15,65]
abbrev u62_33:IC:=qS [oK 66 15 .eql 8,oM 65 66] u62_34 [2,3,15]
abbrev u62_31:IC:=qK u62_32 u62_33 (.t 63) [2,3,15,63]
abbrev u62_30:IC:=qS [oK 64 15 .eql 7,oM 63 64] u62_31 [2,3,15]
abbrev u62_28:IC:=qK u62_29 u62_30 (.t 58) [2,3,15,58]
abbrev u62_27:IC:=qS [oK 59 15 .eql 6,oM 58 59] u62_28 [2,3,15]
abbrev u62_25:IC:=qK u62_26 u62_27 (.t 50) [2,3,15,50]
abbrev u62_24:IC:=qS [oK 51 15 .eql 5,oM 50 51] u62_25 [2,3,15]
abbrev u62_22:IC:=qK u62_23 u62_24 (.t 41) [2,3,15,41]
abbrev u62_21:IC:=qS [oK 42 15 .eql 4,oM 41 42] u62_22 [2,3,15]
abbrev u62_19:IC:=qK u62_20 u62_21 (.t 35) [2,3,15,35]
abbrev u62_15:IC:=qQ u62_16 u62_19 [2,3,15]
abbrev u62_13:IC:=qK u62_14 u62_15 (.t 26) [2,3,15,26]
abbrev u62_12:IC:=qS [oK 27 15 .eql 2,oM 26 27] u62_13 [2,3,15]
abbrev u62_10:IC:=qK u62_11 u62_12 (.t 21) [2,3,15,21]
abbrev u62_9:IC:=qS [oK 22 15 .eql 1,oM 21 22] u62_10 [2,3,15]
abbrev u62_7:IC:=qK u62_8 u62_9 (.t 16) [2,3,15,16]
abbrev u62_6:IC:=qS [oK 17 15 .eql 0,oM 16 17] u62_7 [2,3,15]
abbrev u62_5:IC:=qJ u62_6 0 [2,3,15]
abbrev u62_4:IC:=qS [oM 15 7] u62_5 [2,3,7]
abbrev u62_42:IC:=qS [oV 4 (.bool false)] .ret []
abbrev u62_3:IC:=qQ u62_4 u62_42 [2,3,7]
abbrev u62_2:IC:=qS [oF 9 3 0,oL 10 9,oC 11 58 [.t 10],oM 8 11,oE 12 8 0,oE 13 8 1,oE 14 8 2,oM 5 12,oM 6 13,oM 7 14] u62_3 [2,3]
abbrev u62_1:IC:=qS [oX 2 0,oX 3 1,oV 4 (.bool false)] u62_2 [0,1]
def u62:IFn:=⟨87,u62_1,[.tmp 4]⟩
end
theorem isU62:IsFn Tryd.prog 62 u62:=by unfold IsFn;kernel_rfl
section
abbrev u46_7:IC:=qK .skip (.exit 0) (.t 12) [1,3,12]
abbrev u46_6:IC:=qS [oM 8 3,oF 9 1 1,oL 10 9,oH 11 10,oB 12 8 11 .lss] u46_7 [1,3]
abbrev u46_11:IC:=qS [oV 2 (.bool false)] .ret []
abbrev u46_10:IC:=qK u46_11 .skip (.t 21) [1,3,21]
abbrev u46_9:IC:=qS [oF 15 1 1,oL 16 15,oM 17 3,oA 18 16 17 1,oL 19 18,oC 20 60 [.t 19],oY 21 20] u46_10 [1,3]
abbrev u46_12:IC:=qE [oM 13 3,oK 14 13 .add 1,oM 3 14] [1,3]
abbrev u46_8:IC:=qB u46_9 u46_12 1 [1,3]
abbrev u46_5:IC:=qQ u46_6 u46_8 [1,3]
abbrev u46_4:IC:=qJ (.loop u46_5) 0 [1,3]
abbrev u46_3:IC:=qS [oI 3 0] u46_4 [1]
abbrev u46_18:IC:=qK .skip (.exit 2) (.t 26) [1,4,26]
abbrev u46_17:IC:=qS [oM 22 4,oF 23 1 3,oL 24 23,oH 25 24,oB 26 22 25 .lss] u46_18 [1,4]
abbrev u46_22:IC:=qS [oV 2 (.bool false)] .ret []
abbrev u46_21:IC:=qK u46_22 .skip (.t 35) [1,4,35]
abbrev u46_20:IC:=qS [oF 29 1 3,oL 30 29,oM 31 4,oA 32 30 31 1,oL 33 32,oC 34 45 [.t 33,.k (.int .i64 0),.k (.int .i64 99)],oY 35 34] u46_21 [1,4]
abbrev u46_23:IC:=qE [oM 27 4,oK 28 27 .add 1,oM 4 28] [1,4]
abbrev u46_19:IC:=qB u46_20 u46_23 3 [1,4]
abbrev u46_16:IC:=qQ u46_17 u46_19 [1,4]
abbrev u46_15:IC:=qJ (.loop u46_16) 2 [1,4]
abbrev u46_14:IC:=qS [oI 4 0] u46_15 [1]
abbrev u46_29:IC:=qK .skip (.exit 4) (.t 40) [1,5,40]
abbrev u46_28:IC:=qS [oM 36 5,oF 37 1 4,oL 38 37,oH 39 38,oB 40 36 39 .lss] u46_29 [1,5]
abbrev u46_33:IC:=qS [oV 2 (.bool false)] .ret []
abbrev u46_32:IC:=qK u46_33 .skip (.t 49) [1,5,49]
abbrev u46_31:IC:=qS [oF 43 1 4,oL 44 43,oM 45 5,oA 46 44 45 1,oL 47 46,oC 48 45 [.t 47,.k (.int .i64 (-2147483647)),.k (.int .i64 2147483647)],oY 49 48] u46_32 [1,5]
abbrev u46_34:IC:=qE [oM 41 5,oK 42 41 .add 1,oM 5 42] [1,5]
abbrev u46_30:IC:=qB u46_31 u46_34 5 [1,5]
abbrev u46_27:IC:=qQ u46_28 u46_30 [1,5]
abbrev u46_26:IC:=qJ (.loop u46_27) 4 [1,5]
abbrev u46_25:IC:=qS [oI 5 0] u46_26 [1]
abbrev u46_40:IC:=qK .skip (.exit 6) (.t 54) [1,6,54]
abbrev u46_39:IC:=qS [oM 50 6,oF 51 1 2,oL 52 51,oH 53 52,oB 54 50 53 .lss] u46_40 [1,6]
abbrev u46_44:IC:=qS [oV 2 (.bool false)] .ret []
abbrev u46_43:IC:=qK u46_44 .skip (.t 64) [1,6,64]
abbrev u46_42:IC:=qP [oD 57 1 7,oF 58 1 2,oL 59 58,oM 60 6,oA 61 59 60 4,oD 62 61 4,oC 63 61 [.t 57,.t 62],oY 64 63] u46_43 0 8 [1,6]
abbrev u46_45:IC:=qE [oM 55 6,oK 56 55 .add 1,oM 6 56] [1,6]
abbrev u46_41:IC:=qB u46_42 u46_45 7 [1,6]
abbrev u46_38:IC:=qQ u46_39 u46_41 [1,6]
abbrev u46_37:IC:=qJ (.loop u46_38) 6 [1,6]
abbrev u46_36:IC:=qS [oI 6 0] u46_37 [1]
abbrev u46_51:IC:=qK .skip (.exit 8) (.t 69) [1,7,69]
abbrev u46_50:IC:=qS [oM 65 7,oF 66 1 0,oL 67 66,oH 68 67,oB 69 65 68 .lss] u46_51 [1,7]
abbrev u46_55:IC:=qS [oV 2 (.bool false)] .ret []
abbrev u46_54:IC:=qK u46_55 .skip (.t 79) [1,7,79]
abbrev u46_53:IC:=qP [oD 72 1 7,oF 73 1 0,oL 74 73,oM 75 7,oA 76 74 75 2,oD 77 76 2,oC 78 62 [.t 72,.t 77],oY 79 78] u46_54 0 8 [1,7]
abbrev u46_56:IC:=qE [oM 70 7,oK 71 70 .add 1,oM 7 71] [1,7]
abbrev u46_52:IC:=qB u46_53 u46_56 9 [1,7]
abbrev u46_49:IC:=qQ u46_50 u46_52 [1,7]
abbrev u46_48:IC:=qJ (.loop u46_49) 8 [1,7]
abbrev u46_47:IC:=qS [oI 7 0] u46_48 [1]
abbrev u46_57:IC:=qS [oV 2 (.bool true)] .ret []
abbrev u46_46:IC:=qQ u46_47 u46_57 [1]
abbrev u46_35:IC:=qQ u46_36 u46_46 [1]
abbrev u46_24:IC:=qQ u46_25 u46_35 [1]
abbrev u46_13:IC:=qQ u46_14 u46_24 [1]
abbrev u46_2:IC:=qQ u46_3 u46_13 [1]
abbrev u46_1:IC:=qS [oX 1 0,oV 2 (.bool false)] u46_2 [0]
def u46:IFn:=⟨80,u46_1,[.tmp 2]⟩
end
theorem isU46:IsFn Tryd.prog 46 u46:=by unfold IsFn;kernel_rfl
section
abbrev u47_7:IC:=qK .skip (.exit 0) (.t 12) [1,3,12]
abbrev u47_6:IC:=qS [oM 8 3,oF 9 1 0,oL 10 9,oH 11 10,oB 12 8 11 .lss] u47_7 [1,3]
abbrev u47_12:IC:=qS [oV 2 (.bool false)] .ret []
abbrev u47_11:IC:=qK u47_12 .skip (.t 41) [1,3,41]
abbrev u47_10:IC:=qP [oM 26 6,oK 27 26 .eql 7,oM 28 27,gF 29 1 0 28,gL 30 29 28,gM 31 3 28,oG 32 (.iad 2 (.t 30) (.t 31)) 28,gF 33 32 1 28,gL 34 33 28,gF 35 1 0 28,gL 36 35 28,oG 37 (.len (.t 36)) 28,gK 38 37 28 .sub 1,⟨some 39,.call 45 [.t 34,.k (.int .i64 0),.t 38],some (28,true)⟩,oG 40 (.un .not (.t 39)) 28,oJ 41 28 40] u47_11 0 16 [1,3,6]
abbrev u47_9:IC:=qS [oF 16 1 0,oL 17 16,oM 18 3,oA 19 17 18 2,oF 20 19 0,oL 21 20,oC 22 58 [.t 21],oM 15 22,oE 23 15 0,oE 24 15 1,oE 25 15 2,oM 4 23,oM 5 24,oM 6 25] u47_10 [1,3]
abbrev u47_13:IC:=qE [oM 13 3,oK 14 13 .add 1,oM 3 14] [1,3]
abbrev u47_8:IC:=qB u47_9 u47_13 1 [1,3]
abbrev u47_5:IC:=qQ u47_6 u47_8 [1,3]
abbrev u47_4:IC:=qJ (.loop u47_5) 0 [1,3]
abbrev u47_3:IC:=qS [oI 3 0] u47_4 [1]
abbrev u47_19:IC:=qK .skip (.exit 2) (.t 46) [1,7,46]
abbrev u47_18:IC:=qS [oM 42 7,oF 43 1 2,oL 44 43,oH 45 44,oB 46 42 45 .lss] u47_19 [1,7]
abbrev u47_23:IC:=qS [oV 2 (.bool false)] .ret []
abbrev u47_22:IC:=qK u47_23 .skip (.t 60) [1,7,60]
abbrev u47_21:IC:=qP [oF 49 1 2,oL 50 49,oM 51 7,oA 52 50 51 4,oF 53 52 3,oL 54 53,oF 55 1 0,oL 56 55,oH 57 56,oK 58 57 .sub 1,oC 59 45 [.t 54,.k (.int .i64 0),.t 58],oY 60 59] u47_22 0 12 [1,7]
abbrev u47_24:IC:=qE [oM 47 7,oK 48 47 .add 1,oM 7 48] [1,7]
abbrev u47_20:IC:=qB u47_21 u47_24 3 [1,7]
abbrev u47_17:IC:=qQ u47_18 u47_20 [1,7]
abbrev u47_16:IC:=qJ (.loop u47_17) 2 [1,7]
abbrev u47_15:IC:=qS [oI 7 0] u47_16 [1]
abbrev u47_25:IC:=qS [oV 2 (.bool true)] .ret []
abbrev u47_14:IC:=qQ u47_15 u47_25 [1]
abbrev u47_2:IC:=qQ u47_3 u47_14 [1]
abbrev u47_1:IC:=qS [oX 1 0,oV 2 (.bool false)] u47_2 [0]
def u47:IFn:=⟨61,u47_1,[.tmp 2]⟩
end
theorem isU47:IsFn Tryd.prog 47 u47:=by unfold IsFn;kernel_rfl
section
abbrev u59_8:IC:=qS [oV 6 (.slice none 0 0)] .ret []
abbrev u59_11:IC:=qS [oF 23 3 1,oL 24 23,oM 25 2,oP 26 (.bld #[.int .i64 0,.int .i64 0] [(0,1),(1,1)] [(0,.t 24),(1,.t 25)]),⟨some 27,.new (.bsl 2 1 #[.int .i64 0,.int .i64 0] [(0,.t 26)]),none⟩,oM 6 27] .ret [2,3]
abbrev u59_14:IC:=qS [oM 30 1,oK 31 30 .add 1,oM 32 2,oK 33 32 .sub 1,oP 34 (.bld #[.int .i64 0,.int .i64 0] [(0,1),(1,1)] [(0,.t 31),(1,.t 33)]),oF 35 3 1,oL 36 35,oM 37 2,oK 38 37 .sub 1,oP 39 (.bld #[.int .i64 0,.int .i64 0] [(0,1),(1,1)] [(0,.t 36),(1,.t 38)]),⟨some 40,.new (.bsl 2 2 #[.int .i64 0,.int .i64 0] [(0,.t 34),(1,.t 39)]),none⟩,oM 6 40] .ret [1,2,3]
abbrev u59_17:IC:=qS [oM 43 1,oK 44 43 .add 1,oM 45 2,oP 46 (.bld #[.int .i64 0,.int .i64 0] [(0,1),(1,1)] [(0,.t 44),(1,.t 45)]),oF 47 3 1,oL 48 47,oM 49 2,oK 50 49 .sub 1,oP 51 (.bld #[.int .i64 0,.int .i64 0] [(0,1),(1,1)] [(0,.t 48),(1,.t 50)]),⟨some 52,.new (.bsl 2 2 #[.int .i64 0,.int .i64 0] [(0,.t 46),(1,.t 51)]),none⟩,oM 6 52] .ret [1,2,3]
abbrev u59_16:IC:=qK u59_17 .skip (.t 41) [1,2,3,7,8,41]
abbrev u59_15:IC:=qS [oK 42 18 .eql 14,oM 41 42] u59_16 [1,2,3,7,8,18]
abbrev u59_13:IC:=qK u59_14 u59_15 (.t 28) [1,2,3,7,8,18,28]
abbrev u59_12:IC:=qS [oK 29 18 .eql 13,oM 28 29] u59_13 [1,2,3,7,8,18]
abbrev u59_10:IC:=qK u59_11 u59_12 (.t 21) [1,2,3,7,8,18,21]
abbrev u59_9:IC:=qS [oK 22 18 .eql 12,oM 21 22] u59_10 [1,2,3,7,8,18]
abbrev u59_7:IC:=qK u59_8 u59_9 (.t 19) [1,2,3,7,8,18,19]
abbrev u59_6:IC:=qS [oK 20 18 .eql 31,oM 19 20] u59_7 [1,2,3,7,8,18]
abbrev u59_5:IC:=qJ u59_6 0 [1,2,3,7,8,18]
abbrev u59_4:IC:=qS [oF 17 3 0,oL 18 17] u59_5 [1,2,3,7,8]
abbrev u59_18:IC:=qS [oM 53 1,oK 54 53 .add 1,oM 55 2,oM 56 7,oB 57 55 56 .sub,oM 58 8,oB 59 57 58 .add,oP 60 (.bld #[.int .i64 0,.int .i64 0] [(0,1),(1,1)] [(0,.t 54),(1,.t 59)]),⟨some 61,.new (.bsl 2 1 #[.int .i64 0,.int .i64 0] [(0,.t 60)]),none⟩,oM 6 61] .ret [1,2,7,8]
abbrev u59_3:IC:=qQ u59_4 u59_18 [1,2,3,7,8]
abbrev u59_2:IC:=qS [oF 11 3 0,oL 12 11,oC 13 58 [.t 12],oM 10 13,oE 14 10 0,oE 15 10 1,oE 16 10 2,oM 7 14,oM 8 15,oM 9 16] u59_3 [1,2,3]
abbrev u59_1:IC:=qS [oX 3 0,oV 6 (.slice none 0 0)] u59_2 [0,1,2]
def u59:IFn:=⟨62,u59_1,[.tmp 6]⟩
end
theorem isU59:IsFn Tryd.prog 59 u59:=by unfold IsFn;kernel_rfl
section
abbrev u44_8:IC:=qK .skip (.exit 0) (.t 20) [1,4,5,20]
abbrev u44_7:IC:=qS [oM 17 5,oM 18 4,oH 19 18,oB 20 17 19 .lss] u44_8 [1,4,5]
abbrev u44_10:IC:=qE [oM 23 4,oM 24 5,oA 25 23 24 1,⟨none,.eff (.st 1 (.t 25) (.k (.int .i64 (-1)))),none⟩] [1,4,5]
abbrev u44_11:IC:=qE [oM 21 5,oK 22 21 .add 1,oM 5 22] [1,4,5]
abbrev u44_9:IC:=qB u44_10 u44_11 1 [1,4,5]
abbrev u44_6:IC:=qQ u44_7 u44_9 [1,4,5]
abbrev u44_5:IC:=qJ (.loop u44_6) 0 [1,4,5]
abbrev u44_4:IC:=qS [oI 5 0] u44_5 [1,4]
abbrev u44_18:IC:=qK .skip (.exit 2) (.t 30) [1,4,6,7,30]
abbrev u44_17:IC:=qS [oM 26 7,oF 27 1 2,oL 28 27,oH 29 28,oB 30 26 29 .lss] u44_18 [1,4,6,7]
abbrev u44_20:IC:=qE [oM 33 6,oF 34 1 2,oL 35 34,oM 36 7,oA 37 35 36 4,oF 38 37 3,oL 39 38,oP 40 (.bld #[.int .i64 0,.int .i64 0] [(0,1),(1,1)] [(0,.t 39),(1,.k (.int .i64 0))]),⟨some 41,.new (.bsl 2 1 #[.int .i64 0,.int .i64 0] [(0,.t 40)]),none⟩,oT 42 33 41 2 16,oM 6 42] [1,4,6,7]
abbrev u44_21:IC:=qE [oM 31 7,oK 32 31 .add 1,oM 7 32] [1,4,6,7]
abbrev u44_19:IC:=qB u44_20 u44_21 3 [1,4,6,7]
abbrev u44_16:IC:=qQ u44_17 u44_19 [1,4,6,7]
abbrev u44_15:IC:=qJ (.loop u44_16) 2 [1,4,6,7]
abbrev u44_14:IC:=qS [oI 7 0] u44_15 [1,4,6]
abbrev u44_25:IC:=qK .skip (.exit 4) (.t 45) [1,4,6,45]
abbrev u44_24:IC:=qS [oM 43 6,oH 44 43,oK 45 44 .gtr 0] u44_25 [1,4,6]
abbrev u44_32:IC:=qS [oV 2 (.slice none 0 0),oV 3 (.bool false)] .ret []
abbrev u44_31:IC:=qK u44_32 .skip (.t 66) [1,4,6,8,66]
abbrev u44_30:IC:=qS [oF 57 8 0,oL 58 57,oM 59 4,oH 60 59,oB 61 58 60 .geq,oM 62 61,hF 63 8 1 62,hL 64 63 62,hK 65 64 62 .gtr 48,oO 66 62 65] u44_31 [1,4,6,8]
abbrev u44_39:IC:=qS [oV 2 (.slice none 0 0),oV 3 (.bool false)] .ret []
abbrev u44_38:IC:=qK u44_39 .skip (.t 80) [1,4,6,80]
abbrev u44_37:IC:=qP [oM 73 4,oF 74 8 0,oL 75 74,oA 76 73 75 1,oL 77 76,oF 78 8 1,oL 79 78,oB 80 77 79 .neq] u44_38 0 8 [1,4,6,8]
abbrev u44_36:IC:=qQ u44_37 (.exit 5) [1,4,6,8]
abbrev u44_35:IC:=qK u44_36 .skip (.t 72) [1,4,6,8,72]
abbrev u44_34:IC:=qS [oM 67 4,oF 68 8 0,oL 69 68,oA 70 67 69 1,oL 71 70,oK 72 71 .geq 0] u44_35 [1,4,6,8]
abbrev u44_46:IC:=qS [oV 2 (.slice none 0 0),oV 3 (.bool false)] .ret []
abbrev u44_45:IC:=qK u44_46 .skip (.t 113) [1,4,6,8,9,113]
abbrev u44_44:IC:=qS [oM 100 10,oF 101 8 1,oL 102 101,oB 103 100 102 .gtr,oM 104 103,hF 105 9 0 104,hL 106 105 104,hK 107 106 104 .eql 31,hM 108 107 104,gF 109 8 1 108,gL 110 109 108,gK 111 110 108 .neq 0,oR 112 (.pick (.t 108) (.t 111) (.k (.bool false))) 104,oO 113 104 112] u44_45 [1,4,6,8,9,10]
abbrev u44_43:IC:=qS [oF 94 9 0,oL 95 94,oC 96 58 [.t 95],oM 93 96,oE 97 93 0,oE 98 93 1,oE 99 93 2,oM 10 97,oM 11 98,oM 12 99] u44_44 [1,4,6,8,9]
abbrev u44_47:IC:=qE [oM 114 6,oD 115 9 2,oF 116 8 0,oL 117 116,oF 118 8 1,oL 119 118,oC 120 59 [.t 115,.t 117,.t 119],oT 121 114 120 2 16,oM 6 121] [1,4,6,8,9]
abbrev u44_42:IC:=qQ u44_43 u44_47 [1,4,6,8,9]
abbrev u44_41:IC:=qS [oF 87 1 0,oL 88 87,oF 89 8 0,oL 90 89,oA 91 88 90 2,oD 92 91 2,oW 9 (.agg #[.int .i64 0,.int .i64 0]),oS 9 92 2] u44_42 [1,4,6,8]
abbrev u44_40:IC:=qS [oM 81 4,oF 82 8 0,oL 83 82,oF 84 8 1,oL 85 84,oA 86 81 83 1,oS 86 85 1] u44_41 [1,4,6,8]
abbrev u44_33:IC:=qQ u44_34 u44_40 [1,4,6,8]
abbrev u44_29:IC:=qQ u44_30 u44_33 [1,4,6,8]
abbrev u44_28:IC:=qS [oM 52 6,oM 53 6,oH 54 53,oK 55 54 .sub 1,oP 56 (.slc 2 (.t 52) none (some (.t 55))),oM 6 56] u44_29 [1,4,6,8]
abbrev u44_27:IC:=qS [oM 46 6,oM 47 6,oH 48 47,oK 49 48 .sub 1,oA 50 46 49 2,oD 51 50 2,oW 8 (.agg #[.int .i64 0,.int .i64 0]),oS 8 51 2] u44_28 [1,4,6]
abbrev u44_26:IC:=qJ u44_27 5 [1,4,6]
abbrev u44_23:IC:=qQ u44_24 u44_26 [1,4,6]
abbrev u44_48:IC:=qS [oM 122 4,oM 2 122,oV 3 (.bool true)] .ret [4]
abbrev u44_22:IC:=qB (.loop u44_23) u44_48 4 [1,4,6]
abbrev u44_13:IC:=qQ u44_14 u44_22 [1,4,6]
abbrev u44_12:IC:=qS [oV 6 (.slice none 0 0)] u44_13 [1,4]
abbrev u44_3:IC:=qQ u44_4 u44_12 [1,4]
abbrev u44_2:IC:=qS [oF 13 1 0,oL 14 13,oH 15 14,⟨some 16,.new (.msl 1 8 #[.int .i64 0] (.t 15) (.t 15)),none⟩,oM 4 16] u44_3 [1]
abbrev u44_1:IC:=qS [oX 1 0,oV 2 (.slice none 0 0),oV 3 (.bool false)] u44_2 [0]
def u44:IFn:=⟨123,u44_1,[.tmp 2,.tmp 3]⟩
end
theorem isU44:IsFn Tryd.prog 44 u44:=by unfold IsFn;kernel_rfl
section
abbrev u23_5:IC:=qS [oI 2 9] .ret []
abbrev u23_4:IC:=qK u23_5 .skip (.t 45) [1,45]
abbrev u23_3:IC:=qS [oF 6 1 0,oL 7 6,oH 8 7,oK 9 8 .gtr 4000,oM 10 9,hF 11 1 1 10,hL 12 11 10,oR 13 (.len (.t 12)) 10,hK 14 13 10 .gtr 200,oO 15 10 14,oM 16 15,hF 17 1 2 16,hL 18 17 16,oR 19 (.len (.t 18)) 16,hK 20 19 16 .gtr 512,oO 21 16 20,oM 22 21,hF 23 1 3 22,hL 24 23 22,oR 25 (.len (.t 24)) 22,hK 26 25 22 .gtr 16,oO 27 22 26,oM 28 27,hF 29 1 4 28,hL 30 29 28,oR 31 (.len (.t 30)) 28,hK 32 31 28 .gtr 128,oO 33 28 32,oM 34 33,hF 35 1 5 34,hL 36 35 34,⟨some 37,.call 45 [.t 36,.k (.int .i64 0),.k (.int .i64 128)],some (34,false)⟩,oR 38 (.un .not (.t 37)) 34,oO 39 34 38,oM 40 39,hF 41 1 6 40,hL 42 41 40,⟨some 43,.call 45 [.t 42,.k (.int .i64 0),.k (.int .i64 128)],some (40,false)⟩,oR 44 (.un .not (.t 43)) 40,oO 45 40 44] u23_4 [1]
abbrev u23_9:IC:=qS [oI 2 51] .ret []
abbrev u23_8:IC:=qK u23_9 .skip (.t 48) [1,48]
abbrev u23_7:IC:=qS [oD 46 1 7,oC 47 46 [.t 46],oY 48 47] u23_8 [1]
abbrev u23_13:IC:=qS [oI 2 54] .ret []
abbrev u23_12:IC:=qK u23_13 .skip (.t 51) [1,51]
abbrev u23_11:IC:=qS [oD 49 1 7,oC 50 47 [.t 49],oY 51 50] u23_12 [1]
abbrev u23_19:IC:=qK .skip (.exit 0) (.t 56) [1,3,56]
abbrev u23_18:IC:=qS [oM 52 3,oF 53 1 2,oL 54 53,oH 55 54,oB 56 52 55 .lss] u23_19 [1,3]
abbrev u23_23:IC:=qS [oI 2 66] .ret []
abbrev u23_22:IC:=qK u23_23 .skip (.t 71) [1,3,71]
abbrev u23_21:IC:=qP [oF 59 1 2,oL 60 59,oM 61 3,oK 62 61 .sub 1,oA 63 60 62 4,oD 64 63 4,oF 65 1 2,oL 66 65,oM 67 3,oA 68 66 67 4,oD 69 68 4,oC 70 48 [.t 64,.t 69],oY 71 70] u23_22 0 13 [1,3]
abbrev u23_24:IC:=qE [oM 57 3,oK 58 57 .add 1,oM 3 58] [1,3]
abbrev u23_20:IC:=qB u23_21 u23_24 1 [1,3]
abbrev u23_17:IC:=qQ u23_18 u23_20 [1,3]
abbrev u23_16:IC:=qJ (.loop u23_17) 0 [1,3]
abbrev u23_15:IC:=qS [oI 3 1] u23_16 [1]
abbrev u23_29:IC:=qS [oI 2 53] .ret []
abbrev u23_28:IC:=qK u23_29 .skip (.t 78) [78]
abbrev u23_27:IC:=qS [oM 77 5,oY 78 77] u23_28 [5]
abbrev u23_26:IC:=qS [oD 73 1 7,oC 74 44 [.t 73],oM 72 74,oE 75 72 0,oE 76 72 1,oM 4 75,oM 5 76] u23_27 [1]
abbrev u23_30:IC:=qS [oI 2 0] .ret []
abbrev u23_25:IC:=qQ u23_26 u23_30 [1]
abbrev u23_14:IC:=qQ u23_15 u23_25 [1]
abbrev u23_10:IC:=qQ u23_11 u23_14 [1]
abbrev u23_6:IC:=qQ u23_7 u23_10 [1]
abbrev u23_2:IC:=qQ u23_3 u23_6 [1]
abbrev u23_1:IC:=qS [oX 1 0,oI 2 0] u23_2 [0]
def u23:IFn:=⟨79,u23_1,[.tmp 2]⟩
end
theorem isU23:IsFn Tryd.prog 23 u23:=by unfold IsFn;kernel_rfl
section
abbrev u24_5:IC:=qS [oV 4 (.bool false)] .ret []
abbrev u24_4:IC:=qK u24_5 .skip (.t 10) [0,1,10]
abbrev u24_3:IC:=qS [oM 6 0,oH 7 6,oM 8 1,oH 9 8,oB 10 7 9 .neq] u24_4 [0,1]
abbrev u24_11:IC:=qK .skip (.exit 0) (.t 14) [0,1,5,14]
abbrev u24_10:IC:=qS [oM 11 5,oM 12 0,oH 13 12,oB 14 11 13 .lss] u24_11 [0,1,5]
abbrev u24_15:IC:=qS [oV 4 (.bool false)] .ret []
abbrev u24_14:IC:=qK u24_15 .skip (.t 25) [0,1,5,25]
abbrev u24_13:IC:=qP [oM 17 0,oM 18 5,oA 19 17 18 1,oL 20 19,oM 21 1,oM 22 5,oA 23 21 22 1,oL 24 23,oB 25 20 24 .neq] u24_14 0 9 [0,1,5]
abbrev u24_16:IC:=qE [oM 15 5,oK 16 15 .add 1,oM 5 16] [0,1,5]
abbrev u24_12:IC:=qB u24_13 u24_16 1 [0,1,5]
abbrev u24_9:IC:=qQ u24_10 u24_12 [0,1,5]
abbrev u24_8:IC:=qJ (.loop u24_9) 0 [0,1,5]
abbrev u24_7:IC:=qS [oI 5 0] u24_8 [0,1]
abbrev u24_17:IC:=qS [oV 4 (.bool true)] .ret []
abbrev u24_6:IC:=qQ u24_7 u24_17 [0,1]
abbrev u24_2:IC:=qQ u24_3 u24_6 [0,1]
abbrev u24_1:IC:=qS [oV 4 (.bool false)] u24_2 [0,1]
def u24:IFn:=⟨26,u24_1,[.tmp 4]⟩
end
theorem isU24:IsFn Tryd.prog 24 u24:=by unfold IsFn;kernel_rfl
end Go.Proofs.YtcallbfckjlagaaDoor
namespace Go.Proofs.YtcallbfckjlagaaDoor
open Go.Eng (IC IOper DReg IFn IsFn)
open Go.Sym Go.Pb
theorem c_in (n lo hi:Int):PC Tryd.prog 45 [I64 n,I64 lo,I64 hi] (.bool (inM n lo hi)):=by
 refine PC.of mixedU isU45 (Nat.le_of_ble_eq_true rfl) (by simp [DV.nlL,DV.nl,nlL_ints,nlL_strs,nlL_instrs,nlL_entries,nlL_stp]) (by simp [DV.nlL,DV.nl,nlL_ints,nlL_strs,nlL_instrs,nlL_entries,nlL_stp]) ?_
 show IW Tryd.prog 15 u45_1 ⟨argT _,_,_⟩ (rt [.tmp 6] _)
 repeat' ((with_reducible first|refine wr ?_|refine wb2 ?_ ?_<;>(intro hb;try simp only [hb])|fail)<;>try simp only [go_sem,seval])
 all_goals (refine pc_ret ?_;simp_all [inM]<;>omega)
theorem c_less (a b:Ent):PC Tryd.prog 48 [a.v,b.v] (.bool (lessM a b)):=by
 refine PC.of mixedU isU48 (Nat.le_of_ble_eq_true rfl) (by simp [DV.nlL,DV.nl,nlL_ints,nlL_strs,nlL_instrs,nlL_entries,nlL_stp]) (by simp [DV.nlL,DV.nl,nlL_ints,nlL_strs,nlL_instrs,nlL_entries,nlL_stp]) ?_
 show IW Tryd.prog 30 u48_1 ⟨argT _,_,_⟩ (rt [.tmp 4] _)
 repeat' ((with_reducible first|refine wr ?_|refine wb2 ?_ ?_<;>(intro hb;try simp only [hb])|fail)<;>try simp only [go_sem,seval])
 all_goals (refine pc_ret ?_;simp_all [lessM])
theorem c_eff (op:Int):PC Tryd.prog 58 [I64 op] (.tup [I64 (effM op).1,I64 (effM op).2.1,I64 (effM op).2.2]):=by
 refine PC.of mixedU isU58 (Nat.le_of_ble_eq_true rfl) (by simp [DV.nlL,DV.nl,nlL_ints,nlL_strs,nlL_instrs,nlL_entries,nlL_stp]) (by simp [DV.nlL,DV.nl,nlL_ints,nlL_strs,nlL_instrs,nlL_entries,nlL_stp]) ?_
 show IW Tryd.prog 60 u58_1 ⟨argT _,_,_⟩ (rt [.tmp 2,.tmp 3,.tmp 4] _)
 repeat' ((with_reducible first|refine wr ?_|refine wb2 ?_ ?_<;>(intro hb;try simp only [hb])|fail)<;>try simp only [go_sem,seval])
 all_goals (refine pc_ret ?_;simp_all [effM])
theorem c_printable (s:List UInt8) (hs:s.length≤140737488355328):PC Tryd.prog 60 [.str s] (.bool (printM s)):=by
 refine PC.of mixedU isU60 (Nat.le_of_ble_eq_true rfl) (by simp [DV.nlL,DV.nl,nlL_ints,nlL_strs,nlL_instrs,nlL_entries,nlL_stp]) (by simp [DV.nlL,DV.nl,nlL_ints,nlL_strs,nlL_instrs,nlL_entries,nlL_stp]) ?_
 show IW Tryd.prog 23 u60_1 ⟨argT _,_,_⟩ (rt [.tmp 2] _)
 repeat' ((with_reducible first|refine wr ?_|refine wb2 ?_ ?_<;>(intro hb;try simp only [hb])|fail)<;>try simp only [go_sem,seval])
 refine i_loop (fun k:Nat=>[(0,.str s),(3,I64 k)]) (fun _=>nil) (fun k _=>k≤s.length∧(s.take k).all printB=true) (fun k=>s.length-k) 0 (by simp [tmLe,tm,Tm.upd]) (Sub.nil _) (by simp) ?_
 rintro k c ⟨hk,he⟩
 by_cases hlt:k<s.length
 ·have hd:decide ((k:Int)<s.length)=true:=by simpa using hlt
  have hg:=List.getElem?_eq_getElem hlt
  have hw:=w64 (n:=(k:Int)+1) (by omega) (by omega)
  repeat' ((with_reducible first|refine wr ?_|refine wb2 ?_ ?_<;>(intro hb;try simp only [hb])|fail)<;>try simp only [go_sem,seval,hd,hg,hw])
  ·refine pc_ret ?_
   rw [printM,all_fail printB s k _ hg (by simp_all [printB];omega)];rfl
  ·refine pc_ret ?_
   rw [printM,all_fail printB s k _ hg (by simp_all [printB];omega)];rfl
  ·exact ⟨k+1,rfl,Sub.refl _,inv ⟨by omega,by rw [all_take printB s k _ hg he];simp_all [printB];omega⟩,by omega⟩
 ·have hd:decide ((k:Int)<s.length)=false:=by simpa using hlt
  repeat' ((with_reducible first|refine wr ?_|refine wb2 ?_ ?_<;>(intro hb;try simp only [hb])|fail)<;>try simp only [go_sem,seval,hd])
  refine pc_ret ?_
  rw [printM,all_done printB s k (by omega) he,Bool.true_and];simp;omega
theorem c_entry (c:Prg) (hl:Lim c) (e:Ent):PC Tryd.prog 61 [c.v,e.v] (.bool (entryM c e)):=by
 obtain ⟨wp,wv,ws,wi,wt,we, -, -, -, -, -⟩:=hl
 refine PC.of mixedU isU61 (Nat.le_of_ble_eq_true rfl) (by simp [DV.nlL,DV.nl,nlL_ints,nlL_strs,nlL_instrs,nlL_entries,nlL_stp]) (by simp [DV.nlL,DV.nl,nlL_ints,nlL_strs,nlL_instrs,nlL_entries,nlL_stp]) ?_
 show IW Tryd.prog 43 u61_1 ⟨argT _,_,_⟩ (rt [.tmp 4] _)
 repeat' ((with_reducible first|refine wr ?_|refine cpc (c_in _ _ _) ?_|refine wb2 ?_ ?_<;>(intro hb;try simp only [hb])|fail)<;>try simp only [go_sem,seval,wp,wt,we])
 all_goals (refine pc_ret ?_;simp_all [entryM]<;>rfl)
theorem c_number (c:Prg) (hl:Lim c) (i:Ins):PC Tryd.prog 62 [c.v,i.v] (.bool (numberM c i)):=by
 obtain ⟨wp,wv,ws,wi,wt,we, -, -, -, -, -⟩:=hl
 refine PC.of mixedU isU62 (Nat.le_of_ble_eq_true rfl) (by simp [DV.nlL,DV.nl,nlL_ints,nlL_strs,nlL_instrs,nlL_entries,nlL_stp]) (by simp [DV.nlL,DV.nl,nlL_ints,nlL_strs,nlL_instrs,nlL_entries,nlL_stp]) ?_
 show IW Tryd.prog 87 u62_1 ⟨argT _,_,_⟩ (rt [.tmp 4] _)
 repeat' ((with_reducible first|refine wr ?_|refine cpc (c_in _ _ _) ?_|refine cpc (c_eff _) ?_|refine wb2 ?_ ?_<;>(intro hb;try simp only [hb])|fail)<;>try simp only [go_sem,seval,wp,wv,ws,wt,we])
 all_goals (refine pc_ret ?_;simp_all [numberM,kindM]<;>rfl)
theorem c_jumps (c:Prg) (hl:Lim c):PC Tryd.prog 47 [c.v] (.bool (jumpsM c)):=by
 obtain ⟨wp,wv,ws,wi,wt,we,li,ls,le,lp,lv⟩:=hl
 refine PC.of mixedU isU47 (Nat.le_of_ble_eq_true rfl) (by simp [DV.nlL,DV.nl,nlL_ints,nlL_strs,nlL_instrs,nlL_entries,nlL_stp]) (by simp [DV.nlL,DV.nl,nlL_ints,nlL_strs,nlL_instrs,nlL_entries,nlL_stp]) ?_
 show IW Tryd.prog 61 u47_1 ⟨argT _,_,_⟩ (rt [.tmp 2] _)
 repeat' ((with_reducible first|refine wr ?_|refine wb2 ?_ ?_<;>(intro hb;try simp only [hb])|fail)<;>try simp only [go_sem,seval])
 refine i_loop (fun k:Nat=>[(1,.ptr 0 0),(3,I64 k)]) (fun _=>nil.upd 0 ⟨0,true,c.cs⟩) (fun k cc=>1≤cc∧k≤c.instrs.length∧(c.instrs.take k).all (jumpI c)=true) (fun k=>c.instrs.length-k) 0 (by simp [tmLe,tm,Tm.upd]) (Sub.refl _) (by simp<;>omega) ?_
 rintro k cc ⟨h1c,hk,he⟩
 by_cases hlt:k<c.instrs.length
 ·have hd:decide ((k:Int)<c.instrs.length)=true:=by simpa using hlt
  have hg:=List.getElem?_eq_getElem hlt
  have hw:=w64 (n:=(k:Int)+1) (by omega) (by omega)
  repeat' ((with_reducible first|refine wr ?_|refine cpc (c_eff _) ?_|refine cpc (c_in _ _ _) ?_|refine wb2 ?_ ?_<;>(intro hb;try simp only [hb])|fail)<;>try simp only [go_sem,seval,hd,hg,hw,wi])
  all_goals first
   | (refine pc_ret ?_;have hf:=all_fail (jumpI c) c.instrs k _ hg (by simp_all [jumpI]);simp [jumpsM,hf])
   | exact ⟨k+1,rfl,by first|exact Sub.refl _|(intro j b hj;simp only [Hp.upd,nil] at hj ⊢;split at hj<;>simp_all<;>omega),inv ⟨by omega,by omega,by rw [all_take (jumpI c) c.instrs k _ hg he];simp_all [jumpI]⟩,by omega⟩
 have hd:decide ((k:Int)<c.instrs.length)=false:=by simpa using hlt
 have hall:=all_done (jumpI c) c.instrs k (by omega) he
 clear he hk
 repeat' ((with_reducible first|refine wr ?_|refine cpc (c_eff _) ?_|refine cpc (c_in _ _ _) ?_|refine wb2 ?_ ?_<;>(intro hb;try simp only [hb])|fail)<;>try simp only [go_sem,seval,hd,wi])
 clear hlt hd
 refine i_loop (fun k:Nat=>[(1,.ptr 0 0),(7,I64 k)]) (fun _=>nil.upd 0 ⟨0,true,c.cs⟩) (fun k cc=>1≤cc∧k≤c.entries.length∧(c.entries.take k).all (jumpE c)=true) (fun k=>c.entries.length-k) 0 (by simp [tmLe,tm,Tm.upd]) (Sub.refl _) (by simp<;>omega) ?_
 rintro k cc ⟨h1c,hk,he⟩
 by_cases hlt:k<c.entries.length
 ·have hd:decide ((k:Int)<c.entries.length)=true:=by simpa using hlt
  have hg:=List.getElem?_eq_getElem hlt
  have hw:=w64 (n:=(k:Int)+1) (by omega) (by omega)
  repeat' ((with_reducible first|refine wr ?_|refine cpc (c_eff _) ?_|refine cpc (c_in _ _ _) ?_|refine wb2 ?_ ?_<;>(intro hb;try simp only [hb])|fail)<;>try simp only [go_sem,seval,hd,hg,hw,wi])
  all_goals first
   | (refine pc_ret ?_;have hf:=all_fail (jumpE c) c.entries k _ hg (by simp_all [jumpE]);simp [jumpsM,hf])
   | exact ⟨k+1,rfl,by first|exact Sub.refl _|(intro j b hj;simp only [Hp.upd,nil] at hj ⊢;split at hj<;>simp_all<;>omega),inv ⟨by omega,by omega,by rw [all_take (jumpE c) c.entries k _ hg he];simp_all [jumpE]⟩,by omega⟩
 have hd:decide ((k:Int)<c.entries.length)=false:=by simpa using hlt
 have hall:=all_done (jumpE c) c.entries k (by omega) he
 clear he hk
 repeat' ((with_reducible first|refine wr ?_|refine cpc (c_eff _) ?_|refine cpc (c_in _ _ _) ?_|refine wb2 ?_ ?_<;>(intro hb;try simp only [hb])|fail)<;>try simp only [go_sem,seval,hd,wi])
 clear hlt hd
 refine pc_ret ?_
 simp_all [jumpsM]
theorem c_parts (c:Prg) (hl:Lim c) (hs:∀ s∈c.strings,s.length≤140737488355328):PC Tryd.prog 46 [c.v] (.bool (partsM c)):=by
 have hl0:=hl
 obtain ⟨wp,wv,ws,wi,wt,we,li,ls,le,lp,lv⟩:=hl
 refine PC.of mixedU isU46 (Nat.le_of_ble_eq_true rfl) (by simp [DV.nlL,DV.nl,nlL_ints,nlL_strs,nlL_instrs,nlL_entries,nlL_stp]) (by simp [DV.nlL,DV.nl,nlL_ints,nlL_strs,nlL_instrs,nlL_entries,nlL_stp]) ?_
 show IW Tryd.prog 80 u46_1 ⟨argT _,_,_⟩ (rt [.tmp 2] _)
 repeat' ((with_reducible first|refine wr ?_|refine wb2 ?_ ?_<;>(intro hb;try simp only [hb])|fail)<;>try simp only [go_sem,seval])
 refine i_loop (fun k:Nat=>[(1,.ptr 0 0),(3,I64 k)]) (fun _=>nil.upd 0 ⟨0,true,c.cs⟩) (fun k cc=>1≤cc∧k≤c.strings.length∧(c.strings.take k).all printM=true) (fun k=>c.strings.length-k) 0 (by simp [tmLe,tm,Tm.upd]) (Sub.refl _) (by simp<;>omega) ?_
 rintro k cc ⟨h1c,hk,he⟩
 by_cases hlt:k<c.strings.length
 ·have hd:decide ((k:Int)<c.strings.length)=true:=by simpa using hlt
  have hg:=List.getElem?_eq_getElem hlt
  have hw:=w64 (n:=(k:Int)+1) (by omega) (by omega)
  repeat' ((with_reducible first|refine wr ?_|refine cpc (c_printable _ (hs _ (List.getElem_mem _))) ?_|refine wb2 ?_ ?_<;>(intro hb;try simp only [hb])|fail)<;>try simp only [go_sem,seval,hd,hg,hw])
  all_goals first
   | (refine pc_ret ?_;have hf:=all_fail printM c.strings k _ hg (by simp_all []);simp [partsM,hf])
   | exact ⟨k+1,rfl,by first|exact Sub.refl _|(intro j b hj;simp only [Hp.upd,nil] at hj ⊢;split at hj<;>simp_all<;>omega),inv ⟨by omega,by omega,by rw [all_take printM c.strings k _ hg he];simp_all []⟩,by omega⟩
 have hd:decide ((k:Int)<c.strings.length)=false:=by simpa using hlt
 have hall:=all_done printM c.strings k (by omega) he
 clear he hk
 repeat' ((with_reducible first|refine wr ?_|refine cpc (c_printable _ (hs _ (List.getElem_mem _))) ?_|refine wb2 ?_ ?_<;>(intro hb;try simp only [hb])|fail)<;>try simp only [go_sem,seval,hd])
 clear hlt hd
 refine i_loop (fun k:Nat=>[(1,.ptr 0 0),(4,I64 k)]) (fun _=>nil.upd 0 ⟨0,true,c.cs⟩) (fun k cc=>1≤cc∧k≤c.prios.length∧(c.prios.take k).all (fun n=>inM n 0 99)=true) (fun k=>c.prios.length-k) 0 (by simp [tmLe,tm,Tm.upd]) (Sub.refl _) (by simp<;>omega) ?_
 rintro k cc ⟨h1c,hk,he⟩
 by_cases hlt:k<c.prios.length
 ·have hd:decide ((k:Int)<c.prios.length)=true:=by simpa using hlt
  have hg:=List.getElem?_eq_getElem hlt
  have hw:=w64 (n:=(k:Int)+1) (by omega) (by omega)
  repeat' ((with_reducible first|refine wr ?_|refine cpc (c_in _ _ _) ?_|refine wb2 ?_ ?_<;>(intro hb;try simp only [hb])|fail)<;>try simp only [go_sem,seval,hd,hg,hw])
  all_goals first
   | (refine pc_ret ?_;have hf:=all_fail (fun n=>inM n 0 99) c.prios k _ hg (by simp_all []);simp [partsM,hf])
   | exact ⟨k+1,rfl,by first|exact Sub.refl _|(intro j b hj;simp only [Hp.upd,nil] at hj ⊢;split at hj<;>simp_all<;>omega),inv ⟨by omega,by omega,by rw [all_take (fun n=>inM n 0 99) c.prios k _ hg he];simp_all []⟩,by omega⟩
 have hd:decide ((k:Int)<c.prios.length)=false:=by simpa using hlt
 have hall:=all_done (fun n=>inM n 0 99) c.prios k (by omega) he
 clear he hk
 repeat' ((with_reducible first|refine wr ?_|refine cpc (c_in _ _ _) ?_|refine wb2 ?_ ?_<;>(intro hb;try simp only [hb])|fail)<;>try simp only [go_sem,seval,hd])
 clear hlt hd
 refine i_loop (fun k:Nat=>[(1,.ptr 0 0),(5,I64 k)]) (fun _=>nil.upd 0 ⟨0,true,c.cs⟩) (fun k cc=>1≤cc∧k≤c.vars.length∧(c.vars.take k).all (fun n=>inM n (-2147483647) 2147483647)=true) (fun k=>c.vars.length-k) 0 (by simp [tmLe,tm,Tm.upd]) (Sub.refl _) (by simp<;>omega) ?_
 rintro k cc ⟨h1c,hk,he⟩
 by_cases hlt:k<c.vars.length
 ·have hd:decide ((k:Int)<c.vars.length)=true:=by simpa using hlt
  have hg:=List.getElem?_eq_getElem hlt
  have hw:=w64 (n:=(k:Int)+1) (by omega) (by omega)
  repeat' ((with_reducible first|refine wr ?_|refine cpc (c_in _ _ _) ?_|refine wb2 ?_ ?_<;>(intro hb;try simp only [hb])|fail)<;>try simp only [go_sem,seval,hd,hg,hw])
  all_goals first
   | (refine pc_ret ?_;have hf:=all_fail (fun n=>inM n (-2147483647) 2147483647) c.vars k _ hg (by simp_all []);simp [partsM,hf])
   | exact ⟨k+1,rfl,by first|exact Sub.refl _|(intro j b hj;simp only [Hp.upd,nil] at hj ⊢;split at hj<;>simp_all<;>omega),inv ⟨by omega,by omega,by rw [all_take (fun n=>inM n (-2147483647) 2147483647) c.vars k _ hg he];simp_all []⟩,by omega⟩
 have hd:decide ((k:Int)<c.vars.length)=false:=by simpa using hlt
 have hall:=all_done (fun n=>inM n (-2147483647) 2147483647) c.vars k (by omega) he
 clear he hk
 repeat' ((with_reducible first|refine wr ?_|refine cpc (c_in _ _ _) ?_|refine wb2 ?_ ?_<;>(intro hb;try simp only [hb])|fail)<;>try simp only [go_sem,seval,hd])
 clear hlt hd
 refine i_loop (fun k:Nat=>[(1,.ptr 0 0),(6,I64 k)]) (fun _=>nil.upd 0 ⟨0,true,c.cs⟩) (fun k cc=>1≤cc∧k≤c.entries.length∧(c.entries.take k).all (entryM c)=true) (fun k=>c.entries.length-k) 0 (by simp [tmLe,tm,Tm.upd]) (Sub.refl _) (by simp<;>omega) ?_
 rintro k cc ⟨h1c,hk,he⟩
 by_cases hlt:k<c.entries.length
 ·have hd:decide ((k:Int)<c.entries.length)=true:=by simpa using hlt
  have hg:=List.getElem?_eq_getElem hlt
  have hw:=w64 (n:=(k:Int)+1) (by omega) (by omega)
  repeat' ((with_reducible first|refine wr ?_|refine cpc (c_entry c hl0 _) ?_|refine wb2 ?_ ?_<;>(intro hb;try simp only [hb])|fail)<;>try simp only [go_sem,seval,hd,hg,hw])
  all_goals first
   | (refine pc_ret ?_;have hf:=all_fail (entryM c) c.entries k _ hg (by simp_all []);simp [partsM,hf])
   | exact ⟨k+1,rfl,by first|exact Sub.refl _|(intro j b hj;simp only [Hp.upd,nil] at hj ⊢;split at hj<;>simp_all<;>omega),inv ⟨by omega,by omega,by rw [all_take (entryM c) c.entries k _ hg he];simp_all []⟩,by omega⟩
 have hd:decide ((k:Int)<c.entries.length)=false:=by simpa using hlt
 have hall:=all_done (entryM c) c.entries k (by omega) he
 clear he hk
 repeat' ((with_reducible first|refine wr ?_|refine cpc (c_entry c hl0 _) ?_|refine wb2 ?_ ?_<;>(intro hb;try simp only [hb])|fail)<;>try simp only [go_sem,seval,hd])
 clear hlt hd
 refine i_loop (fun k:Nat=>[(1,.ptr 0 0),(7,I64 k)]) (fun _=>nil.upd 0 ⟨0,true,c.cs⟩) (fun k cc=>1≤cc∧k≤c.instrs.length∧(c.instrs.take k).all (numberM c)=true) (fun k=>c.instrs.length-k) 0 (by simp [tmLe,tm,Tm.upd]) (Sub.refl _) (by simp<;>omega) ?_
 rintro k cc ⟨h1c,hk,he⟩
 by_cases hlt:k<c.instrs.length
 ·have hd:decide ((k:Int)<c.instrs.length)=true:=by simpa using hlt
  have hg:=List.getElem?_eq_getElem hlt
  have hw:=w64 (n:=(k:Int)+1) (by omega) (by omega)
  repeat' ((with_reducible first|refine wr ?_|refine cpc (c_number c hl0 _) ?_|refine wb2 ?_ ?_<;>(intro hb;try simp only [hb])|fail)<;>try simp only [go_sem,seval,hd,hg,hw])
  all_goals first
   | (refine pc_ret ?_;have hf:=all_fail (numberM c) c.instrs k _ hg (by simp_all []);simp [partsM,hf])
   | exact ⟨k+1,rfl,by first|exact Sub.refl _|(intro j b hj;simp only [Hp.upd,nil] at hj ⊢;split at hj<;>simp_all<;>omega),inv ⟨by omega,by omega,by rw [all_take (numberM c) c.instrs k _ hg he];simp_all []⟩,by omega⟩
 have hd:decide ((k:Int)<c.instrs.length)=false:=by simpa using hlt
 have hall:=all_done (numberM c) c.instrs k (by omega) he
 clear he hk
 repeat' ((with_reducible first|refine wr ?_|refine cpc (c_number c hl0 _) ?_|refine wb2 ?_ ?_<;>(intro hb;try simp only [hb])|fail)<;>try simp only [go_sem,seval,hd])
 clear hlt hd
 refine pc_ret ?_
 simp_all [partsM]
end Go.Proofs.YtcallbfckjlagaaDoor
namespace Go.Proofs.YtcallbfckjlagaaDoor
open Go.Eng (IC IOper DReg IFn IsFn)
open Go.Sym Go.Pb
theorem c_within (n lo hi:Int):PC Tryd.prog 67 [I64 n,I64 lo,I64 hi] (.bool (inM n lo hi)):=by
 refine PC.of mixedU isU67 (Nat.le_of_ble_eq_true rfl) (by simp [DV.nlL,DV.nl,nlL_ints,nlL_strs,nlL_instrs,nlL_entries,nlL_stp]) (by simp [DV.nlL,DV.nl,nlL_ints,nlL_strs,nlL_instrs,nlL_entries,nlL_stp]) ?_
 show IW Tryd.prog 15 u67_1 ⟨argT _,_,_⟩ (rt [.tmp 6] _)
 repeat' ((with_reducible first|refine wr ?_|refine wb2 ?_ ?_<;>(intro hb;try simp only [hb])|fail)<;>try simp only [go_sem,seval])
 all_goals (refine pc_ret ?_;simp_all [inM]<;>omega)
theorem c_bless (a b:Ent):PC Tryd.prog 56 [a.v,b.v] (.bool (lessM a b)):=by
 refine PC.of mixedU isU56 (Nat.le_of_ble_eq_true rfl) (by simp [DV.nlL,DV.nl,nlL_ints,nlL_strs,nlL_instrs,nlL_entries,nlL_stp]) (by simp [DV.nlL,DV.nl,nlL_ints,nlL_strs,nlL_instrs,nlL_entries,nlL_stp]) ?_
 show IW Tryd.prog 30 u56_1 ⟨argT _,_,_⟩ (rt [.tmp 4] _)
 repeat' ((with_reducible first|refine wr ?_|refine wb2 ?_ ?_<;>(intro hb;try simp only [hb])|fail)<;>try simp only [go_sem,seval])
 all_goals (refine pc_ret ?_;simp_all [lessM])
theorem c_isText (s:List UInt8) (hs:s.length≤140737488355328):PC Tryd.prog 70 [.str s] (.bool (printM s)):=by
 refine PC.of mixedU isU70 (Nat.le_of_ble_eq_true rfl) (by simp [DV.nlL,DV.nl,nlL_ints,nlL_strs,nlL_instrs,nlL_entries,nlL_stp]) (by simp [DV.nlL,DV.nl,nlL_ints,nlL_strs,nlL_instrs,nlL_entries,nlL_stp]) ?_
 show IW Tryd.prog 23 u70_1 ⟨argT _,_,_⟩ (rt [.tmp 2] _)
 repeat' ((with_reducible first|refine wr ?_|refine wb2 ?_ ?_<;>(intro hb;try simp only [hb])|fail)<;>try simp only [go_sem,seval])
 refine i_loop (fun k:Nat=>[(0,.str s),(3,I64 k)]) (fun _=>nil) (fun k _=>k≤s.length∧(s.take k).all printB=true) (fun k=>s.length-k) 0 (by simp [tmLe,tm,Tm.upd]) (Sub.nil _) (by simp) ?_
 rintro k c ⟨hk,he⟩
 by_cases hlt:k<s.length
 ·have hd:decide ((k:Int)<s.length)=true:=by simpa using hlt
  have hg:=List.getElem?_eq_getElem hlt
  have hw:=w64 (n:=(k:Int)+1) (by omega) (by omega)
  repeat' ((with_reducible first|refine wr ?_|refine wb2 ?_ ?_<;>(intro hb;try simp only [hb])|fail)<;>try simp only [go_sem,seval,hd,hg,hw])
  ·refine pc_ret ?_
   rw [printM,all_fail printB s k _ hg (by simp_all [printB];omega)];rfl
  ·refine pc_ret ?_
   rw [printM,all_fail printB s k _ hg (by simp_all [printB];omega)];rfl
  ·exact ⟨k+1,rfl,Sub.refl _,inv ⟨by omega,by rw [all_take printB s k _ hg he];simp_all [printB];omega⟩,by omega⟩
 ·have hd:decide ((k:Int)<s.length)=false:=by simpa using hlt
  repeat' ((with_reducible first|refine wr ?_|refine wb2 ?_ ?_<;>(intro hb;try simp only [hb])|fail)<;>try simp only [go_sem,seval,hd])
  refine pc_ret ?_
  rw [printM,all_done printB s k (by omega) he,Bool.true_and];simp;omega
theorem c_goodEntry (c:Prg) (hl:Lim c) (e:Ent):PC Tryd.prog 76 [c.v,e.v] (.bool (entryM c e)):=by
 obtain ⟨wp,wv,ws,wi,wt,we, -, -, -, -, -⟩:=hl
 refine PC.of mixedU isU76 (Nat.le_of_ble_eq_true rfl) (by simp [DV.nlL,DV.nl,nlL_ints,nlL_strs,nlL_instrs,nlL_entries,nlL_stp]) (by simp [DV.nlL,DV.nl,nlL_ints,nlL_strs,nlL_instrs,nlL_entries,nlL_stp]) ?_
 show IW Tryd.prog 43 u76_1 ⟨argT _,_,_⟩ (rt [.tmp 4] _)
 repeat' ((with_reducible first|refine wr ?_|refine cpc (c_within _ _ _) ?_|refine wb2 ?_ ?_<;>(intro hb;try simp only [hb])|fail)<;>try simp only [go_sem,seval,wp,wt,we])
 all_goals (refine pc_ret ?_;simp_all [entryM]<;>rfl)
theorem c_isJ (op:Int):PC Tryd.prog 78 [I64 op] (.bool (isJ op)):=by
 refine PC.of mixedU isU78 (Nat.le_of_ble_eq_true rfl) (by simp [DV.nlL,DV.nl,nlL_ints,nlL_strs,nlL_instrs,nlL_entries,nlL_stp]) (by simp [DV.nlL,DV.nl,nlL_ints,nlL_strs,nlL_instrs,nlL_entries,nlL_stp]) ?_
 show IW Tryd.prog 13 u78_1 ⟨argT _,_,_⟩ (rt [.tmp 2] _)
 repeat' ((with_reducible first|refine wr ?_|refine wb2 ?_ ?_<;>(intro hb;try simp only [hb])|fail)<;>try simp only [go_sem,seval])
 all_goals (refine pc_ret ?_;simp_all [isJ]<;>rfl)
theorem c_stack (op:Int):PC Tryd.prog 81 [I64 op] (.tup [I64 (effM op).1,I64 (effM op).2.1]):=by
 refine PC.of mixedU isU81 (Nat.le_of_ble_eq_true rfl) (by simp [DV.nlL,DV.nl,nlL_ints,nlL_strs,nlL_instrs,nlL_entries,nlL_stp]) (by simp [DV.nlL,DV.nl,nlL_ints,nlL_strs,nlL_instrs,nlL_entries,nlL_stp]) ?_
 show IW Tryd.prog 28 u81_1 ⟨argT _,_,_⟩ (rt [.tmp 2,.tmp 3] _)
 repeat' ((with_reducible first|refine wr ?_|refine wb2 ?_ ?_<;>(intro hb;try simp only [hb])|fail)<;>try simp only [go_sem,seval])
 all_goals first
  | (simp only [beq_iff_eq] at hb;subst hb;exact pc_ret rfl)
  | (simp only [beq_eq_false_iff_ne,ne_eq] at *;refine pc_ret ?_;rw [(eff0 ‹_› ‹_› ‹_› ‹_› ‹_› ‹_› ‹_› ‹_› ‹_› ‹_› ‹_› ‹_› ‹_› ‹_› ‹_› ‹_› ‹_› ‹_›).1,(eff0 ‹_› ‹_› ‹_› ‹_› ‹_› ‹_› ‹_› ‹_› ‹_› ‹_› ‹_› ‹_› ‹_› ‹_› ‹_› ‹_› ‹_› ‹_›).2])
theorem c_span (c:Prg) (hl:Lim c) (op:Int):PC Tryd.prog 77 [c.v,I64 op] (.tup [I64 (spanM c op).1,I64 (spanM c op).2]):=by
 obtain ⟨wp,wv,ws,wi,wt,we, -, -, -, -, -⟩:=hl
 refine PC.of mixedU isU77 (Nat.le_of_ble_eq_true rfl) (by simp [DV.nlL,DV.nl,nlL_ints,nlL_strs,nlL_instrs,nlL_entries,nlL_stp]) (by simp [DV.nlL,DV.nl,nlL_ints,nlL_strs,nlL_instrs,nlL_entries,nlL_stp]) ?_
 show IW Tryd.prog 64 u77_1 ⟨argT _,_,_⟩ (rt [.tmp 4,.tmp 5] _)
 repeat' ((with_reducible first|refine wr ?_|refine wb2 ?_ ?_<;>(intro hb;try simp only [hb])|fail)<;>try simp only [go_sem,seval,wp,wv,ws,wt,we])
 all_goals first
  | (simp only [beq_iff_eq] at hb;subst hb;refine pc_ret ?_;simp [spanM];done)
  | (refine pc_ret ?_;simp_all [spanM])
theorem c_IF_str {g:(List UInt8)→Bool} {f:Nat} {a cs:List DV} (xs:List (List UInt8)) (hx:xs.length≤9223372036854775807) (na:DV.nlL a=true) (ncs:DV.nlL cs=true) (hf:∀ x∈xs,PC Tryd.prog f (a++[DV.str x]++cs) (.bool (g x))) :
  PC Tryd.prog 85 [.lst (xs.map DV.str),.func f a cs] (I64 (idxM g xs 0)):=by
 refine PC.of mixedU isU85 (Nat.le_of_ble_eq_true rfl) (by simp [DV.nlL,DV.nl,nlL_strs,nlL_ints,nlL_entries,na,ncs]) rfl ?_
 show IW Tryd.prog 19 u85_1 ⟨argT _,_,_⟩ (rt [.tmp 4] _)
 repeat' ((with_reducible first|refine wr ?_|refine wb2 ?_ ?_<;>(intro hb;try simp only [hb])|fail)<;>try simp only [go_sem,seval])
 refine i_loop (fun k:Nat=>[(0,.lst (xs.map DV.str)),(1,.func f a cs),(7,I64 xs.length),(8,I64 k)]) (fun _=>nil) (fun k _=>k≤xs.length∧idxM g xs 0=idxM g (xs.drop k) k) (fun k=>xs.length-k) 0 (by simp [tmLe,tm,Tm.upd]) (Sub.nil _) (by simp) ?_
 rintro k c ⟨hk,he⟩
 by_cases hlt:k<xs.length
 ·have hd:decide ((k:Int)<xs.length)=true:=by simpa using hlt
  have hg:=List.getElem?_eq_getElem hlt
  have hw:=w64 (n:=(k:Int)+1) (by omega) (by omega)
  have hst:=idxM_step (g:=g) hg
  have hc:=hf xs[k] (List.getElem_mem hlt)
  repeat' ((with_reducible first|refine wr ?_|refine cpc hc ?_|refine wb2 ?_ ?_<;>(intro hb;try simp only [hb])|fail)<;>try simp only [go_sem,seval,hd,hg,hw])
  ·refine pc_ret ?_
   rw [he,hst,hb];rfl
  ·exact ⟨k+1,rfl,Sub.refl _,inv ⟨by omega,by rw [he,hst,hb];rfl⟩,by omega⟩
 ·have hd:decide ((k:Int)<xs.length)=false:=by simpa using hlt
  repeat' ((with_reducible first|refine wr ?_|refine wb2 ?_ ?_<;>(intro hb;try simp only [hb])|fail)<;>try simp only [go_sem,seval,hd])
  refine pc_ret ?_
  rw [he,idxM_end (by omega)]
theorem c_CF_str {g:(List UInt8)→Bool} {f:Nat} {a cs:List DV} (xs:List (List UInt8)) (hx:xs.length≤9223372036854775807) (na:DV.nlL a=true) (ncs:DV.nlL cs=true) (hf:∀ x∈xs,PC Tryd.prog f (a++[DV.str x]++cs) (.bool (g x))) :
  PC Tryd.prog 68 [.lst (xs.map DV.str),.func f a cs] (.bool (xs.any g)):=by
 refine PC.of mixedU isU68 (Nat.le_of_ble_eq_true rfl) (by simp [DV.nlL,DV.nl,nlL_strs,nlL_ints,nlL_entries,na,ncs]) rfl ?_
 show IW Tryd.prog 9 u68_1 ⟨argT _,_,_⟩ (rt [.tmp 4] _)
 have hc:=c_IF_str xs hx na ncs hf
 repeat' ((with_reducible first|refine wr ?_|refine cpc hc ?_|refine wb2 ?_ ?_<;>(intro hb;try simp only [hb])|fail)<;>try simp only [go_sem,seval])
 refine pc_ret ?_
 rw [idxM_any]
theorem c_IF_int {g:Int→Bool} {f:Nat} {a cs:List DV} (xs:List Int) (hx:xs.length≤9223372036854775807) (na:DV.nlL a=true) (ncs:DV.nlL cs=true) (hf:∀ x∈xs,PC Tryd.prog f (a++[I64 x]++cs) (.bool (g x))) :
  PC Tryd.prog 86 [.lst (xs.map I64),.func f a cs] (I64 (idxM g xs 0)):=by
 refine PC.of mixedU isU86 (Nat.le_of_ble_eq_true rfl) (by simp [DV.nlL,DV.nl,nlL_strs,nlL_ints,nlL_entries,na,ncs]) rfl ?_
 show IW Tryd.prog 19 u86_1 ⟨argT _,_,_⟩ (rt [.tmp 4] _)
 repeat' ((with_reducible first|refine wr ?_|refine wb2 ?_ ?_<;>(intro hb;try simp only [hb])|fail)<;>try simp only [go_sem,seval])
 refine i_loop (fun k:Nat=>[(0,.lst (xs.map I64)),(1,.func f a cs),(7,I64 xs.length),(8,I64 k)]) (fun _=>nil) (fun k _=>k≤xs.length∧idxM g xs 0=idxM g (xs.drop k) k) (fun k=>xs.length-k) 0 (by simp [tmLe,tm,Tm.upd]) (Sub.nil _) (by simp) ?_
 rintro k c ⟨hk,he⟩
 by_cases hlt:k<xs.length
 ·have hd:decide ((k:Int)<xs.length)=true:=by simpa using hlt
  have hg:=List.getElem?_eq_getElem hlt
  have hw:=w64 (n:=(k:Int)+1) (by omega) (by omega)
  have hst:=idxM_step (g:=g) hg
  have hc:=hf xs[k] (List.getElem_mem hlt)
  repeat' ((with_reducible first|refine wr ?_|refine cpc hc ?_|refine wb2 ?_ ?_<;>(intro hb;try simp only [hb])|fail)<;>try simp only [go_sem,seval,hd,hg,hw])
  ·refine pc_ret ?_
   rw [he,hst,hb];rfl
  ·exact ⟨k+1,rfl,Sub.refl _,inv ⟨by omega,by rw [he,hst,hb];rfl⟩,by omega⟩
 ·have hd:decide ((k:Int)<xs.length)=false:=by simpa using hlt
  repeat' ((with_reducible first|refine wr ?_|refine wb2 ?_ ?_<;>(intro hb;try simp only [hb])|fail)<;>try simp only [go_sem,seval,hd])
  refine pc_ret ?_
  rw [he,idxM_end (by omega)]
theorem c_CF_int {g:Int→Bool} {f:Nat} {a cs:List DV} (xs:List Int) (hx:xs.length≤9223372036854775807) (na:DV.nlL a=true) (ncs:DV.nlL cs=true) (hf:∀ x∈xs,PC Tryd.prog f (a++[I64 x]++cs) (.bool (g x))) :
  PC Tryd.prog 71 [.lst (xs.map I64),.func f a cs] (.bool (xs.any g)):=by
 refine PC.of mixedU isU71 (Nat.le_of_ble_eq_true rfl) (by simp [DV.nlL,DV.nl,nlL_strs,nlL_ints,nlL_entries,na,ncs]) rfl ?_
 show IW Tryd.prog 9 u71_1 ⟨argT _,_,_⟩ (rt [.tmp 4] _)
 have hc:=c_IF_int xs hx na ncs hf
 repeat' ((with_reducible first|refine wr ?_|refine cpc hc ?_|refine wb2 ?_ ?_<;>(intro hb;try simp only [hb])|fail)<;>try simp only [go_sem,seval])
 refine pc_ret ?_
 rw [idxM_any]
theorem c_IF_ent {g:Ent→Bool} {f:Nat} {a cs:List DV} (xs:List Ent) (hx:xs.length≤9223372036854775807) (na:DV.nlL a=true) (ncs:DV.nlL cs=true) (hf:∀ x∈xs,PC Tryd.prog f (a++[Ent.v x]++cs) (.bool (g x))) :
  PC Tryd.prog 87 [.lst (xs.map Ent.v),.func f a cs] (I64 (idxM g xs 0)):=by
 refine PC.of mixedU isU87 (Nat.le_of_ble_eq_true rfl) (by simp [DV.nlL,DV.nl,nlL_strs,nlL_ints,nlL_entries,na,ncs]) rfl ?_
 show IW Tryd.prog 19 u87_1 ⟨argT _,_,_⟩ (rt [.tmp 4] _)
 repeat' ((with_reducible first|refine wr ?_|refine wb2 ?_ ?_<;>(intro hb;try simp only [hb])|fail)<;>try simp only [go_sem,seval])
 refine i_loop (fun k:Nat=>[(0,.lst (xs.map Ent.v)),(1,.func f a cs),(7,I64 xs.length),(8,I64 k)]) (fun _=>nil) (fun k _=>k≤xs.length∧idxM g xs 0=idxM g (xs.drop k) k) (fun k=>xs.length-k) 0 (by simp [tmLe,tm,Tm.upd]) (Sub.nil _) (by simp) ?_
 rintro k c ⟨hk,he⟩
 by_cases hlt:k<xs.length
 ·have hd:decide ((k:Int)<xs.length)=true:=by simpa using hlt
  have hg:=List.getElem?_eq_getElem hlt
  have hw:=w64 (n:=(k:Int)+1) (by omega) (by omega)
  have hst:=idxM_step (g:=g) hg
  have hc:=hf xs[k] (List.getElem_mem hlt)
  repeat' ((with_reducible first|refine wr ?_|refine cpc hc ?_|refine wb2 ?_ ?_<;>(intro hb;try simp only [hb])|fail)<;>try simp only [go_sem,seval,hd,hg,hw])
  ·refine pc_ret ?_
   rw [he,hst,hb];rfl
  ·exact ⟨k+1,rfl,Sub.refl _,inv ⟨by omega,by rw [he,hst,hb];rfl⟩,by omega⟩
 ·have hd:decide ((k:Int)<xs.length)=false:=by simpa using hlt
  repeat' ((with_reducible first|refine wr ?_|refine wb2 ?_ ?_<;>(intro hb;try simp only [hb])|fail)<;>try simp only [go_sem,seval,hd])
  refine pc_ret ?_
  rw [he,idxM_end (by omega)]
theorem c_CF_ent {g:Ent→Bool} {f:Nat} {a cs:List DV} (xs:List Ent) (hx:xs.length≤9223372036854775807) (na:DV.nlL a=true) (ncs:DV.nlL cs=true) (hf:∀ x∈xs,PC Tryd.prog f (a++[Ent.v x]++cs) (.bool (g x))) :
  PC Tryd.prog 74 [.lst (xs.map Ent.v),.func f a cs] (.bool (xs.any g)):=by
 refine PC.of mixedU isU74 (Nat.le_of_ble_eq_true rfl) (by simp [DV.nlL,DV.nl,nlL_strs,nlL_ints,nlL_entries,na,ncs]) rfl ?_
 show IW Tryd.prog 9 u74_1 ⟨argT _,_,_⟩ (rt [.tmp 4] _)
 have hc:=c_IF_ent xs hx na ncs hf
 repeat' ((with_reducible first|refine wr ?_|refine cpc hc ?_|refine wb2 ?_ ?_<;>(intro hb;try simp only [hb])|fail)<;>try simp only [go_sem,seval])
 refine pc_ret ?_
 rw [idxM_any]
end Go.Proofs.YtcallbfckjlagaaDoor
namespace Go.Proofs.YtcallbfckjlagaaDoor
open Go.Eng (IC IOper DReg IFn IsFn)
open Go.Sym Go.Pb
theorem c_limits (c:Prg):PC Tryd.prog 53 [c.v] (.bool (limitsM c)):=by
 refine PC.of mixedU isU53 (Nat.le_of_ble_eq_true rfl) (by simp [DV.nlL,DV.nl,nlL_ints,nlL_strs,nlL_instrs,nlL_entries,nlL_stp]) (by simp [DV.nlL,DV.nl,nlL_ints,nlL_strs,nlL_instrs,nlL_entries,nlL_stp]) ?_
 show IW Tryd.prog 41 u53_1 ⟨argT _,_,_⟩ (rt [.tmp 2] _)
 repeat' ((with_reducible first|refine wr ?_|refine cpc (c_within _ _ _) ?_|refine wb2 ?_ ?_<;>(intro hb;try simp only [hb])|fail)<;>try simp only [go_sem,seval])
 all_goals (refine pc_ret ?_;simp_all [limitsM]<;>omega)
theorem c_p1 (s:List UInt8) (hs:s.length≤140737488355328):PC Tryd.prog 69 [.str s] (.bool (!printM s)):=by
 refine PC.of mixedU isU69 (Nat.le_of_ble_eq_true rfl) (by simp [DV.nlL,DV.nl,nlL_ints,nlL_strs,nlL_instrs,nlL_entries,nlL_stp]) (by simp [DV.nlL,DV.nl,nlL_ints,nlL_strs,nlL_instrs,nlL_entries,nlL_stp]) ?_
 show IW Tryd.prog 6 u69_1 ⟨argT _,_,_⟩ (rt [.tmp 2] _)
 repeat' ((with_reducible first|refine wr ?_|refine cpc (c_isText s hs) ?_|refine wb2 ?_ ?_<;>(intro hb;try simp only [hb])|fail)<;>try simp only [go_sem,seval])
 exact pc_ret rfl
theorem c_p2 (n:Int):PC Tryd.prog 72 [I64 n] (.bool (!inM n 0 99)):=by
 refine PC.of mixedU isU72 (Nat.le_of_ble_eq_true rfl) (by simp [DV.nlL,DV.nl,nlL_ints,nlL_strs,nlL_instrs,nlL_entries,nlL_stp]) (by simp [DV.nlL,DV.nl,nlL_ints,nlL_strs,nlL_instrs,nlL_entries,nlL_stp]) ?_
 show IW Tryd.prog 6 u72_1 ⟨argT _,_,_⟩ (rt [.tmp 2] _)
 repeat' ((with_reducible first|refine wr ?_|refine cpc (c_within _ _ _) ?_|refine wb2 ?_ ?_<;>(intro hb;try simp only [hb])|fail)<;>try simp only [go_sem,seval])
 exact pc_ret rfl
theorem c_p3 (n:Int):PC Tryd.prog 73 [I64 n] (.bool (!inM n (-2147483647) 2147483647)):=by
 refine PC.of mixedU isU73 (Nat.le_of_ble_eq_true rfl) (by simp [DV.nlL,DV.nl,nlL_ints,nlL_strs,nlL_instrs,nlL_entries,nlL_stp]) (by simp [DV.nlL,DV.nl,nlL_ints,nlL_strs,nlL_instrs,nlL_entries,nlL_stp]) ?_
 show IW Tryd.prog 6 u73_1 ⟨argT _,_,_⟩ (rt [.tmp 2] _)
 repeat' ((with_reducible first|refine wr ?_|refine cpc (c_within _ _ _) ?_|refine wb2 ?_ ?_<;>(intro hb;try simp only [hb])|fail)<;>try simp only [go_sem,seval])
 exact pc_ret rfl
theorem c_p4 (c:Prg) (hl:Lim c) (e:Ent):PC Tryd.prog 75 [e.v,.fptr c.cs] (.bool (!entryM c e)):=by
 refine PC.of mixedU isU75 (Nat.le_of_ble_eq_true rfl) (by simp [DV.nlL,DV.nl,nlL_ints,nlL_strs,nlL_instrs,nlL_entries,nlL_stp]) (by simp [DV.nlL,DV.nl,nlL_ints,nlL_strs,nlL_instrs,nlL_entries,nlL_stp]) ?_
 show IW Tryd.prog 8 u75_1 ⟨argT _,_,_⟩ (rt [.tmp 3] _)
 repeat' ((with_reducible first|refine wr ?_|refine cpc (c_goodEntry c hl e) ?_|refine wb2 ?_ ?_<;>(intro hb;try simp only [hb])|fail)<;>try simp only [go_sem,seval])
 exact pc_ret rfl
theorem c_t1 (c:Prg) (hl:Lim c) (e:Ent):PC Tryd.prog 79 [e.v,.fptr c.cs] (.bool (!jumpE c e)):=by
 obtain ⟨wp,wv,ws,wi,wt,we,li,ls,le,lp,lv⟩:=hl
 refine PC.of mixedU isU79 (Nat.le_of_ble_eq_true rfl) (by simp [DV.nlL,DV.nl,nlL_ints,nlL_strs,nlL_instrs,nlL_entries,nlL_stp]) (by simp [DV.nlL,DV.nl,nlL_ints,nlL_strs,nlL_instrs,nlL_entries,nlL_stp]) ?_
 show IW Tryd.prog 12 u79_1 ⟨argT _,_,_⟩ (rt [.tmp 3] _)
 repeat' ((with_reducible first|refine wr ?_|refine cpc (c_within _ _ _) ?_|refine wb2 ?_ ?_<;>(intro hb;try simp only [hb])|fail)<;>try simp only [go_sem,seval,wi])
 exact pc_ret rfl
theorem g_cap (c:Prg) (fn:Nat) (l:List DV):GL (nil.upd 0 ⟨0,true,c.cs⟩) [.lst l,.func fn [] [.ptr 0 0]] nil [.lst l,.func fn [] [.fptr c.cs]] :=
 GL.one (b:=⟨0,true,c.cs⟩) rfl rfl (.cons _ _ _ _ (.same _) (.cons _ _ _ _ (.func _ _ _ _ _ .nil (.cons _ _ _ _ (.ptr 0 c.cs (Nat.zero_le _) rfl) .nil)) .nil))
theorem c_targets (c:Prg) (hl:Lim c):PC Tryd.prog 55 [c.v] (.bool (jumpsM c)):=by
 have hl0:=hl
 obtain ⟨wp,wv,ws,wi,wt,we,li,ls,le,lp,lv⟩:=hl
 have cf:=c_CF_ent (a:=[]) (cs:=[.fptr c.cs]) c.entries (by omega) rfl (by simp [DV.nlL,DV.nl,nlL_ints,nlL_strs,nlL_instrs,nlL_entries]) (fun e _=>c_t1 c hl0 e)
 rw [any_not] at cf
 refine PC.of mixedU isU55 (Nat.le_of_ble_eq_true rfl) (by simp [DV.nlL,DV.nl,nlL_ints,nlL_strs,nlL_instrs,nlL_entries,nlL_stp]) (by simp [DV.nlL,DV.nl,nlL_ints,nlL_strs,nlL_instrs,nlL_entries,nlL_stp]) ?_
 show IW Tryd.prog 31 u55_1 ⟨argT _,_,_⟩ (rt [.tmp 2] _)
 repeat' ((with_reducible first|refine wr ?_|refine wb2 ?_ ?_<;>(intro hb;try simp only [hb])|fail)<;>try simp only [go_sem,seval])
 refine i_loop (fun k:Nat=>[(1,.ptr 0 0),(6,inssV c.instrs),(7,I64 c.instrs.length),(8,I64 k)]) (fun _=>nil.upd 0 ⟨0,true,c.cs⟩) (fun k cc=>1≤cc∧k≤c.instrs.length∧(c.instrs.take k).all (jumpI c)=true) (fun k=>c.instrs.length-k) 0 (by simp [tmLe,tm,Tm.upd]) (Sub.refl _) (by simp) ?_
 rintro k cc ⟨h1c,hk,he⟩
 have ne0:=nes2 0 cc (by omega)
 by_cases hlt:k<c.instrs.length
 ·have hd:decide ((k:Int)<c.instrs.length)=true:=by simpa using hlt
  have hg:=List.getElem?_eq_getElem hlt
  have hw:=w64 (n:=(k:Int)+1) (by omega) (by omega)
  repeat' ((with_reducible first|refine wr ?_|refine cpc (c_isJ _) ?_|refine cpc (c_within _ _ _) ?_|refine wb2 ?_ ?_<;>(intro hb;try simp only [hb])|fail)<;>try simp only [go_sem,seval,hd,hg,hw,wi,ne0])
  ·refine pc_ret ?_
   have hf:=all_fail (jumpI c) c.instrs k _ hg (by rw [jumpI, ← isJ_kind];simp_all)
   simp [jumpsM,hf]
  all_goals exact ⟨k+1,rfl,by (intro j b hj;simp only [Hp.upd,Hp.del,Sym.nil,baseH,optH] at hj ⊢;(repeat' split at hj)<;>(repeat' split)<;>first|exact hj|(exfalso;omega)|cases hj),inv ⟨by omega,by omega,by rw [all_take (jumpI c) _ k _ hg he,jumpI, ← isJ_kind];simp_all⟩,by omega⟩
 ·have hd:decide ((k:Int)<c.instrs.length)=false:=by simpa using hlt
  have hall:=all_done (jumpI c) c.instrs k (by omega) he
  repeat' ((first|(with_reducible first|refine wr ?_)|(with_reducible refine wb2 ?_ ?_<;>(intro hb;try simp only [hb]))|((with_reducible refine AC.call (PC.lend cf rfl (g_cap c _ _)) ?_);rintro _ _ _ ⟨rfl,rfl,rfl⟩ -)|fail)<;>try simp only [go_sem,seval,hd])
  refine pc_ret ?_
  simp [jumpsM,hall]
theorem c_bparts (c:Prg) (hl:Lim c) (hs:∀ s∈c.strings,s.length≤140737488355328):PC Tryd.prog 54 [c.v] (.bool (partsM c)):=by
 have hl0:=hl
 obtain ⟨wp,wv,ws,wi,wt,we,li,ls,le,lp,lv⟩:=hl
 have cf1:=c_CF_str (g:=fun s => !printM s) (a:=[]) (cs:=[]) c.strings (by omega) rfl rfl (fun s h=>c_p1 s (hs s h))
 have cf2:=c_CF_int (g:=fun n => !inM n 0 99) (a:=[]) (cs:=[]) c.prios (by omega) rfl rfl (fun n _=>c_p2 n)
 have cf3:=c_CF_int (g:=fun n => !inM n (-2147483647) 2147483647) (a:=[]) (cs:=[]) c.vars (by omega) rfl rfl (fun n _=>c_p3 n)
 have cf4:=c_CF_ent (g:=fun e => !entryM c e) (a:=[]) (cs:=[.fptr c.cs]) c.entries (by omega) rfl (by simp [DV.nlL,DV.nl,nlL_ints,nlL_strs,nlL_instrs,nlL_entries]) (fun e _=>c_p4 c hl0 e)
 rw [any_not] at cf1 cf2 cf3 cf4
 have main:∀ (b:Bool) (cc:Nat),1≤cc→b = !(c.strings.all printM && c.prios.all (fun n=>inM n 0 99) && c.vars.all (fun n=>inM n (-2147483647) 2147483647) && c.entries.all (entryM c)) →
   IW Tryd.prog 59 (.loop u54_6) ⟨tm [(1,.ptr 0 0),(3,.bool b),(28,inssV c.instrs),(29,I64 c.instrs.length),(30,I64 0)],nil.upd 0 ⟨0,true,c.cs⟩,cc⟩ (bk 0 (sq Tryd.prog 59 u54_13 (rt [.tmp 2] fun v H' x => ∃ H2,GL H' [v] H2 [.bool (partsM c)]))):=by
  intro b cc h1c hbG
  refine i_loop (fun k:Nat=>[(1,.ptr 0 0),(3,.bool (b || !(c.instrs.take k).all (numberM c))),(28,inssV c.instrs),(29,I64 c.instrs.length),(30,I64 k)]) (fun _=>nil.upd 0 ⟨0,true,c.cs⟩) (fun k cc=>1≤cc∧k≤c.instrs.length) (fun k=>c.instrs.length-k) 0 (by simp [tmLe,tm,Tm.upd]) (Sub.refl _) (by simp;omega) ?_
  rintro k cc ⟨h1c,hk⟩
  have ne0:=nes2 0 cc (by omega)
  by_cases hlt:k<c.instrs.length
  ·have hd:decide ((k:Int)<c.instrs.length)=true:=by simpa using hlt
   have hg:=List.getElem?_eq_getElem hlt
   have hw:=w64 (n:=(k:Int)+1) (by omega) (by omega)
   have hta:=all_take' (numberM c) c.instrs k _ hg
   rw [number_span] at hta
   clear hbG
   generalize hB:(b || !(c.instrs.take k).all (numberM c))=B
   repeat' ((with_reducible first|refine wr ?_|refine cpc (c_isJ _) ?_|refine cpc (c_within _ _ _) ?_|refine cpc (c_span c hl0 _) ?_|refine wb2 ?_ ?_<;>(intro hb;try simp only [hb])|fail)<;>try simp only [go_sem,seval,hd,hg,hw,ne0])
   all_goals exact ⟨k+1,by rw [hta,step_bad,hB];simp_all,by (intro j b hj;simp only [Hp.upd,Hp.del,Sym.nil,baseH,optH] at hj ⊢;(repeat' split at hj)<;>(repeat' split)<;>first|exact hj|(exfalso;omega)|cases hj),inv ⟨by omega,hlt⟩,by omega⟩
  ·have hd:decide ((k:Int)<c.instrs.length)=false:=by simpa using hlt
   repeat' ((with_reducible first|refine wr ?_|refine wb2 ?_ ?_<;>(intro hb;try simp only [hb])|fail)<;>try simp only [go_sem,seval,hd])
   refine pc_ret ?_
   rw [List.take_of_length_le (by omega)]
   simp only [partsM,hbG]
   simp only [Bool.not_or,Bool.not_not]
 refine PC.of mixedU isU54 (Nat.le_of_ble_eq_true rfl) (by simp [DV.nlL,DV.nl,nlL_ints,nlL_strs,nlL_instrs,nlL_entries,nlL_stp]) (by simp [DV.nlL,DV.nl,nlL_ints,nlL_strs,nlL_instrs,nlL_entries,nlL_stp]) ?_
 show IW Tryd.prog 59 u54_1 ⟨argT _,_,_⟩ (rt [.tmp 2] _)
 repeat' ((first|(with_reducible first|refine wr ?_|refine cpc cf1 ?_|refine cpc cf2 ?_|refine cpc cf3 ?_)|(with_reducible refine wb2 ?_ ?_<;>(intro hb;try simp only [hb]))|((with_reducible refine AC.call (PC.lend cf4 rfl (g_cap c _ _)) ?_);rintro _ _ _ ⟨rfl,rfl,rfl⟩ -)|fail)<;>try simp only [go_sem,seval])
 all_goals (refine main _ _ (by omega) ?_;simp only [Bool.not_eq_true',Bool.not_eq_false'] at *;simp only [*,Bool.and_true,Bool.true_and,Bool.false_and,Bool.and_false,Bool.not_true,Bool.not_false])
end Go.Proofs.YtcallbfckjlagaaDoor
namespace Go.Proofs.YtcallbfckjlagaaDoor
open Go.Eng (IC IOper DReg IFn IsFn)
open Go.Sym Go.Pb
theorem c_reach (c:Prg) (h:List Int) (wk:List Nat) (o:Option Nat) (junk:List DV) (H:Hp) (cc:Nat) (p:Nat) (x:Int) (hS:WkS c h wk o junk H cc) (hw:wk.length≤100000) :
  AC Tryd.prog 80 [I64 (p:Int),I64 x,.ptr 2 0,.ptr 3 0] H cc (fun v H' c'=>match reachM h wk p x with
   | none=>v=.bool false
   | some (h',wk')=>v=.bool true∧∃ o' junk',WkS c h' wk' o' junk' H' c'∧∀ j,4≤j→j<cc→o≠some j→H' j=H j):=by
 obtain ⟨h0,h1,h2,h3,hn,hs,hc⟩:=hS
 refine AC.body mixedU isU80 (Nat.le_of_ble_eq_true rfl) fun hfr=>?_
 show IW Tryd.prog 43 u80_1 ⟨argT _,_,_⟩ (rt [.tmp 6] _)
 by_cases hp:h.length≤p
 ·have hd:decide ((p:Int)≥h.length)=true:=by simp;omega
  have hr:reachM h wk p x=none:=by rw [reachM,if_pos (.inl hp)]
  repeat' ((with_reducible first|refine wr ?_|refine wb2 ?_ ?_<;>(intro hb;try simp only [hb])|fail)<;>try simp only [go_sem,seval,h1,h2,h3,hd])
  exact ⟨_,_,GL.refl _ _,by rw [hr]⟩
 have hp':p<h.length:=by omega
 have hd:decide ((p:Int)≥h.length)=false:=by simp;omega
 have hg:=List.getElem?_eq_getElem hp'
 have hgd:h.getD p 0=h[p]:=by simp [List.getD,hg]
 have hput:=put_map (f:=I64) (l:=h) (n:=p) (a:=x) hp'
 have hle:p+1≤h.length:=hp'
 rcases o with _|id
 ·obtain rfl:=hn rfl
  have ne0:=nes6 0 1 2 3 cc (cc+1) (by omega)
  repeat' ((first|(with_reducible first|refine wr ?_)|(with_reducible refine wb2 ?_ ?_<;>(intro hb;try simp only [hb]))|((with_reducible refine k_eval (r_appn' (by decide) (by decide) (by decide)) ?_))|fail)<;>try simp only [go_sem,seval,h1,h2,h3,hd,hp',hg,hput,hle,List.length_nil,ne0])
  ·have hr:reachM h [] p x=none:=by simp_all [reachM]
   exact ⟨_,_,GL.refl _ _,by rw [hr]⟩
  ·have hr:reachM h [] p x=none:=by simp_all [reachM]
   exact ⟨_,_,GL.refl _ _,by rw [hr]⟩
  ·exfalso;simp at *;omega
  ·have hr:reachM h [] p x=some (h,[]):=by simp_all [reachM]<;>omega
   refine ⟨_,_,GL.refl _ _,?_⟩
   rw [hr]
   exact ⟨rfl,none,junk,⟨h0,h1,h2,h3,hn,hs,hc⟩,fun _ _ _ _=>rfl⟩
  ·have hr:reachM h [] p x=some (h.set p x,p :: []):=by simp_all [reachM]<;>omega
   refine ⟨_,_,GL.refl _ _,?_⟩
   rw [hr]
   refine ⟨rfl,some (cc+1),[],⟨?_,?_,?_,?_,by simp,fun i hi=>?_,by omega⟩,fun j hj1 hj2 hj3=>?_⟩
   ·simp only [go_sem,seval,ne0,h0]
   ·simp only [go_sem,seval,ne0]
   ·simp only [go_sem,seval,ne0,h2,List.length_set]
   ·simp only [go_sem,seval,ne0]
   ·cases hi
    refine ⟨by omega,by omega,?_⟩
    simp only [go_sem,seval,ne0,wkC_cons]
    try rfl
   ·have k1:¬ j=1:=by omega
    have k2:¬ j=3:=by omega
    have k3:¬ j=cc:=by omega
    have k4:¬ j=cc+1:=by omega
    simp only [go_sem,seval,k1,k2,k3,k4]
  ·exfalso;simp at *;omega
 ·obtain ⟨i2,i3,hi4⟩:=hs id rfl
  have ne0:=nes7 0 1 2 3 id cc (cc+1) (by omega)
  have hmx:wk.length+1≤maxLen:=by simp only [maxLen];omega
  have hcl:wk.length * 1≤(wkC wk++junk).length:=by simp [wkC_len]
  have htake:(wkC wk++junk).take (wk.length)=wkC wk:=List.take_left' (wkC_len wk)
  repeat' ((first|(with_reducible first|refine wr ?_)|(with_reducible refine wb2 ?_ ?_<;>(intro hb;try simp only [hb]))|((with_reducible refine k_eval (b_app hcl (by omega) hmx) ?_))|fail)<;>try simp only [go_sem,seval,h1,h2,h3,hi4,hd,hp',hg,hput,hle,htake,ne0])
  ·have hr:reachM h wk p x=none:=by simp_all [reachM]
   exact ⟨_,_,GL.refl _ _,by rw [hr]⟩
  ·have hr:reachM h wk p x=none:=by simp_all [reachM]
   exact ⟨_,_,GL.refl _ _,by rw [hr]⟩
  ·exfalso;simp at *;omega
  ·have hr:reachM h wk p x=some (h,wk):=by simp_all [reachM]<;>omega
   refine ⟨_,_,GL.refl _ _,?_⟩
   rw [hr]
   exact ⟨rfl,some id,junk,⟨h0,h1,h2,h3,hn,hs,hc⟩,fun _ _ _ _=>rfl⟩
  ·have hr:reachM h wk p x=some (h.set p x,p :: wk):=by simp_all [reachM]<;>omega
   refine ⟨_,_,GL.refl _ _,?_⟩
   rw [hr]
   refine ⟨rfl,some (cc+1),[],⟨?_,?_,?_,?_,by simp,fun i hi=>?_,by omega⟩,fun j hj1 hj2 hj3=>?_⟩
   ·simp only [go_sem,seval,ne0,h0]
   ·simp only [go_sem,seval,ne0]
   ·simp only [go_sem,seval,ne0,h2,List.length_set]
   ·simp only [go_sem,seval,ne0]
   ·cases hi
    refine ⟨by omega,by omega,?_⟩
    simp only [go_sem,seval,ne0,wkC_cons]
    try rfl
   ·have hj4:¬ j=id:=fun e=>hj3 (by rw [e])
    have k1:¬ j=1:=by omega
    have k2:¬ j=3:=by omega
    have k3:¬ j=cc:=by omega
    have k4:¬ j=cc+1:=by omega
    simp only [go_sem,seval,hj4,k1,k2,k3,k4]
  ·exfalso;simp at *;omega
theorem c_reach' (c:Prg) (h:List Int) (wk:List Nat) (o:Option Nat) (junk:List DV) (H:Hp) (cc:Nat) (p:Int) (x:Int) (hp:0≤p) (hS:WkS c h wk o junk H cc) (hw:wk.length≤100000) :
  AC Tryd.prog 80 [I64 p,I64 x,.ptr 2 0,.ptr 3 0] H cc (fun v H' c'=>(reachM h wk p.toNat x=none∧v=.bool false) ∨
   ∃ h' wk' o' junk',reachM h wk p.toNat x=some (h',wk')∧v=.bool true∧WkS c h' wk' o' junk' H' c'∧∀ j,4≤j→j<cc→o≠some j→H' j=H j):=by
 have hpp:(p.toNat:Int)=p:=by omega
 have key:=c_reach c h wk o junk H cc p.toNat x hS hw
 rw [hpp] at key
 refine key.mono fun v H' c' hq=>?_
 cases hr:reachM h wk p.toNat x with
 | none=>rw [hr] at hq;exact .inl ⟨rfl,hq⟩
 | some q =>
  obtain ⟨h',wk'⟩:=q
  rw [hr] at hq
  obtain ⟨e,o',junk',s1,s2⟩:=hq
  exact .inr ⟨h',wk',o',junk',rfl,e,s1,s2⟩
end Go.Proofs.YtcallbfckjlagaaDoor
namespace Go.Proofs.YtcallbfckjlagaaDoor
open Go.Eng (IC IOper DReg IFn IsFn)
open Go.Sym Go.Pb
abbrev clo:DV:=.func 80 [] [.ptr 2 0,.ptr 3 0]
theorem l_heightsP (c:Prg) (hl:Lim c) (hj:jumpsM c=true) (r:Option (List Int)) (n:Nat) (h:List Int) (wk:List Nat) (o:Option Nat) (junk:List DV) (cc:Nat) (hc4:4≤cc) (hn:o=none→wk=[]) (hs:∀ i,o=some i→4≤i∧i<cc)
  (hI:WkI c.instrs.length h wk) (hb:wk.length+2 * n≤60000) (hr:hgtP c n h wk=some r) :
  IW Tryd.prog 150 (.loop u57_26) ⟨tm [(1,.ptr 0 0),(4,.ptr 2 0),(6,.ptr 3 0),(7,clo)],WH c h wk o junk,cc⟩ (bk 4 (sq Tryd.prog 150 u57_55 (rt [.tmp 2,.tmp 3] fun v H' x => ∃ H2,GL H' [v] H2 [hgtV r]))):=by
 have hjI:∀ i∈c.instrs,i.op=12∨i.op=13∨i.op=14→0≤i.A∧i.A≤(c.instrs.length:Int)-1:=by
  intro i hi hop
  simp only [jumpsM,Bool.and_eq_true,List.all_eq_true] at hj
  have:=hj.1 i hi
  have hk:(effM i.op).2.2=7:=by rcases hop with e|e|e<;>rw [e]<;>decide
  simpa [jumpI,hk,inM] using this
 obtain ⟨wp,wv,ws,wi,wt,we,li,ls,le,lp,lv⟩:=hl
 refine i_loop (fun q:Nat × List Int × List Nat × Option Nat × List DV=>[(1,.ptr 0 0),(4,.ptr 2 0),(6,.ptr 3 0),(7,clo)])
  (fun q=>WH c q.2.1 q.2.2.1 q.2.2.2.1 q.2.2.2.2)
  (fun q cc=>4≤cc∧(q.2.2.2.1=none→q.2.2.1=[])∧(∀ i,q.2.2.2.1=some i→4≤i∧i<cc)∧WkI c.instrs.length q.2.1 q.2.2.1∧q.2.2.1.length+2 * q.1≤60000∧hgtP c q.1 q.2.1 q.2.2.1=some r)
  (fun q=>q.1) (n,h,wk,o,junk) ⟨rfl,rfl,rfl,rfl,trivial⟩ (Sub.refl _) ⟨hc4,hn,hs,hI,hb,hr⟩ ?_
 clear hc4 hn hs hI hb hr
 rintro ⟨n,h,wk,o,junk⟩ cc ⟨hc4,hn,hs,hI,hb,hr⟩
 simp only at hn hs hI hb hr
 obtain ⟨m,rfl⟩:∃ m,n=m+1:=by
  cases n with
  | zero=>cases hr
  | succ m=>exact ⟨m,rfl⟩
 have hS:=WkS.mk' (c:=c) (h:=h) (junk:=junk) hn hs hc4
 rcases wk with _|⟨p,wk⟩
 ·simp only [hgtP,Option.some.injEq] at hr
  subst hr
  have hlen:lenR (todoV o 0)=some (I64 0):=by cases o<;>rfl
  repeat' ((with_reducible first|refine wr ?_|refine wb2 ?_ ?_<;>(intro hb;try simp only [hb])|fail)<;>try simp only [go_sem,seval,hS.h0,hS.h1,hS.h2,hS.h3,hlen,List.length_nil])
  exact pc_slc2 (u:=1) hS.h1 rfl (by simp) (ints_unit h) ⟨[],by rw [cells_ints,List.append_nil]⟩
 rcases o with _|id
 ·exact absurd (hn rfl) (by simp)
 obtain ⟨i2,i3⟩:=hs id rfl
 have hbl:=(hS.hs id rfl).2.2
 rw [List.length_cons] at hb
 have hpos:decide (((wk.length+1:Nat):Int)>0)=true:=by simp
 have hw:=w64 (n:=(((wk.length+1:Nat):Int)-1)) (by omega) (by omega)
 have hw1:(((wk.length+1:Nat):Int)-1)=(wk.length:Int):=by omega
 rw [hw1] at hw
 obtain ⟨s1,s2,s3⟩:=hI.mem p List.mem_cons_self
 have hIt:WkI c.instrs.length h wk:=⟨hI.hl,fun q hq=>hI.mem q (List.mem_cons_of_mem _ hq)⟩
 have hlen:=hI.hl
 have hp':p<h.length:=by omega
 have hgh:=List.getElem?_eq_getElem hp'
 have hgi:=List.getElem?_eq_getElem s1
 have eh:h.getD p 0=h[p]:=by simp [List.getD,hgh]
 have ei:c.instrs.getD p ⟨0,0⟩=c.instrs[p]:=by simp [List.getD,hgi]
 simp only [hgtP] at hr
 rw [eh] at s2 s3
 rw [eh,ei] at hr
 obtain ⟨b1,b2,b3,b4⟩:=eff_bd c.instrs[p].op
 have w2:=w64 (n:=h[p]-(effM c.instrs[p].op).1) (by omega) (by omega)
 have w3:=w64 (n:=h[p]-(effM c.instrs[p].op).1+(effM c.instrs[p].op).2.1) (by omega) (by omega)
 have hcell:(wkC (p :: wk)++junk)[wk.length]? = some (I64 (p:Int)):=by
  rw [wkC_cons,List.append_assoc,List.getElem?_append_right (by simp [wkC_len]),wkC_len];simp
 have hblen:wk.length+1≤(wkC (p :: wk)++junk).length:=by simp [wkC_len]
 have ne0:=nes7 0 1 2 3 id cc (cc+1) (by omega)
 by_cases hok:¬ h[p]≥(effM c.instrs[p].op).1
 ·rw [if_pos (.inl (by omega))] at hr
  cases hr
  have hok':decide (h[p]≥(effM c.instrs[p].op).1)=false:=by simpa using hok
  repeat' ((with_reducible first|refine wr ?_|refine cpc (c_stack _) ?_|refine wb2 ?_ ?_<;>(intro hb;try simp only [hb])|fail)<;>try simp only [go_sem,seval,hS.h0,hS.h1,hS.h2,hS.h3,hbl,List.length_cons,hw1,hw,hpos,hcell,hblen,hgh,hgi,s1,hp',hlen,w2,w3,hok',Nat.lt_add_one,Nat.le_add_right,ne0])
  all_goals exact pc_snil2
 have hok1:h[p]≥(effM c.instrs[p].op).1:=by omega
 have hok':decide (h[p]≥(effM c.instrs[p].op).1)=true:=by simpa using hok1
 have hwp:=w64 (n:=(p:Int)+1) (by omega) (by omega)
 have hpp:((p:Int)+1).toNat=p+1:=by omega
 by_cases e31:c.instrs[p].op=31
 ·have o31:(c.instrs[p].op == 31)=true:=by simpa using e31
  by_cases hz:h[p]=0
  ·have hz':(h[p] == 0)=true:=by simpa using hz
   rw [if_neg (by omega)] at hr
   have hA:afterM c.instrs[p] p h[p]=[]:=by simp [afterM,e31]
   rw [hA] at hr
   simp only [reachL] at hr
   repeat' ((with_reducible first|refine wr ?_|refine cpc (c_stack _) ?_|refine wb2 ?_ ?_<;>(intro hb;try simp only [hb])|fail)<;>try simp only [go_sem,seval,hS.h0,hS.h1,hS.h2,hS.h3,hbl,List.length_cons,hw1,hw,hpos,hcell,hblen,hgh,hgi,s1,hp',hlen,w2,w3,hok',Nat.lt_add_one,Nat.le_add_right,ne0,o31,hz'])
   have hS':=(hS.pop.upd ⟨0,true,[DV.int IntKind.i64 0,DV.int IntKind.i64 0]⟩ (Nat.le_refl _) (Nat.le_refl _)).upd ⟨0,true,[I64 c.instrs[p].op,I64 c.instrs[p].A]⟩ (Nat.le_refl _) (Nat.le_succ _)
   exact ⟨(m,h,wk,some id,I64 (p:Int) :: junk),hS'.sub,inv ⟨hS'.hc,hS'.hn,fun i hi=>⟨(hS'.hs i hi).1,(hS'.hs i hi).2.1⟩,hIt,by simp only;omega,hr⟩,by simp only;omega⟩
  ·have hz':(h[p] == 0)=false:=by simpa using hz
   rw [if_pos (.inr ⟨e31,hz⟩)] at hr
   cases hr
   repeat' ((with_reducible first|refine wr ?_|refine cpc (c_stack _) ?_|refine wb2 ?_ ?_<;>(intro hb;try simp only [hb])|fail)<;>try simp only [go_sem,seval,hS.h0,hS.h1,hS.h2,hS.h3,hbl,List.length_cons,hw1,hw,hpos,hcell,hblen,hgh,hgi,s1,hp',hlen,w2,w3,hok',Nat.lt_add_one,Nat.le_add_right,ne0,o31,hz'])
   exact pc_snil2
 have o31:(c.instrs[p].op == 31)=false:=by simpa using e31
 rw [if_neg (by omega)] at hr
 by_cases e12:c.instrs[p].op=12
 ·have o12:(c.instrs[p].op == 12)=true:=by simpa using e12
  have p1:=(hjI _ (List.getElem_mem s1) (.inl e12)).1
  have hE:effM c.instrs[p].op=(0,0,7):=by rw [e12];decide
  have hA:afterM c.instrs[p] p h[p]=[(c.instrs[p].A.toNat,h[p])]:=by simp [afterM,e12]
  have hx:h[p]-(effM c.instrs[p].op).1+(effM c.instrs[p].op).2.1=h[p]:=by rw [hE];simp
  repeat' ((with_reducible first|refine wr ?_|refine cpc (c_stack _) ?_|refine wb2 ?_ ?_<;>(intro hb;try simp only [hb])|fail)<;>try simp only [go_sem,seval,hS.h0,hS.h1,hS.h2,hS.h3,hbl,List.length_cons,hw1,hw,hpos,hcell,hblen,hgh,hgi,s1,hp',hlen,w2,w3,hok',Nat.lt_add_one,Nat.le_add_right,ne0,o31,o12])
  refine AC.call (c_reach' c h wk (some id) _ _ _ (c.instrs[p].A) _ (p1) ((hS.pop.upd _ (Nat.le_refl _) (Nat.le_refl _)).upd _ (Nat.le_refl _) (Nat.le_succ _)) (by omega)) ?_
  rintro v H' c' hq hcc
  rw [hA] at hr
  rw [hx] at hq
  rcases hq with ⟨hr0,rfl⟩|⟨h',wk',o',junk',hr1,rfl,hS',hfr⟩
  ·simp only [reachL,hr0] at hr
   cases hr
   simp only [go_sem,seval]
   repeat' ((with_reducible first|refine wr ?_|refine wb2 ?_ ?_<;>(intro hb;try simp only [hb])|fail)<;>try simp only [go_sem,seval])
   exact pc_snil2
  ·simp only [reachL,hr1] at hr
   obtain ⟨hI',hwk'⟩:=reach_inv hIt s2 hr1
   simp only [go_sem,seval]
   repeat' ((with_reducible first|refine wr ?_|refine wb2 ?_ ?_<;>(intro hb;try simp only [hb])|fail)<;>try simp only [go_sem,seval])
   exact ⟨(m,h',wk',o',junk'),hS'.sub,inv ⟨hS'.hc,hS'.hn,fun i hi=>⟨(hS'.hs i hi).1,(hS'.hs i hi).2.1⟩,hI',by simp only;omega,hr⟩,by simp only;omega⟩
 have o12:(c.instrs[p].op == 12)=false:=by simpa using e12
 by_cases e13:c.instrs[p].op=13
 ·have o13:(c.instrs[p].op == 13)=true:=by simpa using e13
  have p1:=(hjI _ (List.getElem_mem s1) (.inr (.inl e13))).1
  have hE:effM c.instrs[p].op=(1,0,7):=by rw [e13];decide
  have hA:afterM c.instrs[p] p h[p]=[(p+1,h[p]-1),(c.instrs[p].A.toNat,h[p]-1)]:=by simp [afterM,e13]
  have hx:h[p]-(effM c.instrs[p].op).1+(effM c.instrs[p].op).2.1=h[p]-1:=by rw [hE];simp
  have hge:0≤h[p]-1:=by rw [hE] at hok1;simp only at hok1;omega
  repeat' ((with_reducible first|refine wr ?_|refine cpc (c_stack _) ?_|refine wb2 ?_ ?_<;>(intro hb;try simp only [hb])|fail)<;>try simp only [go_sem,seval,hS.h0,hS.h1,hS.h2,hS.h3,hbl,List.length_cons,hw1,hw,hpos,hcell,hblen,hgh,hgi,s1,hp',hlen,w2,w3,hok',Nat.lt_add_one,Nat.le_add_right,ne0,o31,o12,o13,hwp])
  refine AC.call (c_reach' c h wk (some id) _ _ _ ((p:Int)+1) _ (by omega) ((hS.pop.upd _ (Nat.le_refl _) (Nat.le_refl _)).upd _ (Nat.le_refl _) (Nat.le_succ _)) (by omega)) ?_
  rintro v H' c' hq hcc
  rw [hA] at hr
  rw [hx] at hq
  rw [hpp] at hq
  rcases hq with ⟨hr0,rfl⟩|⟨h',wk',o',junk',hr1,rfl,hS',hfr⟩
  ·simp only [reachL,hr0] at hr
   cases hr
   simp only [go_sem,seval]
   repeat' ((with_reducible first|refine wr ?_|refine wb2 ?_ ?_<;>(intro hb;try simp only [hb])|fail)<;>try simp only [go_sem,seval])
   exact pc_snil2
  ·obtain ⟨hI',hwk'⟩:=reach_inv hIt hge hr1
   simp only [reachL,hr1] at hr
   have hbox:=(hfr cc hc4 (Nat.lt_succ_self _) (by simp;omega)).trans h_same
   simp only [go_sem,seval,hbox,o31,o12,o13,hwp]
   repeat' ((with_reducible first|refine wr ?_|refine wb2 ?_ ?_<;>(intro hb;try simp only [hb])|fail)<;>try simp only [go_sem,seval,hbox,o31,o12,o13,hwp])
   refine AC.call (c_reach' c h' wk' o' junk' _ _ c.instrs[p].A _ p1 hS' (by omega)) ?_
   rintro v H2 c2 hq hcc2
   rw [hx] at hq
   rcases hq with ⟨hr0,rfl⟩|⟨h2,wk2,o2,junk2,hr2,rfl,hS2,hfr2⟩
   ·simp only [hr0] at hr
    cases hr
    simp only [go_sem,seval]
    repeat' ((with_reducible first|refine wr ?_|refine wb2 ?_ ?_<;>(intro hb;try simp only [hb])|fail)<;>try simp only [go_sem,seval])
    exact pc_snil2
   ·simp only [hr2] at hr
    obtain ⟨hI2,hwk2⟩:=reach_inv hI' hge hr2
    simp only [go_sem,seval]
    repeat' ((with_reducible first|refine wr ?_|refine wb2 ?_ ?_<;>(intro hb;try simp only [hb])|fail)<;>try simp only [go_sem,seval])
    exact ⟨(m,h2,wk2,o2,junk2),hS2.sub,inv ⟨hS2.hc,hS2.hn,fun i hi=>⟨(hS2.hs i hi).1,(hS2.hs i hi).2.1⟩,hI2,by simp only;omega,hr⟩,by simp only;omega⟩
 have o13:(c.instrs[p].op == 13)=false:=by simpa using e13
 by_cases e14:c.instrs[p].op=14
 ·have o14:(c.instrs[p].op == 14)=true:=by simpa using e14
  have p1:=(hjI _ (List.getElem_mem s1) (.inr (.inr e14))).1
  have hE:effM c.instrs[p].op=(1,1,7):=by rw [e14];decide
  have hA:afterM c.instrs[p] p h[p]=[(p+1,h[p]),(c.instrs[p].A.toNat,h[p]-1)]:=by simp [afterM,e14]
  have hx:h[p]-(effM c.instrs[p].op).1+(effM c.instrs[p].op).2.1=h[p]:=by rw [hE];simp
  have hge:0≤h[p]-1:=by rw [hE] at hok1;simp only at hok1;omega
  have w4:=w64 (n:=h[p]-(effM c.instrs[p].op).1+(effM c.instrs[p].op).2.1-1) (by omega) (by omega)
  repeat' ((with_reducible first|refine wr ?_|refine cpc (c_stack _) ?_|refine wb2 ?_ ?_<;>(intro hb;try simp only [hb])|fail)<;>try simp only [go_sem,seval,hS.h0,hS.h1,hS.h2,hS.h3,hbl,List.length_cons,hw1,hw,hpos,hcell,hblen,hgh,hgi,s1,hp',hlen,w2,w3,hok',Nat.lt_add_one,Nat.le_add_right,ne0,o31,o12,o13,o14,hwp,w4])
  refine AC.call (c_reach' c h wk (some id) _ _ _ ((p:Int)+1) _ (by omega) ((hS.pop.upd _ (Nat.le_refl _) (Nat.le_refl _)).upd _ (Nat.le_refl _) (Nat.le_succ _)) (by omega)) ?_
  rintro v H' c' hq hcc
  rw [hA] at hr
  rw [hx] at hq
  rw [hpp] at hq
  rcases hq with ⟨hr0,rfl⟩|⟨h',wk',o',junk',hr1,rfl,hS',hfr⟩
  ·simp only [reachL,hr0] at hr
   cases hr
   simp only [go_sem,seval]
   repeat' ((with_reducible first|refine wr ?_|refine wb2 ?_ ?_<;>(intro hb;try simp only [hb])|fail)<;>try simp only [go_sem,seval])
   exact pc_snil2
  ·obtain ⟨hI',hwk'⟩:=reach_inv hIt s2 hr1
   simp only [reachL,hr1] at hr
   have hbox:=(hfr cc hc4 (Nat.lt_succ_self _) (by simp;omega)).trans h_same
   simp only [go_sem,seval,hbox,o31,o12,o13,o14,hwp,w4]
   repeat' ((with_reducible first|refine wr ?_|refine wb2 ?_ ?_<;>(intro hb;try simp only [hb])|fail)<;>try simp only [go_sem,seval,hbox,o31,o12,o13,o14,hwp,w4])
   refine AC.call (c_reach' c h' wk' o' junk' _ _ c.instrs[p].A _ p1 hS' (by omega)) ?_
   rintro v H2 c2 hq hcc2
   rw [hx] at hq
   rcases hq with ⟨hr0,rfl⟩|⟨h2,wk2,o2,junk2,hr2,rfl,hS2,hfr2⟩
   ·simp only [hr0] at hr
    cases hr
    simp only [go_sem,seval]
    repeat' ((with_reducible first|refine wr ?_|refine wb2 ?_ ?_<;>(intro hb;try simp only [hb])|fail)<;>try simp only [go_sem,seval])
    exact pc_snil2
   ·simp only [hr2] at hr
    obtain ⟨hI2,hwk2⟩:=reach_inv hI' hge hr2
    simp only [go_sem,seval]
    repeat' ((with_reducible first|refine wr ?_|refine wb2 ?_ ?_<;>(intro hb;try simp only [hb])|fail)<;>try simp only [go_sem,seval])
    exact ⟨(m,h2,wk2,o2,junk2),hS2.sub,inv ⟨hS2.hc,hS2.hn,fun i hi=>⟨(hS2.hs i hi).1,(hS2.hs i hi).2.1⟩,hI2,by simp only;omega,hr⟩,by simp only;omega⟩
 have o14:(c.instrs[p].op == 14)=false:=by simpa using e14
 have hA:afterM c.instrs[p] p h[p]=[(p+1,h[p]-(effM c.instrs[p].op).1+(effM c.instrs[p].op).2.1)]:=by simp [afterM,e31,e12,e13,e14]
 have hge:0≤h[p]-(effM c.instrs[p].op).1+(effM c.instrs[p].op).2.1:=by omega
 repeat' ((with_reducible first|refine wr ?_|refine cpc (c_stack _) ?_|refine wb2 ?_ ?_<;>(intro hb;try simp only [hb])|fail)<;>try simp only [go_sem,seval,hS.h0,hS.h1,hS.h2,hS.h3,hbl,List.length_cons,hw1,hw,hpos,hcell,hblen,hgh,hgi,s1,hp',hlen,w2,w3,hok',Nat.lt_add_one,Nat.le_add_right,ne0,o31,o12,o13,o14,hwp])
 refine AC.call (c_reach' c h wk (some id) _ _ _ ((p:Int)+1) _ (by omega) ((hS.pop.upd _ (Nat.le_refl _) (Nat.le_refl _)).upd _ (Nat.le_refl _) (Nat.le_succ _)) (by omega)) ?_
 rintro v H' c' hq hcc
 rw [hA] at hr
 rw [hpp] at hq
 rcases hq with ⟨hr0,rfl⟩|⟨h',wk',o',junk',hr1,rfl,hS',hfr⟩
 ·simp only [reachL,hr0] at hr
  cases hr
  simp only [go_sem,seval]
  repeat' ((with_reducible first|refine wr ?_|refine wb2 ?_ ?_<;>(intro hb;try simp only [hb])|fail)<;>try simp only [go_sem,seval])
  exact pc_snil2
 ·simp only [reachL,hr1] at hr
  obtain ⟨hI',hwk'⟩:=reach_inv hIt hge hr1
  simp only [go_sem,seval]
  repeat' ((with_reducible first|refine wr ?_|refine wb2 ?_ ?_<;>(intro hb;try simp only [hb])|fail)<;>try simp only [go_sem,seval])
  exact ⟨(m,h',wk',o',junk'),hS'.sub,inv ⟨hS'.hc,hS'.hn,fun i hi=>⟨(hS'.hs i hi).1,(hS'.hs i hi).2.1⟩,hI',by simp only;omega,hr⟩,by simp only;omega⟩
theorem c_heightsP (c:Prg) (hl:Lim c) (hj:jumpsM c=true) (n:Nat) (hn0:n≤20000) (r:Option (List Int)) (hr:hgtP0 c n=some r):PC Tryd.prog 57 [c.v] (hgtV r):=by
 have hl0:=hl
 obtain ⟨wp,wv,ws,wi,wt,we,li,ls,le,lp,lv⟩:=hl
 have hms:=r_msl (sz:=1) (bytes:=8) (z:=[I64 0]) (k:=.i64) (k':=.i64) (n:=c.instrs.length) (by omega) (by omega) rfl rfl
 refine PC.of mixedU isU57 (Nat.le_of_ble_eq_true rfl) (by simp [DV.nlL,DV.nl,nlL_ints,nlL_strs,nlL_instrs,nlL_entries]) (by cases r<;>simp [hgtV,DV.nlL,DV.nl,nlL_ints]) ?_
 show IW Tryd.prog 150 u57_1 ⟨argT _,_,_⟩ (rt [.tmp 2,.tmp 3] _)
 repeat' ((with_reducible first|refine wr ?_|refine wb2 ?_ ?_<;>(intro hb;try simp only [hb])|fail)<;>try simp only [go_sem,seval,hms,madeL_one])
 -- every height is -1
 refine i_loop (fun k:Nat=>[(1,.ptr 0 0),(4,.ptr 2 0),(21,I64 c.instrs.length),(22,I64 k)]) (fun k=>((nil.upd 0 ⟨0,true,c.cs⟩).upd 1 ⟨1,true,(fillM c.instrs.length k).map I64⟩).upd 2 ⟨0,true,[.slc 1 0 c.instrs.length]⟩) (fun k cc=>cc=3∧k≤c.instrs.length) (fun k=>c.instrs.length-k) 0
  (by simp [tmLe,tm,Tm.upd]) (by rw [h_upd2];simpa [fillM] using Sub.refl _) (by simp) ?_
 rintro k cc ⟨rfl,hk⟩
 by_cases hlt:k<c.instrs.length
 ·have hd:decide ((k:Int)<c.instrs.length)=true:=by simpa using hlt
  have hw:=w64 (n:=(k:Int)+1) (by omega) (by omega)
  have hlen:(fillM c.instrs.length k).length=c.instrs.length:=by simp [fillM];omega
  have hle:k+1≤c.instrs.length:=hlt
  have hput:=put_map (f:=I64) (l:=fillM c.instrs.length k) (n:=k) (a := -1) (by rw [hlen];exact hlt)
  repeat' ((with_reducible first|refine wr ?_|refine wb2 ?_ ?_<;>(intro hb;try simp only [hb])|fail)<;>try simp only [go_sem,seval,hd,hw,hlen,hle,hlt,hput])
  exact ⟨k+1,rfl,by rw [fillM_succ hlt];(intro j b hj;simp only [Hp.upd,Hp.del,Sym.nil,baseH,optH] at hj ⊢;(repeat' split at hj)<;>(repeat' split)<;>first|exact hj|(exfalso;omega)|cases hj),inv ⟨rfl,hlt⟩,by omega⟩
 have hd:decide ((k:Int)<c.instrs.length)=false:=by simpa using hlt
 have hfull:fillM c.instrs.length k=List.replicate c.instrs.length (-1):=by
  have:c.instrs.length-k=0:=by omega
  have hk2:k=c.instrs.length:=by omega
  simp [fillM,this,hk2]
 repeat' ((with_reducible first|refine wr ?_|refine wb2 ?_ ?_<;>(intro hb;try simp only [hb])|fail)<;>try simp only [go_sem,seval,hd,hfull])
 clear hd hfull hlt hk
 -- the entries
 have hjE:∀ e∈c.entries,0≤e.pos∧e.pos≤(c.instrs.length:Int)-1:=by
  intro e he
  simp only [jumpsM,Bool.and_eq_true,List.all_eq_true] at hj
  have:=hj.2 e he
  simpa [jumpE,inM] using this
 refine i_loop (fun q:Nat × List Int × List Nat × Option Nat × List DV=>[(1,.ptr 0 0),(4,.ptr 2 0),(6,.ptr 3 0),(7,clo),(31,entsV c.entries),(32,I64 c.entries.length),(33,I64 q.1)])
  (fun q=>WH c q.2.1 q.2.2.1 q.2.2.2.1 q.2.2.2.2)
  (fun q cc=>4≤cc∧q.1≤c.entries.length∧(q.2.2.2.1=none→q.2.2.1=[])∧(∀ i,q.2.2.2.1=some i→4≤i∧i<cc)∧WkI c.instrs.length q.2.1 q.2.2.1∧q.2.2.1.length≤q.1∧reachL q.2.1 q.2.2.1 ((c.entries.drop q.1).map entP)=reachL (List.replicate c.instrs.length (-1)) [] (c.entries.map entP))
  (fun q=>c.entries.length-q.1) (0,List.replicate c.instrs.length (-1),[],none,[])
  (by simp [tmLe,tm,Tm.upd,todoV]) (by simpa [WH,optH,todoV] using Sub.refl _) ⟨by omega,by omega,fun _=>rfl,by simp,⟨by simp,by simp⟩,by simp,by simp⟩ ?_
 rintro ⟨k,h,wk,o,junk⟩ cc ⟨hc4,hk,hn,hs,hI,hwk,hrL⟩
 simp only at hk hn hs hI hwk hrL
 have hS:=WkS.mk' (c:=c) (h:=h) (junk:=junk) hn hs hc4
 by_cases hlt:k<c.entries.length
 ·have hd:decide ((k:Int)<c.entries.length)=true:=by simpa using hlt
  have hw:=w64 (n:=(k:Int)+1) (by omega) (by omega)
  have hg:=List.getElem?_eq_getElem hlt
  obtain ⟨p1,p2⟩:=hjE _ (List.getElem_mem hlt)
  have hpos:c.entries[k].pos=((c.entries[k].pos.toNat:Nat):Int):=by omega
  have ne0:=nes6 0 1 2 3 cc (cc+1) (by omega)
  repeat' ((with_reducible first|refine wr ?_|refine wb2 ?_ ?_<;>(intro hb;try simp only [hb])|fail)<;>try simp only [go_sem,seval,hd,hw,hg,hS.h0,hS.h1,hS.h2,hS.h3,ne0])
  rw [h_upd2]
  refine AC.call (c_reach' c h wk o junk _ _ c.entries[k].pos 0 p1 (hS.upd _ (Nat.le_refl _) (Nat.le_succ _)) (by omega)) ?_
  rintro v H' c' hq hcc
  rw [List.drop_eq_getElem_cons hlt,List.map_cons] at hrL
  rcases hq with ⟨hr0,rfl⟩|⟨h',wk',o',junk',hr1,rfl,hS',hfr⟩
  ·have hr2:r=none:=by
    rw [hgtP0, ← hrL] at hr
    simp only [reachL,entP,hr0] at hr
    simpa using hr.symm
   subst hr2
   simp only [go_sem,seval]
   repeat' ((with_reducible first|refine wr ?_|refine wb2 ?_ ?_<;>(intro hb;try simp only [hb])|fail)<;>try simp only [go_sem,seval])
   exact pc_snil2
  ·simp only [reachL,entP,hr1] at hrL
   obtain ⟨hI',hwk'⟩:=reach_inv hI (Int.le_refl 0) hr1
   simp only [go_sem,seval]
   repeat' ((with_reducible first|refine wr ?_|refine wb2 ?_ ?_<;>(intro hb;try simp only [hb])|fail)<;>try simp only [go_sem,seval,hw])
   exact ⟨(k+1,h',wk',o',junk'),rfl,hS'.sub,inv ⟨hS'.hc,hlt,hS'.hn,fun i hi=>⟨(hS'.hs i hi).1,(hS'.hs i hi).2.1⟩,hI',by simp only;omega,hrL⟩,by simp only;omega⟩
 have hd:decide ((k:Int)<c.entries.length)=false:=by simpa using hlt
 obtain rfl:k=c.entries.length:=by omega
 rw [List.drop_eq_nil_of_le (Nat.le_refl _)] at hrL
 rw [hgtP0, ← hrL] at hr
 simp only [List.map_nil,reachL] at hr
 repeat' ((with_reducible first|refine wr ?_|refine wb2 ?_ ?_<;>(intro hb;try simp only [hb])|fail)<;>try simp only [go_sem,seval,hd])
 exact l_heightsP c hl0 hj r n h wk o junk cc hc4 hn hs hI (by omega) hr
end Go.Proofs.YtcallbfckjlagaaDoor
namespace Go.Proofs.YtcallbfckjlagaaDoor
open Go.Eng (IC IOper DReg IFn IsFn)
open Go.Sym Go.Pb
section
abbrev u20_2:IC:=qS [oD 4 1 7,oC 5 30 [.t 4],oE 6 5 0,oE 7 5 1,oM 2 6,oM 3 7] .ret [1]
abbrev u20_1:IC:=qS [oX 1 0,oV 2 (.slice none 0 0),oI 3 0] u20_2 [0]
def u20:IFn:=⟨8,u20_1,[.tmp 2,.tmp 3]⟩
end
theorem isU20:IsFn Tryd.prog 20 u20:=by unfold IsFn;kernel_rfl
theorem c_heightsP' (c:Prg) (hl:Lim c) (hj:jumpsM c=true):PC Tryd.prog 57 [c.v] (hgtV (hR c)) :=
 c_heightsP c hl hj 4001 (by omega) _ (hgtP_eq hl.li hj)
theorem c_verify (c:Prg) (hs:∀ s∈c.strings,s.length≤140737488355328) (n1:c.instrs.length≤9223372036854775807):PC Tryd.prog 30 [c.v] (.tup [ints (vHts c),I64 (validM c)]):=by
 by_cases hL:limitsM c=true
 ·have hl:=Lim.of hL
  have hl0:=hl
  obtain ⟨wp,wv,ws,wi,wt,we,li,ls,le,lp,lv⟩:=hl
  by_cases hp:partsM c=true
  ·by_cases hj:jumpsM c=true
   ·refine PC.of mixedU isU30 (Nat.le_of_ble_eq_true rfl) (by simp [DV.nlL,DV.nl,nlL_ints,nlL_strs,nlL_instrs,nlL_entries,nlL_stp]) (by simp [DV.nlL,DV.nl,nlL_ints,nlL_strs,nlL_instrs,nlL_entries,nlL_stp]) ?_
    show IW Tryd.prog 47 u30_1 ⟨argT _,_,_⟩ (rt [.tmp 2,.tmp 3] _)
    repeat' ((with_reducible first|refine wr ?_|refine cpc (c_limits c) ?_|refine cpc (c_bparts c hl0 hs) ?_|refine cpc (c_targets c hl0) ?_|refine wb2 ?_ ?_<;>(intro hb;try simp only [hb])|fail)<;>try simp only [go_sem,seval,hL,hp,hj])
    refine i_loop (fun k:Nat=>[(1,.ptr 0 0),(4,I64 k)]) (fun _=>nil.upd 0 ⟨0,true,c.cs⟩) (fun k cc=>1≤cc∧1≤k∧(k≤c.entries.length∨k=1)∧chainM (c.entries.take k)=true) (fun k=>c.entries.length-k) 1 (by simp [tmLe,tm,Tm.upd]) (Sub.refl _) ⟨by omega,by omega,by omega,by cases c.entries<;>rfl⟩ ?_
    rintro k cc ⟨h1c,h1k,hk,he⟩
    by_cases hlt:k<c.entries.length
    ·have hd:decide ((k:Int)<c.entries.length)=true:=by simpa using hlt
     have hg:=List.getElem?_eq_getElem hlt
     have hlt':k-1<c.entries.length:=by omega
     have hg':=List.getElem?_eq_getElem hlt'
     have hw:=w64 (n:=(k:Int)+1) (by omega) (by omega)
     have hw1:=w64 (n:=(k:Int)-1) (by omega) (by omega)
     have hw2:(k:Int)-1=((k-1:Nat):Int):=by omega
     rw [hw2] at hw1
     repeat' ((with_reducible first|refine wr ?_|refine cpc (c_bless _ _) ?_|refine wb2 ?_ ?_<;>(intro hb;try simp only [hb])|fail)<;>try simp only [go_sem,seval,hd,hg,hg',hw,hw2,hw1])
     ·have hf:=chain_fail h1k hg' hg (by simpa using hb)
      have e:validM c=66:=by simp [validM,hL,hp,hj,hf]
      simp only [vHts,e]
      exact pc_snil2
     ·exact ⟨k+1,rfl,Sub.refl _,inv ⟨by omega,by omega,by omega,by rw [chain_take h1k hg' hg he];simpa using hb⟩,by omega⟩
    ·have hd:decide ((k:Int)<c.entries.length)=false:=by simp;omega
     have hch:chainM c.entries=true:=by
      rw [List.take_of_length_le (by omega)] at he;exact he
     cases hh:hR c with
     | none =>
      have key:=c_heightsP' c hl0 hj
      rw [hh,hgtV_none] at key
      repeat' ((with_reducible first|refine wr ?_|refine cpc key ?_|refine wb2 ?_ ?_<;>(intro hb;try simp only [hb])|fail)<;>try simp only [go_sem,seval,hd])
      have e:validM c=53:=by simp [validM,hL,hp,hj,hch,hh]
      simp only [vHts,e]
      exact pc_snil2
     | some h =>
      have key:=c_heightsP' c hl0 hj
      rw [hh,hgtV_some] at key
      repeat' ((with_reducible first|refine wr ?_|refine cpc key ?_|refine wb2 ?_ ?_<;>(intro hb;try simp only [hb])|fail)<;>try simp only [go_sem,seval,hd])
      have e:validM c=0:=by simp [validM,hL,hp,hj,hch,hh]
      simp only [vHts,e,hh]
      exact pc_ret rfl
   ·have hj':jumpsM c=false:=by simpa using hj
    refine PC.of mixedU isU30 (Nat.le_of_ble_eq_true rfl) (by simp [DV.nlL,DV.nl,nlL_ints,nlL_strs,nlL_instrs,nlL_entries,nlL_stp]) (by simp [DV.nlL,DV.nl,nlL_ints,nlL_strs,nlL_instrs,nlL_entries,nlL_stp]) ?_
    show IW Tryd.prog 47 u30_1 ⟨argT _,_,_⟩ (rt [.tmp 2,.tmp 3] _)
    repeat' ((with_reducible first|refine wr ?_|refine cpc (c_limits c) ?_|refine cpc (c_bparts c hl0 hs) ?_|refine cpc (c_targets c hl0) ?_|refine wb2 ?_ ?_<;>(intro hb;try simp only [hb])|fail)<;>try simp only [go_sem,seval,hL,hp,hj'])
    have e:validM c=54:=by simp [validM,hL,hp,hj']
    simp only [vHts,e]
    exact pc_snil2
  ·have hp':partsM c=false:=by simpa using hp
   refine PC.of mixedU isU30 (Nat.le_of_ble_eq_true rfl) (by simp [DV.nlL,DV.nl,nlL_ints,nlL_strs,nlL_instrs,nlL_entries,nlL_stp]) (by simp [DV.nlL,DV.nl,nlL_ints,nlL_strs,nlL_instrs,nlL_entries,nlL_stp]) ?_
   show IW Tryd.prog 47 u30_1 ⟨argT _,_,_⟩ (rt [.tmp 2,.tmp 3] _)
   repeat' ((with_reducible first|refine wr ?_|refine cpc (c_limits c) ?_|refine cpc (c_bparts c hl0 hs) ?_|refine wb2 ?_ ?_<;>(intro hb;try simp only [hb])|fail)<;>try simp only [go_sem,seval,hL,hp'])
   have e:validM c=51:=by simp [validM,hL,hp']
   simp only [vHts,e]
   exact pc_snil2
 ·have hL':limitsM c=false:=by simpa using hL
  refine PC.of mixedU isU30 (Nat.le_of_ble_eq_true rfl) (by simp [DV.nlL,DV.nl,nlL_ints,nlL_strs,nlL_instrs,nlL_entries,nlL_stp]) (by simp [DV.nlL,DV.nl,nlL_ints,nlL_strs,nlL_instrs,nlL_entries,nlL_stp]) ?_
  show IW Tryd.prog 47 u30_1 ⟨argT _,_,_⟩ (rt [.tmp 2,.tmp 3] _)
  repeat' ((with_reducible first|refine wr ?_|refine cpc (c_limits c) ?_|refine wb2 ?_ ?_<;>(intro hb;try simp only [hb])|fail)<;>try simp only [go_sem,seval,hL'])
  have e:validM c=9:=by simp [validM,hL']
  simp only [vHts,e]
  exact pc_snil2
theorem c_valid (c:Prg) (hs:∀ s∈c.strings,s.length≤140737488355328) (n1:c.instrs.length≤9223372036854775807):PC Tryd.prog 14 [c.v] (I64 (validM c)):=by
 refine PC.of mixedU isU14 (Nat.le_of_ble_eq_true rfl) (by simp [DV.nlL,DV.nl,nlL_ints,nlL_strs,nlL_instrs,nlL_entries,nlL_stp]) (by simp [DV.nlL,DV.nl,nlL_ints,nlL_strs,nlL_instrs,nlL_entries,nlL_stp]) ?_
 show IW Tryd.prog 11 u14_1 ⟨argT _,_,_⟩ (rt [.tmp 2] _)
 repeat' ((with_reducible first|refine wr ?_|refine cpc (c_verify c hs n1) ?_|refine wb2 ?_ ?_<;>(intro hb;try simp only [hb])|fail)<;>try simp only [go_sem,seval])
 exact pc_ret rfl
theorem c_Heights (c:Prg) (hs:∀ s∈c.strings,s.length≤140737488355328) (n1:c.instrs.length≤9223372036854775807):PC Tryd.prog 20 [c.v] (.tup [ints (vHts c),I64 (validM c)]):=by
 refine PC.of mixedU isU20 (Nat.le_of_ble_eq_true rfl) (by simp [DV.nlL,DV.nl,nlL_ints,nlL_strs,nlL_instrs,nlL_entries,nlL_stp]) (by simp [DV.nlL,DV.nl,nlL_ints,nlL_strs,nlL_instrs,nlL_entries,nlL_stp]) ?_
 show IW Tryd.prog 8 u20_1 ⟨argT _,_,_⟩ (rt [.tmp 2,.tmp 3] _)
 repeat' ((with_reducible first|refine wr ?_|refine cpc (c_verify c hs n1) ?_|refine wb2 ?_ ?_<;>(intro hb;try simp only [hb])|fail)<;>try simp only [go_sem,seval])
 exact pc_ret rfl
end Go.Proofs.YtcallbfckjlagaaDoor
namespace Go.Proofs.YtcallbfckjlagaaDoor
open Go.Eng (IC IOper DReg IFn IsFn)
open Go.Sym Go.Pb
theorem c_after (i:Ins) (p:Nat) (h:Int) (hp:p≤4000) (h1 : -100≤h) (h2:h≤100) (hA:i.op=12∨i.op=13∨i.op=14→0≤i.A):PC Tryd.prog 59 [i.v,I64 (p:Int),I64 h] (.lst ((afterM i p h).map Stp.v)):=by
 obtain ⟨b1,b2,b3,b4⟩:=eff_bd i.op
 have w1:=w64 (n:=(p:Int)+1) (by omega) (by omega)
 have w2:=w64 (n:=h-1) (by omega) (by omega)
 have w3:=w64 (n:=h-(effM i.op).1) (by omega) (by omega)
 have w4:=w64 (n:=h-(effM i.op).1+(effM i.op).2.1) (by omega) (by omega)
 have n1:i.op=12→(i.A.toNat:Int)=i.A:=by omega
 have n2:i.op=13→(i.A.toNat:Int)=i.A:=by omega
 have n3:i.op=14→(i.A.toNat:Int)=i.A:=by omega
 refine PC.of mixedU isU59 (Nat.le_of_ble_eq_true rfl) (by simp [DV.nlL,DV.nl,nlL_ints,nlL_strs,nlL_instrs,nlL_entries,nlL_stp]) (by simp [DV.nlL,DV.nl,nlL_ints,nlL_strs,nlL_instrs,nlL_entries,nlL_stp]) ?_
 show IW Tryd.prog 62 u59_1 ⟨argT _,_,_⟩ (rt [.tmp 6] _)
 repeat' ((with_reducible first|refine wr ?_|refine cpc (c_eff _) ?_|refine wb2 ?_ ?_<;>(intro hb;try simp only [hb])|fail)<;>try simp only [go_sem,seval,w1,w2,w3,w4])
 ·have e:afterM i p h=[]:=by simp_all [afterM]
  rw [e];exact pc_snil
 all_goals
  refine pc_slc (u:=2) (by simp [Hp.upd];rfl) rfl ?_ (stp_unit _) ⟨[],?_⟩<;>simp_all [afterM,cellsL,DV.cells]
theorem l_heightsR (c:Prg) (hl:Lim c) (hj:jumpsM c=true) (r:Option (List Int)) (n:Nat) (h:List Int) (st:List (Nat × Int)) (o:Option Nat) (junk:List DV) (cc:Nat) (h2:2≤cc) (hlen:h.length=c.instrs.length)
  (hst:∀ s∈st,s.1≤4000∧0≤s.2∧s.2≤50) (hb:st.length+n≤200000) (ho:o=none→st=[]) (ho2:∀ i,o=some i→2≤i∧i<cc) (hr:hgtR c n h st=some r) :
  IW Tryd.prog 123 (.loop u44_23) ⟨tm [(1,.ptr 0 0),(4,.slc 1 0 c.instrs.length),(6,todoV o st.length)],optH (baseH c h) o ⟨2,true,stC st++junk⟩,cc⟩ (bk 4 (sq Tryd.prog 123 u44_48 (rt [.tmp 2,.tmp 3] fun v H' x => ∃ H2,GL H' [v] H2 [hgtV r]))):=by
 have hlI:=hl
 obtain ⟨wp,wv,ws,wi,wt,we,li,ls,le,lp,lv⟩:=hl
 have hjI:∀ i∈c.instrs,i.op=12∨i.op=13∨i.op=14→0≤i.A∧i.A≤(c.instrs.length:Int)-1:=by
  intro i hi hop
  simp only [jumpsM,Bool.and_eq_true,List.all_eq_true] at hj
  have:=hj.1 i hi
  have hk:(effM i.op).2.2=7:=by rcases hop with e|e|e<;>rw [e]<;>decide
  simpa [jumpI,hk,inM] using this
 refine i_loop (fun q:Nat × List Int × List (Nat × Int) × Option Nat × List DV=>[(1,.ptr 0 0),(4,.slc 1 0 c.instrs.length),(6,todoV q.2.2.2.1 q.2.2.1.length)])
  (fun q=>optH (baseH c q.2.1) q.2.2.2.1 ⟨2,true,stC q.2.2.1++q.2.2.2.2⟩)
  (fun q cc=>2≤cc∧q.2.1.length=c.instrs.length∧(∀ s∈q.2.2.1,s.1≤4000∧0≤s.2∧s.2≤50)∧q.2.2.1.length+q.1≤200000∧(q.2.2.2.1=none→q.2.2.1=[])∧(∀ i,q.2.2.2.1=some i→2≤i∧i<cc)∧hgtR c q.1 q.2.1 q.2.2.1=some r)
  (fun q=>q.1) (n,h,st,o,junk) ⟨rfl,rfl,rfl,trivial⟩ (Sub.refl _) ⟨h2,hlen,hst,hb,ho,ho2,hr⟩ ?_
 clear hlen hst hb ho ho2 hr h2
 rintro ⟨n,h,st,o,junk⟩ cc ⟨h2,hlen,hst,hb,ho,ho2,hr⟩
 simp only at hlen hst hb ho ho2 hr
 obtain ⟨m,rfl⟩:∃ m,n=m+1:=by
  cases n with
  | zero=>cases hr
  | succ m=>exact ⟨m,rfl⟩
 have e0:¬ 0=cc:=by omega
 have e1:¬ 1=cc:=by omega
 rcases st with _|⟨⟨p,x⟩,st⟩
 · -- nothing is left
  simp only [hgtR,Option.some.injEq] at hr
  subst hr
  rcases o with _|id
  ·repeat' ((with_reducible first|refine wr ?_|refine wb2 ?_ ?_<;>(intro hb;try simp only [hb])|fail)<;>try simp only [go_sem,seval])
   exact pc_slc2 (u:=1) (baseH_1 c h) rfl (by simp [hlen]) (ints_unit h) ⟨[],by rw [cells_ints,List.append_nil]⟩
  ·repeat' ((with_reducible first|refine wr ?_|refine wb2 ?_ ?_<;>(intro hb;try simp only [hb])|fail)<;>try simp only [go_sem,seval,Int.natCast_zero,Int.ofNat_zero,Int.cast_ofNat_Int])
   exact pc_slc2 (u:=1) (blk:=⟨1,true,h.map I64⟩) (by obtain ⟨i2,i3⟩:=ho2 id rfl;simp only [Hp.upd];rw [if_neg (by omega)];exact baseH_1 c h) rfl (by simp [hlen]) (ints_unit h) ⟨[],by rw [cells_ints,List.append_nil]⟩
 rcases o with _|id
 ·exact absurd (ho rfl) (by simp)
 obtain ⟨i2,i3⟩:=ho2 id rfl
 have ne0:=nes5 0 1 id cc (cc+1) (by omega)
 rw [List.length_cons] at hb
 have hpos:decide (((st.length+1:Nat):Int)>0)=true:=by simp
 have hw:=w64 (n:=(((st.length+1:Nat):Int)-1)) (by omega) (by omega)
 have hw1:(((st.length+1:Nat):Int)-1)=(st.length:Int):=by omega
 rw [hw1] at hw
 obtain ⟨s1,s2,s3⟩:=hst (p,x) List.mem_cons_self
 simp only at s1 s2 s3
 have hst':∀ s∈st,s.1≤4000∧0≤s.2∧s.2≤50:=fun s hs=>hst s (List.mem_cons_of_mem _ hs)
 have hsl:=stC_len st
 have hcell:ldB 2 true (st.length * 2) (some ⟨2,true,stC ((p,x) :: st)++junk⟩)=some (.agg [I64 (p:Int),I64 x]):=by
  rw [b_ldn (by rw [stC_cons];simp [hsl])]
  rw [stC_cons,List.append_assoc,List.drop_left' hsl];rfl
 have htake:(stC ((p,x) :: st)++junk).take (st.length * 2)=stC st:=by rw [stC_cons,List.append_assoc,List.take_left' hsl]
 have hcl:st.length * 2≤(stC ((p,x) :: st)++junk).length:=by rw [stC_cons];simp [hsl]
 simp only [hgtR] at hr
 by_cases hp:h.length≤p
 ·rw [if_pos (.inl hp)] at hr
  cases hr
  have hd:decide ((p:Int)≥c.instrs.length)=true:=by simp;omega
  repeat' ((with_reducible first|refine wr ?_|refine wb2 ?_ ?_<;>(intro hb;try simp only [hb])|fail)<;>try simp only [go_sem,seval,List.length_cons,hw1,hw,hpos,hcell,hd,ne0,baseH_0,baseH_1,Nat.lt_add_one,Nat.le_add_right])
  all_goals exact pc_snil2
 have hp':p<h.length:=by omega
 have hpi:p<c.instrs.length:=by omega
 have hgh:=List.getElem?_eq_getElem hp'
 have hgi:=List.getElem?_eq_getElem hpi
 have hd:decide ((p:Int)≥c.instrs.length)=false:=by simp;omega
 have eh:h.getD p 0=h[p]:=by simp [List.getD,hgh]
 have ei:c.instrs.getD p ⟨0,0⟩=c.instrs[p]:=by simp [List.getD,hgi]
 rw [eh,ei] at hr
 have hput:=put_map (f:=I64) (l:=h) (n:=p) (a:=x) hp'
 have hle:p+1≤h.length:=hp'
 obtain ⟨b1,b2,b3,b4⟩:=eff_bd c.instrs[p].op
 have hal:=afterM_len c.instrs[p] p x
 have hmx:st.length+(afterM c.instrs[p] p x).length≤maxLen:=by simp only [maxLen];omega
 repeat' ((first|(with_reducible first|refine wr ?_|refine cpc (c_eff _) ?_|refine cpc (c_after c.instrs[p] p x s1 (by omega) (by omega) (fun hop=>(hjI _ (List.getElem_mem hpi) hop).1)) ?_)|(with_reducible refine wb2 ?_ ?_<;>(intro hb;try simp only [hb]))|((with_reducible refine k_eval (b_app hcl (by omega) hmx) ?_))|fail)<;>try simp only [go_sem,seval,List.length_cons,hw1,hw,hpos,hcell,hd,hgh,hgi,hpi,ne0,baseH_0,baseH_1,Nat.lt_add_one,Nat.le_add_right,hput,hle,htake,unit_stp])
 ·rw [if_pos (.inr (by simpa using hb))] at hr
  cases hr
  exact pc_snil2
 ·rw [if_neg (by simp_all),if_pos (by simp_all),if_pos (by simp_all)] at hr
  cases hr
  exact pc_snil2
 ·rw [if_neg (by simp_all),if_pos (by simp_all),if_neg (by simp_all)] at hr
  exact ⟨(m,h,st,some id,[I64 (p:Int),I64 x]++junk),rfl,by rw [← List.append_assoc, ← stC_cons];(intro j b hj;simp only [Hp.upd,Hp.del,Sym.nil,baseH,optH] at hj ⊢;(repeat' split at hj)<;>(repeat' split)<;>first|exact hj|(exfalso;omega)|cases hj),inv ⟨by omega,hlen,hst',by simp only;omega,by simp,fun i hi=>by cases hi;omega,hr⟩,by simp⟩
 ·rw [if_neg (by simp_all),if_neg (by simp_all),if_pos (.inl (by simpa using hb))] at hr
  cases hr
  exact pc_snil2
 ·rw [if_neg (by simp_all),if_neg (by simp_all),if_pos (.inr (by simp_all))] at hr
  cases hr
  exact pc_snil2
 all_goals
  rw [if_neg (by simp_all),if_neg (by simp_all),if_neg (by simp_all)] at hr
  have hbd:=afterM_bd (x:=x) li hpi (hjI _ (List.getElem_mem hpi)) s2 (by simp_all) (by simp_all)
  exact ⟨(m,h.set p x,(afterM c.instrs[p] p x).reverse++st,some (cc+1+1),[]),by simp [todoV];omega,by rw [stC_app,List.append_nil];(intro j b hj;simp only [Hp.upd,Hp.del,Sym.nil,baseH,optH] at hj ⊢;(repeat' split at hj)<;>(repeat' split)<;>first|exact hj|(exfalso;omega)|cases hj),
   inv ⟨by omega,by simp [hlen],fun s hs=>by
    rw [List.mem_append,List.mem_reverse] at hs
    rcases hs with hs|hs
    ·exact hbd s hs
    ·exact hst' s hs,by simp only [List.length_append,List.length_reverse];omega,by simp,fun i hi=>by cases hi;omega,hr⟩,by simp⟩
theorem c_heightsR (c:Prg) (hl:Lim c) (hj:jumpsM c=true) (n:Nat) (hn0:n≤100000) (r:Option (List Int)) (hr:hgtR c n (List.replicate c.instrs.length (-1)) (entR c)=some r):PC Tryd.prog 44 [c.v] (hgtV r):=by
 have hl0:=hl
 obtain ⟨wp,wv,ws,wi,wt,we,li,ls,le,lp,lv⟩:=hl
 have hms:=r_msl (sz:=1) (bytes:=8) (z:=[I64 0]) (k:=.i64) (k':=.i64) (n:=c.instrs.length) (by omega) (by omega) rfl rfl
 refine PC.of mixedU isU44 (Nat.le_of_ble_eq_true rfl) (by simp [DV.nlL,DV.nl,nlL_ints,nlL_strs,nlL_instrs,nlL_entries]) (by cases r<;>simp [hgtV,DV.nlL,DV.nl,nlL_ints]) ?_
 show IW Tryd.prog 123 u44_1 ⟨argT _,_,_⟩ (rt [.tmp 2,.tmp 3] _)
 repeat' ((with_reducible first|refine wr ?_|refine wb2 ?_ ?_<;>(intro hb;try simp only [hb])|fail)<;>try simp only [go_sem,seval,hms,madeL_one])
 -- every height is -1
 refine i_loop (fun k:Nat=>[(1,.ptr 0 0),(4,.slc 1 0 c.instrs.length),(5,I64 k)]) (fun k=>(nil.upd 0 ⟨0,true,c.cs⟩).upd 1 ⟨1,true,(fillM c.instrs.length k).map I64⟩) (fun k cc=>2≤cc∧k≤c.instrs.length) (fun k=>c.instrs.length-k) 0
  (by simp [tmLe,tm,Tm.upd]) (by simpa [fillM] using Sub.refl _) (by simp) ?_
 rintro k cc ⟨h2c,hk⟩
 by_cases hlt:k<c.instrs.length
 ·have hd:decide ((k:Int)<c.instrs.length)=true:=by simpa using hlt
  have hw:=w64 (n:=(k:Int)+1) (by omega) (by omega)
  have hlen:(fillM c.instrs.length k).length=c.instrs.length:=by simp [fillM];omega
  have hle:k+1≤c.instrs.length:=hlt
  have hput:=put_map (f:=I64) (l:=fillM c.instrs.length k) (n:=k) (a := -1) (by rw [hlen];exact hlt)
  repeat' ((with_reducible first|refine wr ?_|refine wb2 ?_ ?_<;>(intro hb;try simp only [hb])|fail)<;>try simp only [go_sem,seval,hd,hw,hlen,hle,hlt,hput,h_upd2])
  exact ⟨k+1,rfl,by rw [fillM_succ hlt];exact Sub.refl _,inv ⟨h2c,hlt⟩,by omega⟩
 have hd:decide ((k:Int)<c.instrs.length)=false:=by simpa using hlt
 have hfull:fillM c.instrs.length k=List.replicate c.instrs.length (-1):=by
  have:c.instrs.length-k=0:=by omega
  have hk2:k=c.instrs.length:=by omega
  simp [fillM,this,hk2]
 repeat' ((with_reducible first|refine wr ?_|refine wb2 ?_ ?_<;>(intro hb;try simp only [hb])|fail)<;>try simp only [go_sem,seval,hd,hfull])
 clear hd hfull hlt hk
 -- the entries
 have hjE:∀ e∈c.entries,0≤e.pos∧e.pos≤(c.instrs.length:Int)-1:=by
  intro e he
  simp only [jumpsM,Bool.and_eq_true,List.all_eq_true] at hj
  have:=hj.2 e he
  simpa [jumpE,inM] using this
 refine i_loop (fun p:Nat × Option Nat=>[(1,.ptr 0 0),(4,.slc 1 0 c.instrs.length),(6,todoV p.2 p.1),(7,I64 p.1)])
  (fun p=>optH ((nil.upd 0 ⟨0,true,c.cs⟩).upd 1 ⟨1,true,(List.replicate c.instrs.length (-1)).map I64⟩) p.2 ⟨2,true,entC c p.1⟩)
  (fun p cc=>2≤cc∧p.1≤c.entries.length∧(p.2=none→p.1=0)∧∀ i,p.2=some i→2≤i∧i<cc) (fun p=>c.entries.length-p.1) (0,none)
  (by simp [tmLe,tm,Tm.upd,todoV]) (Sub.refl _) (by simp;omega) ?_
 rintro ⟨k,o⟩ cc ⟨h2c,hk,hn,hs⟩
 simp only at hk hn hs
 by_cases hlt:k<c.entries.length
 ·have hd:decide ((k:Int)<c.entries.length)=true:=by simpa using hlt
  have hw:=w64 (n:=(k:Int)+1) (by omega) (by omega)
  have hg:=List.getElem?_eq_getElem hlt
  obtain ⟨p1,p2⟩:=hjE _ (List.getElem_mem hlt)
  have hpos:c.entries[k].pos=((c.entries[k].pos.toNat:Nat):Int):=by omega
  rcases o with _|id
  ·obtain rfl:=hn rfl
   have hd0:decide (0<(c.entries.length:Int))=true:=by simpa using hlt
   have hw0:=w64 (n:=1) (by omega) (by omega)
   have ne0:=nes4 0 1 cc (cc+1) (by omega)
   repeat' ((first|(with_reducible first|refine wr ?_)|(with_reducible refine wb2 ?_ ?_<;>(intro hb;try simp only [hb]))|((with_reducible refine k_eval (r_appn' (by decide) (by decide) (by decide)) ?_))|fail)<;>try simp only [go_sem,seval,hd0,hw0,hg,ne0])
   refine ⟨(1,some (cc+1)),?_,?_,inv ⟨by omega,hlt,by simp,by simp;omega⟩,by simp;omega⟩
   ·simp [todoV]
   ·rw [entC_succ hg, ← hpos]
    have hz:entC c 0=[]:=rfl
    rw [hz,List.nil_append]
    (intro j b hj;simp only [Hp.upd,Hp.del,Sym.nil,baseH,optH] at hj ⊢;(repeat' split at hj)<;>(repeat' split)<;>first|exact hj|(exfalso;omega)|cases hj)
  ·obtain ⟨q1,q2⟩:=hs id rfl
   have ne0:=nes5 0 1 id cc (cc+1) (by omega)
   have hel:=entC_len hk
   repeat' ((first|(with_reducible first|refine wr ?_)|(with_reducible refine wb2 ?_ ?_<;>(intro hb;try simp only [hb]))|((with_reducible refine k_eval (b_appx (by rw [hel]) (by omega) (by omega)) ?_))|fail)<;>try simp only [go_sem,seval,hd,hw,hg,ne0])
   refine ⟨(k+1,some (cc+1)),?_,?_,inv ⟨by omega,hlt,by simp,by simp;omega⟩,by simp;omega⟩
   ·simp [todoV]
   ·rw [entC_succ hg, ← hpos]
    (intro j b hj;simp only [Hp.upd,Hp.del,Sym.nil,baseH,optH] at hj ⊢;(repeat' split at hj)<;>(repeat' split)<;>first|exact hj|(exfalso;omega)|cases hj)
 have hd:decide ((k:Int)<c.entries.length)=false:=by simpa using hlt
 obtain rfl:k=c.entries.length:=by omega
 have he:entC c c.entries.length=stC (entR c)++[]:=by simp [entC,entR,stC]
 have hel:(entR c).length=c.entries.length:=by simp [entR]
 have hst:∀ s∈entR c,s.1≤4000∧0≤s.2∧s.2≤50:=by
  intro s hs
  simp only [entR,List.mem_reverse,List.mem_map] at hs
  obtain ⟨e,h1,rfl⟩:=hs
  have:=hjE e h1
  simp only [entP];omega
 have key:=l_heightsR c hl0 hj r n (List.replicate c.instrs.length (-1)) (entR c) o [] cc h2c (by simp) hst (by omega) (fun h=>List.eq_nil_of_length_eq_zero (by rw [hel];exact hn h)) hs hr
 rw [← he,hel] at key
 rcases o with _|id
 ·repeat' ((with_reducible first|refine wr ?_|refine wb2 ?_ ?_<;>(intro hb;try simp only [hb])|fail)<;>try simp only [go_sem,seval,hd])
  exact key
 ·obtain ⟨q1,q2⟩:=hs id rfl
  have ne0:=nes3 0 1 id (by omega)
  repeat' ((with_reducible first|refine wr ?_|refine wb2 ?_ ?_<;>(intro hb;try simp only [hb])|fail)<;>try simp only [go_sem,seval,hd,ne0])
  exact key
end Go.Proofs.YtcallbfckjlagaaDoor
namespace Go.Proofs.YtcallbfckjlagaaDoor
open Go.Eng (IC IOper DReg IFn IsFn)
open Go.Sym Go.Pb
theorem c_heightsR' (c:Prg) (hl:Lim c) (hj:jumpsM c=true):PC Tryd.prog 44 [c.v] (hgtV (hR c)):=by
 have h1:=hl.li
 have h2:=hl.le
 exact c_heightsR c hl hj (fuelR c) (by simp only [fuelR];omega) _ (hR_eq h1 hj)
theorem hgtV_some {h:List Int}:hgtV (some h)=.tup [ints h,.bool true]:=rfl
theorem hgtV_none:hgtV none=.tup [.lst [],.bool false]:=rfl
theorem c_validR (c:Prg) (hs:∀ s∈c.strings,s.length≤140737488355328) (n1:c.instrs.length≤9223372036854775807):PC Tryd.prog 23 [c.v] (I64 (validM c)):=by
 by_cases hL:limitsM c=true
 ·have hl:=Lim.of hL
  have hl0:=hl
  obtain ⟨wp,wv,ws,wi,wt,we,li,ls,le,lp,lv⟩:=hl
  have hL':=hL
  simp only [limitsM,Bool.and_eq_true,decide_eq_true_eq] at hL'
  obtain ⟨⟨⟨⟨⟨⟨h1,h2⟩,h3⟩,h4⟩,h5⟩,h6⟩,h7⟩:=hL'
  have d1:decide ((c.instrs.length:Int)>4000)=false:=by simp;omega
  have d2:decide ((c.strings.length:Int)>200)=false:=by simp;omega
  have d3:decide ((c.entries.length:Int)>512)=false:=by simp;omega
  have d4:decide ((c.prios.length:Int)>16)=false:=by simp;omega
  have d5:decide ((c.vars.length:Int)>128)=false:=by simp;omega
  by_cases hp:partsM c=true
  ·by_cases hj:jumpsM c=true
   ·refine PC.of mixedU isU23 (Nat.le_of_ble_eq_true rfl) (by simp [DV.nlL,DV.nl,nlL_ints,nlL_strs,nlL_instrs,nlL_entries,nlL_stp]) (by simp [DV.nlL,DV.nl,nlL_ints,nlL_strs,nlL_instrs,nlL_entries,nlL_stp]) ?_
    show IW Tryd.prog 79 u23_1 ⟨argT _,_,_⟩ (rt [.tmp 2] _)
    repeat' ((with_reducible first|refine wr ?_|refine cpc (c_in _ _ _) ?_|refine cpc (c_parts c hl0 hs) ?_|refine cpc (c_jumps c hl0) ?_|refine wb2 ?_ ?_<;>(intro hb;try simp only [hb])|fail)<;>try simp only [go_sem,seval,d1,d2,d3,d4,d5,h6,h7,hp,hj])
    refine i_loop (fun k:Nat=>[(1,.ptr 0 0),(3,I64 k)]) (fun _=>nil.upd 0 ⟨0,true,c.cs⟩) (fun k cc=>1≤cc∧1≤k∧(k≤c.entries.length∨k=1)∧chainM (c.entries.take k)=true) (fun k=>c.entries.length-k) 1 (by simp [tmLe,tm,Tm.upd]) (Sub.refl _) ⟨by omega,by omega,by omega,by cases c.entries<;>rfl⟩ ?_
    rintro k cc ⟨h1c,h1k,hk,he⟩
    by_cases hlt:k<c.entries.length
    ·have hd:decide ((k:Int)<c.entries.length)=true:=by simpa using hlt
     have hg:=List.getElem?_eq_getElem hlt
     have hlt':k-1<c.entries.length:=by omega
     have hg':=List.getElem?_eq_getElem hlt'
     have hw:=w64 (n:=(k:Int)+1) (by omega) (by omega)
     have hw1:=w64 (n:=(k:Int)-1) (by omega) (by omega)
     have hw2:(k:Int)-1=((k-1:Nat):Int):=by omega
     rw [hw2] at hw1
     repeat' ((with_reducible first|refine wr ?_|refine cpc (c_less _ _) ?_|refine wb2 ?_ ?_<;>(intro hb;try simp only [hb])|fail)<;>try simp only [go_sem,seval,hd,hg,hg',hw,hw2,hw1])
     ·refine pc_ret ?_
      have hf:=chain_fail h1k hg' hg (by simpa using hb)
      simp [validM,hL,hp,hj,hf]
     ·exact ⟨k+1,rfl,Sub.refl _,inv ⟨by omega,by omega,by omega,by rw [chain_take h1k hg' hg he];simpa using hb⟩,by omega⟩
    ·have hd:decide ((k:Int)<c.entries.length)=false:=by simp;omega
     have hch:chainM c.entries=true:=by
      rw [List.take_of_length_le (by omega)] at he;exact he
     cases hh:hR c with
     | none =>
      have key:=c_heightsR' c hl0 hj
      rw [hh,hgtV_none] at key
      repeat' ((with_reducible first|refine wr ?_|refine cpc key ?_|refine wb2 ?_ ?_<;>(intro hb;try simp only [hb])|fail)<;>try simp only [go_sem,seval,hd])
      refine pc_ret ?_
      simp [validM,hL,hp,hj,hch,hh]
     | some h =>
      have key:=c_heightsR' c hl0 hj
      rw [hh,hgtV_some] at key
      repeat' ((with_reducible first|refine wr ?_|refine cpc key ?_|refine wb2 ?_ ?_<;>(intro hb;try simp only [hb])|fail)<;>try simp only [go_sem,seval,hd])
      refine pc_ret ?_
      simp [validM,hL,hp,hj,hch,hh]
   ·have hj':jumpsM c=false:=by simpa using hj
    refine PC.of mixedU isU23 (Nat.le_of_ble_eq_true rfl) (by simp [DV.nlL,DV.nl,nlL_ints,nlL_strs,nlL_instrs,nlL_entries,nlL_stp]) (by simp [DV.nlL,DV.nl,nlL_ints,nlL_strs,nlL_instrs,nlL_entries,nlL_stp]) ?_
    show IW Tryd.prog 79 u23_1 ⟨argT _,_,_⟩ (rt [.tmp 2] _)
    repeat' ((with_reducible first|refine wr ?_|refine cpc (c_in _ _ _) ?_|refine cpc (c_parts c hl0 hs) ?_|refine cpc (c_jumps c hl0) ?_|refine wb2 ?_ ?_<;>(intro hb;try simp only [hb])|fail)<;>try simp only [go_sem,seval,d1,d2,d3,d4,d5,h6,h7,hp,hj'])
    refine pc_ret ?_
    simp [validM,hL,hp,hj']
  ·have hp':partsM c=false:=by simpa using hp
   refine PC.of mixedU isU23 (Nat.le_of_ble_eq_true rfl) (by simp [DV.nlL,DV.nl,nlL_ints,nlL_strs,nlL_instrs,nlL_entries,nlL_stp]) (by simp [DV.nlL,DV.nl,nlL_ints,nlL_strs,nlL_instrs,nlL_entries,nlL_stp]) ?_
   show IW Tryd.prog 79 u23_1 ⟨argT _,_,_⟩ (rt [.tmp 2] _)
   repeat' ((with_reducible first|refine wr ?_|refine cpc (c_in _ _ _) ?_|refine cpc (c_parts c hl0 hs) ?_|refine cpc (c_jumps c hl0) ?_|refine wb2 ?_ ?_<;>(intro hb;try simp only [hb])|fail)<;>try simp only [go_sem,seval,d1,d2,d3,d4,d5,h6,h7,hp'])
   refine pc_ret ?_
   simp [validM,hL,hp']
 ·have hL':limitsM c=false:=by simpa using hL
  refine PC.of mixedU isU23 (Nat.le_of_ble_eq_true rfl) (by simp [DV.nlL,DV.nl,nlL_ints,nlL_strs,nlL_instrs,nlL_entries,nlL_stp]) (by simp [DV.nlL,DV.nl,nlL_ints,nlL_strs,nlL_instrs,nlL_entries,nlL_stp]) ?_
  show IW Tryd.prog 79 u23_1 ⟨argT _,_,_⟩ (rt [.tmp 2] _)
  repeat' ((with_reducible first|refine wr ?_|refine cpc (c_in _ _ _) ?_|refine wb2 ?_ ?_<;>(intro hb;try simp only [hb])|fail)<;>try simp only [go_sem,seval])
  all_goals first
   | (refine pc_ret ?_;simp [validM,hL'];done)
   | (exfalso;apply hL;simp_all [limitsM];omega)
end Go.Proofs.YtcallbfckjlagaaDoor
namespace Go.Proofs.YtcallbfckjlagaaDoor
open Go.Eng (IC IOper DReg IFn IsFn)
open Go.Sym Go.Pb
section
abbrev u18_5:IC:=qS [oV 4 (.bool false)] .ret []
abbrev u18_4:IC:=qK u18_5 .skip (.t 46) [2,3,46]
abbrev u18_3:IC:=qS [oF 8 2 0,oL 9 8,oH 10 9,oF 11 3 0,oL 12 11,oH 13 12,oB 14 10 13 .neq,oM 15 14,hF 16 2 1 15,hL 17 16 15,oR 18 (.len (.t 17)) 15,hF 19 3 1 15,hL 20 19 15,oR 21 (.len (.t 20)) 15,oR 22 (.bin .neq (.t 18) (.t 21)) 15,oO 23 15 22,oM 24 23,hF 25 2 2 24,hL 26 25 24,oR 27 (.len (.t 26)) 24,hF 28 3 2 24,hL 29 28 24,oR 30 (.len (.t 29)) 24,oR 31 (.bin .neq (.t 27) (.t 30)) 24,oO 32 24 31,oM 33 32,hF 34 2 5 33,hL 35 34 33,hF 36 3 5 33,hL 37 36 33,oR 38 (.bin .neq (.t 35) (.t 37)) 33,oO 39 33 38,oM 40 39,hF 41 2 6 40,hL 42 41 40,hF 43 3 6 40,hL 44 43 40,oR 45 (.bin .neq (.t 42) (.t 44)) 40,oO 46 40 45] u18_4 [2,3]
abbrev u18_11:IC:=qK .skip (.exit 0) (.t 51) [2,3,5,51]
abbrev u18_10:IC:=qS [oM 47 5,oF 48 2 0,oL 49 48,oH 50 49,oB 51 47 50 .lss] u18_11 [2,3,5]
abbrev u18_15:IC:=qS [oV 4 (.bool false)] .ret []
abbrev u18_14:IC:=qK u18_15 .skip (.t 64) [2,3,5,64]
abbrev u18_13:IC:=qP [oF 54 2 0,oL 55 54,oM 56 5,oA 57 55 56 2,oD 58 57 2,oF 59 3 0,oL 60 59,oM 61 5,oA 62 60 61 2,oD 63 62 2,oP 64 (.eqa true [0,0] (.t 58) (.t 63))] u18_14 0 11 [2,3,5]
abbrev u18_16:IC:=qE [oM 52 5,oK 53 52 .add 1,oM 5 53] [2,3,5]
abbrev u18_12:IC:=qB u18_13 u18_16 1 [2,3,5]
abbrev u18_9:IC:=qQ u18_10 u18_12 [2,3,5]
abbrev u18_8:IC:=qJ (.loop u18_9) 0 [2,3,5]
abbrev u18_7:IC:=qS [oI 5 0] u18_8 [2,3]
abbrev u18_22:IC:=qK .skip (.exit 2) (.t 69) [2,3,6,69]
abbrev u18_21:IC:=qS [oM 65 6,oF 66 2 1,oL 67 66,oH 68 67,oB 69 65 68 .lss] u18_22 [2,3,6]
abbrev u18_26:IC:=qS [oV 4 (.bool false)] .ret []
abbrev u18_25:IC:=qK u18_26 .skip (.t 82) [2,3,6,82]
abbrev u18_24:IC:=qP [oF 72 2 1,oL 73 72,oM 74 6,oA 75 73 74 1,oL 76 75,oF 77 3 1,oL 78 77,oM 79 6,oA 80 78 79 1,oL 81 80,oB 82 76 81 .neq] u18_25 0 11 [2,3,6]
abbrev u18_27:IC:=qE [oM 70 6,oK 71 70 .add 1,oM 6 71] [2,3,6]
abbrev u18_23:IC:=qB u18_24 u18_27 3 [2,3,6]
abbrev u18_20:IC:=qQ u18_21 u18_23 [2,3,6]
abbrev u18_19:IC:=qJ (.loop u18_20) 2 [2,3,6]
abbrev u18_18:IC:=qS [oI 6 0] u18_19 [2,3]
abbrev u18_33:IC:=qK .skip (.exit 4) (.t 87) [2,3,7,87]
abbrev u18_32:IC:=qS [oM 83 7,oF 84 2 2,oL 85 84,oH 86 85,oB 87 83 86 .lss] u18_33 [2,3,7]
abbrev u18_37:IC:=qS [oV 4 (.bool false)] .ret []
abbrev u18_36:IC:=qK u18_37 .skip (.t 100) [2,3,7,100]
abbrev u18_35:IC:=qP [oF 90 2 2,oL 91 90,oM 92 7,oA 93 91 92 4,oD 94 93 4,oF 95 3 2,oL 96 95,oM 97 7,oA 98 96 97 4,oD 99 98 4,oP 100 (.eqa true [0,0,0,0] (.t 94) (.t 99))] u18_36 0 11 [2,3,7]
abbrev u18_38:IC:=qE [oM 88 7,oK 89 88 .add 1,oM 7 89] [2,3,7]
abbrev u18_34:IC:=qB u18_35 u18_38 5 [2,3,7]
abbrev u18_31:IC:=qQ u18_32 u18_34 [2,3,7]
abbrev u18_30:IC:=qJ (.loop u18_31) 4 [2,3,7]
abbrev u18_29:IC:=qS [oI 7 0] u18_30 [2,3]
abbrev u18_39:IC:=qS [oF 101 2 3,oL 102 101,oF 103 3 3,oL 104 103,oC 105 24 [.t 102,.t 104],oM 106 105,gF 107 2 4 106,gL 108 107 106,gF 109 3 4 106,gL 110 109 106,⟨some 111,.call 24 [.t 108,.t 110],some (106,true)⟩,oJ 112 106 111,oM 4 112] .ret [2,3]
abbrev u18_28:IC:=qQ u18_29 u18_39 [2,3]
abbrev u18_17:IC:=qQ u18_18 u18_28 [2,3]
abbrev u18_6:IC:=qQ u18_7 u18_17 [2,3]
abbrev u18_2:IC:=qQ u18_3 u18_6 [2,3]
abbrev u18_1:IC:=qS [oX 2 0,oX 3 1,oV 4 (.bool false)] u18_2 [0,1]
def u18:IFn:=⟨113,u18_1,[.tmp 4]⟩
end
theorem isU18:IsFn Tryd.prog 18 u18:=by unfold IsFn;kernel_rfl
section
abbrev u22_6:IC:=qS [oM 11 4,oV 2 (.slice none 0 0),oM 3 11] .ret [4]
abbrev u22_5:IC:=qK u22_6 .skip (.t 10) [1,4,10]
abbrev u22_4:IC:=qS [oM 9 4,oK 10 9 .neq 0] u22_5 [1,4]
abbrev u22_3:IC:=qS [oD 7 1 7,oC 8 23 [.t 7],oM 4 8] u22_4 [1]
abbrev u22_8:IC:=qS [oM 17 5,oM 2 17,oI 3 0] .ret [5]
abbrev u22_7:IC:=qS [oD 13 1 7,oC 14 44 [.t 13],oM 12 14,oE 15 12 0,oE 16 12 1,oM 5 15,oM 6 16] u22_8 [1]
abbrev u22_2:IC:=qQ u22_3 u22_7 [1]
abbrev u22_1:IC:=qS [oX 1 0,oV 2 (.slice none 0 0),oI 3 0] u22_2 [0]
def u22:IFn:=⟨18,u22_1,[.tmp 2,.tmp 3]⟩
end
theorem isU22:IsFn Tryd.prog 22 u22:=by unfold IsFn;kernel_rfl
section
abbrev u29_11:IC:=qS [oF 35 11 3,oL 36 35,oM 8 36,oV 9 (.bool true)] .ret [11]
abbrev u29_10:IC:=qK u29_11 .skip (.t 34) [1,2,3,11,13,14,15,34]
abbrev u29_9:IC:=qS [oF 19 11 0,oL 20 19,oM 21 1,oB 22 20 21 .eql,oM 23 22,gF 24 11 1 23,gL 25 24 23,gM 26 2 23,oG 27 (.bin .eql (.t 25) (.t 26)) 23,oJ 28 23 27,oM 29 28,gF 30 11 2 29,gL 31 30 29,gM 32 3 29,oG 33 (.bin .eql (.t 31) (.t 32)) 29,oJ 34 29 33] u29_10 [1,2,3,11,13,14,15]
abbrev u29_8:IC:=qS [oA 17 13 15 4,oD 18 17 4,oW 11 (.agg #[.int .i64 0,.int .i64 0,.int .i64 0,.int .i64 0]),oS 11 18 4] u29_9 [1,2,3,13,14,15]
abbrev u29_12:IC:=qE [oK 37 15 .add 1,oM 15 37] [1,2,3,13,14,15]
abbrev u29_7:IC:=qB u29_8 u29_12 1 [1,2,3,13,14,15]
abbrev u29_6:IC:=qC .skip u29_7 (.exit 0) (.t 16) [1,2,3,13,14,15,16]
abbrev u29_5:IC:=qS [oB 16 15 14 .lss] u29_6 [1,2,3,13,14,15]
abbrev u29_4:IC:=qJ (.loop u29_5) 0 [1,2,3,13,14,15]
abbrev u29_3:IC:=qS [oF 12 4 2,oL 13 12,oH 14 13,oI 15 0] u29_4 [1,2,3,4]
abbrev u29_13:IC:=qS [oI 8 0,oV 9 (.bool false)] .ret []
abbrev u29_2:IC:=qQ u29_3 u29_13 [1,2,3,4]
abbrev u29_1:IC:=qS [oX 4 0,oI 8 0,oV 9 (.bool false)] u29_2 [0,1,2,3]
def u29:IFn:=⟨38,u29_1,[.tmp 8,.tmp 9]⟩
end
theorem isU29:IsFn Tryd.prog 29 u29:=by unfold IsFn;kernel_rfl
theorem c_HeightsR (c:Prg) (hs:∀ s∈c.strings,s.length≤140737488355328) (n1:c.instrs.length≤9223372036854775807):PC Tryd.prog 22 [c.v] (.tup [ints (vHts c),I64 (validM c)]):=by
 by_cases h0:validM c=0
 ·obtain ⟨hL,hj,h,hh⟩:=valid_0 h0
  have key:=c_heightsR' c (Lim.of hL) hj
  rw [hh,hgtV_some] at key
  have hn:(validM c != 0)=false:=by simp [h0]
  refine PC.of mixedU isU22 (Nat.le_of_ble_eq_true rfl) (by simp [DV.nlL,DV.nl,nlL_ints,nlL_strs,nlL_instrs,nlL_entries,nlL_stp]) (by simp [DV.nlL,DV.nl,nlL_ints,nlL_strs,nlL_instrs,nlL_entries,nlL_stp]) ?_
  show IW Tryd.prog 18 u22_1 ⟨argT _,_,_⟩ (rt [.tmp 2,.tmp 3] _)
  repeat' ((with_reducible first|refine wr ?_|refine cpc (c_validR c hs n1) ?_|refine cpc key ?_|refine wb2 ?_ ?_<;>(intro hb;try simp only [hb])|fail)<;>try simp only [go_sem,seval,hn])
  simp only [vHts,h0,hh]
  exact pc_ret rfl
 ·have hz:(validM c != 0)=true:=by simpa using h0
  refine PC.of mixedU isU22 (Nat.le_of_ble_eq_true rfl) (by simp [DV.nlL,DV.nl,nlL_ints,nlL_strs,nlL_instrs,nlL_entries,nlL_stp]) (by simp [DV.nlL,DV.nl,nlL_ints,nlL_strs,nlL_instrs,nlL_entries,nlL_stp]) ?_
  show IW Tryd.prog 18 u22_1 ⟨argT _,_,_⟩ (rt [.tmp 2,.tmp 3] _)
  repeat' ((with_reducible first|refine wr ?_|refine cpc (c_validR c hs n1) ?_|refine wb2 ?_ ?_<;>(intro hb;try simp only [hb])|fail)<;>try simp only [go_sem,seval,hz])
  simp only [vHts,h0,if_false]
  exact pc_snil2
theorem c_Find (c:Prg) (n1:c.entries.length≤9223372036854775807) (m t i:Int):PC Tryd.prog 29 [c.v,I64 m,I64 t,I64 i] (findV (findM m t i c.entries)):=by
 refine PC.of mixedU isU29 (Nat.le_of_ble_eq_true rfl) (by simp [DV.nlL,DV.nl,nlL_ints,nlL_strs,nlL_instrs,nlL_entries]) (by cases findM m t i c.entries<;>rfl) ?_
 show IW Tryd.prog 38 u29_1 ⟨argT _,_,_⟩ (rt [.tmp 8,.tmp 9] _)
 repeat' ((with_reducible first|refine wr ?_|refine wb2 ?_ ?_<;>(intro hb;try simp only [hb])|fail)<;>try simp only [go_sem,seval])
 refine i_loop (fun k:Nat=>[(1,I64 m),(2,I64 t),(3,I64 i),(13,entsV c.entries),(14,I64 c.entries.length),(15,I64 k)]) (fun _=>nil) (fun k cc=>k≤c.entries.length∧findM m t i (c.entries.drop k)=findM m t i c.entries) (fun k=>c.entries.length-k) 0 (by simp [tmLe,tm,Tm.upd]) (Sub.nil _) (by simp) ?_
 rintro k cc ⟨hk,he⟩
 by_cases hlt:k<c.entries.length
 ·have hd:decide ((k:Int)<c.entries.length)=true:=by simpa using hlt
  have hg:=List.getElem?_eq_getElem hlt
  have hw:=w64 (n:=(k:Int)+1) (by omega) (by omega)
  rw [findM_step hg] at he
  repeat' ((with_reducible first|refine wr ?_|refine wb2 ?_ ?_<;>(intro hb;try simp only [hb])|fail)<;>try simp only [go_sem,seval,hd,hg,hw])
  all_goals first
   | exact ⟨k+1,rfl,Sub.nil _,inv ⟨hlt,by rw [← he,if_neg];simp_all⟩,by omega⟩
   | (rw [← he,if_pos (by simp_all)];exact pc_ret rfl)
 have hd:decide ((k:Int)<c.entries.length)=false:=by simpa using hlt
 rw [List.drop_eq_nil_of_le (by omega)] at he
 repeat' ((with_reducible first|refine wr ?_|refine wb2 ?_ ?_<;>(intro hb;try simp only [hb])|fail)<;>try simp only [go_sem,seval,hd])
 rw [← he];exact pc_ret rfl
theorem c_SameInts (a b:List Int) (n1:a.length≤9223372036854775807):PC Tryd.prog 24 [.lst (a.map I64),.lst (b.map I64)] (.bool (decide (a=b))):=by
 refine PC.of mixedU isU24 (Nat.le_of_ble_eq_true rfl) (by simp [DV.nlL,DV.nl,nlL_ints]) rfl ?_
 show IW Tryd.prog 26 u24_1 ⟨argT _,_,_⟩ (rt [.tmp 4] _)
 by_cases hl:a.length=b.length
 case neg =>
  have hne:((a.length:Int) != (b.length:Int))=true:=by simp;omega
  repeat' ((with_reducible first|refine wr ?_|refine wb2 ?_ ?_<;>(intro hb;try simp only [hb])|fail)<;>try simp only [go_sem,seval,List.length_map,hne])
  rw [decide_eq_false (fun e=>hl (by rw [e]))];exact pc_ret rfl
 have hne:((a.length:Int) != (b.length:Int))=false:=by simp;omega
 repeat' ((with_reducible first|refine wr ?_|refine wb2 ?_ ?_<;>(intro hb;try simp only [hb])|fail)<;>try simp only [go_sem,seval,List.length_map,hne])
 refine i_loop (fun k:Nat=>[(0,.lst (a.map I64)),(1,.lst (b.map I64)),(5,I64 k)]) (fun _=>nil) (fun k cc=>k≤a.length∧a.take k=b.take k) (fun k=>a.length-k) 0 (by simp [tmLe,tm,Tm.upd]) (Sub.nil _) (by simp) ?_
 rintro k cc ⟨hk,he⟩
 by_cases hlt:k<a.length
 ·have hd:decide ((k:Int)<a.length)=true:=by simpa using hlt
  have hlt2:k<b.length:=by omega
  have hg:=List.getElem?_eq_getElem hlt
  have hg2:=List.getElem?_eq_getElem hlt2
  have hw:=w64 (n:=(k:Int)+1) (by omega) (by omega)
  repeat' ((with_reducible first|refine wr ?_|refine wb2 ?_ ?_<;>(intro hb;try simp only [hb])|fail)<;>try simp only [go_sem,seval,List.length_map,hd,hg,hg2,hw])
  all_goals first
   | (refine ⟨k+1,rfl,Sub.nil _,inv ⟨hlt,(eqTo_step hg hg2 he).2 ?_⟩,by omega⟩;simpa using hb)
   | (rw [decide_eq_false (eq_fail hg hg2 ?_)];exact pc_ret rfl;simpa using hb)
 have hd:decide ((k:Int)<a.length)=false:=by simpa using hlt
 repeat' ((with_reducible first|refine wr ?_|refine wb2 ?_ ?_<;>(intro hb;try simp only [hb])|fail)<;>try simp only [go_sem,seval,List.length_map,hd])
 rw [decide_eq_true (eq_done hl (by omega) he)];exact pc_ret rfl
end Go.Proofs.YtcallbfckjlagaaDoor
namespace Go.Proofs.YtcallbfckjlagaaDoor
open Go.Eng (IC IOper DReg IFn IsFn)
open Go.Sym Go.Pb
theorem c_SameR (a b:Prg) (n1:a.instrs.length≤9223372036854775807) (n2:a.strings.length≤9223372036854775807) (n3:a.entries.length≤9223372036854775807) (n4:a.prios.length≤9223372036854775807) (n5:a.vars.length≤9223372036854775807) :
  PC Tryd.prog 18 [a.v,b.v] (.bool (decide (a=b))):=by
 refine PC.of mixedU isU18 (Nat.le_of_ble_eq_true rfl) (by simp [DV.nlL,DV.nl,nlL_ints,nlL_strs,nlL_instrs,nlL_entries,nlL_stp]) (by simp [DV.nlL,DV.nl,nlL_ints,nlL_strs,nlL_instrs,nlL_entries,nlL_stp]) ?_
 show IW Tryd.prog 113 u18_1 ⟨argT _,_,_⟩ (rt [.tmp 4] _)
 by_cases h:a.instrs.length=b.instrs.length∧a.strings.length=b.strings.length∧a.entries.length=b.entries.length∧a.timers=b.timers∧a.events=b.events
 case neg =>
  repeat' ((with_reducible first|refine wr ?_|refine wb2 ?_ ?_<;>(intro hb;try simp only [hb])|fail)<;>try simp only [go_sem,seval])
  all_goals first
   | (refine pc_ret ?_;congr 1;rw [prg_eq];simp_all;done)
   | (exfalso;simp only [bne_eq_false_iff_eq] at *;apply h;refine ⟨?_,?_,?_,?_,?_⟩<;>first|assumption|omega)
 obtain ⟨l1,l2,l3,l4,l5⟩:=h
 have e1:((a.instrs.length:Int) != (b.instrs.length:Int))=false:=by simp;omega
 have e2:((a.strings.length:Int) != (b.strings.length:Int))=false:=by simp;omega
 have e3:((a.entries.length:Int) != (b.entries.length:Int))=false:=by simp;omega
 have e4:(a.timers != b.timers)=false:=by simp [l4]
 have e5:(a.events != b.events)=false:=by simp [l5]
 repeat' ((with_reducible first|refine wr ?_|refine wb2 ?_ ?_<;>(intro hb;try simp only [hb])|fail)<;>try simp only [go_sem,seval,e1,e2,e3,e4,e5])
 refine i_loop (fun k:Nat=>[(2,.ptr 0 0),(3,.ptr 1 0),(5,I64 k)]) (fun _=>(nil.upd 0 ⟨0,true,a.cs⟩).upd 1 ⟨0,true,b.cs⟩) (fun k cc=>2≤cc∧k≤a.instrs.length∧a.instrs.take k=b.instrs.take k) (fun k=>a.instrs.length-k) 0 (by simp [tmLe,tm,Tm.upd]) (Sub.refl _) (by simp) ?_
 rintro k cc ⟨h2,hk,he⟩
 by_cases hlt:k<a.instrs.length
 ·have hd:decide ((k:Int)<a.instrs.length)=true:=by simpa using hlt
  have hlt2:k<b.instrs.length:=by omega
  have hg:=List.getElem?_eq_getElem hlt
  have hg2:=List.getElem?_eq_getElem hlt2
  have hw:=w64 (n:=(k:Int)+1) (by omega) (by omega)
  repeat' ((with_reducible first|refine wr ?_|refine wb2 ?_ ?_<;>(intro hb;try simp only [hb])|fail)<;>try simp only [go_sem,seval,hd,hg,hg2,hw,eqa2])
  all_goals first
   | (refine ⟨k+1,rfl,Sub.refl _,inv ⟨by omega,hlt,(eqTo_step hg hg2 he).2 ?_⟩,by omega⟩;simpa [ins_eq] using hb)
   | (refine pc_ret ?_;congr 1;rw [prg_eq,decide_eq_false (eq_fail hg hg2 ?_)];rfl;simpa [ins_eq] using hb)
 have hd:decide ((k:Int)<a.instrs.length)=false:=by simpa using hlt
 have g1:=eq_done l1 (by omega) he
 clear he hk
 repeat' ((with_reducible first|refine wr ?_|refine wb2 ?_ ?_<;>(intro hb;try simp only [hb])|fail)<;>try simp only [go_sem,seval,hd])
 clear hd hlt
 refine i_loop (fun k:Nat=>[(2,.ptr 0 0),(3,.ptr 1 0),(6,I64 k)]) (fun _=>(nil.upd 0 ⟨0,true,a.cs⟩).upd 1 ⟨0,true,b.cs⟩) (fun k cc=>2≤cc∧k≤a.strings.length∧a.strings.take k=b.strings.take k) (fun k=>a.strings.length-k) 0 (by simp [tmLe,tm,Tm.upd]) (Sub.refl _) (by simp;omega) ?_
 clear k cc h2
 rintro k cc ⟨h2,hk,he⟩
 by_cases hlt:k<a.strings.length
 ·have hd:decide ((k:Int)<a.strings.length)=true:=by simpa using hlt
  have hlt2:k<b.strings.length:=by omega
  have hg:=List.getElem?_eq_getElem hlt
  have hg2:=List.getElem?_eq_getElem hlt2
  have hw:=w64 (n:=(k:Int)+1) (by omega) (by omega)
  repeat' ((with_reducible first|refine wr ?_|refine wb2 ?_ ?_<;>(intro hb;try simp only [hb])|fail)<;>try simp only [go_sem,seval,hd,hg,hg2,hw,eqa2])
  all_goals first
   | (refine ⟨k+1,rfl,Sub.refl _,inv ⟨by omega,hlt,(eqTo_step hg hg2 he).2 ?_⟩,by omega⟩;simpa using hb)
   | (refine pc_ret ?_;congr 1;rw [prg_eq,decide_eq_false (eq_fail hg hg2 (by simpa using hb))];simp)
 have hd:decide ((k:Int)<a.strings.length)=false:=by simpa using hlt
 have g2:=eq_done l2 (by omega) he
 clear he hk
 repeat' ((with_reducible first|refine wr ?_|refine wb2 ?_ ?_<;>(intro hb;try simp only [hb])|fail)<;>try simp only [go_sem,seval,hd])
 clear hd hlt
 refine i_loop (fun k:Nat=>[(2,.ptr 0 0),(3,.ptr 1 0),(7,I64 k)]) (fun _=>(nil.upd 0 ⟨0,true,a.cs⟩).upd 1 ⟨0,true,b.cs⟩) (fun k cc=>2≤cc∧k≤a.entries.length∧a.entries.take k=b.entries.take k) (fun k=>a.entries.length-k) 0 (by simp [tmLe,tm,Tm.upd]) (Sub.refl _) (by simp;omega) ?_
 clear k cc h2
 rintro k cc ⟨h2,hk,he⟩
 by_cases hlt:k<a.entries.length
 ·have hd:decide ((k:Int)<a.entries.length)=true:=by simpa using hlt
  have hlt2:k<b.entries.length:=by omega
  have hg:=List.getElem?_eq_getElem hlt
  have hg2:=List.getElem?_eq_getElem hlt2
  have hw:=w64 (n:=(k:Int)+1) (by omega) (by omega)
  repeat' ((with_reducible first|refine wr ?_|refine wb2 ?_ ?_<;>(intro hb;try simp only [hb])|fail)<;>try simp only [go_sem,seval,hd,hg,hg2,hw,eqa4])
  all_goals first
   | (refine ⟨k+1,rfl,Sub.refl _,inv ⟨by omega,hlt,(eqTo_step hg hg2 he).2 ?_⟩,by omega⟩;simpa [ent_eq] using hb)
   | (refine pc_ret ?_;congr 1;rw [prg_eq,decide_eq_false (eq_fail hg hg2 (by simpa [ent_eq] using hb))];simp)
 have hd:decide ((k:Int)<a.entries.length)=false:=by simpa using hlt
 have g3:=eq_done l3 (by omega) he
 clear he hk
 repeat' ((with_reducible first|refine wr ?_|refine cpc (c_SameInts _ _ n4) ?_|refine cpc (c_SameInts _ _ n5) ?_|refine wb2 ?_ ?_<;>(intro hb;try simp only [hb])|fail)<;>try simp only [go_sem,seval,hd])
 all_goals refine pc_ret ?_
 all_goals (congr 1;rw [prg_eq];simp_all)
end Go.Proofs.YtcallbfckjlagaaDoor
namespace Go.Proofs.YtcallbfckjlagaaDoor
open Go.Eng (IC IOper DReg IFn IsFn)
open Go.Sym Go.Pb
section
abbrev u31_6:IC:=qE [oM 10 3,oP 11 (.un .xor (.t 10)),oM 3 11] [3]
abbrev u31_5:IC:=qK u31_6 .skip (.t 9) [3,9]
abbrev u31_4:IC:=qS [oM 8 0,oK 9 8 .lss 0] u31_5 [0,3]
abbrev u31_11:IC:=qK .skip (.exit 0) (.t 13) [3,4,13]
abbrev u31_10:IC:=qS [oM 12 3,oP 13 (.bin .geq (.t 12) (.k (.int .u64 128)))] u31_11 [3,4]
abbrev u31_14:IC:=qE [oM 21 3,oP 22 (.bin .quo (.t 21) (.k (.int .u64 128))),oM 3 22] [3,4]
abbrev u31_13:IC:=qS [oM 14 4,oM 15 3,oP 16 (.bin .rem (.t 15) (.k (.int .u64 128))),oP 17 (.cvi .u8 (.t 16)),oP 18 (.bin .add (.t 17) (.k (.int .u8 128))),⟨some 19,.new (.bsl 1 1 #[.int .u8 0] [(0,.t 18)]),none⟩,oT 20 14 19 1 1,oM 4 20] u31_14 [3,4]
abbrev u31_12:IC:=qJ u31_13 1 [3,4]
abbrev u31_9:IC:=qQ u31_10 u31_12 [3,4]
abbrev u31_15:IC:=qS [oM 23 4,oM 24 3,oP 25 (.cvi .u8 (.t 24)),⟨some 26,.new (.bsl 1 1 #[.int .u8 0] [(0,.t 25)]),none⟩,oT 27 23 26 1 1,oP 28 (.cvbs (.t 27)),oM 2 28] .ret [3,4]
abbrev u31_8:IC:=qB (.loop u31_9) u31_15 0 [3,4]
abbrev u31_7:IC:=qS [oV 4 (.slice none 0 0)] u31_8 [3]
abbrev u31_3:IC:=qQ u31_4 u31_7 [0,3]
abbrev u31_2:IC:=qS [oM 5 0,oP 6 (.cvi .u64 (.t 5)),oP 7 (.bin .shl (.t 6) (.k (.int .u64 1))),oM 3 7] u31_3 [0]
abbrev u31_1:IC:=qS [oV 2 (.string ⟨#[]⟩)] u31_2 [0]
def u31:IFn:=⟨29,u31_1,[.tmp 2]⟩
end
theorem isU31:IsFn Tryd.prog 31 u31:=by unfold IsFn;kernel_rfl
section
abbrev u32_8:IC:=qK .skip (.exit 0) (.t 11) [0,3,4,11]
abbrev u32_7:IC:=qS [oM 8 4,oM 9 0,oH 10 9,oB 11 8 10 .lss] u32_8 [0,3,4]
abbrev u32_10:IC:=qE [oM 14 3,oM 15 0,oM 16 4,oA 17 15 16 1,oL 18 17,oC 19 31 [.t 18],oB 20 14 19 .add,oM 3 20] [0,3,4]
abbrev u32_11:IC:=qE [oM 12 4,oK 13 12 .add 1,oM 4 13] [0,3,4]
abbrev u32_9:IC:=qB u32_10 u32_11 1 [0,3,4]
abbrev u32_6:IC:=qQ u32_7 u32_9 [0,3,4]
abbrev u32_5:IC:=qJ (.loop u32_6) 0 [0,3,4]
abbrev u32_4:IC:=qS [oI 4 0] u32_5 [0,3]
abbrev u32_12:IC:=qS [oM 21 3,oM 2 21] .ret [3]
abbrev u32_3:IC:=qQ u32_4 u32_12 [0,3]
abbrev u32_2:IC:=qS [oM 5 0,oH 6 5,oC 7 31 [.t 6],oM 3 7] u32_3 [0]
abbrev u32_1:IC:=qS [oV 2 (.string ⟨#[]⟩)] u32_2 [0]
def u32:IFn:=⟨22,u32_1,[.tmp 2]⟩
end
theorem isU32:IsFn Tryd.prog 32 u32:=by unfold IsFn;kernel_rfl
section
abbrev u15_6:IC:=qS [oM 14 4,oV 2 (.string ⟨#[]⟩),oM 3 14] .ret [4]
abbrev u15_5:IC:=qK u15_6 .skip (.t 13) [1,4,13]
abbrev u15_4:IC:=qS [oM 12 4,oK 13 12 .neq 0] u15_5 [1,4]
abbrev u15_3:IC:=qS [oD 10 1 7,oC 11 23 [.t 10],oM 4 11] u15_4 [1]
abbrev u15_13:IC:=qK .skip (.exit 0) (.t 23) [1,5,6,23]
abbrev u15_12:IC:=qS [oM 19 6,oF 20 1 0,oL 21 20,oH 22 21,oB 23 19 22 .lss] u15_13 [1,5,6]
abbrev u15_15:IC:=qG [oM 26 5,oF 27 1 0,oL 28 27,oM 29 6,oA 30 28 29 2,oF 31 30 0,oL 32 31,oC 33 31 [.t 32],oB 34 26 33 .add,oF 35 1 0,oL 36 35,oM 37 6,oA 38 36 37 2,oF 39 38 1,oL 40 39,oC 41 31 [.t 40],oB 42 34 41 .add,oM 5 42] [(0,none),(1,none),(2,none),(3,none),(4,none),(5,none),(6,none),(9,none),(10,none),(11,none),(12,none),(13,none),(14,none),(7,some [0,9,10,11,12,13,14]),(8,none),(15,some [0,8]),(16,none),(17,some [])] 18 [1,5,6]
abbrev u15_16:IC:=qE [oM 24 6,oK 25 24 .add 1,oM 6 25] [1,5,6]
abbrev u15_14:IC:=qB u15_15 u15_16 1 [1,5,6]
abbrev u15_11:IC:=qQ u15_12 u15_14 [1,5,6]
abbrev u15_10:IC:=qJ (.loop u15_11) 0 [1,5,6]
abbrev u15_9:IC:=qS [oI 6 0] u15_10 [1,5]
abbrev u15_23:IC:=qK .skip (.exit 2) (.t 53) [1,5,7,53]
abbrev u15_22:IC:=qS [oM 49 7,oF 50 1 1,oL 51 50,oH 52 51,oB 53 49 52 .lss] u15_23 [1,5,7]
abbrev u15_25:IC:=qG [oM 56 5,oF 57 1 1,oL 58 57,oM 59 7,oA 60 58 59 1,oL 61 60,oP 62 (.lens (.t 61)),oC 63 31 [.t 62],oB 64 56 63 .add,oF 65 1 1,oL 66 65,oM 67 7,oA 68 66 67 1,oL 69 68,oB 70 64 69 .add,oM 5 70] [(0,none),(1,none),(2,none),(3,none),(4,none),(5,none),(6,none),(9,none),(10,none),(11,none),(12,none),(13,none),(7,some [0,9,10,11,12,13]),(8,none),(14,none),(15,some [])] 16 [1,5,7]
abbrev u15_26:IC:=qE [oM 54 7,oK 55 54 .add 1,oM 7 55] [1,5,7]
abbrev u15_24:IC:=qB u15_25 u15_26 3 [1,5,7]
abbrev u15_21:IC:=qQ u15_22 u15_24 [1,5,7]
abbrev u15_20:IC:=qJ (.loop u15_21) 2 [1,5,7]
abbrev u15_19:IC:=qS [oI 7 0] u15_20 [1,5]
abbrev u15_33:IC:=qK .skip (.exit 4) (.t 81) [1,5,8,81]
abbrev u15_32:IC:=qS [oM 77 8,oF 78 1 2,oL 79 78,oH 80 79,oB 81 77 80 .lss] u15_33 [1,5,8]
abbrev u15_36:IC:=qG [oM 89 5,oF 90 9 0,oL 91 90,oC 92 31 [.t 91],oB 93 89 92 .add,oF 94 9 1,oL 95 94,oC 96 31 [.t 95],oB 97 93 96 .add,oF 98 9 2,oL 99 98,oC 100 31 [.t 99],oB 101 97 100 .add,oF 102 9 3,oL 103 102,oC 104 31 [.t 103],oB 105 101 104 .add,oM 5 105] [(0,none),(1,none),(2,none),(5,none),(6,none),(9,none),(10,none),(13,none),(14,none),(3,some [0,5,6,9,10,13,14]),(4,none),(7,some [0,9,10,13,14,4]),(8,none),(11,some [0,13,14,4,8]),(12,none),(15,some [0,4,8,12]),(16,none),(17,some [])] 18 [1,5,8,9]
abbrev u15_35:IC:=qS [oF 84 1 2,oL 85 84,oM 86 8,oA 87 85 86 4,oD 88 87 4,oW 9 (.agg #[.int .i64 0,.int .i64 0,.int .i64 0,.int .i64 0]),oS 9 88 4] u15_36 [1,5,8]
abbrev u15_37:IC:=qE [oM 82 8,oK 83 82 .add 1,oM 8 83] [1,5,8]
abbrev u15_34:IC:=qB u15_35 u15_37 5 [1,5,8]
abbrev u15_31:IC:=qQ u15_32 u15_34 [1,5,8]
abbrev u15_30:IC:=qJ (.loop u15_31) 4 [1,5,8]
abbrev u15_29:IC:=qS [oI 8 0] u15_30 [1,5]
abbrev u15_38:IC:=qD [oM 106 5,oF 107 1 3,oL 108 107,oC 109 32 [.t 108],oB 110 106 109 .add,oF 111 1 4,oL 112 111,oC 113 32 [.t 112],oB 114 110 113 .add,oF 115 1 5,oL 116 115,oC 117 31 [.t 116],oB 118 114 117 .add,oF 119 1 6,oL 120 119,oC 121 31 [.t 120],oB 122 118 121 .add,oM 2 122,oI 3 0] .ret [(0,none),(1,none),(2,none),(5,none),(6,none),(9,none),(10,none),(13,none),(14,none),(3,some [0,5,6,9,10,13,14]),(4,none),(7,some [0,9,10,13,14,4]),(8,none),(11,some [0,13,14,4,8]),(12,none),(15,some [0,4,8,12]),(16,none),(17,some []),(18,some [])] 19 [1,5]
abbrev u15_28:IC:=qQ u15_29 u15_38 [1,5]
abbrev u15_27:IC:=qS [oM 71 5,oF 72 1 2,oL 73 72,oH 74 73,oC 75 31 [.t 74],oB 76 71 75 .add,oM 5 76] u15_28 [1,5]
abbrev u15_18:IC:=qQ u15_19 u15_27 [1,5]
abbrev u15_17:IC:=qS [oM 43 5,oF 44 1 1,oL 45 44,oH 46 45,oC 47 31 [.t 46],oB 48 43 47 .add,oM 5 48] u15_18 [1,5]
abbrev u15_8:IC:=qQ u15_9 u15_17 [1,5]
abbrev u15_7:IC:=qS [oF 15 1 0,oL 16 15,oH 17 16,oC 18 31 [.t 17],oM 5 18] u15_8 [1]
abbrev u15_2:IC:=qQ u15_3 u15_7 [1]
abbrev u15_1:IC:=qS [oX 1 0,oV 2 (.string ⟨#[]⟩),oI 3 0] u15_2 [0]
def u15:IFn:=⟨123,u15_1,[.tmp 2,.tmp 3]⟩
end
theorem isU15:IsFn Tryd.prog 15 u15:=by unfold IsFn;kernel_rfl
theorem l_num (z0:Nat) (hz0:z0<18446744073709551616):IW Tryd.prog 29 (.loop u31_9) ⟨tm [(3,.int .u64 (z0:Int)),(4,.snil)],nil,0⟩ (bk 0 (sq Tryd.prog 29 u31_15 (rt [.tmp 2] fun v H' x => ∃ H2,GL H' [v] H2 [.str (numB z0)]))):=by
 refine i_loop (fun q:Nat × List UInt8 × Option Nat=>[(3,.int .u64 (q.1:Int)),(4,todoV q.2.2 q.2.1.length)]) (fun q=>optH nil q.2.2 ⟨1,true,bytesC q.2.1⟩)
  (fun q cc=>q.1<18446744073709551616∧(q.2.2=none→q.2.1=[])∧(∀ i,q.2.2=some i→i<cc)∧q.2.1.length≤20∧q.2.1++numB q.1=numB z0) (fun q=>q.1) (z0,[],none) ⟨rfl,rfl,trivial⟩ (Sub.refl _) ⟨hz0,fun _=>rfl,by simp,by simp,rfl⟩ ?_
 rintro ⟨z,pre,o⟩ cc ⟨hz,hn,hs,hl,he⟩
 simp only at hz hn hs hl he
 have hll:pre.length+(numB z).length≤10:=by
  rw [← List.length_append,he]
  exact numB_len 9 z0 (by omega)
 by_cases hb:z<128
 ·have hd:decide ((z:Int)≥128)=false:=by simp;omega
  rw [numB_lt hb] at he hll
  have hlo:=byte_lo hb
  rcases o with _|id
  ·obtain rfl:=hn rfl
   repeat' ((first|(with_reducible first|refine wr ?_)|(with_reducible refine wb2 ?_ ?_<;>(intro hb;try simp only [hb]))|((with_reducible refine k_eval (r_appn' (by decide) (by decide) (by decide)) ?_))|((with_reducible refine k_val (cv_own (l:=[UInt8.ofNat z]) h_same rfl rfl) ?_))|fail)<;>try simp only [go_sem,seval,hd,hlo])
   rw [← he];exact pc_ret rfl
  ·have hi:=hs id rfl
   simp only [List.length_singleton] at hll
   have ne0:=nes3 id cc (cc+1) (by omega)
   repeat' ((first|(with_reducible first|refine wr ?_)|(with_reducible refine wb2 ?_ ?_<;>(intro hb;try simp only [hb]))|((with_reducible refine k_eval (b_appx (bytesC_len1 _) (by omega) (by omega)) ?_))|((with_reducible refine k_val (cv_app h_same) ?_))|fail)<;>try simp only [go_sem,seval,hd,hlo,ne0])
   rw [← he];exact pc_ret rfl
 have hd:decide ((z:Int)≥128)=true:=by simp;omega
 rw [numB_ge hb] at he hll
 have hhi:=byte_hi z
 have hq:=quo128 hz
 rcases o with _|id
 ·obtain rfl:=hn rfl
  repeat' ((first|(with_reducible first|refine wr ?_)|(with_reducible refine wb2 ?_ ?_<;>(intro hb;try simp only [hb]))|((with_reducible refine k_eval (r_appn' (by decide) (by decide) (by decide)) ?_))|fail)<;>try simp only [go_sem,seval,hd,hhi,hq,r_rem,r_quo])
  refine ⟨(z / 128,[UInt8.ofNat (z % 128+128)],some (cc+1)),⟨rfl,rfl⟩,?_,inv ⟨by simp only;omega,by simp,fun i hi=>by cases hi;omega,by simp,he⟩,by simp only;omega⟩
  (intro j b hj;simp only [Hp.upd,Hp.del,Sym.nil,baseH,optH] at hj ⊢;(repeat' split at hj)<;>(repeat' split)<;>first|exact hj|(exfalso;omega)|cases hj)
 ·have hi:=hs id rfl
  simp only [List.length_cons] at hll
  have ne0:=nes3 id cc (cc+1) (by omega)
  repeat' ((first|(with_reducible first|refine wr ?_)|(with_reducible refine wb2 ?_ ?_<;>(intro hb;try simp only [hb]))|((with_reducible refine k_eval (b_appx (bytesC_len1 _) (by omega) (by omega)) ?_))|fail)<;>try simp only [go_sem,seval,hd,hhi,hq,r_rem,r_quo,ne0])
  refine ⟨(z / 128,pre++[UInt8.ofNat (z % 128+128)],some (cc+1)),?_,?_,inv ⟨by simp only;omega,by simp,fun i hi=>by cases hi;omega,by simp only [List.length_append,List.length_singleton];omega,by simp only [List.append_assoc,List.singleton_append];exact he⟩,by simp only;omega⟩
  ·simp [todoV]
  ·rw [bytesC_app];(intro j b hj;simp only [Hp.upd,Hp.del,Sym.nil,baseH,optH] at hj ⊢;(repeat' split at hj)<;>(repeat' split)<;>first|exact hj|(exfalso;omega)|cases hj)
theorem c_num (n:Int) (h1 : -4611686018427387904≤n) (h2:n≤4611686018427387903):PC Tryd.prog 31 [I64 n] (.str (numI n)):=by
 have hz:=zig_lt h1 h2
 refine PC.of mixedU isU31 (Nat.le_of_ble_eq_true rfl) rfl rfl ?_
 show IW Tryd.prog 29 u31_1 ⟨argT _,_,_⟩ (rt [.tmp 2] _)
 by_cases h0:n<0
 ·have hd:decide (n<0)=true:=by simpa using h0
  have hx:=zigR_neg h0 h1
  repeat' ((with_reducible first|refine wr ?_|refine wb2 ?_ ?_<;>(intro hb;try simp only [hb])|fail)<;>try simp only [go_sem,seval,r_shl,hd,hx,un_xor])
  exact l_num _ hz
 ·have hd:decide (n<0)=false:=by simpa using h0
  have hx:=zigR_pos (by omega) h2
  repeat' ((with_reducible first|refine wr ?_|refine wb2 ?_ ?_<;>(intro hb;try simp only [hb])|fail)<;>try simp only [go_sem,seval,r_shl,hd,hx])
  exact l_num _ hz
theorem c_nums (l:List Int) (h:∀ n∈l,Sm n) (hl:l.length≤100000):PC Tryd.prog 32 [ints l] (.str (numsB l)):=by
 have q0:=numI_len (n:=(l.length:Int)) ⟨by omega,by omega⟩
 refine PC.of mixedU isU32 (Nat.le_of_ble_eq_true rfl) (by simp [DV.nlL,DV.nl,nlL_ints,nlL_strs,nlL_instrs,nlL_entries,nlL_stp]) (by simp [DV.nlL,DV.nl,nlL_ints,nlL_strs,nlL_instrs,nlL_entries,nlL_stp]) ?_
 show IW Tryd.prog 22 u32_1 ⟨argT _,_,_⟩ (rt [.tmp 2] _)
 repeat' ((with_reducible first|refine wr ?_|refine cpc (c_num (l.length:Int) (by omega) (by omega)) ?_|refine wb2 ?_ ?_<;>(intro hb;try simp only [hb])|fail)<;>try simp only [go_sem,seval])
 refine i_loop (fun k:Nat=>[(0,ints l),(3,.str (numI l.length++(l.take k).flatMap numI)),(4,I64 k)]) (fun _=>nil) (fun k cc=>k≤l.length) (fun k=>l.length-k) 0 (by simp [tmLe,tm,Tm.upd]) (Sub.nil _) (by simp) ?_
 rintro k cc hk
 by_cases hlt:k<l.length
 ·have hd:decide ((k:Int)<l.length)=true:=by simpa using hlt
  have hg:=List.getElem?_eq_getElem hlt
  have hw:=w64 (n:=(k:Int)+1) (by omega) (by omega)
  have hx:=h _ (List.getElem_mem hlt)
  have q1:=numI_len hx
  have q2:=flat_take numI 10 l (fun x hx=>numI_len (h x hx)) k
  repeat' ((first|(with_reducible first|refine wr ?_|refine cpc (c_num _ hx.1 hx.2) ?_)|(with_reducible refine wb2 ?_ ?_<;>(intro hb;try simp only [hb]))|((with_reducible refine k_val (sadd (by first|omega|(simp only [List.length_append]<;>omega))) ?_))|fail)<;>try simp only [go_sem,seval,hd,hg,hw])
  exact ⟨k+1,by rw [flat_step numI hg, ← List.append_assoc];simp,Sub.nil _,inv hlt,by omega⟩
 have hd:decide ((k:Int)<l.length)=false:=by simpa using hlt
 repeat' ((with_reducible first|refine wr ?_|refine wb2 ?_ ?_<;>(intro hb;try simp only [hb])|fail)<;>try simp only [go_sem,seval,hd])
 rw [List.take_of_length_le (by omega)]
 exact pc_ret rfl
end Go.Proofs.YtcallbfckjlagaaDoor
namespace Go.Proofs.YtcallbfckjlagaaDoor
open Go.Eng (IC IOper DReg IFn IsFn)
open Go.Sym Go.Pb
theorem c_EncodeR (c:Prg) (hs:∀ s∈c.strings,s.length≤140737488355328) (n1:c.instrs.length≤9223372036854775807):PC Tryd.prog 15 [c.v] (.tup [.str (encV c),I64 (validM c)]):=by
 by_cases h0:validM c=0
 case neg =>
  have hz:(validM c != 0)=true:=by simpa using h0
  refine PC.of mixedU isU15 (Nat.le_of_ble_eq_true rfl) (by simp [DV.nlL,DV.nl,nlL_ints,nlL_strs,nlL_instrs,nlL_entries,nlL_stp]) (by simp [DV.nlL,DV.nl,nlL_ints,nlL_strs,nlL_instrs,nlL_entries,nlL_stp]) ?_
  show IW Tryd.prog 123 u15_1 ⟨argT _,_,_⟩ (rt [.tmp 2,.tmp 3] _)
  repeat' ((with_reducible first|refine wr ?_|refine cpc (c_validR c hs n1) ?_|refine wb2 ?_ ?_<;>(intro hb;try simp only [hb])|fail)<;>try simp only [go_sem,seval,hz])
  refine pc_ret ?_
  simp [encV,h0]
 have hz:(validM c != 0)=false:=by simp [h0]
 have B:=Bnd.valid h0
 obtain ⟨d1,d2,d3,d4,d5,d6,d7,d8,d9⟩:=Lim.dims (valid_all h0).1
 have hf6:∀ i∈c.instrs,(insB i).length≤20:=fun i hi=>by
  have a:=numI_len (B.ins i hi).1
  have b:=numI_len (B.ins i hi).2
  simp only [insB,List.length_append];omega
 have hf7:∀ s∈c.strings,(strB s).length≤42:=fun s hi=>by
  have a:=B.str s hi
  have b:=numI_len (n:=(s.length:Int)) ⟨by omega,by omega⟩
  simp only [strB,List.length_append];omega
 have hf8:∀ e∈c.entries,(entB e).length≤40:=fun e hi=>by
  have a:=numI_len (B.ent e hi).1
  have b:=numI_len (B.ent e hi).2.1
  have d:=numI_len (B.ent e hi).2.2.1
  have g:=numI_len (B.ent e hi).2.2.2
  simp only [entB,List.length_append];omega
 have L1:=numI_len (n:=(c.instrs.length:Int)) ⟨by omega,by omega⟩
 have L2:=numI_len (n:=(c.strings.length:Int)) ⟨by omega,by omega⟩
 have L3:=numI_len (n:=(c.entries.length:Int)) ⟨by omega,by omega⟩
 have L4:=flat_len insB 20 c.instrs hf6
 have L5:=flat_len strB 42 c.strings hf7
 have L6:=flat_len entB 40 c.entries hf8
 have L7:=numsB_len B.pri (by omega)
 have L8:=numsB_len B.var (by omega)
 have L9:=numI_len B.tim
 have L10:=numI_len B.evt
 refine PC.of mixedU isU15 (Nat.le_of_ble_eq_true rfl) (by simp [DV.nlL,DV.nl,nlL_ints,nlL_strs,nlL_instrs,nlL_entries,nlL_stp]) (by simp [DV.nlL,DV.nl,nlL_ints,nlL_strs,nlL_instrs,nlL_entries,nlL_stp]) ?_
 show IW Tryd.prog 123 u15_1 ⟨argT _,_,_⟩ (rt [.tmp 2,.tmp 3] _)
 repeat' ((with_reducible first|refine wr ?_|refine cpc (c_validR c hs n1) ?_|refine cpc (c_num (c.instrs.length:Int) (by omega) (by omega)) ?_|refine wb2 ?_ ?_<;>(intro hb;try simp only [hb])|fail)<;>try simp only [go_sem,seval,hz,h0])
 refine i_loop (fun k:Nat=>[(1,.ptr 0 0),(5,.str (numI c.instrs.length++(c.instrs.take k).flatMap insB)),(6,I64 k)]) (fun _=>nil.upd 0 ⟨0,true,c.cs⟩) (fun k cc=>1≤cc∧k≤c.instrs.length) (fun k=>c.instrs.length-k) 0 (by simp [tmLe,tm,Tm.upd]) (Sub.refl _) (by simp<;>omega) ?_
 rintro k cc ⟨h1c,hk⟩
 by_cases hlt:k<c.instrs.length
 ·have hd:decide ((k:Int)<c.instrs.length)=true:=by simpa using hlt
  have hg:=List.getElem?_eq_getElem hlt
  have hw:=w64 (n:=(k:Int)+1) (by omega) (by omega)
  have q2:=flat_take insB 20 c.instrs hf6 k
  have hx:=B.ins _ (List.getElem_mem hlt)
  have q3:=numI_len hx.1
  have q4:=numI_len hx.2
  have a0:=sadd (s:=numI c.instrs.length++(c.instrs.take k).flatMap insB) (t:=numI c.instrs[k].op) (by first|omega|(simp only [List.length_append]<;>omega))
  have a1:=sadd (s:=numI c.instrs.length++(c.instrs.take k).flatMap insB++numI c.instrs[k].op) (t:=numI c.instrs[k].A) (by first|omega|(simp only [List.length_append]<;>omega))
  have ne0:=nes2 0 cc (by omega)
  repeat' ((first|(with_reducible first|refine wr ?_|refine cpc (c_num _ hx.1.1 hx.1.2) ?_|refine cpc (c_num _ hx.2.1 hx.2.2) ?_)|(with_reducible refine wb2 ?_ ?_<;>(intro hb;try simp only [hb]))|((with_reducible refine k_val (sadd (by first|omega|(simp only [List.length_append]<;>omega))) ?_))|fail)<;>try simp only [go_sem,seval,hd,hg,hw,ne0,a0,a1])
  exact ⟨k+1,by rw [flat_step insB hg];simp [insB,List.append_assoc],by (intro j b hj;simp only [Hp.upd,Hp.del,Sym.nil,baseH,optH] at hj ⊢;(repeat' split at hj)<;>(repeat' split)<;>first|exact hj|(exfalso;omega)|cases hj),inv ⟨by omega,hlt⟩,by omega⟩
 have hd:decide ((k:Int)<c.instrs.length)=false:=by simpa using hlt
 rw [List.take_of_length_le (by omega)]
 obtain ⟨P,hP⟩:∃ P,P=numI c.instrs.length++c.instrs.flatMap insB++numI c.strings.length:=⟨_,rfl⟩
 have hPl:P.length≤100000:=by rw [hP];simp only [List.length_append];omega
 repeat' ((first|(with_reducible first|refine wr ?_|refine cpc (c_num (c.strings.length:Int) (by omega) (by omega)) ?_)|(with_reducible refine wb2 ?_ ?_<;>(intro hb;try simp only [hb]))|((with_reducible refine k_val (sadd (by first|omega|(simp only [List.length_append]<;>omega))) ?_))|fail)<;>try simp only [go_sem,seval,hd])
 rw [← hP]
 clear hd hlt hk
 refine i_loop (fun k:Nat=>[(1,.ptr 0 0),(5,.str (P++(c.strings.take k).flatMap strB)),(7,I64 k)]) (fun _=>nil.upd 0 ⟨0,true,c.cs⟩) (fun k cc=>1≤cc∧k≤c.strings.length) (fun k=>c.strings.length-k) 0 (by simp [tmLe,tm,Tm.upd]) (Sub.refl _) (by simp<;>omega) ?_
 rintro k cc ⟨h1c,hk⟩
 by_cases hlt:k<c.strings.length
 ·have hd:decide ((k:Int)<c.strings.length)=true:=by simpa using hlt
  have hg:=List.getElem?_eq_getElem hlt
  have hw:=w64 (n:=(k:Int)+1) (by omega) (by omega)
  have q2:=flat_take strB 42 c.strings hf7 k
  have hx:=B.str _ (List.getElem_mem hlt)
  have hy:Sm (c.strings[k].length:Int):=⟨by omega,by omega⟩
  have q3:=numI_len hy
  have a0:=sadd (s:=P++(c.strings.take k).flatMap strB) (t:=numI c.strings[k].length) (by first|omega|(simp only [List.length_append]<;>omega))
  have a1:=sadd (s:=P++(c.strings.take k).flatMap strB++numI c.strings[k].length) (t:=c.strings[k]) (by first|omega|(simp only [List.length_append]<;>omega))
  have ne0:=nes2 0 cc (by omega)
  repeat' ((first|(with_reducible first|refine wr ?_|refine cpc (c_num _ hy.1 hy.2) ?_)|(with_reducible refine wb2 ?_ ?_<;>(intro hb;try simp only [hb]))|((with_reducible refine k_val (sadd (by first|omega|(simp only [List.length_append]<;>omega))) ?_))|fail)<;>try simp only [go_sem,seval,hd,hg,hw,ne0,a0,a1])
  exact ⟨k+1,by rw [flat_step strB hg];simp [strB,List.append_assoc],by (intro j b hj;simp only [Hp.upd,Hp.del,Sym.nil,baseH,optH] at hj ⊢;(repeat' split at hj)<;>(repeat' split)<;>first|exact hj|(exfalso;omega)|cases hj),inv ⟨by omega,hlt⟩,by omega⟩
 have hd:decide ((k:Int)<c.strings.length)=false:=by simpa using hlt
 rw [List.take_of_length_le (by omega)]
 obtain ⟨Q,hQ⟩:∃ Q,Q=P++c.strings.flatMap strB++numI c.entries.length:=⟨_,rfl⟩
 have hQl:Q.length≤200000:=by rw [hQ];simp only [List.length_append];omega
 repeat' ((first|(with_reducible first|refine wr ?_|refine cpc (c_num (c.entries.length:Int) (by omega) (by omega)) ?_)|(with_reducible refine wb2 ?_ ?_<;>(intro hb;try simp only [hb]))|((with_reducible refine k_val (sadd (by first|omega|(simp only [List.length_append]<;>omega))) ?_))|fail)<;>try simp only [go_sem,seval,hd])
 rw [← hQ]
 clear hd hlt hk
 refine i_loop (fun k:Nat=>[(1,.ptr 0 0),(5,.str (Q++(c.entries.take k).flatMap entB)),(8,I64 k)]) (fun _=>nil.upd 0 ⟨0,true,c.cs⟩) (fun k cc=>1≤cc∧k≤c.entries.length) (fun k=>c.entries.length-k) 0 (by simp [tmLe,tm,Tm.upd]) (Sub.refl _) (by simp<;>omega) ?_
 rintro k cc ⟨h1c,hk⟩
 by_cases hlt:k<c.entries.length
 ·have hd:decide ((k:Int)<c.entries.length)=true:=by simpa using hlt
  have hg:=List.getElem?_eq_getElem hlt
  have hw:=w64 (n:=(k:Int)+1) (by omega) (by omega)
  have q2:=flat_take entB 40 c.entries hf8 k
  have hx:=B.ent _ (List.getElem_mem hlt)
  have q3:=numI_len hx.1
  have q4:=numI_len hx.2.1
  have q5:=numI_len hx.2.2.1
  have q6:=numI_len hx.2.2.2
  have a0:=sadd (s:=Q++(c.entries.take k).flatMap entB) (t:=numI c.entries[k].mode) (by first|omega|(simp only [List.length_append]<;>omega))
  have a1:=sadd (s:=Q++(c.entries.take k).flatMap entB++numI c.entries[k].mode) (t:=numI c.entries[k].trigger) (by first|omega|(simp only [List.length_append]<;>omega))
  have a2:=sadd (s:=Q++(c.entries.take k).flatMap entB++numI c.entries[k].mode++numI c.entries[k].trigger) (t:=numI c.entries[k].index) (by first|omega|(simp only [List.length_append]<;>omega))
  have a3:=sadd (s:=Q++(c.entries.take k).flatMap entB++numI c.entries[k].mode++numI c.entries[k].trigger++numI c.entries[k].index) (t:=numI c.entries[k].pos) (by first|omega|(simp only [List.length_append]<;>omega))
  have fa1:¬cc+1+1=0:=by omega
  have fb1:¬cc+1+1=cc:=by omega
  have fa2:¬cc+1+2=0:=by omega
  have fb2:¬cc+1+2=cc:=by omega
  have fa3:¬cc+1+3=0:=by omega
  have fb3:¬cc+1+3=cc:=by omega
  have fa4:¬cc+1+4=0:=by omega
  have fb4:¬cc+1+4=cc:=by omega
  have fa5:¬cc+1+5=0:=by omega
  have fb5:¬cc+1+5=cc:=by omega
  have fa6:¬cc+1+6=0:=by omega
  have fb6:¬cc+1+6=cc:=by omega
  have fa7:¬cc+1+7=0:=by omega
  have fb7:¬cc+1+7=cc:=by omega
  have fa8:¬cc+1+8=0:=by omega
  have fb8:¬cc+1+8=cc:=by omega
  have fa9:¬cc+1+9=0:=by omega
  have fb9:¬cc+1+9=cc:=by omega
  have fa10:¬cc+1+10=0:=by omega
  have fb10:¬cc+1+10=cc:=by omega
  have fa11:¬cc+1+11=0:=by omega
  have fb11:¬cc+1+11=cc:=by omega
  have fa12:¬cc+1+12=0:=by omega
  have fb12:¬cc+1+12=cc:=by omega
  have fa13:¬cc+1+13=0:=by omega
  have fb13:¬cc+1+13=cc:=by omega
  have fa14:¬cc+1+14=0:=by omega
  have fb14:¬cc+1+14=cc:=by omega
  have fa15:¬cc+1+15=0:=by omega
  have fb15:¬cc+1+15=cc:=by omega
  have fa16:¬cc+1+16=0:=by omega
  have fb16:¬cc+1+16=cc:=by omega
  have fa17:¬cc+1+17=0:=by omega
  have fb17:¬cc+1+17=cc:=by omega
  have fa18:¬cc+1+18=0:=by omega
  have fb18:¬cc+1+18=cc:=by omega
  have fa19:¬cc+1+19=0:=by omega
  have fb19:¬cc+1+19=cc:=by omega
  have ne0:=nes3 0 cc (cc+1) (by omega)
  repeat' ((first|(with_reducible first|refine wr ?_|refine cpc (c_num _ hx.1.1 hx.1.2) ?_|refine cpc (c_num _ hx.2.1.1 hx.2.1.2) ?_|refine cpc (c_num _ hx.2.2.1.1 hx.2.2.1.2) ?_|refine cpc (c_num _ hx.2.2.2.1 hx.2.2.2.2) ?_)|(with_reducible refine wb2 ?_ ?_<;>(intro hb;try simp only [hb]))|((with_reducible refine k_val (sadd (by first|omega|(simp only [List.length_append]<;>omega))) ?_))|fail)<;>try simp only [go_sem,seval,hd,hg,hw,ne0,a0,a1,a2,a3,fa1,fb1,fa2,fb2,fa3,fb3,fa4,fb4,fa5,fb5,fa6,fb6,fa7,fb7,fa8,fb8,fa9,fb9,fa10,fb10,fa11,fb11,fa12,fb12,fa13,fb13,fa14,fb14,fa15,fb15,fa16,fb16,fa17,fb17,fa18,fb18,fa19,fb19])
  exact ⟨k+1,by rw [flat_step entB hg];simp [entB,List.append_assoc],by (intro j b hj;simp only [Hp.upd,Hp.del,Sym.nil,baseH,optH] at hj ⊢;(repeat' split at hj)<;>(repeat' split)<;>first|exact hj|(exfalso;omega)|cases hj),inv ⟨by omega,hlt⟩,by omega⟩
 have hd:decide ((k:Int)<c.entries.length)=false:=by simpa using hlt
 rw [List.take_of_length_le (by omega)]
 have a0:=sadd (s:=Q++c.entries.flatMap entB) (t:=numsB c.prios) (by first|omega|(simp only [List.length_append]<;>omega))
 have a1:=sadd (s:=Q++c.entries.flatMap entB++numsB c.prios) (t:=numsB c.vars) (by first|omega|(simp only [List.length_append]<;>omega))
 have a2:=sadd (s:=Q++c.entries.flatMap entB++numsB c.prios++numsB c.vars) (t:=numI c.timers) (by first|omega|(simp only [List.length_append]<;>omega))
 have a3:=sadd (s:=Q++c.entries.flatMap entB++numsB c.prios++numsB c.vars++numI c.timers) (t:=numI c.events) (by first|omega|(simp only [List.length_append]<;>omega))
 have fa1:¬cc+1=0:=by omega
 have fa2:¬cc+2=0:=by omega
 have fa3:¬cc+3=0:=by omega
 have fa4:¬cc+4=0:=by omega
 have fa5:¬cc+5=0:=by omega
 have fa6:¬cc+6=0:=by omega
 have fa7:¬cc+7=0:=by omega
 have fa8:¬cc+8=0:=by omega
 have fa9:¬cc+9=0:=by omega
 have fa10:¬cc+10=0:=by omega
 have fa11:¬cc+11=0:=by omega
 have fa12:¬cc+12=0:=by omega
 have fa13:¬cc+13=0:=by omega
 have fa14:¬cc+14=0:=by omega
 have fa15:¬cc+15=0:=by omega
 have fa16:¬cc+16=0:=by omega
 have fa17:¬cc+17=0:=by omega
 have fa18:¬cc+18=0:=by omega
 have fa19:¬cc+19=0:=by omega
 have fa0:¬cc=0:=by omega
 repeat' ((first|(with_reducible first|refine wr ?_|refine cpc (c_nums _ B.pri (by omega)) ?_|refine cpc (c_nums _ B.var (by omega)) ?_|refine cpc (c_num _ B.tim.1 B.tim.2) ?_|refine cpc (c_num _ B.evt.1 B.evt.2) ?_)|(with_reducible refine wb2 ?_ ?_<;>(intro hb;try simp only [hb]))|((with_reducible refine k_val (sadd (by first|omega|(simp only [List.length_append]<;>omega))) ?_))|fail)<;>try simp only [go_sem,seval,hd,a0,a1,a2,a3,fa0,fa1,fa2,fa3,fa4,fa5,fa6,fa7,fa8,fa9,fa10,fa11,fa12,fa13,fa14,fa15,fa16,fa17,fa18,fa19])
 refine pc_ret ?_
 rw [encV,if_pos h0,encM,hQ,hP]
end Go.Proofs.YtcallbfckjlagaaDoor
namespace Go.Proofs.YtcallbfckjlagaaDoor
open Go.Eng (IC IOper DReg IFn IsFn)
open Go.Sym Go.Pb
section
abbrev u39_11:IC:=qE [oM 18 5,oP 19 (.bin .mul (.k (.int .i64 (-2))) (.t 18)),oK 20 19 .sub 1,oP 21 (.cvi .u64 (.t 20)),oM 6 21] [0,5,7,8,9]
abbrev u39_10:IC:=qK u39_11 .skip (.t 17) [0,5,6,7,8,9,17]
abbrev u39_9:IC:=qS [oM 16 5,oK 17 16 .lss 0] u39_10 [0,5,6,7,8,9]
abbrev u39_15:IC:=qK .skip (.exit 2) (.t 23) [0,6,7,8,9,23]
abbrev u39_14:IC:=qS [oM 22 6,oP 23 (.bin .gtr (.t 22) (.k (.int .u64 127)))] u39_15 [0,6,7,8,9]
abbrev u39_17:IC:=qE [oM 26 0,oM 27 0,oN 28 27,oF 29 28 0,oL 30 29,oM 31 6,oP 32 (.bin .rem (.t 31) (.k (.int .u64 128))),oP 33 (.bin .add (.t 32) (.k (.int .u64 128))),oP 34 (.cvi .u8 (.t 33)),⟨some 35,.new (.bsl 1 1 #[.int .u8 0] [(0,.t 34)]),none⟩,oT 36 30 35 1 1,oN 37 26,oF 38 37 0,oS 38 36 1] [0,6,7,8,9]
abbrev u39_18:IC:=qE [oM 24 6,oP 25 (.bin .quo (.t 24) (.k (.int .u64 128))),oM 6 25] [0,6,7,8,9]
abbrev u39_16:IC:=qB u39_17 u39_18 3 [0,6,7,8,9]
abbrev u39_13:IC:=qQ u39_14 u39_16 [0,6,7,8,9]
abbrev u39_19:IC:=qE [oM 39 0,oM 40 0,oN 41 40,oF 42 41 0,oL 43 42,oM 44 6,oP 45 (.cvi .u8 (.t 44)),⟨some 46,.new (.bsl 1 1 #[.int .u8 0] [(0,.t 45)]),none⟩,oT 47 43 46 1 1,oN 48 39,oF 49 48 0,oS 49 47 1] [0,6,7,8,9]
abbrev u39_12:IC:=qB (.loop u39_13) u39_19 2 [0,6,7,8,9]
abbrev u39_8:IC:=qQ u39_9 u39_12 [0,5,6,7,8,9]
abbrev u39_7:IC:=qS [oM 13 5,oP 14 (.bin .mul (.k (.int .i64 2)) (.t 13)),oP 15 (.cvi .u64 (.t 14)),oM 6 15] u39_8 [0,5,7,8,9]
abbrev u39_6:IC:=qS [oA 11 7 9 1,oL 12 11,oM 5 12] u39_7 [0,7,8,9]
abbrev u39_20:IC:=qE [oK 50 9 .add 1,oM 9 50] [0,7,8,9]
abbrev u39_5:IC:=qB u39_6 u39_20 1 [0,7,8,9]
abbrev u39_4:IC:=qC .skip u39_5 (.exit 0) (.t 10) [0,7,8,9,10]
abbrev u39_3:IC:=qS [oB 10 9 8 .lss] u39_4 [0,7,8,9]
abbrev u39_2:IC:=qJ (.loop u39_3) 0 [0,7,8,9]
abbrev u39_1:IC:=qS [oM 7 1,oH 8 7,oI 9 0] u39_2 [0,1]
def u39:IFn:=⟨51,u39_1,[]⟩
end
theorem isU39:IsFn Tryd.prog 39 u39:=by unfold IsFn;kernel_rfl
section
abbrev u19_6:IC:=qS [oM 16 4,oV 2 (.string ⟨#[]⟩),oM 3 16] .ret [4]
abbrev u19_5:IC:=qK u19_6 .skip (.t 15) [1,4,15]
abbrev u19_4:IC:=qS [oM 14 4,oK 15 14 .neq 0] u19_5 [1,4]
abbrev u19_3:IC:=qS [oD 12 1 7,oC 13 14 [.t 12],oM 4 13] u19_4 [1]
abbrev u19_16:IC:=qE [oM 32 5,oF 33 7 0,oL 34 33,oF 35 7 1,oL 36 35,⟨some 37,.new (.bsl 1 2 #[.int .i64 0] [(0,.t 34),(1,.t 36)]),none⟩,oC 38 39 [.t 32,.t 37]] [1,5,7,26,27,28]
abbrev u19_15:IC:=qS [oA 30 26 28 2,oD 31 30 2,oW 7 (.agg #[.int .i64 0,.int .i64 0]),oS 7 31 2] u19_16 [1,5,26,27,28]
abbrev u19_17:IC:=qE [oK 39 28 .add 1,oM 28 39] [1,5,26,27,28]
abbrev u19_14:IC:=qB u19_15 u19_17 1 [1,5,26,27,28]
abbrev u19_13:IC:=qC .skip u19_14 (.exit 0) (.t 29) [1,5,26,27,28,29]
abbrev u19_12:IC:=qS [oB 29 28 27 .lss] u19_13 [1,5,26,27,28]
abbrev u19_11:IC:=qJ (.loop u19_12) 0 [1,5,26,27,28]
abbrev u19_10:IC:=qS [oF 25 1 0,oL 26 25,oH 27 26,oI 28 0] u19_11 [1,5]
abbrev u19_27:IC:=qE [oM 58 5,oM 59 5,oN 60 59,oF 61 60 0,oL 62 61,oM 63 9,⟨some 64,.eff (.apps (.t 62) (.t 63)),none⟩,oN 65 58,oF 66 65 0,oS 66 64 1] [1,5,9,47,48,49]
abbrev u19_26:IC:=qS [oM 53 5,oM 54 9,oP 55 (.lens (.t 54)),⟨some 56,.new (.bsl 1 1 #[.int .i64 0] [(0,.t 55)]),none⟩,oC 57 39 [.t 53,.t 56]] u19_27 [1,5,9,47,48,49]
abbrev u19_25:IC:=qS [oA 51 47 49 1,oL 52 51,oM 9 52] u19_26 [1,5,47,48,49]
abbrev u19_28:IC:=qE [oK 67 49 .add 1,oM 49 67] [1,5,47,48,49]
abbrev u19_24:IC:=qB u19_25 u19_28 3 [1,5,47,48,49]
abbrev u19_23:IC:=qC .skip u19_24 (.exit 2) (.t 50) [1,5,47,48,49,50]
abbrev u19_22:IC:=qS [oB 50 49 48 .lss] u19_23 [1,5,47,48,49]
abbrev u19_21:IC:=qJ (.loop u19_22) 2 [1,5,47,48,49]
abbrev u19_20:IC:=qS [oF 46 1 1,oL 47 46,oH 48 47,oI 49 0] u19_21 [1,5]
abbrev u19_37:IC:=qE [oM 81 5,oF 82 11 0,oL 83 82,oF 84 11 1,oL 85 84,oF 86 11 2,oL 87 86,oF 88 11 3,oL 89 88,⟨some 90,.new (.bsl 1 4 #[.int .i64 0] [(0,.t 83),(1,.t 85),(2,.t 87),(3,.t 89)]),none⟩,oC 91 39 [.t 81,.t 90]] [1,5,11,75,76,77]
abbrev u19_36:IC:=qS [oA 79 75 77 4,oD 80 79 4,oW 11 (.agg #[.int .i64 0,.int .i64 0,.int .i64 0,.int .i64 0]),oS 11 80 4] u19_37 [1,5,75,76,77]
abbrev u19_38:IC:=qE [oK 92 77 .add 1,oM 77 92] [1,5,75,76,77]
abbrev u19_35:IC:=qB u19_36 u19_38 5 [1,5,75,76,77]
abbrev u19_34:IC:=qC .skip u19_35 (.exit 4) (.t 78) [1,5,75,76,77,78]
abbrev u19_33:IC:=qS [oB 78 77 76 .lss] u19_34 [1,5,75,76,77]
abbrev u19_32:IC:=qJ (.loop u19_33) 4 [1,5,75,76,77]
abbrev u19_31:IC:=qS [oF 74 1 2,oL 75 74,oH 76 75,oI 77 0] u19_32 [1,5]
abbrev u19_44:IC:=qS [oM 120 5,oN 121 120,oF 122 121 0,oL 123 122,oP 124 (.cvbs (.t 123)),oM 2 124,oI 3 0] .ret [5]
abbrev u19_43:IC:=qS [oM 113 5,oF 114 1 5,oL 115 114,oF 116 1 6,oL 117 116,⟨some 118,.new (.bsl 1 2 #[.int .i64 0] [(0,.t 115),(1,.t 117)]),none⟩,oC 119 39 [.t 113,.t 118]] u19_44 [1,5]
abbrev u19_42:IC:=qS [oM 109 5,oF 110 1 4,oL 111 110,oC 112 39 [.t 109,.t 111]] u19_43 [1,5]
abbrev u19_41:IC:=qS [oM 103 5,oF 104 1 4,oL 105 104,oH 106 105,⟨some 107,.new (.bsl 1 1 #[.int .i64 0] [(0,.t 106)]),none⟩,oC 108 39 [.t 103,.t 107]] u19_42 [1,5]
abbrev u19_40:IC:=qS [oM 99 5,oF 100 1 3,oL 101 100,oC 102 39 [.t 99,.t 101]] u19_41 [1,5]
abbrev u19_39:IC:=qS [oM 93 5,oF 94 1 3,oL 95 94,oH 96 95,⟨some 97,.new (.bsl 1 1 #[.int .i64 0] [(0,.t 96)]),none⟩,oC 98 39 [.t 93,.t 97]] u19_40 [1,5]
abbrev u19_30:IC:=qQ u19_31 u19_39 [1,5]
abbrev u19_29:IC:=qS [oM 68 5,oF 69 1 2,oL 70 69,oH 71 70,⟨some 72,.new (.bsl 1 1 #[.int .i64 0] [(0,.t 71)]),none⟩,oC 73 39 [.t 68,.t 72]] u19_30 [1,5]
abbrev u19_19:IC:=qQ u19_20 u19_29 [1,5]
abbrev u19_18:IC:=qS [oM 40 5,oF 41 1 1,oL 42 41,oH 43 42,⟨some 44,.new (.bsl 1 1 #[.int .i64 0] [(0,.t 43)]),none⟩,oC 45 39 [.t 40,.t 44]] u19_19 [1,5]
abbrev u19_9:IC:=qQ u19_10 u19_18 [1,5]
abbrev u19_8:IC:=qS [oM 19 5,oF 20 1 0,oL 21 20,oH 22 21,⟨some 23,.new (.bsl 1 1 #[.int .i64 0] [(0,.t 22)]),none⟩,oC 24 39 [.t 19,.t 23]] u19_9 [1,5]
abbrev u19_7:IC:=qS [oP 17 (.bld #[.slice none 0 0] [(0,1)] []),oX 18 17,oM 5 18] u19_8 [1]
abbrev u19_2:IC:=qQ u19_3 u19_7 [1]
abbrev u19_1:IC:=qS [oX 1 0,oV 2 (.string ⟨#[]⟩),oI 3 0] u19_2 [0]
def u19:IFn:=⟨125,u19_1,[.tmp 2,.tmp 3]⟩
end
theorem isU19:IsFn Tryd.prog 19 u19:=by unfold IsFn;kernel_rfl
theorem c_put (c:Prg) (bs:List UInt8) (o:Option Nat) (cc:Nat) (l:List Int) (h2:2≤cc) (hn:o=none→bs=[]) (hs:∀ i,o=some i→2≤i∧i<cc) (hl:∀ n∈l,Sm n) (hl1:l.length≤100000) (hl2:bs.length≤100000000) :
  AC Tryd.prog 39 [.ptr 1 0,ints l] (EH c o bs) cc (fun v H' c' => ∃ o',H'=EH c o' (bs++l.flatMap numI)∧(o'=none→bs++l.flatMap numI=[])∧(∀ i,o'=some i→2≤i∧i<c')):=by
 refine AC.body mixedU isU39 (Nat.le_of_ble_eq_true rfl) fun hfr=>?_
 show IW Tryd.prog 51 u39_1 ⟨argT _,_,_⟩ (rt [] _)
 repeat' ((with_reducible first|refine wr ?_|refine wb2 ?_ ?_<;>(intro hb;try simp only [hb])|fail)<;>try simp only [go_sem,seval])
 refine i_loop (fun q:Nat × Option Nat=>[(0,.ptr 1 0),(7,ints l),(8,I64 l.length),(9,I64 q.1)]) (fun q=>EH c q.2 (bs++(l.take q.1).flatMap numI)) (fun q cc=>2≤cc∧q.1≤l.length∧(q.2=none→bs++(l.take q.1).flatMap numI=[])∧∀ i,q.2=some i→2≤i∧i<cc) (fun q=>l.length-q.1) (0,o)
  (by simp [tmLe,tm,Tm.upd]) (by simpa using Sub.refl _) ⟨h2,by simp,by simpa using hn,hs⟩ ?_
 clear h2 hn hs
 rintro ⟨k,o⟩ cc ⟨h2,hk,hn,hs⟩
 simp only at hk hn hs
 by_cases hlt:k<l.length
 ·have hd:decide ((k:Int)<l.length)=true:=by simpa using hlt
  have hg:=List.getElem?_eq_getElem hlt
  have hw:=w64 (n:=(k:Int)+1) (by omega) (by omega)
  have hx:=hl _ (List.getElem_mem hlt)
  have hz:=zig_lt hx.1 hx.2
  have q2:=flat_take numI 10 l (fun x hx=>numI_len (hl x hx)) k
  have q3:=numI_len hx
  have hsgn:(decide (l[k]<0)=true∧IntKind.u64.wrap (IntKind.i64.wrap (IntKind.i64.wrap (-2 * l[k])-1))=(zig l[k]:Int))∨(decide (l[k]<0)=false∧IntKind.u64.wrap (IntKind.i64.wrap (2 * l[k]))=(zig l[k]:Int)):=by
   by_cases h0:l[k]<0
   ·exact .inl ⟨by simpa using h0,zigP_neg h0 hx.1⟩
   ·exact .inr ⟨by simpa using h0,zigP_pos (by omega) hx.2⟩
  rcases hsgn with ⟨hd0,hzz⟩|⟨hd0,hzz⟩
  all_goals
   repeat' ((with_reducible first|refine wr ?_|refine wb2 ?_ ?_<;>(intro hb;try simp only [hb])|fail)<;>try simp only [go_sem,seval,hd,hg,hw,hd0,hzz])
  all_goals
   refine i_loop (fun q:Nat × List UInt8 × Option Nat=>[(0,.ptr 1 0),(6,.int .u64 (q.1:Int)),(7,ints l),(8,I64 l.length),(9,I64 k)]) (fun q=>EH c q.2.2 q.2.1)
    (fun q cc=>2≤cc∧q.1<18446744073709551616∧(q.2.2=none→q.2.1=[])∧(∀ i,q.2.2=some i→2≤i∧i<cc)∧q.2.1++numB q.1=bs++(l.take k).flatMap numI++numI l[k]) (fun q=>q.1) (zig l[k],bs++(l.take k).flatMap numI,o) ⟨rfl,rfl,rfl,rfl,rfl,trivial⟩ (Sub.refl _) ⟨h2,hz,hn,hs,rfl⟩ ?_
   clear hd0 hzz h2 hn hs hz o cc
   rintro ⟨z,pre,o⟩ cc ⟨h2,hz,hn,hs,he⟩
   simp only at hz hn hs he
   have hlen:pre.length+(numB z).length≤200000000:=by
    rw [← List.length_append,he]
    simp only [List.length_append];omega
   by_cases hb:z<128
   ·have hd1:decide ((z:Int)>127)=false:=by simp;omega
    rw [numB_lt hb] at he hlen
    have hlo:=byte_lo hb
    have hfin:bs++(l.take (k+1)).flatMap numI=pre++[UInt8.ofNat z]:=by rw [flat_step numI hg, ← List.append_assoc, ← he]
    rcases o with _|id
    ·obtain rfl:=hn rfl
     have ne0:=nes4 0 1 cc (cc+1) (by omega)
     repeat' ((first|(with_reducible first|refine wr ?_)|(with_reducible refine wb2 ?_ ?_<;>(intro hb;try simp only [hb]))|((with_reducible refine k_eval (r_appn' (by decide) (by decide) (by decide)) ?_))|fail)<;>try simp only [go_sem,seval,hd1,hlo,hw,EH,optH,ne0])
     exact ⟨(k+1,some (cc+1)),rfl,by simp only [hfin,EH,optH,todoV,bytesC_app,List.length_append,List.length_singleton];(intro j b hj;simp only [Hp.upd,Hp.del,Sym.nil,baseH,optH,EH] at hj ⊢;(repeat' split at hj)<;>(repeat' split)<;>first|exact hj|(exfalso;omega)|cases hj),inv ⟨by omega,hlt,by simp,fun i hi=>by cases hi;omega⟩,by simp only;omega⟩
    ·obtain ⟨i1,i2⟩:=hs id rfl
     simp only [List.length_singleton] at hlen
     have ne0:=nes5 0 1 id cc (cc+1) (by omega)
     repeat' ((first|(with_reducible first|refine wr ?_)|(with_reducible refine wb2 ?_ ?_<;>(intro hb;try simp only [hb]))|((with_reducible refine k_eval (b_appx (bytesC_len1 _) (by omega) (by omega)) ?_))|fail)<;>try simp only [go_sem,seval,hd1,hlo,hw,EH,optH,ne0])
     exact ⟨(k+1,some (cc+1)),rfl,by simp only [hfin,EH,optH,todoV,bytesC_app,List.length_append,List.length_singleton];(intro j b hj;simp only [Hp.upd,Hp.del,Sym.nil,baseH,optH,EH] at hj ⊢;(repeat' split at hj)<;>(repeat' split)<;>first|exact hj|(exfalso;omega)|cases hj),inv ⟨by omega,hlt,by simp,fun i hi=>by cases hi;omega⟩,by simp only;omega⟩
   have hd1:decide ((z:Int)>127)=true:=by simp;omega
   rw [numB_ge hb] at he hlen
   have hhi:=byte_hi' z
   have hq:=quo128 hz
   rcases o with _|id
   ·obtain rfl:=hn rfl
    have ne0:=nes4 0 1 cc (cc+1) (by omega)
    repeat' ((first|(with_reducible first|refine wr ?_)|(with_reducible refine wb2 ?_ ?_<;>(intro hb;try simp only [hb]))|((with_reducible refine k_eval (r_appn' (by decide) (by decide) (by decide)) ?_))|fail)<;>try simp only [go_sem,seval,hd1,hhi,hq,r_rem,r_quo,EH,optH,ne0])
    exact ⟨(z / 128,[]++[UInt8.ofNat (z % 128+128)],some (cc+1)),rfl,by simp only [EH,optH,todoV,bytesC_app,List.length_append,List.length_singleton];(intro j b hj;simp only [Hp.upd,Hp.del,Sym.nil,baseH,optH,EH] at hj ⊢;(repeat' split at hj)<;>(repeat' split)<;>first|exact hj|(exfalso;omega)|cases hj),inv ⟨by omega,by simp only;omega,by simp,fun i hi=>by cases hi;omega,by simp only [List.append_assoc,List.singleton_append] at he ⊢;exact he⟩,by simp only;omega⟩
   ·obtain ⟨i1,i2⟩:=hs id rfl
    simp only [List.length_cons] at hlen
    have ne0:=nes5 0 1 id cc (cc+1) (by omega)
    repeat' ((first|(with_reducible first|refine wr ?_)|(with_reducible refine wb2 ?_ ?_<;>(intro hb;try simp only [hb]))|((with_reducible refine k_eval (b_appx (bytesC_len1 _) (by omega) (by omega)) ?_))|fail)<;>try simp only [go_sem,seval,hd1,hhi,hq,r_rem,r_quo,EH,optH,ne0])
    exact ⟨(z / 128,pre++[UInt8.ofNat (z % 128+128)],some (cc+1)),rfl,by simp only [EH,optH,todoV,bytesC_app,List.length_append,List.length_singleton];(intro j b hj;simp only [Hp.upd,Hp.del,Sym.nil,baseH,optH,EH] at hj ⊢;(repeat' split at hj)<;>(repeat' split)<;>first|exact hj|(exfalso;omega)|cases hj),inv ⟨by omega,by simp only;omega,by simp,fun i hi=>by cases hi;omega,by simp only [List.append_assoc,List.singleton_append] at he ⊢;exact he⟩,by simp only;omega⟩
 have hd:decide ((k:Int)<l.length)=false:=by simpa using hlt
 rw [List.take_of_length_le (by omega)] at hn
 repeat' ((with_reducible first|refine wr ?_|refine wb2 ?_ ?_<;>(intro hb;try simp only [hb])|fail)<;>try simp only [go_sem,seval,hd])
 rw [List.take_of_length_le (by omega)]
 exact ⟨_,_,GL.refl _ _,o,rfl,hn,hs⟩
end Go.Proofs.YtcallbfckjlagaaDoor
namespace Go.Proofs.YtcallbfckjlagaaDoor
open Go.Eng (IC IOper DReg IFn IsFn)
open Go.Sym Go.Pb
theorem c_put' (c:Prg) (bs:List UInt8) (o:Option Nat) (H:Hp) (cc x:Nat) (l:List Int) (hS:Sub (EH c o bs) H) (hx:H x=some ⟨1,true,l.map I64⟩) (h0:2≤x) (hox:o≠some x) (hn:o=none→bs=[]) (hs:∀ i,o=some i→2≤i∧i<cc) (hcc:2≤cc) (hl:∀ n∈l,Sm n) (hl1:l.length≤100000) (hl2:bs.length≤100000000) :
  AC Tryd.prog 39 [.ptr 1 0,.slc x 0 l.length] H cc (fun v H' c' => ∃ o',H'=EH c o' (bs++l.flatMap numI)∧(o'=none→bs++l.flatMap numI=[])∧(∀ i,o'=some i→2≤i∧i<c')) :=
 AC.ghost (g_put hS hx h0 hox) (c_put c bs o cc l hcc hn hs hl hl1 hl2)
theorem c_Encode (c:Prg) (hs:∀ s∈c.strings,s.length≤140737488355328) (n1:c.instrs.length≤9223372036854775807):PC Tryd.prog 19 [c.v] (.tup [.str (encV c),I64 (validM c)]):=by
 by_cases h0:validM c=0
 case neg =>
  have hz:(validM c != 0)=true:=by simpa using h0
  refine PC.of mixedU isU19 (Nat.le_of_ble_eq_true rfl) (by simp [DV.nlL,DV.nl,nlL_ints,nlL_strs,nlL_instrs,nlL_entries,nlL_stp]) (by simp [DV.nlL,DV.nl,nlL_ints,nlL_strs,nlL_instrs,nlL_entries,nlL_stp]) ?_
  show IW Tryd.prog 125 u19_1 ⟨argT _,_,_⟩ (rt [.tmp 2,.tmp 3] _)
  repeat' ((with_reducible first|refine wr ?_|refine cpc (c_valid c hs n1) ?_|refine wb2 ?_ ?_<;>(intro hb;try simp only [hb])|fail)<;>try simp only [go_sem,seval,hz])
  refine pc_ret ?_
  simp [encV,h0]
 have hz:(validM c != 0)=false:=by simp [h0]
 have B:=Bnd.valid h0
 obtain ⟨d1,d2,d3,d4,d5,d6,d7,d8,d9⟩:=Lim.dims (valid_all h0).1
 refine PC.of mixedU isU19 (Nat.le_of_ble_eq_true rfl) (by simp [DV.nlL,DV.nl,nlL_ints,nlL_strs,nlL_instrs,nlL_entries,nlL_stp]) (by simp [DV.nlL,DV.nl,nlL_ints,nlL_strs,nlL_instrs,nlL_entries,nlL_stp]) ?_
 show IW Tryd.prog 125 u19_1 ⟨argT _,_,_⟩ (rt [.tmp 2,.tmp 3] _)
 repeat' ((with_reducible first|refine wr ?_|refine cpc (c_valid c hs n1) ?_|refine wb2 ?_ ?_<;>(intro hb;try simp only [hb])|fail)<;>try simp only [go_sem,seval,hz,h0])
 have S1:Sm (c.instrs.length:Int):=⟨by omega,by omega⟩
 have S2:Sm (c.strings.length:Int):=⟨by omega,by omega⟩
 have S3:Sm (c.entries.length:Int):=⟨by omega,by omega⟩
 have S4:Sm (c.prios.length:Int):=⟨by omega,by omega⟩
 have S5:Sm (c.vars.length:Int):=⟨by omega,by omega⟩
 have hf6:∀ i∈c.instrs,(insB i).length≤20:=fun i hi=>by
  have a:=numI_len (B.ins i hi).1
  have b:=numI_len (B.ins i hi).2
  simp only [insB,List.length_append];omega
 have hf7:∀ s∈c.strings,(strB s).length≤42:=fun s hi=>by
  have a:=B.str s hi
  have b:=numI_len (n:=(s.length:Int)) ⟨by omega,by omega⟩
  simp only [strB,List.length_append];omega
 have hf8:∀ e∈c.entries,(entB e).length≤40:=fun e hi=>by
  have a:=numI_len (B.ent e hi).1
  have b:=numI_len (B.ent e hi).2.1
  have d:=numI_len (B.ent e hi).2.2.1
  have g:=numI_len (B.ent e hi).2.2.2
  simp only [entB,List.length_append];omega
 have L1:=numI_len S1
 have L2:=numI_len S2
 have L3:=numI_len S3
 have L4:=flat_len insB 20 c.instrs hf6
 have L5:=flat_len strB 42 c.strings hf7
 have L6:=flat_len entB 40 c.entries hf8
 refine AC.call (c_put' c [] none _ _ 2 [(c.instrs.length:Int)] ((Sub.refl _).upd _ (EH_n (by omega) (by simp))) h_same (by omega) (by simp) (fun _=>rfl) (by simp) (by omega) (by simpa using S1) (by simp) (by simp)) ?_
 rintro v H' c' ⟨o,rfl,hn,hs⟩ hcc
 have e:([]++[(c.instrs.length:Int)].flatMap numI)=numI c.instrs.length:=by simp
 rw [e] at hn ⊢
 simp only [go_sem,seval]
 repeat' ((with_reducible first|refine wr ?_|refine wb2 ?_ ?_<;>(intro hb;try simp only [hb])|fail)<;>try simp only [go_sem,seval,EH_0 hs])
 refine i_loop (fun q:Nat × Option Nat=>[(1,.ptr 0 0),(5,.ptr 1 0),(26,inssV c.instrs),(27,I64 c.instrs.length),(28,I64 q.1)]) (fun q=>EH c q.2 (numI c.instrs.length++(c.instrs.take q.1).flatMap insB)) (fun q cc=>2≤cc∧q.1≤c.instrs.length∧(q.2=none→numI c.instrs.length++(c.instrs.take q.1).flatMap insB=[])∧∀ i,q.2=some i→2≤i∧i<cc) (fun q=>c.instrs.length-q.1) (0,o)
  (by simp [tmLe,tm,Tm.upd]) (by simpa using Sub.refl _) ⟨by omega,by simp,by simpa using hn,hs⟩ ?_
 rintro ⟨k,o⟩ cc ⟨h2,hk,hn,hs⟩
 simp only at hk hn hs
 by_cases hlt:k<c.instrs.length
 ·have hd:decide ((k:Int)<c.instrs.length)=true:=by simpa using hlt
  have hg:=List.getElem?_eq_getElem hlt
  have hw:=w64 (n:=(k:Int)+1) (by omega) (by omega)
  have hx:=B.ins _ (List.getElem_mem hlt)
  have q2:=flat_take insB 20 c.instrs hf6 k
  have ne0:=nes4 0 1 cc (cc+1) (by omega)
  repeat' ((with_reducible first|refine wr ?_|refine wb2 ?_ ?_<;>(intro hb;try simp only [hb])|fail)<;>try simp only [go_sem,seval,EH_0 hs,hd,hg,hw,ne0])
  have hc0:EH c o (numI c.instrs.length++(c.instrs.take k).flatMap insB) cc=none:=EH_n (by omega) (fun e=>absurd (hs _ e).2 (by omega))
  have hc1:EH c o (numI c.instrs.length++(c.instrs.take k).flatMap insB) (cc+1)=none:=EH_n (by omega) (fun e=>absurd (hs _ e).2 (by omega))
  rw [h_upd2]
  refine AC.call (c_put' c _ o _ _ (cc+1) [c.instrs[k].op,c.instrs[k].A] (((Sub.refl _).upd _ hc0).upd _ hc1) h_same (by omega) (fun e=>absurd (hs _ e).2 (by omega)) hn (fun i e=>⟨(hs i e).1,by have:=(hs i e).2;omega⟩) (by omega) (by simpa using hx) (by simp) (by simp only [List.length_append];omega)) ?_
  rintro v H' c' ⟨o,rfl,hn,hs⟩ hcc
  have e:numI c.instrs.length++(c.instrs.take k).flatMap insB++[c.instrs[k].op,c.instrs[k].A].flatMap numI=numI c.instrs.length++(c.instrs.take (k+1)).flatMap insB:=by rw [flat_step insB hg];simp [insB,List.append_assoc]
  rw [e] at hn ⊢
  simp only [go_sem,seval]
  repeat' ((with_reducible first|refine wr ?_|refine wb2 ?_ ?_<;>(intro hb;try simp only [hb])|fail)<;>try simp only [go_sem,seval,hw])
  exact ⟨(k+1,o),rfl,Sub.refl _,inv ⟨by omega,hlt,hn,hs⟩,by simp only;omega⟩
 have hd:decide ((k:Int)<c.instrs.length)=false:=by simpa using hlt
 rw [List.take_of_length_le (by omega)] at hn
 repeat' ((with_reducible first|refine wr ?_|refine wb2 ?_ ?_<;>(intro hb;try simp only [hb])|fail)<;>try simp only [go_sem,seval,EH_0 hs,hd])
 rw [List.take_of_length_le (by omega)]
 clear hd hlt hk
 have hc0:EH c o (numI c.instrs.length++c.instrs.flatMap insB) cc=none:=EH_n (by omega) (fun e=>absurd (hs _ e).2 (by omega))
 refine AC.call (c_put' c _ o _ _ cc [(c.strings.length:Int)] ((Sub.refl _).upd _ hc0) h_same (by omega) (fun e=>absurd (hs _ e).2 (by omega)) hn (fun i e=>⟨(hs i e).1,by have:=(hs i e).2;omega⟩) (by omega) (by simpa using S2) (by simp) (by simp only [List.length_append];omega)) ?_
 rintro v H' c' ⟨o,rfl,hn,hs⟩ hcc
 obtain ⟨P,hP⟩:∃ P,P=numI c.instrs.length++c.instrs.flatMap insB++numI c.strings.length:=⟨_,rfl⟩
 have hPl:P.length≤100000:=by rw [hP];simp only [List.length_append];omega
 have e:numI c.instrs.length++c.instrs.flatMap insB++[(c.strings.length:Int)].flatMap numI=P:=by rw [hP];simp
 rw [e] at hn ⊢
 simp only [go_sem,seval]
 repeat' ((with_reducible first|refine wr ?_|refine wb2 ?_ ?_<;>(intro hb;try simp only [hb])|fail)<;>try simp only [go_sem,seval,EH_0 hs])
 refine i_loop (fun q:Nat × Option Nat=>[(1,.ptr 0 0),(5,.ptr 1 0),(47,strs c.strings),(48,I64 c.strings.length),(49,I64 q.1)]) (fun q=>EH c q.2 (P++(c.strings.take q.1).flatMap strB)) (fun q cc=>2≤cc∧q.1≤c.strings.length∧(q.2=none→P++(c.strings.take q.1).flatMap strB=[])∧∀ i,q.2=some i→2≤i∧i<cc) (fun q=>c.strings.length-q.1) (0,o)
  (by simp [tmLe,tm,Tm.upd]) (by simpa using Sub.refl _) ⟨by omega,by simp,by simpa using hn,hs⟩ ?_
 rintro ⟨k,o⟩ cc ⟨h2,hk,hn,hs⟩
 simp only at hk hn hs
 by_cases hlt:k<c.strings.length
 ·have hd:decide ((k:Int)<c.strings.length)=true:=by simpa using hlt
  have hg:=List.getElem?_eq_getElem hlt
  have hw:=w64 (n:=(k:Int)+1) (by omega) (by omega)
  have hx:=B.str _ (List.getElem_mem hlt)
  have q2:=flat_take strB 42 c.strings hf7 k
  have hc0:EH c o (P++(c.strings.take k).flatMap strB) cc=none:=EH_n (by omega) (fun e=>absurd (hs _ e).2 (by omega))
  have ne0:=nes4 0 1 cc (cc+1) (by omega)
  repeat' ((with_reducible first|refine wr ?_|refine wb2 ?_ ?_<;>(intro hb;try simp only [hb])|fail)<;>try simp only [go_sem,seval,EH_0 hs,hd,hg,hw,ne0])
  refine AC.call (c_put' c _ o _ _ cc [(c.strings[k].length:Int)] ((Sub.refl _).upd _ hc0) h_same (by omega) (fun e=>absurd (hs _ e).2 (by omega)) hn (fun i e=>⟨(hs i e).1,by have:=(hs i e).2;omega⟩) (by omega) (by simp;omega) (by simp) (by simp only [List.length_append];omega)) ?_
  rintro v H' c' ⟨o,rfl,hn,hs⟩ hcc
  have e:P++(c.strings.take k).flatMap strB++[(c.strings[k].length:Int)].flatMap numI=P++(c.strings.take k).flatMap strB++numI c.strings[k].length:=by simp
  rw [e] at hn ⊢
  have q3:=numI_len (n:=(c.strings[k].length:Int)) ⟨by omega,by omega⟩
  rcases o with _|id
  ·exact absurd (hn rfl) (by have:=numI_ne (c.strings[k].length:Int);simp [this])
  obtain ⟨i1,i2⟩:=hs id rfl
  have hlen:(P++(c.strings.take k).flatMap strB++numI c.strings[k].length).length≤1000000:=by simp only [List.length_append];omega
  have ne0:=nes5 0 1 id c' (c'+1) (by omega)
  simp only [go_sem,seval,EH,optH,ne0]
  repeat' ((first|(with_reducible first|refine wr ?_)|(with_reducible refine wb2 ?_ ?_<;>(intro hb;try simp only [hb]))|((with_reducible refine k_eval (b_appx (bytesC_len1 _) (by omega) (by omega)) ?_))|fail)<;>try simp only [go_sem,seval,hw,EH,optH,ne0])
  have e2:P++(c.strings.take (k+1)).flatMap strB=P++(c.strings.take k).flatMap strB++numI c.strings[k].length++c.strings[k]:=by rw [flat_step strB hg];simp [strB,List.append_assoc]
  exact ⟨(k+1,some c'),rfl,by simp only [e2,EH,optH,todoV,bytesC_app,List.length_append];(intro j b hj;simp only [Hp.upd,Hp.del,Sym.nil,baseH,optH,EH] at hj ⊢;(repeat' split at hj)<;>(repeat' split)<;>first|exact hj|(exfalso;omega)|cases hj),inv ⟨by omega,hlt,by simp,fun i hi=>by cases hi;omega⟩,by simp only;omega⟩
 have hd:decide ((k:Int)<c.strings.length)=false:=by simpa using hlt
 rw [List.take_of_length_le (by omega)] at hn
 repeat' ((with_reducible first|refine wr ?_|refine wb2 ?_ ?_<;>(intro hb;try simp only [hb])|fail)<;>try simp only [go_sem,seval,EH_0 hs,hd])
 rw [List.take_of_length_le (by omega)]
 clear hd hlt hk
 have hc0:EH c o (P++c.strings.flatMap strB) cc=none:=EH_n (by omega) (fun e=>absurd (hs _ e).2 (by omega))
 refine AC.call (c_put' c _ o _ _ cc [(c.entries.length:Int)] ((Sub.refl _).upd _ hc0) h_same (by omega) (fun e=>absurd (hs _ e).2 (by omega)) hn (fun i e=>⟨(hs i e).1,by have:=(hs i e).2;omega⟩) (by omega) (by simpa using S3) (by simp) (by simp only [List.length_append];omega)) ?_
 rintro v H' c' ⟨o,rfl,hn,hs⟩ hcc
 obtain ⟨Q,hQ⟩:∃ Q,Q=P++c.strings.flatMap strB++numI c.entries.length:=⟨_,rfl⟩
 have hQl:Q.length≤200000:=by rw [hQ];simp only [List.length_append];omega
 have e:P++c.strings.flatMap strB++[(c.entries.length:Int)].flatMap numI=Q:=by rw [hQ];simp
 rw [e] at hn ⊢
 simp only [go_sem,seval]
 repeat' ((with_reducible first|refine wr ?_|refine wb2 ?_ ?_<;>(intro hb;try simp only [hb])|fail)<;>try simp only [go_sem,seval,EH_0 hs])
 refine i_loop (fun q:Nat × Option Nat=>[(1,.ptr 0 0),(5,.ptr 1 0),(75,entsV c.entries),(76,I64 c.entries.length),(77,I64 q.1)]) (fun q=>EH c q.2 (Q++(c.entries.take q.1).flatMap entB)) (fun q cc=>2≤cc∧q.1≤c.entries.length∧(q.2=none→Q++(c.entries.take q.1).flatMap entB=[])∧∀ i,q.2=some i→2≤i∧i<cc) (fun q=>c.entries.length-q.1) (0,o)
  (by simp [tmLe,tm,Tm.upd]) (by simpa using Sub.refl _) ⟨by omega,by simp,by simpa using hn,hs⟩ ?_
 rintro ⟨k,o⟩ cc ⟨h2,hk,hn,hs⟩
 simp only at hk hn hs
 by_cases hlt:k<c.entries.length
 ·have hd:decide ((k:Int)<c.entries.length)=true:=by simpa using hlt
  have hg:=List.getElem?_eq_getElem hlt
  have hw:=w64 (n:=(k:Int)+1) (by omega) (by omega)
  have hx:=B.ent _ (List.getElem_mem hlt)
  have q2:=flat_take entB 40 c.entries hf8 k
  have ne0:=nes4 0 1 cc (cc+1) (by omega)
  repeat' ((with_reducible first|refine wr ?_|refine wb2 ?_ ?_<;>(intro hb;try simp only [hb])|fail)<;>try simp only [go_sem,seval,EH_0 hs,hd,hg,hw,ne0])
  have hc0:EH c o (Q++(c.entries.take k).flatMap entB) cc=none:=EH_n (by omega) (fun e=>absurd (hs _ e).2 (by omega))
  have hc1:EH c o (Q++(c.entries.take k).flatMap entB) (cc+1)=none:=EH_n (by omega) (fun e=>absurd (hs _ e).2 (by omega))
  rw [h_upd2]
  refine AC.call (c_put' c _ o _ _ (cc+1) [c.entries[k].mode,c.entries[k].trigger,c.entries[k].index,c.entries[k].pos] (((Sub.refl _).upd _ hc0).upd _ hc1) h_same (by omega) (fun e=>absurd (hs _ e).2 (by omega)) hn (fun i e=>⟨(hs i e).1,by have:=(hs i e).2;omega⟩) (by omega) (by simpa using hx) (by simp) (by simp only [List.length_append];omega)) ?_
  rintro v H' c' ⟨o,rfl,hn,hs⟩ hcc
  have e:Q++(c.entries.take k).flatMap entB++[c.entries[k].mode,c.entries[k].trigger,c.entries[k].index,c.entries[k].pos].flatMap numI=Q++(c.entries.take (k+1)).flatMap entB:=by rw [flat_step entB hg];simp [entB,List.append_assoc]
  rw [e] at hn ⊢
  simp only [go_sem,seval]
  repeat' ((with_reducible first|refine wr ?_|refine wb2 ?_ ?_<;>(intro hb;try simp only [hb])|fail)<;>try simp only [go_sem,seval,hw])
  exact ⟨(k+1,o),rfl,Sub.refl _,inv ⟨by omega,hlt,hn,hs⟩,by simp only;omega⟩
 have hd:decide ((k:Int)<c.entries.length)=false:=by simpa using hlt
 rw [List.take_of_length_le (by omega)] at hn
 repeat' ((with_reducible first|refine wr ?_|refine wb2 ?_ ?_<;>(intro hb;try simp only [hb])|fail)<;>try simp only [go_sem,seval,EH_0 hs,hd])
 rw [List.take_of_length_le (by omega)]
 clear hd hlt hk
 have T1:∀ n∈[(c.prios.length:Int)],Sm n:=by simpa using S4
 have T3:∀ n∈[(c.vars.length:Int)],Sm n:=by simpa using S5
 have T5:∀ n∈[c.timers,c.events],Sm n:=by simpa using And.intro B.tim B.evt
 have hc0:EH c o (Q++c.entries.flatMap entB) cc=none:=EH_n (by omega) (fun e=>absurd (hs _ e).2 (by omega))
 refine AC.call (c_put' c _ o _ _ cc [(c.prios.length:Int)] ((Sub.refl _).upd _ hc0) h_same (by omega) (fun e=>absurd (hs _ e).2 (by omega)) hn (fun i e=>⟨(hs i e).1,by have:=(hs i e).2;omega⟩) (by omega) (T1) (by simp) (by first|omega|(simp only [List.length_append]<;>omega))) ?_
 rintro v H' c1 ⟨o,rfl,hn,hs⟩ hcc1
 obtain ⟨R1,hR1⟩:∃ R,R=Q++c.entries.flatMap entB++[(c.prios.length:Int)].flatMap numI:=⟨_,rfl⟩
 have hR1l:R1.length≤310000:=by rw [hR1,List.length_append];have:=flat_len numI 10 [(c.prios.length:Int)] (fun x hx=>numI_len (T1 x hx));(try simp only [List.length_append,List.length_cons,List.length_nil] at this);(try simp only [List.length_append]);omega
 rw [← hR1] at hn ⊢
 simp only [go_sem,seval]
 repeat' ((with_reducible first|refine wr ?_|refine wb2 ?_ ?_<;>(intro hb;try simp only [hb])|fail)<;>try simp only [go_sem,seval,EH_0 hs])
 refine AC.call (c_put c _ o _ c.prios (by omega) hn hs (B.pri) (by omega) (by first|omega|(simp only [List.length_append]<;>omega))) ?_
 rintro v H' c2 ⟨o,rfl,hn,hs⟩ hcc2
 obtain ⟨R2,hR2⟩:∃ R,R=R1++c.prios.flatMap numI:=⟨_,rfl⟩
 have hR2l:R2.length≤320000:=by rw [hR2,List.length_append];have:=flat_len numI 10 c.prios (fun x hx=>numI_len (B.pri x hx));(try simp only [List.length_append,List.length_cons,List.length_nil] at this);(try simp only [List.length_append]);omega
 rw [← hR2] at hn ⊢
 simp only [go_sem,seval]
 repeat' ((with_reducible first|refine wr ?_|refine wb2 ?_ ?_<;>(intro hb;try simp only [hb])|fail)<;>try simp only [go_sem,seval,EH_0 hs])
 have hc0:EH c o (R2) c2=none:=EH_n (by omega) (fun e=>absurd (hs _ e).2 (by omega))
 refine AC.call (c_put' c _ o _ _ c2 [(c.vars.length:Int)] ((Sub.refl _).upd _ hc0) h_same (by omega) (fun e=>absurd (hs _ e).2 (by omega)) hn (fun i e=>⟨(hs i e).1,by have:=(hs i e).2;omega⟩) (by omega) (T3) (by simp) (by first|omega|(simp only [List.length_append]<;>omega))) ?_
 rintro v H' c3 ⟨o,rfl,hn,hs⟩ hcc3
 obtain ⟨R3,hR3⟩:∃ R,R=R2++[(c.vars.length:Int)].flatMap numI:=⟨_,rfl⟩
 have hR3l:R3.length≤330000:=by rw [hR3,List.length_append];have:=flat_len numI 10 [(c.vars.length:Int)] (fun x hx=>numI_len (T3 x hx));(try simp only [List.length_append,List.length_cons,List.length_nil] at this);(try simp only [List.length_append]);omega
 rw [← hR3] at hn ⊢
 simp only [go_sem,seval]
 repeat' ((with_reducible first|refine wr ?_|refine wb2 ?_ ?_<;>(intro hb;try simp only [hb])|fail)<;>try simp only [go_sem,seval,EH_0 hs])
 refine AC.call (c_put c _ o _ c.vars (by omega) hn hs (B.var) (by omega) (by first|omega|(simp only [List.length_append]<;>omega))) ?_
 rintro v H' c4 ⟨o,rfl,hn,hs⟩ hcc4
 obtain ⟨R4,hR4⟩:∃ R,R=R3++c.vars.flatMap numI:=⟨_,rfl⟩
 have hR4l:R4.length≤340000:=by rw [hR4,List.length_append];have:=flat_len numI 10 c.vars (fun x hx=>numI_len (B.var x hx));(try simp only [List.length_append,List.length_cons,List.length_nil] at this);(try simp only [List.length_append]);omega
 rw [← hR4] at hn ⊢
 simp only [go_sem,seval]
 repeat' ((with_reducible first|refine wr ?_|refine wb2 ?_ ?_<;>(intro hb;try simp only [hb])|fail)<;>try simp only [go_sem,seval,EH_0 hs])
 have hc0:EH c o (R4) c4=none:=EH_n (by omega) (fun e=>absurd (hs _ e).2 (by omega))
 refine AC.call (c_put' c _ o _ _ c4 [c.timers,c.events] ((Sub.refl _).upd _ hc0) h_same (by omega) (fun e=>absurd (hs _ e).2 (by omega)) hn (fun i e=>⟨(hs i e).1,by have:=(hs i e).2;omega⟩) (by omega) (T5) (by simp) (by first|omega|(simp only [List.length_append]<;>omega))) ?_
 rintro v H' c5 ⟨o,rfl,hn,hs⟩ hcc5
 obtain ⟨R5,hR5⟩:∃ R,R=R4++[c.timers,c.events].flatMap numI:=⟨_,rfl⟩
 have hR5l:R5.length≤350000:=by rw [hR5,List.length_append];have:=flat_len numI 10 [c.timers,c.events] (fun x hx=>numI_len (T5 x hx));(try simp only [List.length_append,List.length_cons,List.length_nil] at this);(try simp only [List.length_append]);omega
 rw [← hR5] at hn ⊢
 rcases o with _|id
 ·exact absurd (hn rfl) (by rw [hR5];have:=numI_ne c.timers;simp [this])
 obtain ⟨i1,i2⟩:=hs id rfl
 have ne0:=nes3 0 1 id (by omega)
 simp only [go_sem,seval,EH,optH,ne0]
 repeat' ((first|(with_reducible first|refine wr ?_)|(with_reducible refine wb2 ?_ ?_<;>(intro hb;try simp only [hb]))|((with_reducible refine k_val (cv_own (l:=R5) h_same rfl rfl) ?_))|fail)<;>try simp only [go_sem,seval,EH,optH,ne0])
 refine pc_ret ?_
 rw [encV,if_pos h0,encM,hR5,hR4,hR3,hR2,hR1,hQ,hP]
 simp [numsB,List.append_assoc]
end Go.Proofs.YtcallbfckjlagaaDoor
end
