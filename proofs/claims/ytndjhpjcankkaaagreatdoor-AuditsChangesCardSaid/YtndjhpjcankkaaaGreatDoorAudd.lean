/-
  HELPERS of the claim: part 4 of its texts.
-/
import Derived.ReadAgain
import Derived.ChangeBears
import Derived.Deep.Slices
import Derived.Below
import Derived.OpenShut
import Derived.Lib.LaidTab
import Derived.Test.YtndjhpjcankkaaaGreatDoorAudc
noncomputable section
set_option linter.unusedVariables false
set_option linter.unusedSectionVars false
set_option linter.unusedSimpArgs false
namespace Go.Sym
variable [Go.Sym.Tab]
open Go.RowKit Go.Pb Go.Deep
section
variable {H:Type} {enc:TypeId × Value→H} {P:Program} {T:TypeId→Prop} {W W':World} {hT:TabOk W}
theorem arg_kept (K:Kids P T) (hz:∀ t e,T t→P.underlying t=some (.slice e)→0<P.cellsOf e) (hb:Below W.heap.size W W') {sp:Nat→Bool} :
  ∀ {ts:List TypeId} {vs:List Value} {ds:List (DataW H)} {ps:List MemPlace},(∀ t∈ts,T t)→DataW.TrodAll enc P W 0 (fun _=>true) true ts vs ds ps→(∀ p∈ps,sp p.block=true)→DataW.TrodAll enc P W' 0 sp true ts vs ds ps
 | [],[],[],_,_,h,_=>h
 | t :: ts,v :: vs,d :: ds,ps,hT,⟨p,q,h1,h2,e⟩,hs=>by
  have hlt:=h1
  refine ⟨p,q,?_,arg_kept K hz hb (fun t ht=>hT t (List.mem_cons.2 (Or.inr ht))) h2 (fun x hx=>hs x (by rw [e];exact List.mem_append_right _ hx)),e⟩
  have h3:=h1.respare K hz (hT _ (List.mem_cons.2 (Or.inl rfl))) (spare':=sp) (fun x hx=>hs x (by rw [e];exact List.mem_append_left _ hx))
  obtain ⟨n,hn⟩:=h3
  obtain ⟨m,hm⟩:=h1
  exact ⟨n,DataW.trod_carry n _ _ _ hn fun x hx=>hb.same (DataW.trod_lt m _ _ _ hm x hx)⟩
theorem u8_of {n:Int} (h:(Lit.int .u8 n).wf=true):n=((UInt8.ofNat n.toNat).toNat:Int):=by
 have:=bounds_u8 h
 simp
 omega
end
end Go.Sym
namespace Go.Sym
variable [Go.Sym.Tab]
open Go.RowKit Go.Pb Go.Deep
section
variable {H:Type} {enc:TypeId × Value→H} {P:Program} {W W':World} {hT:TabOk W}
theorem open_str {t:TypeId} {v:Value} {d:DataW H} {ps:List MemPlace} (ht:P.underlying t=some .string)
  (h:DataW.Trod enc P W 0 (fun _=>true) true t v d ps) (hv:v.cells = #[v]):∃ l:List UInt8,l.length≤9223372036854775807∧VRel (topR W hT) (.str l) v:=by
 obtain ⟨n,hn⟩:=h
 obtain ⟨s,q1,q2,q3⟩:=DataW.trod_string ht hn
 rw [hv] at q1
 have:v=.string s:=by simpa using q1
 subst this
 refine ⟨s.data.toList,?_,.str s⟩
 have e:s.data.toList.length=s.size:=Array.length_toList
 unfold maxLen at q3
 omega
theorem open_arr3 {t e:TypeId} {v:Value} {d:DataW H} {ps:List MemPlace} (ht:P.underlying t=some (.array 3 e)) (he:P.underlying e=some (.int .u8)) (hc:P.cellsOf e=1)
  (h:DataW.Trod enc P W 0 (fun _=>true) true t v d ps) (hv:∃ cs:Array Value,v=.agg cs∧cs.size=3) :
  ∃ a0 a1 a2:Nat,a0<256∧a1<256∧a2<256∧VRel (topR W hT) (.agg [.int .u8 (a0:Int),.int .u8 (a1:Int),.int .u8 (a2:Int)]) v:=by
 obtain ⟨cs,rfl,hs⟩:=hv
 obtain ⟨n,hn⟩:=h
 obtain ⟨xs,m, -, -, -,h3,h4⟩:=DataW.trod_array ht hn
 obtain ⟨x0,x1,x2,hcs⟩:∃ x0 x1 x2,cs.toList=[x0,x1,x2]:=by
  have:cs.toList.length=3:=by simpa using hs
  match hl:cs.toList,this with
  | [x0,x1,x2],_=>exact ⟨x0,x1,x2,rfl⟩
 have hcell:(Value.agg cs).cells.toList=[x0,x1,x2]:=by simpa [Value.cells] using hcs
 have one:∀ i,i<3→∃ k:Int,[x0,x1,x2][i]? = some (.int .u8 k)∧(Lit.int .u8 k).wf=true:=by
  intro i hi
  have h5:=h4 i hi
  rw [hc,hcell,Nat.mul_one,List.getElem?_eq_getElem (by omega)] at h5
  obtain ⟨k,q1,q2,q3⟩:=DataW.trod_int he h5
  refine ⟨k,?_,q3⟩
  match i,hi with
  | 0,_=>simpa using q1
  | 1,_=>simpa using q1
  | 2,_=>simpa using q1
 obtain ⟨k0,e0,f0⟩:=one 0 (by omega)
 obtain ⟨k1,e1,f1⟩:=one 1 (by omega)
 obtain ⟨k2,e2,f2⟩:=one 2 (by omega)
 have b0:=bounds_u8 f0
 have b1:=bounds_u8 f1
 have b2:=bounds_u8 f2
 simp at e0 e1 e2
 subst e0 e1 e2
 have ha:cs = #[.int .u8 k0,.int .u8 k1,.int .u8 k2]:=by rw [← Array.toList_inj];exact hcs
 subst ha
 refine ⟨k0.toNat,k1.toNat,k2.toNat,by omega,by omega,by omega,?_⟩
 have c0:((k0.toNat:Nat):Int)=k0:=by omega
 have c1:((k1.toNat:Nat):Int)=k1:=by omega
 have c2:((k2.toNat:Nat):Int)=k2:=by omega
 rw [c0,c1,c2]
 refine .agg _ _ rfl (fun i x y hx hy=>?_)
 rcases i with _|_|_|i
 ·cases hx;cases hy;exact .int _ _
 ·cases hx;cases hy;exact .int _ _
 ·cases hx;cases hy;exact .int _ _
 ·cases hx
end
end Go.Sym
namespace Go.Pb
variable [Go.Sym.Tab]
open Go.Sym
theorem flat_len {α : Type} (f : α → List UInt8) (m:Nat):∀ (l:List α),(∀ x∈l,(f x).length≤m)→(l.flatMap f).length≤m * l.length
 | [],_=>by simp
 | x :: l,h=>by
  have h1:=h x List.mem_cons_self
  have h2:=flat_len f m l (fun y hy=>h y (List.mem_cons_of_mem _ hy))
  rw [List.flatMap_cons,List.length_append,List.length_cons,Nat.mul_succ]
  omega
theorem sadd {s t:List UInt8} (h:s.length+t.length≤9223372036854775807):binR .add (.str s) (.str t)=some (.str (s++t)):=r_sadd (by simpa [maxLen] using h)
end Go.Pb
namespace Go.Pb
variable [Go.Sym.Tab]
open Go.Sym
def digB (d:Nat):UInt8:=UInt8.ofNat (48+d)
def decB (n:Nat):List UInt8:=if n<10 then [digB n] else decB (n / 10)++[digB (n % 10)]
termination_by n
decreasing_by omega
theorem decB_lt {n:Nat} (h:n<10):decB n=[digB n]:=by rw [decB,if_pos h]
theorem decB_ge {n:Nat} (h:¬n<10):decB n=decB (n / 10)++[digB (n % 10)]:=by rw [decB,if_neg h]
theorem decB_len:∀ (k n:Nat),n<10 ^ (k+1)→(decB n).length≤k+1
 | 0,n,h=>by rw [decB_lt (by omega)];simp
 | k+1,n,h=>by
  by_cases h0:n<10
  ·rw [decB_lt h0];simp
  ·rw [decB_ge h0,List.length_append]
   have:=decB_len k (n / 10) (by rw [Nat.pow_succ] at h;omega)
   simp only [List.length_singleton];omega
def decI (n:Int):List UInt8:=if n<0 then 45 :: decB n.natAbs else decB n.natAbs
theorem decI_len {n:Int} (h1 : -9223372036854775808≤n) (h2:n≤9223372036854775807):(decI n).length≤21:=by
 have:=decB_len 19 n.natAbs (by omega)
 unfold decI;split
 ·rw [List.length_cons];omega
 ·omega
theorem dig_u8 {d:Nat} (h:d<10):IntKind.u8.wrap (IntKind.i64.wrap (48+(d:Int)))=((digB d).toNat:Int):=by
 rw [w64 (by omega) (by omega),wu8 (by omega) (by omega),digB]
 simp
 omega
def lo10 (n:Int):Nat:=n.natAbs % 10
def hi10 (n:Int):Nat:=n.natAbs / 10
theorem lo10_lt (n:Int):lo10 n<10:=by unfold lo10;omega
theorem hi10_le {n:Int} (h:n≠0):hi10 n<n.natAbs:=by unfold hi10;omega
theorem neg_div {n:Int} (h:n<0):n.tdiv 10 = -((hi10 n:Nat):Int):=by
 unfold hi10
 obtain ⟨k,rfl⟩:∃ k:Nat,n = -(k:Int):=⟨n.natAbs,by omega⟩
 rw [Int.neg_tdiv];simp [Int.tdiv]
theorem neg_mod {n:Int} (h:n<0):n.tmod 10 = -((lo10 n:Nat):Int):=by
 unfold lo10
 obtain ⟨k,rfl⟩:∃ k:Nat,n = -(k:Int):=⟨n.natAbs,by omega⟩
 rw [Int.neg_tmod];simp [Int.tmod]
theorem pos_div {n:Int} (h:0≤n):n.tdiv 10=((hi10 n:Nat):Int):=by
 unfold hi10
 obtain ⟨k,rfl⟩:∃ k:Nat,n=(k:Int):=⟨n.natAbs,by omega⟩
 simp [Int.tdiv]
theorem pos_mod {n:Int} (h:0≤n):n.tmod 10=((lo10 n:Nat):Int):=by
 unfold lo10
 obtain ⟨k,rfl⟩:∃ k:Nat,n=(k:Int):=⟨n.natAbs,by omega⟩
 simp [Int.tmod]
theorem decI_neg0 {n:Int} (h:n<0) (h1:hi10 n=0):decI n=[45]++[digB (lo10 n)]:=by
 unfold hi10 at h1
 have h2:n.natAbs<10:=by omega
 have h3:lo10 n=n.natAbs:=by unfold lo10;omega
 rw [decI,if_pos h,decB_lt h2,h3];rfl
theorem decI_neg {n:Int} (h:n<0) (h1:hi10 n≠0):decI n=decI (-(hi10 n:Int))++[digB (lo10 n)]:=by
 have h2:¬n.natAbs<10:=by unfold hi10 at h1;omega
 rw [decI,if_pos h,decB_ge h2,decI,if_pos (by omega),Int.natAbs_neg,Int.natAbs_natCast];rfl
theorem decI_lt {n:Int} (h:0≤n) (h1:n<10):decI n=[digB (lo10 n)]:=by
 have h3:lo10 n=n.natAbs:=by unfold lo10;omega
 rw [decI,if_neg (by omega),decB_lt (by omega),h3]
theorem decI_ge {n:Int} (h:¬n<10):decI n=decI (hi10 n:Int)++[digB (lo10 n)]:=by
 rw [decI,if_neg (by omega),decB_ge (by omega),decI,if_neg (by omega),Int.natAbs_natCast];rfl
abbrev I6 (n:Int):Prop := -9223372036854775808≤n∧n≤9223372036854775807
end Go.Pb
namespace Go.Sym
variable [Go.Sym.Tab]
open Go.RowKit Go.Pb Go.Deep
theorem mem_cellsL:∀ {xs:List DV} {d:DV},d∈cellsL xs→∃ y∈xs,d∈y.cells
 | [],d,h=>by cases h
 | x :: r,d,h=>by
  rcases List.mem_append.1 h with h|h
  ·exact ⟨x,List.mem_cons_self,h⟩
  ·obtain ⟨y,h1,h2⟩:=mem_cellsL h
   exact ⟨y,List.mem_cons_of_mem _ h1,h2⟩
theorem bounds_i64 {n:Int} (h:(Lit.int .i64 n).wf=true):I6 n:=by
 simp [Lit.wf,IntKind.min,IntKind.max,IntKind.signed,IntKind.bits] at h
 exact ⟨by omega,by omega⟩
section
variable {H:Type} {enc:TypeId × Value→H} {P:Program} {W W':World} {hT:TabOk W}
theorem trod_list {α : Type} {t e:TypeId} {v:Value} {n:Nat} {x:DataW H × List MemPlace} {u:Nat} (F : α → DV) (R : α → Prop) (hu0:0<u) (ht:P.underlying t=some (.slice e)) (hc:P.cellsOf e=u)
  (hF:∀ a,(F a).cells.length=u) (h1:∀ a, ∀ d∈(F a).cells,d.one=true)
  (elem:∀ (n:Nat) (cs:List Value) (x:DataW H × List MemPlace),DataW.trod enc P W 0 (fun _=>true) true n e cs=some x→∃ a : α,R a∧∀ (j:Nat) d,(F a).cells[j]? = some d→∃ v,cs[j]? = some v∧VRel (topR W hT) d v)
  (hn:DataW.trod enc P W 0 (fun _=>true) true n t [v]=some x):∃ l:List α,l.length≤9223372036854775807∧(∀ a∈l,R a)∧VRel (topR W hT) (.lst (l.map F)) v:=by
 rcases open_slice ht hn with ⟨h1', -⟩|⟨a,len,cap,m,n',D,Pl,g1,g2,g3,g4,g5,g6,g7⟩
 ·have:v=.slice none 0 0:=by simpa using h1'
  subst this
  exact ⟨[],by simp,by simp,.lnil0⟩
 have hva:v=.slice (some a) len cap:=by simpa using g1
 subst hva
 simp only [if_true] at g5
 by_cases hl0:len=0
 ·subst hl0
  exact ⟨[],by simp,by simp,.lnil a cap⟩
 rw [hc] at g7
 have E:∀ i,i<len→∃ (cs:List Value) (y : α),R y∧cs.length=u∧(∀ j,j<u→W.cell? ((a.add (i * u)).add j)=cs[j]?)∧∀ (j:Nat) d,(F y).cells[j]? = some d→∃ v,cs[j]? = some v∧VRel (topR W hT) d v:=by
  intro i hi
  obtain ⟨cs,q1,q2⟩:=g7 i (by omega)
  obtain ⟨-,q3,q4⟩:=World.cells?_some q1
  obtain ⟨y,q5,q6⟩:=elem n' cs _ q2
  exact ⟨cs,y,q5,q3,q4,q6⟩
 obtain ⟨cs0,y0, -,z1,z2, -⟩:=E 0 (by omega)
 obtain ⟨v0,hv0⟩:∃ v0,cs0[0]? = some v0:=⟨_,List.getElem?_eq_getElem (by omega)⟩
 have hcell:=z2 0 hu0
 rw [hv0,Nat.zero_mul] at hcell
 have hadd0:∀ b:Addr,b.add 0=b:=fun b=>by simp [Addr.add]
 rw [hadd0,hadd0] at hcell
 obtain ⟨b,off,spot⟩:=a
 have hspot:spot=none:=by
  simp only [World.cell?] at hcell
  split at hcell
  ·split at hcell
   ·cases hcell
   ·rename_i h;cases spot with
    | none=>rfl
    | some s=>simp at h
  ·cases hcell
 subst hspot
 have hrow:∃ row ty fr,W.heap[b]? = some (.cells row ty fr):=by
  simp only [World.cell?] at hcell
  split at hcell
  ·rename_i row ty fr h;exact ⟨row,ty,fr,h⟩
  ·cases hcell
 obtain ⟨row,ty,fr,hb⟩:=hrow
 have hadd:∀ o i,(⟨b,o,none⟩:Addr).add i=⟨b,o+i,none⟩:=by
  intro o i
  unfold Addr.add
  split
  ·rename_i h0;subst h0;rfl
  ·rfl
 have E2:∀ i, ∃ y : α,i<len→R y∧∀ (j:Nat) d,(F y).cells[j]? = some d→∃ v,row[off+i * u+j]? = some v∧VRel (topR W hT) d v:=by
  intro i
  by_cases hi:i<len
  ·obtain ⟨cs,y,q1,q2,q3,q4⟩:=E i hi
   refine ⟨y,fun _=>⟨q1,fun j d hd=>?_⟩⟩
   have hj:j<u:=by have:=(List.getElem?_eq_some_iff.1 hd).1;rw [hF] at this;exact this
   obtain ⟨v,e1,e2⟩:=q4 j d hd
   have e3:=q3 j hj
   rw [hadd,hadd,e1] at e3
   simp only [World.cell?,hb] at e3
   exact ⟨v,e3,e2⟩
  ·exact ⟨y0,fun h=>absurd h hi⟩
 obtain ⟨G,hG⟩:∃ G:Nat → α, ∀ i,i<len→R (G i)∧∀ (j:Nat) d,(F (G i)).cells[j]? = some d→∃ v,row[off+i * u+j]? = some v∧VRel (topR W hT) d v :=
  ⟨fun i=>Classical.choose (E2 i),fun i hi=>Classical.choose_spec (E2 i) hi⟩
 have hU:∀ y∈((List.range len).map G).map F,y.cells.length=u:=fun y hy=>by obtain ⟨z, -,rfl⟩:=List.mem_map.1 hy;exact hF z
 have hlen:(((List.range len).map G).map F).length=len:=by simp
 have hcl:(cellsL (((List.range len).map G).map F)).length=len * u:=by rw [cellsL_length hU,hlen]
 have hget:∀ i j,i<len→j<u→(cellsL (((List.range len).map G).map F))[i * u+j]? = (F (G i)).cells[j]? := by
  intro i j hi hj
  have e1:(((List.range len).map G).map F)[i]? = some (F (G i)):=by simp [hi]
  have e2:=cellsL_elem hU e1
  rw [← e2,List.getElem?_take,if_pos hj,List.getElem?_drop]
 refine ⟨(List.range len).map G,by simp only [List.length_map,List.length_range];simp only [maxLen] at g4;omega,fun y hy=>?_,?_⟩
 ·obtain ⟨i,hi,rfl⟩:=List.mem_map.1 hy
  exact (hG i (List.mem_range.1 hi)).1
 ·refine .lst _ len u b off cap row (topR_cells hb) hlen.symm g3 g4 hU ?_ ?_ ?_
  ·rw [hcl]
   obtain ⟨k,rfl⟩:∃ k,len=k+1:=⟨len-1,by omega⟩
   obtain ⟨d,hd⟩:∃ d,(F (G k)).cells[u-1]? = some d:=⟨_,List.getElem?_eq_getElem (by rw [hF];omega)⟩
   obtain ⟨v,e1, -⟩:=(hG k (by omega)).2 _ _ hd
   have:=(Array.getElem?_eq_some_iff.1 e1).1
   rw [Nat.succ_mul]
   omega
  ·intro d hd
   obtain ⟨y,hy,hd2⟩:=mem_cellsL hd
   obtain ⟨z, -,rfl⟩:=List.mem_map.1 hy
   exact h1 z d hd2
  ·intro k d v hd hv
   have hk:k<len * u:=by have:=(List.getElem?_eq_some_iff.1 hd).1;rw [hcl] at this;exact this
   have hi:k / u<len:=Nat.div_lt_of_lt_mul (by rw [Nat.mul_comm];exact hk)
   have hj:=Nat.mod_lt k hu0
   have hkk:k / u * u+k % u=k:=by rw [Nat.mul_comm];exact Nat.div_add_mod k u
   have e1:=hget (k / u) (k % u) hi hj
   rw [hkk,hd] at e1
   obtain ⟨v2,e2,e3⟩:=(hG (k / u) hi).2 _ _ e1.symm
   rw [Nat.add_assoc,hkk,hv] at e2
   cases e2
   exact e3
end
end Go.Sym
namespace Go.Pb
variable [Go.Sym.Tab]
open Go.Sym
structure Tok where
 kind:Int
 text:List UInt8
 value:Int
 pos:Int
deriving DecidableEq
def dgB (c:UInt8):Bool:=decide (48≤c.toNat) && decide (c.toNat≤57)
def numV (s:List UInt8):Nat:=s.foldl (fun n c=>10 * n+(c.toNat-48)) 0
theorem numV_step {s:List UInt8} {k:Nat} {c:UInt8} (h:s[k]? = some c):numV (s.take (k+1))=10 * numV (s.take k)+(c.toNat-48):=by
 unfold numV
 rw [List.take_add_one,h,List.foldl_append]
 rfl
end Go.Pb
namespace Go.Sym
variable [Go.Sym.Tab]
open Go.RowKit Go.Pb Go.Deep Go.ChangeShapes
theorem topF_var {P:Program} {w:World} {n:String} {g:Nat} {cs:Array Value} (e1:P.globalNamed n=some g) (e3:w.var? P n=some cs):topF w g=some cs:=by
 unfold World.var? at e3
 rw [e1,Option.bind_some] at e3
 unfold topF
 split at e3
 ·rename_i r ty fr hh
  cases e3
  rw [hh]
 ·cases e3
theorem laid_get {P:Program} {w:World} {n:String} {d:DataW Unit}:∀ {l:List (String × DataW Unit)} {ps:List MemPlace},DataW.LaidVars P w l ps→(n,d)∈l →
  ∃ g t cs fuel p,P.globalNamed n=some g∧(P.globals[g]?).map (·.type)=some t∧w.var? P n=some cs∧DataW.trod (fun _=>()) P w 0 (fun _=>true) false fuel t cs.toList=some (d,p)
 | [],ps,_,hm=>by cases hm
 | (n',d') :: l,ps,h,hm=>by
  obtain ⟨g,t,cs,fuel,p,q,h1,h2,h3,h4,h5, -⟩:=h
  rcases List.mem_cons.1 hm with e|hm
  ·cases e;exact ⟨g,t,cs,fuel,p,h1,h2,h3,h4⟩
  ·exact laid_get h5 hm
theorem laid_tab {P:Program} {w:World} {n:String} {d:DataW Unit} {l:List (String × DataW Unit)} {g t e m:Nat} {k:IntKind} {zs:List Int} (h:laidMet P l w) (hm:(n,d)∈l) (hg:P.globalNamed n=some g)
  (ht:(P.globals[g]?).map (·.type)=some t) (hu:P.underlying t=some (.array m e)) (he:P.underlying e=some (.int k)) (hce:P.cellsOf e=1) (hct:P.cellsOf t=m) (hd:d=Lib.tabData k zs) :
  ∃ r,topF w g=some r∧r=(zs.map fun z=>Value.int k z).toArray:=by
 obtain ⟨ps,h1, -⟩:=h
 obtain ⟨g',t',cs,fuel,p,e1,e2,e3,e4⟩:=laid_get h1 hm
 rw [hg] at e1;cases e1
 rw [ht] at e2;cases e2
 rw [hd] at e4
 have hc:=Lib.cells_of_tab hu he hce hct e4
 exact ⟨cs,topF_var hg e3,Array.toList_inj.1 (hc.trans (by simp))⟩
theorem trod_iface' {P:Program} {w:World} {fuel:Nat} {t:TypeId} {ms} {cs:List Value} {nm:String} {d:DataW Unit} {p:List MemPlace} (hu:P.underlying t=some (.interface ms))
  (h:DataW.trod (fun _=>()) P w 0 (fun _=>true) false fuel t cs=some (.iface nm d,p)):∃ te pe,cs=[.iface te pe]:=by
 cases fuel with
 | zero=>simp [DataW.trod] at h
 | succ fuel =>
  simp only [DataW.trod,hu] at h
  split at h<;>first|exact ⟨_,_,rfl⟩|(simp_all;done)
theorem laid_err {P:Program} {w:World} {n:String} {nm:String} {d:DataW Unit} {l:List (String × DataW Unit)} {g t:Nat} {ms} (h:laidMet P l w) (hm:(n,DataW.iface nm d)∈l) (hg:P.globalNamed n=some g)
  (ht:(P.globals[g]?).map (·.type)=some t) (hu:P.underlying t=some (.interface ms)):∃ r,topF w g=some r∧∃ te pe,r = #[.iface te pe]:=by
 obtain ⟨ps,h1, -⟩:=h
 obtain ⟨g',t',cs,fuel,p,e1,e2,e3,e4⟩:=laid_get h1 hm
 rw [hg] at e1;cases e1
 rw [ht] at e2;cases e2
 obtain ⟨te,pe,e5⟩:=trod_iface' hu e4
 exact ⟨cs,topF_var hg e3,te,pe,Array.toList_inj.1 e5⟩
section
variable {H:Type} {enc:TypeId × Value→H} {P:Program} {W W':World} {hT:TabOk W}
theorem open_u8 {r:Reach} {b0:Nat} {t:TypeId} {v:Value} {d:DataW H} {ps:List MemPlace} (ht:P.underlying t=some (.int .u8)) (hval:Value.okWide P W r b0 t v) (hd:DataW.Trod enc P W 0 (fun _=>true) true t v d ps) :
  ∃ u:UInt8,VRel (topR W hT) (.int .u8 (u.toNat:Int)) v:=by
 obtain ⟨n,rfl, -, -,hw⟩:=open_int ht hval hd
 have:=u8_of hw
 rw [this]
 exact ⟨_,.int _ _⟩
end
end Go.Sym
namespace Go.Sym
variable [Go.Sym.Tab]
open Go.RowKit Go.Pb Go.Deep Go.ChangeShapes
def XRel (ρ : Ren) (ds:List DV) (cs:List Value):Prop:=ds.length=cs.length∧∀ (j:Nat) d v,ds[j]? = some d→cs[j]? = some v→VRel ρ d v
theorem XRel.app {ρ : Ren} {a b:List DV} {x y:List Value} (h:XRel ρ a x) (k:XRel ρ b y):XRel ρ (a++b) (x++y):=by
 refine ⟨by rw [List.length_append,List.length_append,h.1,k.1],fun j d v hd hv=>?_⟩
 by_cases hj:j<a.length
 ·rw [List.getElem?_append_left hj] at hd
  rw [List.getElem?_append_left (by rw [← h.1];exact hj)] at hv
  exact h.2 j d v hd hv
 ·rw [List.getElem?_append_right (by omega)] at hd
  rw [List.getElem?_append_right (by rw [← h.1];omega), ← h.1] at hv
  exact k.2 _ d v hd hv
theorem XRel.one {ρ : Ren} {d:DV} {v:Value} (h:VRel ρ d v):XRel ρ [d] [v]:=⟨rfl,fun j d' v' hd hv=>by
 match j with
 | 0=>cases hd;cases hv;exact h
 | _+1=>cases hd⟩
theorem XRel.agg {ρ : Ren} {ds:List DV} {cs:Array Value} (h:XRel ρ ds cs.toList):VRel ρ (.agg ds) (.agg cs) :=
 .agg _ _ (by rw [h.1];simp) (fun i x y hx hy=>h.2 i x y hx (by simpa using hy))
def Reads1 {H:Type} (enc:TypeId × Value→H) (P:Program) (W:World) (hT:TabOk W) (t:TypeId) {α : Type} (F : α → List DV) (R : α → Prop):Prop :=
 ∀ (n:Nat) (cs:List Value) (x:DataW H × List MemPlace),DataW.trod enc P W 0 (fun _=>true) true n t cs=some x→∃ a : α,R a∧XRel (topR W hT) (F a) cs
section
variable {H:Type} {enc:TypeId × Value→H} {P:Program} {W W':World} {hT:TabOk W}
theorem rd_int {t:TypeId} (ht:P.underlying t=some (.int .i64)):Reads1 enc P W hT t (fun n:Int=>[I64 n]) I6:=by
 intro n cs x h
 obtain ⟨k,rfl, -,w⟩:=DataW.trod_int ht h
 exact ⟨k,bounds_i64 w,.one (.int _ _)⟩
theorem rd_str {t:TypeId} (ht:P.underlying t=some .string):Reads1 enc P W hT t (fun s:List UInt8=>[DV.str s]) (fun s=>s.length≤9223372036854775807):=by
 intro n cs x h
 obtain ⟨s,rfl, -,w⟩:=DataW.trod_string ht h
 refine ⟨s.data.toList,?_,.one (.str _)⟩
 have e:s.data.toList.length=s.size:=Array.length_toList
 unfold maxLen at w;omega
theorem rd_bool {t:TypeId} (ht:P.underlying t=some .bool):Reads1 enc P W hT t (fun b:Bool=>[DV.bool b]) (fun _=>True):=by
 intro n cs x h
 obtain ⟨b,rfl, -⟩:=DataW.trod_bool ht h
 exact ⟨b,trivial,.one (.bool _)⟩
theorem rd_slice {α : Type} {t e:TypeId} {u:Nat} {F : α → List DV} {R : α → Prop} (G : α → DV) (hG:∀ a,(G a).cells=F a) (hu:∀ a,(F a).length=u) (h1:∀ a, ∀ d∈F a,d.one=true) (hu0:0<u) (ht:P.underlying t=some (.slice e)) (hc:P.cellsOf e=u)
  (elem:Reads1 enc P W hT e F R):Reads1 enc P W hT t (fun l:List α => [DV.lst (l.map G)]) (fun l=>l.length≤9223372036854775807∧∀ a∈l,R a):=by
 intro n cs x h
 have hv:∃ v,cs=[v]:=by
  rcases open_slice ht h with ⟨h1', -⟩|⟨a,len,cap,m,n',D,Pl,g1, -⟩
  ·exact ⟨_,h1'⟩
  ·exact ⟨_,g1⟩
 obtain ⟨v,rfl⟩:=hv
 obtain ⟨l,k1,k2,k3⟩:=trod_list (hT:=hT) G R hu0 ht hc (fun a=>by rw [hG,hu]) (fun a d hd=>h1 a d (by rw [← hG];exact hd)) (fun n cs x h=>by
  obtain ⟨a,r1,r2⟩:=elem n cs x h
  refine ⟨a,r1,fun j d hd=>?_⟩
  rw [hG] at hd
  have hj:=(List.getElem?_eq_some_iff.1 hd).1
  rw [r2.1] at hj
  exact ⟨cs[j],List.getElem?_eq_getElem hj,r2.2 j d _ hd (List.getElem?_eq_getElem hj)⟩) h
 exact ⟨l,⟨k1,k2⟩,.one k3⟩
theorem rd_parts {t:TypeId} {fs:Array Field} (ht:P.underlying t=some (.struct fs)) {n:Nat} {cs:List Value} {x:DataW H × List MemPlace} (h:DataW.trod enc P W 0 (fun _=>true) true n t cs=some x) :
  cs.length=P.cellsOf t∧∃ m, ∀ (j:Nat) f,fs[j]? = some f→∃ y,DataW.trod enc P W 0 (fun _=>true) true m f.type ((cs.drop f.offset).take (P.cellsOf f.type))=some y:=by
 obtain ⟨xs,m, -, -,hl,h3,h4⟩:=DataW.trod_struct ht h
 exact ⟨hl,m,fun j f hf=>by
  have hj:=(Array.getElem?_eq_some_iff.1 hf).1
  exact ⟨xs[j],(h4 j f hf).trans (List.getElem?_eq_getElem (by omega))⟩⟩
theorem cut2 {α : Type} {cs:List α} {a b:Nat} (h:cs.length=a+b):cs=(cs.drop 0).take a++(cs.drop a).take b:=by
 rw [List.drop_zero,List.take_of_length_le (l:=cs.drop a) (by rw [List.length_drop];omega),List.take_append_drop]
theorem cut3 {α : Type} {cs:List α} {a b c:Nat} (h:cs.length=a+b+c):cs=(cs.drop 0).take a++(cs.drop a).take b++(cs.drop (a+b)).take c:=by
 rw [List.drop_zero,List.take_of_length_le (l:=cs.drop (a+b)) (by rw [List.length_drop];omega), ← List.take_add,List.take_append_drop]
theorem cut4 {α : Type} {cs:List α} {a b c d:Nat} (h:cs.length=a+b+c+d):cs=(cs.drop 0).take a++(cs.drop a).take b++(cs.drop (a+b)).take c++(cs.drop (a+b+c)).take d:=by
 rw [List.drop_zero,List.take_of_length_le (l:=cs.drop (a+b+c)) (by rw [List.length_drop];omega), ← List.take_add, ← List.take_add,List.take_append_drop]
theorem rd_struct2 {α β : Type} {t:TypeId} {f0 f1:Field} {a b:Nat} {A : α → List DV} {B : β → List DV} {RA : α → Prop} {RB : β → Prop} (ht:P.underlying t=some (.struct #[f0,f1]))
  (ho:[f0.offset,f1.offset]=[0,a]) (hc:[P.cellsOf t,P.cellsOf f0.type,P.cellsOf f1.type]=[a+b,a,b]) (hA:Reads1 enc P W hT f0.type A RA) (hB:Reads1 enc P W hT f1.type B RB) :
  Reads1 enc P W hT t (fun z : α × β => A z.1++B z.2) (fun z=>RA z.1∧RB z.2):=by
 intro n cs x h
 obtain ⟨hl,m,hp⟩:=rd_parts ht h
 simp only [List.cons.injEq,and_true] at ho hc
 obtain ⟨o0,o1⟩:=ho
 obtain ⟨c,c0,c1⟩:=hc
 obtain ⟨y0,g0⟩:=hp 0 f0 rfl
 obtain ⟨y1,g1⟩:=hp 1 f1 rfl
 rw [o0,c0] at g0
 rw [o1,c1] at g1
 obtain ⟨p0,r0,q0⟩:=hA _ _ _ g0
 obtain ⟨p1,r1,q1⟩:=hB _ _ _ g1
 refine ⟨(p0,p1),⟨r0,r1⟩,?_⟩
 rw [cut2 (cs:=cs) (hl.trans c)]
 exact q0.app q1
theorem rd_struct3 {α β γ : Type} {t:TypeId} {f0 f1 f2:Field} {a b c:Nat} {A : α → List DV} {B : β → List DV} {C : γ → List DV} {RA : α → Prop} {RB : β → Prop} {RC : γ → Prop} (ht:P.underlying t=some (.struct #[f0,f1,f2]))
  (ho:[f0.offset,f1.offset,f2.offset]=[0,a,a+b]) (hc:[P.cellsOf t,P.cellsOf f0.type,P.cellsOf f1.type,P.cellsOf f2.type]=[a+b+c,a,b,c]) (hA:Reads1 enc P W hT f0.type A RA) (hB:Reads1 enc P W hT f1.type B RB) (hC:Reads1 enc P W hT f2.type C RC) :
  Reads1 enc P W hT t (fun z : α × β × γ => A z.1++B z.2.1++C z.2.2) (fun z=>RA z.1∧RB z.2.1∧RC z.2.2):=by
 intro n cs x h
 obtain ⟨hl,m,hp⟩:=rd_parts ht h
 simp only [List.cons.injEq,and_true] at ho hc
 obtain ⟨o0,o1,o2⟩:=ho
 obtain ⟨ct,c0,c1,c2⟩:=hc
 obtain ⟨y0,g0⟩:=hp 0 f0 rfl
 obtain ⟨y1,g1⟩:=hp 1 f1 rfl
 obtain ⟨y2,g2⟩:=hp 2 f2 rfl
 rw [o0,c0] at g0
 rw [o1,c1] at g1
 rw [o2,c2] at g2
 obtain ⟨p0,r0,q0⟩:=hA _ _ _ g0
 obtain ⟨p1,r1,q1⟩:=hB _ _ _ g1
 obtain ⟨p2,r2,q2⟩:=hC _ _ _ g2
 refine ⟨(p0,p1,p2),⟨r0,r1,r2⟩,?_⟩
 rw [cut3 (cs:=cs) (hl.trans ct)]
 exact (q0.app q1).app q2
theorem rd_struct4 {α β γ δ : Type} {t:TypeId} {f0 f1 f2 f3:Field} {a b c d:Nat} {A : α → List DV} {B : β → List DV} {C : γ → List DV} {D : δ → List DV} {RA : α → Prop} {RB : β → Prop} {RC : γ → Prop} {RD : δ → Prop} (ht:P.underlying t=some (.struct #[f0,f1,f2,f3]))
  (ho:[f0.offset,f1.offset,f2.offset,f3.offset]=[0,a,a+b,a+b+c]) (hc:[P.cellsOf t,P.cellsOf f0.type,P.cellsOf f1.type,P.cellsOf f2.type,P.cellsOf f3.type]=[a+b+c+d,a,b,c,d])
  (hA:Reads1 enc P W hT f0.type A RA) (hB:Reads1 enc P W hT f1.type B RB) (hC:Reads1 enc P W hT f2.type C RC) (hD:Reads1 enc P W hT f3.type D RD) :
  Reads1 enc P W hT t (fun z : α × β × γ × δ => A z.1++B z.2.1++C z.2.2.1++D z.2.2.2) (fun z=>RA z.1∧RB z.2.1∧RC z.2.2.1∧RD z.2.2.2):=by
 intro n cs x h
 obtain ⟨hl,m,hp⟩:=rd_parts ht h
 simp only [List.cons.injEq,and_true] at ho hc
 obtain ⟨o0,o1,o2,o3⟩:=ho
 obtain ⟨ct,c0,c1,c2,c3⟩:=hc
 obtain ⟨y0,g0⟩:=hp 0 f0 rfl
 obtain ⟨y1,g1⟩:=hp 1 f1 rfl
 obtain ⟨y2,g2⟩:=hp 2 f2 rfl
 obtain ⟨y3,g3⟩:=hp 3 f3 rfl
 rw [o0,c0] at g0
 rw [o1,c1] at g1
 rw [o2,c2] at g2
 rw [o3,c3] at g3
 obtain ⟨p0,r0,q0⟩:=hA _ _ _ g0
 obtain ⟨p1,r1,q1⟩:=hB _ _ _ g1
 obtain ⟨p2,r2,q2⟩:=hC _ _ _ g2
 obtain ⟨p3,r3,q3⟩:=hD _ _ _ g3
 refine ⟨(p0,p1,p2,p3),⟨r0,r1,r2,r3⟩,?_⟩
 rw [cut4 (cs:=cs) (hl.trans ct)]
 exact ((q0.app q1).app q2).app q3
theorem Reads1.map {α β : Type} {t:TypeId} {A : α → List DV} {B : β → List DV} {RA : α → Prop} {RB : β → Prop} (f : α → β) (h:Reads1 enc P W hT t A RA) (hf:∀ a,A a=B (f a)) (hr:∀ a,RA a→RB (f a)):Reads1 enc P W hT t B RB:=by
 intro n cs x k
 obtain ⟨a,r,q⟩:=h n cs x k
 exact ⟨f a,hr a r,by rw [← hf];exact q⟩
theorem Reads1.arg1 {α : Type} {t:TypeId} {G : α → DV} {R : α → Prop} {v:Value} {d:DataW H} {ps:List MemPlace} (h:Reads1 enc P W hT t (fun a=>[G a]) R) (hd:DataW.Trod enc P W 0 (fun _=>true) true t v d ps) (hv:v.cells = #[v]) :
  ∃ a,R a∧VRel (topR W hT) (G a) v:=by
 obtain ⟨n,hn⟩:=hd
 rw [hv] at hn
 obtain ⟨a,r,q⟩:=h _ _ _ hn
 exact ⟨a,r,q.2 0 _ _ rfl rfl⟩
theorem Reads1.argS {α : Type} {t:TypeId} {F : α → List DV} {R : α → Prop} {v:Value} {d:DataW H} {ps:List MemPlace} (h:Reads1 enc P W hT t F R) (hd:DataW.Trod enc P W 0 (fun _=>true) true t v d ps) (hv:∃ cs:Array Value,v=.agg cs) :
  ∃ a,R a∧VRel (topR W hT) (.agg (F a)) v:=by
 obtain ⟨cs,rfl⟩:=hv
 obtain ⟨n,hn⟩:=hd
 obtain ⟨a,r,q⟩:=h _ _ _ hn
 exact ⟨a,r,q.agg⟩
end
end Go.Sym
end
