/-
  HELPERS of the claim: part 4 of its texts.
-/
import Derived.ReadAgain
import Derived.ChangeBears
import Derived.Deep.Slices
import Derived.Below
import Derived.OpenShut
import Derived.Lib.LaidTab
import Derived.Lib.ItoaNum
import Derived.Lib.Space
import Derived.Test.YtibjoemdkeimfaaDoorProg
import Derived.KernelRfl
import Derived.Lib.ParseIntB
import Derived.Lib.Bytealg
import Derived.Test.YtibjoemdkeimfaaDoorTokc
noncomputable section
set_option linter.unusedVariables false
set_option linter.unusedSectionVars false
set_option linter.unusedSimpArgs false
namespace Go.Sym
variable [Go.Sym.Tab]
open Go.RowKit Go.Pb Go.Deep
section
variable {H:Type} {enc:TypeId × Value→H} {P:Program} {T:TypeId→Prop} {W W':World} {hT:TabOk W}
theorem arg_kept (K:Kids P T) (hz:∀ t e,T t→P.underlying t=some (.slice e)→0<P.cellsOf e) (hb:Below W.heap.size W W') {sp:Nat→Bool} :
  ∀ {ts:List TypeId} {vs:List Value} {ds:List (DataW H)} {ps:List MemPlace},(∀ t∈ts,T t)→DataW.TrodAll enc P W 0 (fun _=>true) true ts vs ds ps→(∀ p∈ps,sp p.block=true)→DataW.TrodAll enc P W' 0 sp true ts vs ds ps
 | [],[],[],_,_,h,_=>h
 | t :: ts,v :: vs,d :: ds,ps,hT,⟨p,q,h1,h2,e⟩,hs=>by
  have hlt:=h1
  refine ⟨p,q,?_,arg_kept K hz hb (fun t ht=>hT t (List.mem_cons.2 (Or.inr ht))) h2 (fun x hx=>hs x (by rw [e];exact List.mem_append_right _ hx)),e⟩
  have h3:=h1.respare K hz (hT _ (List.mem_cons.2 (Or.inl rfl))) (spare':=sp) (fun x hx=>hs x (by rw [e];exact List.mem_append_left _ hx))
  obtain ⟨n,hn⟩:=h3
  obtain ⟨m,hm⟩:=h1
  exact ⟨n,DataW.trod_carry n _ _ _ hn fun x hx=>hb.same (DataW.trod_lt m _ _ _ hm x hx)⟩
theorem u8_of {n:Int} (h:(Lit.int .u8 n).wf=true):n=((UInt8.ofNat n.toNat).toNat:Int):=by
 have:=bounds_u8 h
 simp
 omega
theorem open_bytes {t e:TypeId} {v:Value} {d:DataW H} {ps:List MemPlace} (ht:P.underlying t=some (.slice e)) (he:P.underlying e=some (.int .u8)) (hc:P.cellsOf e=1)
  (h:DataW.Trod enc P W 0 (fun _=>true) true t v d ps) (hv:v.cells = #[v]):∃ l:List UInt8,l.length≤9223372036854775807∧VRel (topR W hT) (.lst (bytesC l)) v:=by
 obtain ⟨n,hn⟩:=h
 rcases open_slice1 ht hc hn with ⟨h1, -⟩|⟨a,len,cap,m,n',V,D,Pl,h1,h2,h3,h4,h5,h6,h7⟩
 ·rw [hv] at h1
  have:v=.slice none 0 0:=by simpa using h1
  subst this
  exact ⟨[],by simp,.lnil0⟩
 ·rw [hv] at h1
  have hva:v=.slice (some a) len cap:=by simpa using h1
  subst hva
  simp only [if_true] at h5
  have hk:∀ i,i<len→∃ k:Int,V i=.int .u8 k∧(Lit.int .u8 k).wf=true:=by
   intro i hi
   obtain ⟨k,q1,q2,q3⟩:=DataW.trod_int he (h7 i (by omega)).2
   exact ⟨k,by simpa using q1,q3⟩
  by_cases hl0:len=0
  ·subst hl0
   exact ⟨[],by simp,.lnil a cap⟩
  have hcell:=(h7 0 (by omega)).1
  have hadd0:a.add 0=a:=by simp [Addr.add]
  rw [hadd0] at hcell
  obtain ⟨b,off,spot⟩:=a
  have hspot:spot=none:=by
   simp only [World.cell?] at hcell
   split at hcell
   ·split at hcell
    ·cases hcell
    ·rename_i h;cases spot with
     | none=>rfl
     | some s=>simp at h
   ·cases hcell
  subst hspot
  have hrow:∃ row ty fr,W.heap[b]? = some (.cells row ty fr):=by
   simp only [World.cell?] at hcell
   split at hcell
   ·rename_i row ty fr h;exact ⟨row,ty,fr,h⟩
   ·cases hcell
  obtain ⟨row,ty,fr,hb⟩:=hrow
  have hget:∀ i,i<len→row[off+i]? = some (V i):=by
   intro i hi
   have h8:=(h7 i (by omega)).1
   have e1:(⟨b,off,none⟩:Addr).add i=⟨b,off+i,none⟩:=by
    unfold Addr.add
    split
    ·rename_i h0;subst h0;rfl
    ·rfl
   rw [e1] at h8
   simp only [World.cell?,hb] at h8
   exact h8
  obtain ⟨F,hF⟩:∃ F:Nat→UInt8, ∀ i,i<len→V i=.int .u8 ((F i).toNat:Int):=by
   have:∀ i, ∃ f:UInt8,i<len→V i=.int .u8 (f.toNat:Int):=fun i=>by
    by_cases hi:i<len
    ·obtain ⟨k,q1,q2⟩:=hk i hi
     exact ⟨UInt8.ofNat k.toNat,fun _=>by rw [q1, ← u8_of q2]⟩
    ·exact ⟨0,fun h=>absurd h hi⟩
   exact ⟨fun i=>Classical.choose (this i),fun i hi=>Classical.choose_spec (this i) hi⟩
  refine ⟨(List.range len).map F,by simp only [List.length_map,List.length_range];simp only [maxLen] at h4;omega,?_⟩
  have hcl:cellsL (bytesC ((List.range len).map F))=bytesC ((List.range len).map F):=cellsL_map1 (fun _=>rfl) _
  have hlen:(bytesC ((List.range len).map F)).length=len:=by rw [bytesC_len];simp
  refine .lst _ _ 1 b off cap row (topR_cells hb) hlen.symm h3 h4 (fun x hx=>by obtain ⟨y, -,rfl⟩:=List.mem_map.1 hx;rfl) ?_ ?_ ?_
  ·rw [hcl,hlen]
   have:=(Array.getElem?_eq_some_iff.1 (hget (len-1) (by omega))).1
   omega
  ·rw [hcl];intro x hx;obtain ⟨y, -,rfl⟩:=List.mem_map.1 hx;rfl
  ·rw [hcl]
   intro k x y hx hy
   have hkl:k<len:=by have:=(List.getElem?_eq_some_iff.1 hx).1;omega
   rw [hget k hkl,hF k hkl] at hy
   cases hy
   have hx2:(bytesC ((List.range len).map F))[k]? = some (DV.int .u8 ((F k).toNat:Int)):=by simp [bytesC,hkl]
   rw [hx2] at hx
   cases hx
   exact .int _ _
end
end Go.Sym
namespace Go.Sym
variable [Go.Sym.Tab]
open Go.RowKit Go.Pb Go.Deep
section
variable {H:Type} {enc:TypeId × Value→H} {P:Program} {W W':World} {hT:TabOk W}
theorem open_str {t:TypeId} {v:Value} {d:DataW H} {ps:List MemPlace} (ht:P.underlying t=some .string)
  (h:DataW.Trod enc P W 0 (fun _=>true) true t v d ps) (hv:v.cells = #[v]):∃ l:List UInt8,l.length≤9223372036854775807∧VRel (topR W hT) (.str l) v:=by
 obtain ⟨n,hn⟩:=h
 obtain ⟨s,q1,q2,q3⟩:=DataW.trod_string ht hn
 rw [hv] at q1
 have:v=.string s:=by simpa using q1
 subst this
 refine ⟨s.data.toList,?_,.str s⟩
 have e:s.data.toList.length=s.size:=Array.length_toList
 unfold maxLen at q3
 omega
end
end Go.Sym
namespace Go.Pb
variable [Go.Sym.Tab]
open Go.Sym
theorem sadd {s t:List UInt8} (h:s.length+t.length≤9223372036854775807):binR .add (.str s) (.str t)=some (.str (s++t)):=r_sadd (by simpa [maxLen] using h)
end Go.Pb
namespace Go.Pb
variable [Go.Sym.Tab]
open Go.Sym
def digB (d:Nat):UInt8:=UInt8.ofNat (48+d)
def decB (n:Nat):List UInt8:=if n<10 then [digB n] else decB (n / 10)++[digB (n % 10)]
termination_by n
decreasing_by omega
theorem decB_lt {n:Nat} (h:n<10):decB n=[digB n]:=by rw [decB,if_pos h]
theorem decB_ge {n:Nat} (h:¬n<10):decB n=decB (n / 10)++[digB (n % 10)]:=by rw [decB,if_neg h]
theorem decB_len:∀ (k n:Nat),n<10 ^ (k+1)→(decB n).length≤k+1
 | 0,n,h=>by rw [decB_lt (by omega)];simp
 | k+1,n,h=>by
  by_cases h0:n<10
  ·rw [decB_lt h0];simp
  ·rw [decB_ge h0,List.length_append]
   have:=decB_len k (n / 10) (by rw [Nat.pow_succ] at h;omega)
   simp only [List.length_singleton];omega
def decI (n:Int):List UInt8:=if n<0 then 45 :: decB n.natAbs else decB n.natAbs
theorem decI_len {n:Int} (h1 : -9223372036854775808≤n) (h2:n≤9223372036854775807):(decI n).length≤21:=by
 have:=decB_len 19 n.natAbs (by omega)
 unfold decI;split
 ·rw [List.length_cons];omega
 ·omega
theorem dig_u8 {d:Nat} (h:d<10):IntKind.u8.wrap (IntKind.i64.wrap (48+(d:Int)))=((digB d).toNat:Int):=by
 rw [w64 (by omega) (by omega),wu8 (by omega) (by omega),digB]
 simp
 omega
def lo10 (n:Int):Nat:=n.natAbs % 10
def hi10 (n:Int):Nat:=n.natAbs / 10
theorem lo10_lt (n:Int):lo10 n<10:=by unfold lo10;omega
theorem hi10_le {n:Int} (h:n≠0):hi10 n<n.natAbs:=by unfold hi10;omega
theorem neg_div {n:Int} (h:n<0):n.tdiv 10 = -((hi10 n:Nat):Int):=by
 unfold hi10
 obtain ⟨k,rfl⟩:∃ k:Nat,n = -(k:Int):=⟨n.natAbs,by omega⟩
 rw [Int.neg_tdiv];simp [Int.tdiv]
theorem neg_mod {n:Int} (h:n<0):n.tmod 10 = -((lo10 n:Nat):Int):=by
 unfold lo10
 obtain ⟨k,rfl⟩:∃ k:Nat,n = -(k:Int):=⟨n.natAbs,by omega⟩
 rw [Int.neg_tmod];simp [Int.tmod]
theorem pos_div {n:Int} (h:0≤n):n.tdiv 10=((hi10 n:Nat):Int):=by
 unfold hi10
 obtain ⟨k,rfl⟩:∃ k:Nat,n=(k:Int):=⟨n.natAbs,by omega⟩
 simp [Int.tdiv]
theorem pos_mod {n:Int} (h:0≤n):n.tmod 10=((lo10 n:Nat):Int):=by
 unfold lo10
 obtain ⟨k,rfl⟩:∃ k:Nat,n=(k:Int):=⟨n.natAbs,by omega⟩
 simp [Int.tmod]
theorem decI_neg0 {n:Int} (h:n<0) (h1:hi10 n=0):decI n=[45]++[digB (lo10 n)]:=by
 unfold hi10 at h1
 have h2:n.natAbs<10:=by omega
 have h3:lo10 n=n.natAbs:=by unfold lo10;omega
 rw [decI,if_pos h,decB_lt h2,h3];rfl
theorem decI_neg {n:Int} (h:n<0) (h1:hi10 n≠0):decI n=decI (-(hi10 n:Int))++[digB (lo10 n)]:=by
 have h2:¬n.natAbs<10:=by unfold hi10 at h1;omega
 rw [decI,if_pos h,decB_ge h2,decI,if_pos (by omega),Int.natAbs_neg,Int.natAbs_natCast];rfl
theorem decI_lt {n:Int} (h:0≤n) (h1:n<10):decI n=[digB (lo10 n)]:=by
 have h3:lo10 n=n.natAbs:=by unfold lo10;omega
 rw [decI,if_neg (by omega),decB_lt (by omega),h3]
theorem decI_ge {n:Int} (h:¬n<10):decI n=decI (hi10 n:Int)++[digB (lo10 n)]:=by
 rw [decI,if_neg (by omega),decB_ge (by omega),decI,if_neg (by omega),Int.natAbs_natCast];rfl
abbrev I6 (n:Int):Prop := -9223372036854775808≤n∧n≤9223372036854775807
end Go.Pb
namespace Go.Sym
variable [Go.Sym.Tab]
open Go.RowKit Go.Pb Go.Deep
theorem mem_cellsL:∀ {xs:List DV} {d:DV},d∈cellsL xs→∃ y∈xs,d∈y.cells
 | [],d,h=>by cases h
 | x :: r,d,h=>by
  rcases List.mem_append.1 h with h|h
  ·exact ⟨x,List.mem_cons_self,h⟩
  ·obtain ⟨y,h1,h2⟩:=mem_cellsL h
   exact ⟨y,List.mem_cons_of_mem _ h1,h2⟩
theorem bounds_i64 {n:Int} (h:(Lit.int .i64 n).wf=true):I6 n:=by
 simp [Lit.wf,IntKind.min,IntKind.max,IntKind.signed,IntKind.bits] at h
 exact ⟨by omega,by omega⟩
section
variable {H:Type} {enc:TypeId × Value→H} {P:Program} {W W':World} {hT:TabOk W}
theorem trod_list {α : Type} {t e:TypeId} {v:Value} {n:Nat} {x:DataW H × List MemPlace} {u:Nat} (F : α → DV) (R : α → Prop) (hu0:0<u) (ht:P.underlying t=some (.slice e)) (hc:P.cellsOf e=u)
  (hF:∀ a,(F a).cells.length=u) (h1:∀ a, ∀ d∈(F a).cells,d.one=true)
  (elem:∀ (n:Nat) (cs:List Value) (x:DataW H × List MemPlace),DataW.trod enc P W 0 (fun _=>true) true n e cs=some x→∃ a : α,R a∧∀ (j:Nat) d,(F a).cells[j]? = some d→∃ v,cs[j]? = some v∧VRel (topR W hT) d v)
  (hn:DataW.trod enc P W 0 (fun _=>true) true n t [v]=some x):∃ l:List α,l.length≤9223372036854775807∧(∀ a∈l,R a)∧VRel (topR W hT) (.lst (l.map F)) v:=by
 rcases open_slice ht hn with ⟨h1', -⟩|⟨a,len,cap,m,n',D,Pl,g1,g2,g3,g4,g5,g6,g7⟩
 ·have:v=.slice none 0 0:=by simpa using h1'
  subst this
  exact ⟨[],by simp,by simp,.lnil0⟩
 have hva:v=.slice (some a) len cap:=by simpa using g1
 subst hva
 simp only [if_true] at g5
 by_cases hl0:len=0
 ·subst hl0
  exact ⟨[],by simp,by simp,.lnil a cap⟩
 rw [hc] at g7
 have E:∀ i,i<len→∃ (cs:List Value) (y : α),R y∧cs.length=u∧(∀ j,j<u→W.cell? ((a.add (i * u)).add j)=cs[j]?)∧∀ (j:Nat) d,(F y).cells[j]? = some d→∃ v,cs[j]? = some v∧VRel (topR W hT) d v:=by
  intro i hi
  obtain ⟨cs,q1,q2⟩:=g7 i (by omega)
  obtain ⟨-,q3,q4⟩:=World.cells?_some q1
  obtain ⟨y,q5,q6⟩:=elem n' cs _ q2
  exact ⟨cs,y,q5,q3,q4,q6⟩
 obtain ⟨cs0,y0, -,z1,z2, -⟩:=E 0 (by omega)
 obtain ⟨v0,hv0⟩:∃ v0,cs0[0]? = some v0:=⟨_,List.getElem?_eq_getElem (by omega)⟩
 have hcell:=z2 0 hu0
 rw [hv0,Nat.zero_mul] at hcell
 have hadd0:∀ b:Addr,b.add 0=b:=fun b=>by simp [Addr.add]
 rw [hadd0,hadd0] at hcell
 obtain ⟨b,off,spot⟩:=a
 have hspot:spot=none:=by
  simp only [World.cell?] at hcell
  split at hcell
  ·split at hcell
   ·cases hcell
   ·rename_i h;cases spot with
    | none=>rfl
    | some s=>simp at h
  ·cases hcell
 subst hspot
 have hrow:∃ row ty fr,W.heap[b]? = some (.cells row ty fr):=by
  simp only [World.cell?] at hcell
  split at hcell
  ·rename_i row ty fr h;exact ⟨row,ty,fr,h⟩
  ·cases hcell
 obtain ⟨row,ty,fr,hb⟩:=hrow
 have hadd:∀ o i,(⟨b,o,none⟩:Addr).add i=⟨b,o+i,none⟩:=by
  intro o i
  unfold Addr.add
  split
  ·rename_i h0;subst h0;rfl
  ·rfl
 have E2:∀ i, ∃ y : α,i<len→R y∧∀ (j:Nat) d,(F y).cells[j]? = some d→∃ v,row[off+i * u+j]? = some v∧VRel (topR W hT) d v:=by
  intro i
  by_cases hi:i<len
  ·obtain ⟨cs,y,q1,q2,q3,q4⟩:=E i hi
   refine ⟨y,fun _=>⟨q1,fun j d hd=>?_⟩⟩
   have hj:j<u:=by have:=(List.getElem?_eq_some_iff.1 hd).1;rw [hF] at this;exact this
   obtain ⟨v,e1,e2⟩:=q4 j d hd
   have e3:=q3 j hj
   rw [hadd,hadd,e1] at e3
   simp only [World.cell?,hb] at e3
   exact ⟨v,e3,e2⟩
  ·exact ⟨y0,fun h=>absurd h hi⟩
 obtain ⟨G,hG⟩:∃ G:Nat → α, ∀ i,i<len→R (G i)∧∀ (j:Nat) d,(F (G i)).cells[j]? = some d→∃ v,row[off+i * u+j]? = some v∧VRel (topR W hT) d v :=
  ⟨fun i=>Classical.choose (E2 i),fun i hi=>Classical.choose_spec (E2 i) hi⟩
 have hU:∀ y∈((List.range len).map G).map F,y.cells.length=u:=fun y hy=>by obtain ⟨z, -,rfl⟩:=List.mem_map.1 hy;exact hF z
 have hlen:(((List.range len).map G).map F).length=len:=by simp
 have hcl:(cellsL (((List.range len).map G).map F)).length=len * u:=by rw [cellsL_length hU,hlen]
 have hget:∀ i j,i<len→j<u→(cellsL (((List.range len).map G).map F))[i * u+j]? = (F (G i)).cells[j]? := by
  intro i j hi hj
  have e1:(((List.range len).map G).map F)[i]? = some (F (G i)):=by simp [hi]
  have e2:=cellsL_elem hU e1
  rw [← e2,List.getElem?_take,if_pos hj,List.getElem?_drop]
 refine ⟨(List.range len).map G,by simp only [List.length_map,List.length_range];simp only [maxLen] at g4;omega,fun y hy=>?_,?_⟩
 ·obtain ⟨i,hi,rfl⟩:=List.mem_map.1 hy
  exact (hG i (List.mem_range.1 hi)).1
 ·refine .lst _ len u b off cap row (topR_cells hb) hlen.symm g3 g4 hU ?_ ?_ ?_
  ·rw [hcl]
   obtain ⟨k,rfl⟩:∃ k,len=k+1:=⟨len-1,by omega⟩
   obtain ⟨d,hd⟩:∃ d,(F (G k)).cells[u-1]? = some d:=⟨_,List.getElem?_eq_getElem (by rw [hF];omega)⟩
   obtain ⟨v,e1, -⟩:=(hG k (by omega)).2 _ _ hd
   have:=(Array.getElem?_eq_some_iff.1 e1).1
   rw [Nat.succ_mul]
   omega
  ·intro d hd
   obtain ⟨y,hy,hd2⟩:=mem_cellsL hd
   obtain ⟨z, -,rfl⟩:=List.mem_map.1 hy
   exact h1 z d hd2
  ·intro k d v hd hv
   have hk:k<len * u:=by have:=(List.getElem?_eq_some_iff.1 hd).1;rw [hcl] at this;exact this
   have hi:k / u<len:=Nat.div_lt_of_lt_mul (by rw [Nat.mul_comm];exact hk)
   have hj:=Nat.mod_lt k hu0
   have hkk:k / u * u+k % u=k:=by rw [Nat.mul_comm];exact Nat.div_add_mod k u
   have e1:=hget (k / u) (k % u) hi hj
   rw [hkk,hd] at e1
   obtain ⟨v2,e2,e3⟩:=(hG (k / u) hi).2 _ _ e1.symm
   rw [Nat.add_assoc,hkk,hv] at e2
   cases e2
   exact e3
end
end Go.Sym
namespace Go.Pb
variable [Go.Sym.Tab]
open Go.Sym
structure Tok where
 kind:Int
 text:List UInt8
 value:Int
 pos:Int
deriving DecidableEq
abbrev Tok.v (t:Tok):DV:=.agg [I64 t.kind,.str t.text,I64 t.value,I64 t.pos]
abbrev toksV (l:List Tok):DV:=.lst (l.map Tok.v)
theorem tok_unit (l:List Tok):∀ x∈l.map Tok.v,x.cells.length=4:=by
 intro x hx;obtain ⟨y, -,rfl⟩:=List.mem_map.1 hx;rfl
theorem nlL_toks (l:List Tok):DV.nlL (l.map Tok.v)=true:=nlL_map (fun _=>rfl) l
def ltB (c:UInt8):Bool:=(decide (97≤c.toNat) && decide (c.toNat≤122)) || (decide (65≤c.toNat) && decide (c.toNat≤90))
def dgB (c:UInt8):Bool:=decide (48≤c.toNat) && decide (c.toNat≤57)
def ptB (c:UInt8):Bool:=ltB c || dgB c || decide (c.toNat=95)
def spnM (p:UInt8→Bool):List UInt8→Nat
 | []=>0
 | c :: r=>if p c=true then spnM p r+1 else 0
theorem spnM_le (p:UInt8→Bool):∀ s:List UInt8,spnM p s≤s.length
 | []=>Nat.le_refl _
 | c :: r=>by
  have:=spnM_le p r
  simp only [spnM,List.length_cons];split<;>omega
theorem spnM_at {p:UInt8→Bool}:∀ {s:List UInt8} {k:Nat} {c:UInt8},s[k]? = some c→k≤spnM p s→(p c=true→k+1≤spnM p s)∧(p c=false→spnM p s=k)
 | [],k,c,h,_=>by cases h
 | x :: r,0,c,h,_=>by
  cases h
  simp only [spnM]
  exact ⟨fun h=>by rw [if_pos h];omega,fun h=>by rw [if_neg (by rw [h];simp)]⟩
 | x :: r,k+1,c,h,hk=>by
  simp only [spnM] at hk ⊢
  split at hk
  ·rename_i hx
   rw [if_pos hx]
   have:=spnM_at (p:=p) (s:=r) (k:=k) (c:=c) (by simpa using h) (by omega)
   exact ⟨fun h=>by have:=this.1 h;omega,fun h=>by have:=this.2 h;omega⟩
  ·omega
theorem spnM_end {p:UInt8→Bool} {s:List UInt8} {k:Nat} (h:s.length≤k) (hk:k≤spnM p s):spnM p s=k:=by
 have:=spnM_le p s;omega
def sepB (c:UInt8):Bool:=decide (c.toNat=9) || decide (c.toNat=10) || decide (c.toNat=13) || decide (c.toNat=32)
def skM:Bool→List UInt8→Nat
 | _,[]=>0
 | true,c :: r=>if c.toNat=10 then skM false r+1 else skM true r+1
 | false,c :: r=>if sepB c=true then skM false r+1 else if c.toNat=35 then skM true r+1 else 0
theorem skM_le:∀ (b:Bool) (s:List UInt8),skM b s≤s.length
 | _,[]=>by simp [skM]
 | true,c :: r=>by
  have h1:=skM_le true r
  have h2:=skM_le false r
  simp only [skM,List.length_cons];split<;>omega
 | false,c :: r=>by
  have h1:=skM_le true r
  have h2:=skM_le false r
  simp only [skM,List.length_cons];split
  ·omega
  ·split<;>omega
theorem skM_true:∀ (s:List UInt8),skM true s=spnM (fun c=>decide (c.toNat≠10)) s+skM false (s.drop (spnM (fun c=>decide (c.toNat≠10)) s))
 | []=>by simp [skM,spnM]
 | c :: r=>by
  by_cases h:c.toNat=10
  ·simp [skM,spnM,h,sepB]
  ·have ih:=skM_true r
   simp only [skM,spnM,h,if_false,ne_eq,not_false_eq_true,decide_true,if_true,List.drop_succ_cons] at ih ⊢
   omega
def w8 (l:List Nat):List UInt8:=l.map UInt8.ofNat
def wordsL:List (List UInt8):=[w8 [115,119,105,116,99,104],w8 [99,111,105,108],w8 [108,97,109,112],w8 [115,111,117,110,100],w8 [115,104,111,119],w8 [118,97,114],w8 [116,105,109,101,114],w8 [101,118,101,110,116],w8 [109,111,100,101],w8 [111,110],w8 [115,116,97,114,116],w8 [115,116,111,112],w8 [99,108,111,115,101],w8 [111,112,101,110],w8 [105,102],w8 [101,108,115,101],w8 [114,101,112,101,97,116],w8 [115,99,111,114,101],w8 [102,105,114,101],w8 [104,111,108,100],w8 [114,101,108,101,97,115,101],w8 [108,105,103,104,116],w8 [98,108,105,110,107],w8 [98,101,103,105,110],w8 [101,110,100],w8 [112,111,115,116],w8 [112,108,97,121],w8 [114,117,110],w8 [104,97,108,116],w8 [116,101,120,116],w8 [99,111,110,115,117,109,101],w8 [99,108,111,115,101,100],w8 [97,99,116,105,118,101],w8 [108,101,102,116],w8 [112,108,97,121,101,114],w8 [98,97,108,108],w8 [116,114,117,101],w8 [102,97,108,115,101]]
def isWordM (s:List UInt8):Bool:=wordsL.contains s
def isNameM (s:List UInt8):Bool:=decide (1≤s.length) && decide (s.length≤12) && (match s with|c :: _=>ltB c | []=>false) && decide (spnM ptB s=s.length) && !isWordM s
def quM:List UInt8→Option (List UInt8 × Nat)
 | []=>none
 | c :: r =>
  if c.toNat=34 then some ([],1)
  else if c.toNat<32∨126<c.toNat then none
  else if c.toNat=92 then match r with
   | []=>none
   | d :: q=>if d.toNat=34∨d.toNat=92 then (quM q).map fun x=>(d :: x.1,x.2+2) else none
  else (quM r).map fun x=>(c :: x.1,x.2+1)
def numV (s:List UInt8):Nat:=s.foldl (fun n c=>10 * n+(c.toNat-48)) 0
theorem numV_step {s:List UInt8} {k:Nat} {c:UInt8} (h:s[k]? = some c):numV (s.take (k+1))=10 * numV (s.take k)+(c.toNat-48):=by
 unfold numV
 rw [List.take_add_one,h,List.foldl_append]
 rfl
def twoB (c d:UInt8):Bool:=[(60,61),(62,61),(61,61),(33,61),(38,38),(124,124)].contains (c.toNat,d.toNat)
def oneB (c:UInt8):Bool:=[123,125,40,41,59,44,61,43,45,42,47,37,33,60,62].contains c.toNat
def signM:List UInt8→Nat
 | c :: d :: _=>if twoB c d=true then 2 else if oneB c=true then 1 else 0
 | [c]=>if oneB c=true then 1 else 0
 | []=>0
structure Nx where
 kind:Int
 text:List UInt8
 value:Int
 n:Nat
 err:Int
def nxE (e:Int):Nx:=⟨0,[],0,0,e⟩
def nextM':List UInt8→Nx
 | []=>nxE 47
 | c :: r =>
  if ltB c=true then
   if 12<spnM ptB (c :: r) then nxE 9 else ⟨if isWordM ((c :: r).take (spnM ptB (c :: r)))=true then 2 else 1,(c :: r).take (spnM ptB (c :: r)),0,spnM ptB (c :: r),0⟩
  else if dgB c=true then
   if 1<spnM dgB (c :: r)∧c.toNat=48 then nxE 47
   else if 2147483647<numV ((c :: r).take (spnM dgB (c :: r))) then nxE 5
   else ⟨3,[],(numV ((c :: r).take (spnM dgB (c :: r))):Int),spnM dgB (c :: r),0⟩
  else if c.toNat=34 then match quM r with
   | none=>nxE 48
   | some x=>if 32<x.1.length then nxE 9 else ⟨4,x.1,0,x.2+1,0⟩
  else if signM (c :: r)=0 then nxE 47 else ⟨5,(c :: r).take (signM (c :: r)),0,signM (c :: r),0⟩
def scanT:Nat→List UInt8→Nat→List Tok→List Tok × Int × Int
 | 0,_,_,acc=>(acc,0,0)
 | f+1,src,at_,acc =>
  if src.length≤at_ then (acc,0,0)
  else if (nextM' (src.drop at_)).err≠0 then ([],(at_:Int),(nextM' (src.drop at_)).err)
  else scanT f src (at_+(nextM' (src.drop at_)).n+skM false (src.drop (at_+(nextM' (src.drop at_)).n)))
   (acc++[⟨(nextM' (src.drop at_)).kind,(nextM' (src.drop at_)).text,(nextM' (src.drop at_)).value,(at_:Int)⟩])
def scanM (s:List UInt8):List Tok × Int × Int:=if 20000<s.length then ([],0,9) else scanT (s.length+1) s (skM false s) []
abbrev scanV (q:List Tok × Int × Int):DV:=.tup [toksV q.1,I64 q.2.1,I64 q.2.2]
theorem quM_n:∀ {s t:List UInt8} {n:Nat},quM s=some (t,n)→1≤n∧n≤s.length∧t.length≤n
 | [],t,n,h=>by simp [quM] at h
 | c :: r,t,n,h=>by
  unfold quM at h
  split at h
  ·cases h;simp
  ·split at h
   ·cases h
   ·split at h
    ·cases r with
     | nil=>cases h
     | cons d q =>
      simp only at h
      split at h
      ·obtain ⟨⟨t',n'⟩,h1,h2⟩:=Option.map_eq_some_iff.1 h
       have:=quM_n h1
       cases h2
       simp only [List.length_cons]
       omega
      ·cases h
    ·obtain ⟨⟨t',n'⟩,h1,h2⟩:=Option.map_eq_some_iff.1 h
     have:=quM_n h1
     cases h2
     simp only [List.length_cons]
     omega
theorem signM_le:∀ s:List UInt8,signM s≤s.length
 | []=>by simp [signM]
 | [c]=>by simp only [signM];split<;>simp
 | c :: d :: r=>by simp only [signM,List.length_cons];split<;>(try split)<;>omega
theorem nextM_n {s:List UInt8} (h:(nextM' s).err=0):1≤(nextM' s).n∧(nextM' s).n≤s.length:=by
 cases s with
 | nil=>simp [nextM',nxE] at h
 | cons c r =>
  have hp:=spnM_le ptB (c :: r)
  have hd:=spnM_le dgB (c :: r)
  have hs:=signM_le (c :: r)
  simp only [nextM'] at h ⊢
  split
  ·rename_i hc
   rw [if_pos hc] at h
   split
   ·rename_i h1;rw [if_pos h1] at h;simp [nxE] at h
   ·have:1≤spnM ptB (c :: r):=by simp [spnM,ptB,hc]
    exact ⟨this,hp⟩
  ·rename_i hc
   rw [if_neg hc] at h
   split
   ·rename_i hc2
    rw [if_pos hc2] at h
    split
    ·rename_i h1;rw [if_pos h1] at h;simp [nxE] at h
    ·rename_i h1
     rw [if_neg h1] at h
     split
     ·rename_i h2;rw [if_pos h2] at h;simp [nxE] at h
     ·have:1≤spnM dgB (c :: r):=by simp [spnM,hc2]
      exact ⟨this,hd⟩
   ·rename_i hc2
    rw [if_neg hc2] at h
    split
    ·rename_i hc3
     rw [if_pos hc3] at h
     cases hq:quM r with
     | none=>rw [hq] at h;simp [nxE] at h
     | some x =>
      obtain ⟨t,n⟩:=x
      rw [hq] at h
      simp only at h ⊢
      have:=quM_n hq
      split
      ·rename_i h1;rw [if_pos h1] at h;simp [nxE] at h
      ·simp only [List.length_cons];omega
    ·rename_i hc3
     rw [if_neg hc3] at h
     split
     ·rename_i h1;rw [if_pos h1] at h;simp [nxE] at h
     ·simp only;omega
end Go.Pb
namespace Go.Sym
variable [Go.Sym.Tab]
open Go.RowKit Go.Pb Go.Deep Go.ChangeShapes
theorem topF_var {P:Program} {w:World} {n:String} {g:Nat} {cs:Array Value} (e1:P.globalNamed n=some g) (e3:w.var? P n=some cs):topF w g=some cs:=by
 unfold World.var? at e3
 rw [e1,Option.bind_some] at e3
 unfold topF
 split at e3
 ·rename_i r ty fr hh
  cases e3
  rw [hh]
 ·cases e3
theorem laid_get {P:Program} {w:World} {n:String} {d:DataW Unit}:∀ {l:List (String × DataW Unit)} {ps:List MemPlace},DataW.LaidVars P w l ps→(n,d)∈l →
  ∃ g t cs fuel p,P.globalNamed n=some g∧(P.globals[g]?).map (·.type)=some t∧w.var? P n=some cs∧DataW.trod (fun _=>()) P w 0 (fun _=>true) false fuel t cs.toList=some (d,p)
 | [],ps,_,hm=>by cases hm
 | (n',d') :: l,ps,h,hm=>by
  obtain ⟨g,t,cs,fuel,p,q,h1,h2,h3,h4,h5, -⟩:=h
  rcases List.mem_cons.1 hm with e|hm
  ·cases e;exact ⟨g,t,cs,fuel,p,h1,h2,h3,h4⟩
  ·exact laid_get h5 hm
theorem laid_tab {P:Program} {w:World} {n:String} {d:DataW Unit} {l:List (String × DataW Unit)} {g t e m:Nat} {k:IntKind} {zs:List Int} (h:laidMet P l w) (hm:(n,d)∈l) (hg:P.globalNamed n=some g)
  (ht:(P.globals[g]?).map (·.type)=some t) (hu:P.underlying t=some (.array m e)) (he:P.underlying e=some (.int k)) (hce:P.cellsOf e=1) (hct:P.cellsOf t=m) (hd:d=Lib.tabData k zs) :
  ∃ r,topF w g=some r∧r=(zs.map fun z=>Value.int k z).toArray:=by
 obtain ⟨ps,h1, -⟩:=h
 obtain ⟨g',t',cs,fuel,p,e1,e2,e3,e4⟩:=laid_get h1 hm
 rw [hg] at e1;cases e1
 rw [ht] at e2;cases e2
 rw [hd] at e4
 have hc:=Lib.cells_of_tab hu he hce hct e4
 exact ⟨cs,topF_var hg e3,Array.toList_inj.1 (hc.trans (by simp))⟩
theorem trod_iface' {P:Program} {w:World} {fuel:Nat} {t:TypeId} {ms} {cs:List Value} {nm:String} {d:DataW Unit} {p:List MemPlace} (hu:P.underlying t=some (.interface ms))
  (h:DataW.trod (fun _=>()) P w 0 (fun _=>true) false fuel t cs=some (.iface nm d,p)):∃ te pe,cs=[.iface te pe]:=by
 cases fuel with
 | zero=>simp [DataW.trod] at h
 | succ fuel =>
  simp only [DataW.trod,hu] at h
  split at h<;>first|exact ⟨_,_,rfl⟩|(simp_all;done)
theorem laid_err {P:Program} {w:World} {n:String} {nm:String} {d:DataW Unit} {l:List (String × DataW Unit)} {g t:Nat} {ms} (h:laidMet P l w) (hm:(n,DataW.iface nm d)∈l) (hg:P.globalNamed n=some g)
  (ht:(P.globals[g]?).map (·.type)=some t) (hu:P.underlying t=some (.interface ms)):∃ r,topF w g=some r∧∃ te pe,r = #[.iface te pe]:=by
 obtain ⟨ps,h1, -⟩:=h
 obtain ⟨g',t',cs,fuel,p,e1,e2,e3,e4⟩:=laid_get h1 hm
 rw [hg] at e1;cases e1
 rw [ht] at e2;cases e2
 obtain ⟨te,pe,e5⟩:=trod_iface' hu e4
 exact ⟨cs,topF_var hg e3,te,pe,Array.toList_inj.1 e5⟩
section
variable {H:Type} {enc:TypeId × Value→H} {P:Program} {W W':World} {hT:TabOk W}
theorem open_u8 {r:Reach} {b0:Nat} {t:TypeId} {v:Value} {d:DataW H} {ps:List MemPlace} (ht:P.underlying t=some (.int .u8)) (hval:Value.okWide P W r b0 t v) (hd:DataW.Trod enc P W 0 (fun _=>true) true t v d ps) :
  ∃ u:UInt8,VRel (topR W hT) (.int .u8 (u.toNat:Int)) v:=by
 obtain ⟨n,rfl, -, -,hw⟩:=open_int ht hval hd
 have:=u8_of hw
 rw [this]
 exact ⟨_,.int _ _⟩
theorem open_toks {t e i s:TypeId} {f0 f1 f2 f3:Field} {v:Value} {d:DataW H} {ps:List MemPlace} (ht:P.underlying t=some (.slice e)) (he:P.underlying e=some (.struct #[f0,f1,f2,f3])) (hi:P.underlying i=some (.int .i64)) (hs:P.underlying s=some .string)
  (hf:[f0.offset,f1.offset,f2.offset,f3.offset]=[0,1,2,3]) (hy:[f0.type,f1.type,f2.type,f3.type]=[i,s,i,i]) (hc:[P.cellsOf e,P.cellsOf i,P.cellsOf s]=[4,1,1])
  (h:DataW.Trod enc P W 0 (fun _=>true) true t v d ps) (hv:v.cells = #[v]):∃ l:List Tok,l.length≤9223372036854775807∧(∀ t∈l,I6 t.value)∧VRel (topR W hT) (toksV l) v:=by
 obtain ⟨n,hn⟩:=h
 rw [hv] at hn
 simp only [List.cons.injEq,and_true] at hf hy hc
 obtain ⟨a0,a1,a2,a3⟩:=hf
 obtain ⟨b0,b1,b2,b3⟩:=hy
 obtain ⟨c0,c1,c2⟩:=hc
 refine trod_list (hT:=hT) (v:=v) Tok.v (fun t=>I6 t.value) (by omega) ht c0 (fun _=>rfl) (fun a d hd=>by simp [DV.cells] at hd;rcases hd with rfl|rfl|rfl|rfl<;>rfl) (fun n cs x h=>?_) hn
 obtain ⟨xs,m, -, -,hl,h3,h4⟩:=DataW.trod_struct he h
 rw [c0] at hl
 match xs,h3 with
 | [y0,y1,y2,y3],_ =>
 have g0:=h4 0 f0 rfl
 have g1:=h4 1 f1 rfl
 have g2:=h4 2 f2 rfl
 have g3:=h4 3 f3 rfl
 match cs,hl with
 | [x0,x1,x2,x3],_ =>
 rw [a0,b0,c1] at g0
 rw [a1,b1,c2] at g1
 rw [a2,b2,c1] at g2
 rw [a3,b3,c1] at g3
 obtain ⟨k0,e0, -, -⟩:=DataW.trod_int hi (cs:=[x0]) (x:=y0) g0
 obtain ⟨s1,e1, -⟩:=DataW.trod_string hs (cs:=[x1]) (x:=y1) g1
 obtain ⟨k2,e2, -,w2⟩:=DataW.trod_int hi (cs:=[x2]) (x:=y2) g2
 obtain ⟨k3,e3, -, -⟩:=DataW.trod_int hi (cs:=[x3]) (x:=y3) g3
 simp only [List.cons.injEq,and_true] at e0 e1 e2 e3
 subst e0 e1 e2 e3
 refine ⟨⟨k0,s1.data.toList,k2,k3⟩,bounds_i64 w2,fun j d hd=>?_⟩
 match j with
 | 0=>cases hd;exact ⟨_,rfl,.int _ _⟩
 | 1=>cases hd;exact ⟨_,rfl,.str _⟩
 | 2=>cases hd;exact ⟨_,rfl,.int _ _⟩
 | 3=>cases hd;exact ⟨_,rfl,.int _ _⟩
 | _+4=>cases hd
end
end Go.Sym
namespace Go.Proofs.YtibjoemdkeimfaaDoor
instance tabI:Go.Sym.Tab:=⟨[(2,fun r=>r=(Lib.pow10Tab.map fun z=>Value.int .u64 z).toArray),(0,fun r=>r=(Lib.asciiSpaceTab.map fun z=>Value.int .u8 z).toArray),(5,fun r => ∃ te pe,r = #[.iface te pe])]⟩
end Go.Proofs.YtibjoemdkeimfaaDoor
set_option maxHeartbeats 4000000
set_option maxRecDepth 100000
namespace Go.Proofs.YtibjoemdkeimfaaDoor
open Go.Eng (IC IOper DReg IFn IsFn)
open Go.Sym
theorem mixedU:Tryd.prog.follows .mixedOrders=true:=by kernel_rfl
section
abbrev u26_2:IC:=qS [oM 3 0,oP 4 (.bin .geq (.t 3) (.k (.int .u8 97))),oM 5 4,gM 6 0 5,oG 7 (.bin .leq (.t 6) (.k (.int .u8 122))) 5,oJ 8 5 7,oM 9 8,hM 10 0 9,oR 11 (.bin .geq (.t 10) (.k (.int .u8 65))) 9,hM 12 11 9,gM 13 0 12,oG 14 (.bin .leq (.t 13) (.k (.int .u8 90))) 12,oR 15 (.pick (.t 12) (.t 14) (.k (.bool false))) 9,oO 16 9 15,oM 2 16] .ret [0]
abbrev u26_1:IC:=qS [oV 2 (.bool false)] u26_2 [0]
def u26:IFn:=⟨17,u26_1,[.tmp 2]⟩
end
theorem isU26:IsFn Tryd.prog 26 u26:=by unfold IsFn;kernel_rfl
section
abbrev u39_2:IC:=qS [oM 3 0,oP 4 (.bin .geq (.t 3) (.k (.int .u8 48))),oM 5 4,gM 6 0 5,oG 7 (.bin .leq (.t 6) (.k (.int .u8 57))) 5,oJ 8 5 7,oM 2 8] .ret [0]
abbrev u39_1:IC:=qS [oV 2 (.bool false)] u39_2 [0]
def u39:IFn:=⟨9,u39_1,[.tmp 2]⟩
end
theorem isU39:IsFn Tryd.prog 39 u39:=by unfold IsFn;kernel_rfl
section
abbrev u28_2:IC:=qS [oM 3 0,oC 4 26 [.t 3],oM 5 4,hM 6 0 5,⟨some 7,.call 39 [.t 6],some (5,false)⟩,oO 8 5 7,oM 9 8,hM 10 0 9,oR 11 (.bin .eql (.t 10) (.k (.int .u8 95))) 9,oO 12 9 11,oM 2 12] .ret [0]
abbrev u28_1:IC:=qS [oV 2 (.bool false)] u28_2 [0]
def u28:IFn:=⟨13,u28_1,[.tmp 2]⟩
end
theorem isU28:IsFn Tryd.prog 28 u28:=by unfold IsFn;kernel_rfl
section
abbrev u27_6:IC:=qK .skip (.exit 0) (.t 16) [0,1,5,16]
abbrev u27_5:IC:=qS [oM 6 5,oM 7 0,oP 8 (.lens (.t 7)),oB 9 6 8 .lss,oM 10 9,gM 11 1 10,gM 12 0 10,gM 13 5 10,oG 14 (.idx (.t 12) (.t 13)) 10,⟨some 15,.callv (.t 11) [.t 14],some (10,true)⟩,oJ 16 10 15] u27_6 [0,1,5]
abbrev u27_8:IC:=qE [oM 17 5,oK 18 17 .add 1,oM 5 18] [0,1,5]
abbrev u27_7:IC:=qJ u27_8 1 [0,1,5]
abbrev u27_4:IC:=qQ u27_5 u27_7 [0,1,5]
abbrev u27_9:IC:=qS [oM 19 5,oM 4 19] .ret [5]
abbrev u27_3:IC:=qB (.loop u27_4) u27_9 0 [0,1,5]
abbrev u27_2:IC:=qS [oI 5 0] u27_3 [0,1]
abbrev u27_1:IC:=qS [oI 4 0] u27_2 [0,1]
def u27:IFn:=⟨20,u27_1,[.tmp 4]⟩
end
theorem isU27:IsFn Tryd.prog 27 u27:=by unfold IsFn;kernel_rfl
section
abbrev u41_2:IC:=qS [oM 3 0,oP 4 (.bin .neq (.t 3) (.k (.int .u8 10))),oM 2 4] .ret [0]
abbrev u41_1:IC:=qS [oV 2 (.bool false)] u41_2 [0]
def u41:IFn:=⟨5,u41_1,[.tmp 2]⟩
end
theorem isU41:IsFn Tryd.prog 41 u41:=by unfold IsFn;kernel_rfl
section
abbrev u33_6:IC:=qK .skip (.exit 0) (.t 7) [0,3,7]
abbrev u33_5:IC:=qS [oM 4 3,oM 5 0,oP 6 (.lens (.t 5)),oB 7 4 6 .lss] u33_6 [0,3]
abbrev u33_17:IC:=qE [oP 16 (.bin .eql (.t 10) (.k (.int .u8 32))),oM 12 16] [0,3,10]
abbrev u33_16:IC:=qK .skip u33_17 (.t 12) [0,3,10,12]
abbrev u33_15:IC:=qS [oP 15 (.bin .eql (.t 10) (.k (.int .u8 13))),oM 12 15] u33_16 [0,3,10]
abbrev u33_14:IC:=qK .skip u33_15 (.t 12) [0,3,10,12]
abbrev u33_13:IC:=qS [oP 14 (.bin .eql (.t 10) (.k (.int .u8 10))),oM 12 14] u33_14 [0,3,10]
abbrev u33_12:IC:=qK .skip u33_13 (.t 12) [0,3,10,12]
abbrev u33_11:IC:=qS [oP 13 (.bin .eql (.t 10) (.k (.int .u8 9))),oM 12 13] u33_12 [0,3,10]
abbrev u33_19:IC:=qE [oM 17 3,oK 18 17 .add 1,oM 3 18] [0,3]
abbrev u33_22:IC:=qE [oM 21 3,oM 22 0,oM 23 3,oP 24 (.sls (.t 22) (some (.t 23)) none),oC 25 27 [.t 24,.f 41],oB 26 21 25 .add,oM 3 26] [0,3]
abbrev u33_23:IC:=qS [oM 11 3,oM 2 11] .ret [3]
abbrev u33_21:IC:=qK u33_22 u33_23 (.t 19) [0,3,19]
abbrev u33_20:IC:=qS [oP 20 (.bin .eql (.t 10) (.k (.int .u8 35))),oM 19 20] u33_21 [0,3,10]
abbrev u33_18:IC:=qK u33_19 u33_20 (.t 12) [0,3,10,12]
abbrev u33_10:IC:=qQ u33_11 u33_18 [0,3,10]
abbrev u33_9:IC:=qJ u33_10 2 [0,3,10]
abbrev u33_8:IC:=qS [oM 8 0,oM 9 3,oP 10 (.idx (.t 8) (.t 9))] u33_9 [0,3]
abbrev u33_7:IC:=qJ u33_8 1 [0,3]
abbrev u33_4:IC:=qQ u33_5 u33_7 [0,3]
abbrev u33_24:IC:=qS [oM 27 3,oM 2 27] .ret [3]
abbrev u33_3:IC:=qB (.loop u33_4) u33_24 0 [0,3]
abbrev u33_2:IC:=qS [oI 3 0] u33_3 [0]
abbrev u33_1:IC:=qS [oI 2 0] u33_2 [0]
def u33:IFn:=⟨28,u33_1,[.tmp 2]⟩
end
theorem isU33:IsFn Tryd.prog 33 u33:=by unfold IsFn;kernel_rfl
section
abbrev u43_8:IC:=qK .skip (.exit 0) (.t 10) [0,4,5,10]
abbrev u43_7:IC:=qS [oM 7 5,oM 8 0,oP 9 (.lens (.t 8)),oB 10 7 9 .lss] u43_8 [0,4,5]
abbrev u43_14:IC:=qS [oM 19 4,oP 20 (.cvbs (.t 19)),oM 21 5,oK 22 21 .add 1,oM 2 20,oM 3 22] .ret [4,5]
abbrev u43_17:IC:=qS [oV 2 (.string ⟨#[]⟩),oI 3 0] .ret []
abbrev u43_24:IC:=qS [oV 2 (.string ⟨#[]⟩),oI 3 0] .ret []
abbrev u43_23:IC:=qK u43_24 .skip (.t 50) [0,4,5,50]
abbrev u43_22:IC:=qS [oM 35 5,oM 36 0,oP 37 (.lens (.t 36)),oB 38 35 37 .geq,oM 39 38,hM 40 0 39,hM 41 5 39,oR 42 (.idx (.t 40) (.t 41)) 39,oR 43 (.bin .neq (.t 42) (.k (.int .u8 34))) 39,hM 44 43 39,gM 45 0 44,gM 46 5 44,oG 47 (.idx (.t 45) (.t 46)) 44,oG 48 (.bin .neq (.t 47) (.k (.int .u8 92))) 44,oR 49 (.pick (.t 44) (.t 48) (.k (.bool false))) 39,oO 50 39 49] u43_23 [0,4,5]
abbrev u43_25:IC:=qE [oM 51 0,oM 52 5,oP 53 (.idx (.t 51) (.t 52)),oM 6 53] [0,4,5]
abbrev u43_21:IC:=qQ u43_22 u43_25 [0,4,5]
abbrev u43_20:IC:=qS [oM 33 5,oK 34 33 .add 1,oM 5 34] u43_21 [0,4,5]
abbrev u43_19:IC:=qK u43_20 .skip (.t 30) [0,4,5,6,30]
abbrev u43_18:IC:=qS [oM 31 6,oP 32 (.bin .eql (.t 31) (.k (.int .u8 92))),oM 30 32] u43_19 [0,4,5,6]
abbrev u43_16:IC:=qK u43_17 u43_18 (.t 23) [0,4,5,6,23]
abbrev u43_15:IC:=qS [oM 24 6,oP 25 (.bin .lss (.t 24) (.k (.int .u8 32))),oM 26 25,hM 27 6 26,oR 28 (.bin .gtr (.t 27) (.k (.int .u8 126))) 26,oO 29 26 28,oM 23 29] u43_16 [0,4,5,6]
abbrev u43_13:IC:=qK u43_14 u43_15 (.t 16) [0,4,5,6,16]
abbrev u43_12:IC:=qS [oM 17 6,oP 18 (.bin .eql (.t 17) (.k (.int .u8 34))),oM 16 18] u43_13 [0,4,5,6]
abbrev u43_26:IC:=qE [oM 54 4,oM 55 6,⟨some 56,.new (.bsl 1 1 #[.int .u8 0] [(0,.t 55)]),none⟩,oT 57 54 56 1 1,oM 4 57] [0,4,5,6]
abbrev u43_11:IC:=qB u43_12 u43_26 2 [0,4,5,6]
abbrev u43_10:IC:=qS [oM 13 0,oM 14 5,oP 15 (.idx (.t 13) (.t 14)),oM 6 15] u43_11 [0,4,5]
abbrev u43_27:IC:=qE [oM 11 5,oK 12 11 .add 1,oM 5 12] [0,4,5]
abbrev u43_9:IC:=qB u43_10 u43_27 1 [0,4,5]
abbrev u43_6:IC:=qQ u43_7 u43_9 [0,4,5]
abbrev u43_5:IC:=qJ (.loop u43_6) 0 [0,4,5]
abbrev u43_4:IC:=qS [oI 5 1] u43_5 [0,4]
abbrev u43_28:IC:=qS [oV 2 (.string ⟨#[]⟩),oI 3 0] .ret []
abbrev u43_3:IC:=qQ u43_4 u43_28 [0,4]
abbrev u43_2:IC:=qS [oV 4 (.slice none 0 0)] u43_3 [0]
abbrev u43_1:IC:=qS [oV 2 (.string ⟨#[]⟩),oI 3 0] u43_2 [0]
def u43:IFn:=⟨58,u43_1,[.tmp 2,.tmp 3]⟩
end
theorem isU43:IsFn Tryd.prog 43 u43:=by unfold IsFn;kernel_rfl
section
abbrev u44_18:IC:=qE [oP 14 (.bin .eql (.t 7) (.k (.string ⟨#[124,124]⟩))),oM 8 14] [0,7]
abbrev u44_17:IC:=qK .skip u44_18 (.t 8) [0,7,8]
abbrev u44_16:IC:=qS [oP 13 (.bin .eql (.t 7) (.k (.string ⟨#[38,38]⟩))),oM 8 13] u44_17 [0,7]
abbrev u44_15:IC:=qK .skip u44_16 (.t 8) [0,7,8]
abbrev u44_14:IC:=qS [oP 12 (.bin .eql (.t 7) (.k (.string ⟨#[33,61]⟩))),oM 8 12] u44_15 [0,7]
abbrev u44_13:IC:=qK .skip u44_14 (.t 8) [0,7,8]
abbrev u44_12:IC:=qS [oP 11 (.bin .eql (.t 7) (.k (.string ⟨#[61,61]⟩))),oM 8 11] u44_13 [0,7]
abbrev u44_11:IC:=qK .skip u44_12 (.t 8) [0,7,8]
abbrev u44_10:IC:=qS [oP 10 (.bin .eql (.t 7) (.k (.string ⟨#[62,61]⟩))),oM 8 10] u44_11 [0,7]
abbrev u44_9:IC:=qK .skip u44_10 (.t 8) [0,7,8]
abbrev u44_8:IC:=qS [oP 9 (.bin .eql (.t 7) (.k (.string ⟨#[60,61]⟩))),oM 8 9] u44_9 [0,7]
abbrev u44_20:IC:=qS [oI 2 2] .ret []
abbrev u44_19:IC:=qK u44_20 .skip (.t 8) [0,8]
abbrev u44_7:IC:=qQ u44_8 u44_19 [0,7]
abbrev u44_6:IC:=qJ u44_7 0 [0,7]
abbrev u44_5:IC:=qS [oM 6 0,oP 7 (.sls (.t 6) none (some (.k (.int .i64 2))))] u44_6 [0]
abbrev u44_4:IC:=qK u44_5 .skip (.t 5) [0,5]
abbrev u44_3:IC:=qS [oM 3 0,oP 4 (.lens (.t 3)),oK 5 4 .gtr 1] u44_4 [0]
abbrev u44_24:IC:=qS [oI 2 1] .ret []
abbrev u44_23:IC:=qK u44_24 .skip (.t 18) [18]
abbrev u44_22:IC:=qS [oM 15 0,oP 16 (.idx (.t 15) (.k (.int .i64 0))),oC 17 56 [.k (.string ⟨#[123,125,40,41,59,44,61,43,45,42,47,37,33,60,62]⟩),.t 16],oK 18 17 .geq 0] u44_23 [0]
abbrev u44_25:IC:=qS [oI 2 0] .ret []
abbrev u44_21:IC:=qQ u44_22 u44_25 [0]
abbrev u44_2:IC:=qQ u44_3 u44_21 [0]
abbrev u44_1:IC:=qS [oI 2 0] u44_2 [0]
def u44:IFn:=⟨19,u44_1,[.tmp 2]⟩
end
theorem isU44:IsFn Tryd.prog 44 u44:=by unfold IsFn;kernel_rfl
section
abbrev u42_6:IC:=qS [oP 17 (.bld #[.int .i64 0,.string ⟨#[]⟩,.int .i64 0,.int .i64 0] [(0,1),(1,1),(2,1),(3,1)] []),oS 2 17 4,oI 3 0,oI 4 47] .ret [2]
abbrev u42_5:IC:=qK u42_6 .skip (.t 16) [0,2,5,16]
abbrev u42_4:IC:=qS [oM 10 5,oK 11 10 .gtr 1,oM 12 11,gM 13 0 12,oG 14 (.idx (.t 13) (.k (.int .i64 0))) 12,oG 15 (.bin .eql (.t 14) (.k (.int .u8 48))) 12,oJ 16 12 15] u42_5 [0,2,5]
abbrev u42_11:IC:=qS [oP 31 (.bld #[.int .i64 0,.string ⟨#[]⟩,.int .i64 0,.int .i64 0] [(0,1),(1,1),(2,1),(3,1)] []),oS 2 31 4,oI 3 0,oI 4 5] .ret [2]
abbrev u42_10:IC:=qK u42_11 .skip (.t 30) [2,5,6,30]
abbrev u42_9:IC:=qS [oM 25 7,oP 26 (.eqn true 3 (.t 25) (.k .nilIface)),oM 27 26,hM 28 6 27,hK 29 28 27 .gtr 2147483647,oO 30 27 29] u42_10 [2,5,6,7]
abbrev u42_12:IC:=qS [oM 32 6,oP 33 (.bld #[.int .i64 0,.string ⟨#[]⟩,.int .i64 0,.int .i64 0] [(0,1),(1,1),(2,1),(3,1)] [(0,.k (.int .i64 3)),(2,.t 32)]),oM 34 5,oS 2 33 4,oM 3 34,oI 4 0] .ret [2,5,6]
abbrev u42_8:IC:=qQ u42_9 u42_12 [2,5,6,7]
abbrev u42_7:IC:=qS [oM 19 0,oM 20 5,oP 21 (.sls (.t 19) none (some (.t 20))),oC 22 55 [.t 21,.k (.int .i64 10),.k (.int .i64 64)],oM 18 22,oE 23 18 0,oE 24 18 1,oM 6 23,oM 7 24] u42_8 [0,2,5]
abbrev u42_3:IC:=qQ u42_4 u42_7 [0,2,5]
abbrev u42_2:IC:=qS [oM 8 0,oC 9 27 [.t 8,.f 39],oM 5 9] u42_3 [0,2]
abbrev u42_1:IC:=qS [oW 2 (.agg #[.int .i64 0,.string ⟨#[]⟩,.int .i64 0,.int .i64 0]),oI 3 0,oI 4 0] u42_2 [0]
def u42:IFn:=⟨35,u42_1,[.cell 2 4 true,.tmp 3,.tmp 4]⟩
end
theorem isU42:IsFn Tryd.prog 42 u42:=by unfold IsFn;kernel_rfl
section
abbrev u34_11:IC:=qS [oP 21 (.bld #[.int .i64 0,.string ⟨#[]⟩,.int .i64 0,.int .i64 0] [(0,1),(1,1),(2,1),(3,1)] []),oS 4 21 4,oI 5 0,oI 6 9] .ret [4]
abbrev u34_10:IC:=qK u34_11 .skip (.t 20) [0,1,4,8,20]
abbrev u34_9:IC:=qS [oM 19 8,oK 20 19 .gtr 12] u34_10 [0,1,4,8]
abbrev u34_15:IC:=qS [oM 27 0,oM 28 8,oP 29 (.sls (.t 27) none (some (.t 28))),oP 30 (.bld #[.int .i64 0,.string ⟨#[]⟩,.int .i64 0,.int .i64 0] [(0,1),(1,1),(2,1),(3,1)] [(0,.k (.int .i64 2)),(1,.t 29)]),oM 31 8,oS 4 30 4,oM 5 31,oI 6 0] .ret [0,4,8]
abbrev u34_14:IC:=qK u34_15 .skip (.t 26) [0,4,8,26]
abbrev u34_13:IC:=qS [oM 22 1,oM 23 0,oM 24 8,oP 25 (.sls (.t 23) none (some (.t 24))),⟨some 26,.eff (.lkp .s (.bool false) false (.t 22) (.t 25)),none⟩] u34_14 [0,1,4,8]
abbrev u34_16:IC:=qS [oM 32 0,oM 33 8,oP 34 (.sls (.t 32) none (some (.t 33))),oP 35 (.bld #[.int .i64 0,.string ⟨#[]⟩,.int .i64 0,.int .i64 0] [(0,1),(1,1),(2,1),(3,1)] [(0,.k (.int .i64 1)),(1,.t 34)]),oM 36 8,oS 4 35 4,oM 5 36,oI 6 0] .ret [0,4,8]
abbrev u34_12:IC:=qQ u34_13 u34_16 [0,1,4,8]
abbrev u34_8:IC:=qQ u34_9 u34_12 [0,1,4,8]
abbrev u34_7:IC:=qS [oM 17 0,oC 18 27 [.t 17,.f 28],oM 8 18] u34_8 [0,1,4]
abbrev u34_19:IC:=qS [oM 40 0,oC 41 42 [.t 40],oE 42 41 0,oE 43 41 1,oE 44 41 2,oS 4 42 4,oM 5 43,oM 6 44] .ret [0,4]
abbrev u34_26:IC:=qS [oP 55 (.bld #[.int .i64 0,.string ⟨#[]⟩,.int .i64 0,.int .i64 0] [(0,1),(1,1),(2,1),(3,1)] []),oS 4 55 4,oI 5 0,oI 6 48] .ret [4]
abbrev u34_25:IC:=qK u34_26 .skip (.t 54) [4,9,10,54]
abbrev u34_24:IC:=qS [oM 53 10,oK 54 53 .eql 0] u34_25 [4,9,10]
abbrev u34_30:IC:=qS [oP 59 (.bld #[.int .i64 0,.string ⟨#[]⟩,.int .i64 0,.int .i64 0] [(0,1),(1,1),(2,1),(3,1)] []),oS 4 59 4,oI 5 0,oI 6 9] .ret [4]
abbrev u34_29:IC:=qK u34_30 .skip (.t 58) [4,9,10,58]
abbrev u34_28:IC:=qS [oM 56 9,oP 57 (.lens (.t 56)),oK 58 57 .gtr 32] u34_29 [4,9,10]
abbrev u34_31:IC:=qS [oM 60 9,oP 61 (.bld #[.int .i64 0,.string ⟨#[]⟩,.int .i64 0,.int .i64 0] [(0,1),(1,1),(2,1),(3,1)] [(0,.k (.int .i64 4)),(1,.t 60)]),oM 62 10,oS 4 61 4,oM 5 62,oI 6 0] .ret [4,9,10]
abbrev u34_27:IC:=qQ u34_28 u34_31 [4,9,10]
abbrev u34_23:IC:=qQ u34_24 u34_27 [4,9,10]
abbrev u34_22:IC:=qS [oM 49 0,oC 50 43 [.t 49],oM 48 50,oE 51 48 0,oE 52 48 1,oM 9 51,oM 10 52] u34_23 [0,4]
abbrev u34_21:IC:=qK u34_22 .skip (.t 45) [0,4,45]
abbrev u34_20:IC:=qS [oM 46 7,oP 47 (.bin .eql (.t 46) (.k (.int .u8 34))),oM 45 47] u34_21 [0,4,7]
abbrev u34_18:IC:=qK u34_19 u34_20 (.t 37) [0,4,7,37]
abbrev u34_17:IC:=qS [oM 38 7,oC 39 39 [.t 38],oM 37 39] u34_18 [0,4,7]
abbrev u34_6:IC:=qK u34_7 u34_17 (.t 14) [0,1,4,7,14]
abbrev u34_5:IC:=qS [oM 15 7,oC 16 26 [.t 15],oM 14 16] u34_6 [0,1,4,7]
abbrev u34_4:IC:=qJ u34_5 0 [0,1,4,7]
abbrev u34_3:IC:=qS [oM 12 0,oP 13 (.idx (.t 12) (.k (.int .i64 0))),oM 7 13] u34_4 [0,1,4]
abbrev u34_36:IC:=qS [oP 67 (.bld #[.int .i64 0,.string ⟨#[]⟩,.int .i64 0,.int .i64 0] [(0,1),(1,1),(2,1),(3,1)] []),oS 4 67 4,oI 5 0,oI 6 47] .ret [4]
abbrev u34_35:IC:=qK u34_36 .skip (.t 66) [0,4,11,66]
abbrev u34_34:IC:=qS [oM 65 11,oK 66 65 .eql 0] u34_35 [0,4,11]
abbrev u34_37:IC:=qS [oM 68 0,oM 69 11,oP 70 (.sls (.t 68) none (some (.t 69))),oP 71 (.bld #[.int .i64 0,.string ⟨#[]⟩,.int .i64 0,.int .i64 0] [(0,1),(1,1),(2,1),(3,1)] [(0,.k (.int .i64 5)),(1,.t 70)]),oM 72 11,oS 4 71 4,oM 5 72,oI 6 0] .ret [0,4,11]
abbrev u34_33:IC:=qQ u34_34 u34_37 [0,4,11]
abbrev u34_32:IC:=qS [oM 63 0,oC 64 44 [.t 63],oM 11 64] u34_33 [0,4]
abbrev u34_2:IC:=qQ u34_3 u34_32 [0,1,4]
abbrev u34_1:IC:=qS [oW 4 (.agg #[.int .i64 0,.string ⟨#[]⟩,.int .i64 0,.int .i64 0]),oI 5 0,oI 6 0] u34_2 [0,1]
def u34:IFn:=⟨73,u34_1,[.cell 4 4 true,.tmp 5,.tmp 6]⟩
end
theorem isU34:IsFn Tryd.prog 34 u34:=by unfold IsFn;kernel_rfl
section
abbrev u31_10:IC:=qE [oM 11 1,oM 12 3,⟨none,.eff (.mup .s (.t 11) (.t 12) (.k (.bool true))),none⟩] [1,3,5,6,7]
abbrev u31_9:IC:=qS [oA 9 5 7 1,oL 10 9,oM 3 10] u31_10 [1,5,6,7]
abbrev u31_11:IC:=qE [oK 13 7 .add 1,oM 7 13] [1,5,6,7]
abbrev u31_8:IC:=qB u31_9 u31_11 1 [1,5,6,7]
abbrev u31_7:IC:=qC .skip u31_8 (.exit 0) (.t 8) [1,5,6,7,8]
abbrev u31_6:IC:=qS [oB 8 7 6 .lss] u31_7 [1,5,6,7]
abbrev u31_5:IC:=qJ (.loop u31_6) 0 [1,5,6,7]
abbrev u31_4:IC:=qS [oC 5 40 [.k (.string ⟨#[115,119,105,116,99,104,32,99,111,105,108,32,108,97,109,112,32,115,111,117,110,100,32,115,104,111,119,32,118,97,114,32,116,105,109,101,114,32,101,118,101,110,116,32,109,111,100,101,32,111,110,32,115,116,97,114,116,32,115,116,111,112,32,99,108,111,115,101,32,111,112,101,110,32,105,102,32,101,108,115,101,32,114,101,112,101,97,116,32,115,99,111,114,101,32,102,105,114,101,32,104,111,108,100,32,114,101,108,101,97,115,101,32,108,105,103,104,116,32,98,108,105,110,107,32,98,101,103,105,110,32,101,110,100,32,112,111,115,116,32,112,108,97,121,32,114,117,110,32,104,97,108,116,32,116,101,120,116,32,99,111,110,115,117,109,101,32,99,108,111,115,101,100,32,97,99,116,105,118,101,32,108,101,102,116,32,112,108,97,121,101,114,32,98,97,108,108,32,116,114,117,101,32,102,97,108,115,101]⟩)],oH 6 5,oI 7 0] u31_5 [1]
abbrev u31_12:IC:=qS [oM 14 1,oM 0 14] .ret [1]
abbrev u31_3:IC:=qQ u31_4 u31_12 [1]
abbrev u31_2:IC:=qS [⟨some 4,.eff (.mkm .s),none⟩,oM 1 4] u31_3 []
abbrev u31_1:IC:=qS [oV 0 (.map none)] u31_2 []
def u31:IFn:=⟨15,u31_1,[.tmp 0]⟩
end
theorem isU31:IsFn Tryd.prog 31 u31:=by unfold IsFn;kernel_rfl
section
abbrev u15_2:IC:=qS [oC 3 31 [],oM 4 0,⟨some 5,.eff (.lkp .s (.bool false) false (.t 3) (.t 4)),none⟩,oM 2 5] .ret [0]
abbrev u15_1:IC:=qS [oV 2 (.bool false)] u15_2 [0]
def u15:IFn:=⟨6,u15_1,[.tmp 2]⟩
end
theorem isU15:IsFn Tryd.prog 15 u15:=by unfold IsFn;kernel_rfl
section
abbrev u13_2:IC:=qS [oM 3 0,oP 4 (.lens (.t 3)),oK 5 4 .geq 1,oM 6 5,gM 7 0 6,oG 8 (.lens (.t 7)) 6,gK 9 8 6 .leq 12,oJ 10 6 9,oM 11 10,gM 12 0 11,oG 13 (.idx (.t 12) (.k (.int .i64 0))) 11,⟨some 14,.call 26 [.t 13],some (11,true)⟩,oJ 15 11 14,oM 16 15,gM 17 0 16,⟨some 18,.call 27 [.t 17,.f 28],some (16,true)⟩,gM 19 0 16,oG 20 (.lens (.t 19)) 16,oG 21 (.bin .eql (.t 18) (.t 20)) 16,oJ 22 16 21,oM 23 22,gM 24 0 23,⟨some 25,.call 15 [.t 24],some (23,true)⟩,oG 26 (.un .not (.t 25)) 23,oJ 27 23 26,oM 2 27] .ret [0]
abbrev u13_1:IC:=qS [oV 2 (.bool false)] u13_2 [0]
def u13:IFn:=⟨28,u13_1,[.tmp 2]⟩
end
theorem isU13:IsFn Tryd.prog 13 u13:=by unfold IsFn;kernel_rfl
section
abbrev u22_8:IC:=qK .skip (.exit 0) (.t 9) [0,3,4,9]
abbrev u22_7:IC:=qS [oM 6 4,oM 7 0,oP 8 (.lens (.t 7)),oB 9 6 8 .lss] u22_8 [0,3,4]
abbrev u22_13:IC:=qE [oM 22 3,⟨some 23,.new (.bsl 1 1 #[.int .u8 0] [(0,.k (.int .u8 92))]),none⟩,oT 24 22 23 1 1,oM 3 24] [0,3,4]
abbrev u22_12:IC:=qK u22_13 .skip (.t 21) [0,3,4,21]
abbrev u22_11:IC:=qS [oM 12 0,oM 13 4,oP 14 (.idx (.t 12) (.t 13)),oP 15 (.bin .eql (.t 14) (.k (.int .u8 34))),oM 16 15,hM 17 0 16,hM 18 4 16,oR 19 (.idx (.t 17) (.t 18)) 16,oR 20 (.bin .eql (.t 19) (.k (.int .u8 92))) 16,oO 21 16 20] u22_12 [0,3,4]
abbrev u22_14:IC:=qE [oM 25 3,oM 26 0,oM 27 4,oP 28 (.idx (.t 26) (.t 27)),⟨some 29,.new (.bsl 1 1 #[.int .u8 0] [(0,.t 28)]),none⟩,oT 30 25 29 1 1,oM 3 30] [0,3,4]
abbrev u22_10:IC:=qQ u22_11 u22_14 [0,3,4]
abbrev u22_15:IC:=qE [oM 10 4,oK 11 10 .add 1,oM 4 11] [0,3,4]
abbrev u22_9:IC:=qB u22_10 u22_15 1 [0,3,4]
abbrev u22_6:IC:=qQ u22_7 u22_9 [0,3,4]
abbrev u22_5:IC:=qJ (.loop u22_6) 0 [0,3,4]
abbrev u22_4:IC:=qS [oI 4 0] u22_5 [0,3]
abbrev u22_16:IC:=qS [oM 31 3,⟨some 32,.new (.bsl 1 1 #[.int .u8 0] [(0,.k (.int .u8 34))]),none⟩,oT 33 31 32 1 1,oP 34 (.cvbs (.t 33)),oM 2 34] .ret [3]
abbrev u22_3:IC:=qQ u22_4 u22_16 [0,3]
abbrev u22_2:IC:=qS [⟨some 5,.new (.bsl 1 1 #[.int .u8 0] [(0,.k (.int .u8 34))]),none⟩,oM 3 5] u22_3 [0]
abbrev u22_1:IC:=qS [oV 2 (.string ⟨#[]⟩)] u22_2 [0]
def u22:IFn:=⟨35,u22_1,[.tmp 2]⟩
end
theorem isU22:IsFn Tryd.prog 22 u22:=by unfold IsFn;kernel_rfl
section
abbrev u17_5:IC:=qS [oV 2 (.slice none 0 0),oI 3 0,oI 4 9] .ret []
abbrev u17_4:IC:=qK u17_5 .skip (.t 13) [0,13]
abbrev u17_3:IC:=qS [oM 11 0,oP 12 (.lens (.t 11)),oK 13 12 .gtr 20000] u17_4 [0]
abbrev u17_13:IC:=qK .skip (.exit 0) (.t 20) [0,5,6,7,20]
abbrev u17_12:IC:=qS [oM 17 7,oM 18 0,oP 19 (.lens (.t 18)),oB 20 17 19 .lss] u17_13 [0,5,6,7]
abbrev u17_19:IC:=qS [oM 38 7,oM 39 10,oV 2 (.slice none 0 0),oM 3 38,oM 4 39] .ret [7,10]
abbrev u17_18:IC:=qK u17_19 .skip (.t 37) [0,5,6,7,8,9,10,37]
abbrev u17_17:IC:=qS [oM 36 10,oK 37 36 .neq 0] u17_18 [0,5,6,7,8,9,10]
abbrev u17_22:IC:=qE [oM 46 7,oM 47 9,oB 48 46 47 .add,oM 7 48] [0,5,6,7,9]
abbrev u17_21:IC:=qS [oM 42 6,oD 43 8 4,⟨some 44,.new (.bsl 4 1 #[.int .i64 0,.string ⟨#[]⟩,.int .i64 0,.int .i64 0] [(0,.t 43)]),none⟩,oT 45 42 44 4 40,oM 6 45] u17_22 [0,5,6,7,8,9]
abbrev u17_20:IC:=qS [oM 40 7,oF 41 8 3,oS 41 40 1] u17_21 [0,5,6,7,8,9]
abbrev u17_16:IC:=qQ u17_17 u17_20 [0,5,6,7,8,9,10]
abbrev u17_15:IC:=qS [oM 28 0,oM 29 7,oP 30 (.sls (.t 28) (some (.t 29)) none),oM 31 5,oC 32 34 [.t 30,.t 31],oM 27 32,oE 33 27 0,oE 34 27 1,oE 35 27 2,oW 8 (.agg #[.int .i64 0,.string ⟨#[]⟩,.int .i64 0,.int .i64 0]),oS 8 33 4,oM 9 34,oM 10 35] u17_16 [0,5,6,7]
abbrev u17_23:IC:=qE [oM 21 7,oM 22 0,oM 23 7,oP 24 (.sls (.t 22) (some (.t 23)) none),oC 25 33 [.t 24],oB 26 21 25 .add,oM 7 26] [0,5,6,7]
abbrev u17_14:IC:=qB u17_15 u17_23 1 [0,5,6,7]
abbrev u17_11:IC:=qQ u17_12 u17_14 [0,5,6,7]
abbrev u17_10:IC:=qJ (.loop u17_11) 0 [0,5,6,7]
abbrev u17_9:IC:=qS [oM 15 0,oC 16 33 [.t 15],oM 7 16] u17_10 [0,5,6]
abbrev u17_24:IC:=qS [oM 49 6,oM 2 49,oI 3 0,oI 4 0] .ret [6]
abbrev u17_8:IC:=qQ u17_9 u17_24 [0,5,6]
abbrev u17_7:IC:=qS [oV 6 (.slice none 0 0)] u17_8 [0,5]
abbrev u17_6:IC:=qS [oC 14 31 [],oM 5 14] u17_7 [0]
abbrev u17_2:IC:=qQ u17_3 u17_6 [0]
abbrev u17_1:IC:=qS [oV 2 (.slice none 0 0),oI 3 0,oI 4 0] u17_2 [0]
def u17:IFn:=⟨50,u17_1,[.tmp 2,.tmp 3,.tmp 4]⟩
end
theorem isU17:IsFn Tryd.prog 17 u17:=by unfold IsFn;kernel_rfl
section
abbrev u23_17:IC:=qE [oK 20 13 .eql 5,oM 17 20] [3,5,6,7,8,13]
abbrev u23_16:IC:=qK .skip u23_17 (.t 17) [3,5,6,7,8,13,17]
abbrev u23_15:IC:=qS [oK 19 13 .eql 2,oM 17 19] u23_16 [3,5,6,7,8,13]
abbrev u23_14:IC:=qK .skip u23_15 (.t 17) [3,5,6,7,8,13,17]
abbrev u23_13:IC:=qS [oK 18 13 .eql 1,oM 17 18] u23_14 [3,5,6,7,8,13]
abbrev u23_19:IC:=qE [oM 21 3,oF 22 5 1,oL 23 22,⟨some 24,.new (.bsl 1 1 #[.string ⟨#[]⟩] [(0,.t 23)]),none⟩,oT 25 21 24 1 16,oM 3 25] [3,5,6,7,8]
abbrev u23_22:IC:=qE [oM 28 3,oF 29 5 2,oL 30 29,oC 31 35 [.t 30],⟨some 32,.new (.bsl 1 1 #[.string ⟨#[]⟩] [(0,.t 31)]),none⟩,oT 33 28 32 1 16,oM 3 33] [3,5,6,7,8]
abbrev u23_25:IC:=qE [oM 36 3,oF 37 5 1,oL 38 37,oC 39 22 [.t 38],⟨some 40,.new (.bsl 1 1 #[.string ⟨#[]⟩] [(0,.t 39)]),none⟩,oT 41 36 40 1 16,oM 3 41] [3,5,6,7,8]
abbrev u23_26:IC:=qE [oM 14 3,⟨some 15,.new (.bsl 1 1 #[.string ⟨#[]⟩] [(0,.k (.string ⟨#[]⟩))]),none⟩,oT 16 14 15 1 16,oM 3 16] [3,6,7,8]
abbrev u23_24:IC:=qK u23_25 u23_26 (.t 34) [3,5,6,7,8,34]
abbrev u23_23:IC:=qS [oK 35 13 .eql 4,oM 34 35] u23_24 [3,5,6,7,8,13]
abbrev u23_21:IC:=qK u23_22 u23_23 (.t 26) [3,5,6,7,8,13,26]
abbrev u23_20:IC:=qS [oK 27 13 .eql 3,oM 26 27] u23_21 [3,5,6,7,8,13]
abbrev u23_18:IC:=qK u23_19 u23_20 (.t 17) [3,5,6,7,8,13,17]
abbrev u23_12:IC:=qQ u23_13 u23_18 [3,5,6,7,8,13]
abbrev u23_11:IC:=qJ u23_12 2 [3,5,6,7,8,13]
abbrev u23_10:IC:=qS [oF 12 5 0,oL 13 12] u23_11 [3,5,6,7,8]
abbrev u23_9:IC:=qS [oA 10 6 8 4,oD 11 10 4,oW 5 (.agg #[.int .i64 0,.string ⟨#[]⟩,.int .i64 0,.int .i64 0]),oS 5 11 4] u23_10 [3,6,7,8]
abbrev u23_27:IC:=qE [oK 42 8 .add 1,oM 8 42] [3,6,7,8]
abbrev u23_8:IC:=qB u23_9 u23_27 1 [3,6,7,8]
abbrev u23_7:IC:=qC .skip u23_8 (.exit 0) (.t 9) [3,6,7,8,9]
abbrev u23_6:IC:=qS [oB 9 8 7 .lss] u23_7 [3,6,7,8]
abbrev u23_5:IC:=qJ (.loop u23_6) 0 [3,6,7,8]
abbrev u23_4:IC:=qS [oM 6 0,oH 7 6,oI 8 0] u23_5 [0,3]
abbrev u23_28:IC:=qS [oM 43 3,oC 44 36 [.t 43,.k (.string ⟨#[32]⟩)],oM 2 44] .ret [3]
abbrev u23_3:IC:=qQ u23_4 u23_28 [0,3]
abbrev u23_2:IC:=qS [oV 3 (.slice none 0 0)] u23_3 [0]
abbrev u23_1:IC:=qS [oV 2 (.string ⟨#[]⟩)] u23_2 [0]
def u23:IFn:=⟨45,u23_1,[.tmp 2]⟩
end
theorem isU23:IsFn Tryd.prog 23 u23:=by unfold IsFn;kernel_rfl
end Go.Proofs.YtibjoemdkeimfaaDoor
namespace Go.Proofs.YtibjoemdkeimfaaDoor
open Go.Eng (IC IOper DReg IFn IsFn)
open Go.Sym
section
abbrev u29_2:IC:=qS [oM 3 0,oP 4 (.bin .geq (.t 3) (.k (.int .u8 97))),oM 5 4,gM 6 0 5,oG 7 (.bin .leq (.t 6) (.k (.int .u8 122))) 5,oJ 8 5 7,oM 9 8,hM 10 0 9,oR 11 (.bin .geq (.t 10) (.k (.int .u8 65))) 9,hM 12 11 9,gM 13 0 12,oG 14 (.bin .leq (.t 13) (.k (.int .u8 90))) 12,oR 15 (.pick (.t 12) (.t 14) (.k (.bool false))) 9,oO 16 9 15,oM 2 16] .ret [0]
abbrev u29_1:IC:=qS [oV 2 (.bool false)] u29_2 [0]
def u29:IFn:=⟨17,u29_1,[.tmp 2]⟩
end
theorem isU29:IsFn Tryd.prog 29 u29:=by unfold IsFn;kernel_rfl
section
abbrev u30_2:IC:=qS [oM 3 0,oP 4 (.bin .geq (.t 3) (.k (.int .u8 48))),oM 5 4,gM 6 0 5,oG 7 (.bin .leq (.t 6) (.k (.int .u8 57))) 5,oJ 8 5 7,oM 2 8] .ret [0]
abbrev u30_1:IC:=qS [oV 2 (.bool false)] u30_2 [0]
def u30:IFn:=⟨9,u30_1,[.tmp 2]⟩
end
theorem isU30:IsFn Tryd.prog 30 u30:=by unfold IsFn;kernel_rfl
section
abbrev u32_2:IC:=qS [⟨some 1,.new (.bsl 1 38 #[.string ⟨#[]⟩] [(0,.k (.string ⟨#[115,119,105,116,99,104]⟩)),(1,.k (.string ⟨#[99,111,105,108]⟩)),(2,.k (.string ⟨#[108,97,109,112]⟩)),(3,.k (.string ⟨#[115,111,117,110,100]⟩)),(4,.k (.string ⟨#[115,104,111,119]⟩)),(5,.k (.string ⟨#[118,97,114]⟩)),(6,.k (.string ⟨#[116,105,109,101,114]⟩)),(7,.k (.string ⟨#[101,118,101,110,116]⟩)),(8,.k (.string ⟨#[109,111,100,101]⟩)),(9,.k (.string ⟨#[111,110]⟩)),(10,.k (.string ⟨#[115,116,97,114,116]⟩)),(11,.k (.string ⟨#[115,116,111,112]⟩)),(12,.k (.string ⟨#[99,108,111,115,101]⟩)),(13,.k (.string ⟨#[111,112,101,110]⟩)),(14,.k (.string ⟨#[105,102]⟩)),(15,.k (.string ⟨#[101,108,115,101]⟩)),(16,.k (.string ⟨#[114,101,112,101,97,116]⟩)),(17,.k (.string ⟨#[115,99,111,114,101]⟩)),(18,.k (.string ⟨#[102,105,114,101]⟩)),(19,.k (.string ⟨#[104,111,108,100]⟩)),(20,.k (.string ⟨#[114,101,108,101,97,115,101]⟩)),(21,.k (.string ⟨#[108,105,103,104,116]⟩)),(22,.k (.string ⟨#[98,108,105,110,107]⟩)),(23,.k (.string ⟨#[98,101,103,105,110]⟩)),(24,.k (.string ⟨#[101,110,100]⟩)),(25,.k (.string ⟨#[112,111,115,116]⟩)),(26,.k (.string ⟨#[112,108,97,121]⟩)),(27,.k (.string ⟨#[114,117,110]⟩)),(28,.k (.string ⟨#[104,97,108,116]⟩)),(29,.k (.string ⟨#[116,101,120,116]⟩)),(30,.k (.string ⟨#[99,111,110,115,117,109,101]⟩)),(31,.k (.string ⟨#[99,108,111,115,101,100]⟩)),(32,.k (.string ⟨#[97,99,116,105,118,101]⟩)),(33,.k (.string ⟨#[108,101,102,116]⟩)),(34,.k (.string ⟨#[112,108,97,121,101,114]⟩)),(35,.k (.string ⟨#[98,97,108,108]⟩)),(36,.k (.string ⟨#[116,114,117,101]⟩)),(37,.k (.string ⟨#[102,97,108,115,101]⟩))]),none⟩,oM 0 1] .ret []
abbrev u32_1:IC:=qS [oV 0 (.slice none 0 0)] u32_2 []
def u32:IFn:=⟨2,u32_1,[.tmp 0]⟩
end
theorem isU32:IsFn Tryd.prog 32 u32:=by unfold IsFn;kernel_rfl
section
abbrev u52_2:IC:=qS [⟨some 1,.new (.bsl 1 21 #[.string ⟨#[]⟩] [(0,.k (.string ⟨#[60,61]⟩)),(1,.k (.string ⟨#[62,61]⟩)),(2,.k (.string ⟨#[61,61]⟩)),(3,.k (.string ⟨#[33,61]⟩)),(4,.k (.string ⟨#[38,38]⟩)),(5,.k (.string ⟨#[124,124]⟩)),(6,.k (.string ⟨#[123]⟩)),(7,.k (.string ⟨#[125]⟩)),(8,.k (.string ⟨#[40]⟩)),(9,.k (.string ⟨#[41]⟩)),(10,.k (.string ⟨#[59]⟩)),(11,.k (.string ⟨#[44]⟩)),(12,.k (.string ⟨#[61]⟩)),(13,.k (.string ⟨#[43]⟩)),(14,.k (.string ⟨#[45]⟩)),(15,.k (.string ⟨#[42]⟩)),(16,.k (.string ⟨#[47]⟩)),(17,.k (.string ⟨#[37]⟩)),(18,.k (.string ⟨#[33]⟩)),(19,.k (.string ⟨#[60]⟩)),(20,.k (.string ⟨#[62]⟩))]),none⟩,oM 0 1] .ret []
abbrev u52_1:IC:=qS [oV 0 (.slice none 0 0)] u52_2 []
def u52:IFn:=⟨2,u52_1,[.tmp 0]⟩
end
theorem isU52:IsFn Tryd.prog 52 u52:=by unfold IsFn;kernel_rfl
section
abbrev u16_8:IC:=qK .skip (.exit 0) (.t 9) [0,3,4,9]
abbrev u16_7:IC:=qS [oM 6 4,oM 7 3,oH 8 7,oB 9 6 8 .lss] u16_8 [0,3,4]
abbrev u16_12:IC:=qS [oV 2 (.bool true)] .ret []
abbrev u16_11:IC:=qK u16_12 .skip (.t 17) [0,3,4,17]
abbrev u16_10:IC:=qS [oM 12 3,oM 13 4,oA 14 12 13 1,oL 15 14,oM 16 0,oB 17 15 16 .eql] u16_11 [0,3,4]
abbrev u16_13:IC:=qE [oM 10 4,oK 11 10 .add 1,oM 4 11] [0,3,4]
abbrev u16_9:IC:=qB u16_10 u16_13 1 [0,3,4]
abbrev u16_6:IC:=qQ u16_7 u16_9 [0,3,4]
abbrev u16_5:IC:=qJ (.loop u16_6) 0 [0,3,4]
abbrev u16_4:IC:=qS [oI 4 0] u16_5 [0,3]
abbrev u16_14:IC:=qS [oV 2 (.bool false)] .ret []
abbrev u16_3:IC:=qQ u16_4 u16_14 [0,3]
abbrev u16_2:IC:=qS [oC 5 32 [],oM 3 5] u16_3 [0]
abbrev u16_1:IC:=qS [oV 2 (.bool false)] u16_2 [0]
def u16:IFn:=⟨18,u16_1,[.tmp 2]⟩
end
theorem isU16:IsFn Tryd.prog 16 u16:=by unfold IsFn;kernel_rfl
section
abbrev u14_5:IC:=qS [oV 2 (.bool false)] .ret []
abbrev u14_4:IC:=qK u14_5 .skip (.t 21) [0,21]
abbrev u14_3:IC:=qS [oM 4 0,oP 5 (.lens (.t 4)),oK 6 5 .lss 1,oM 7 6,hM 8 0 7,oR 9 (.lens (.t 8)) 7,hK 10 9 7 .gtr 12,oO 11 7 10,oM 12 11,hM 13 0 12,oR 14 (.idx (.t 13) (.k (.int .i64 0))) 12,⟨some 15,.call 29 [.t 14],some (12,false)⟩,oR 16 (.un .not (.t 15)) 12,oO 17 12 16,oM 18 17,hM 19 0 18,⟨some 20,.call 16 [.t 19],some (18,false)⟩,oO 21 18 20] u14_4 [0]
abbrev u14_11:IC:=qK .skip (.exit 0) (.t 25) [0,3,25]
abbrev u14_10:IC:=qS [oM 22 3,oM 23 0,oP 24 (.lens (.t 23)),oB 25 22 24 .lss] u14_11 [0,3]
abbrev u14_15:IC:=qS [oV 2 (.bool false)] .ret []
abbrev u14_14:IC:=qK u14_15 .skip (.t 45) [0,3,45]
abbrev u14_13:IC:=qS [oM 28 0,oM 29 3,oP 30 (.idx (.t 28) (.t 29)),oC 31 29 [.t 30],oY 32 31,oM 33 32,gM 34 0 33,gM 35 3 33,oG 36 (.idx (.t 34) (.t 35)) 33,⟨some 37,.call 30 [.t 36],some (33,true)⟩,oG 38 (.un .not (.t 37)) 33,oJ 39 33 38,oM 40 39,gM 41 0 40,gM 42 3 40,oG 43 (.idx (.t 41) (.t 42)) 40,oG 44 (.bin .neq (.t 43) (.k (.int .u8 95))) 40,oJ 45 40 44] u14_14 [0,3]
abbrev u14_16:IC:=qE [oM 26 3,oK 27 26 .add 1,oM 3 27] [0,3]
abbrev u14_12:IC:=qB u14_13 u14_16 1 [0,3]
abbrev u14_9:IC:=qQ u14_10 u14_12 [0,3]
abbrev u14_8:IC:=qJ (.loop u14_9) 0 [0,3]
abbrev u14_7:IC:=qS [oI 3 0] u14_8 [0]
abbrev u14_17:IC:=qS [oV 2 (.bool true)] .ret []
abbrev u14_6:IC:=qQ u14_7 u14_17 [0]
abbrev u14_2:IC:=qQ u14_3 u14_6 [0]
abbrev u14_1:IC:=qS [oV 2 (.bool false)] u14_2 [0]
def u14:IFn:=⟨46,u14_1,[.tmp 2]⟩
end
theorem isU14:IsFn Tryd.prog 14 u14:=by unfold IsFn;kernel_rfl
section
abbrev u37_5:IC:=qK .skip (.exit 0) (.t 9) [0,1,9]
abbrev u37_4:IC:=qS [oM 6 1,oM 7 0,oP 8 (.lens (.t 7)),oB 9 6 8 .lss] u37_5 [0,1]
abbrev u37_13:IC:=qK .skip (.exit 2) (.t 24) [0,1,24]
abbrev u37_12:IC:=qS [oM 15 1,oM 16 0,oP 17 (.lens (.t 16)),oB 18 15 17 .lss,oM 19 18,gM 20 0 19,gM 21 1 19,oG 22 (.idx (.t 20) (.t 21)) 19,oG 23 (.bin .neq (.t 22) (.k (.int .u8 10))) 19,oJ 24 19 23] u37_13 [0,1]
abbrev u37_15:IC:=qE [oM 25 1,oK 26 25 .add 1,oM 1 26] [0,1]
abbrev u37_14:IC:=qJ u37_15 3 [0,1]
abbrev u37_11:IC:=qQ u37_12 u37_14 [0,1]
abbrev u37_10:IC:=qJ (.loop u37_11) 2 [0,1]
abbrev u37_18:IC:=qE [oM 41 1,oK 42 41 .add 1,oM 1 42] [0,1]
abbrev u37_19:IC:=qS [oM 43 1,oM 4 43] .ret [1]
abbrev u37_17:IC:=qK u37_18 u37_19 (.t 40) [0,1,40]
abbrev u37_16:IC:=qS [oM 27 5,oP 28 (.bin .eql (.t 27) (.k (.int .u8 9))),oM 29 28,hM 30 5 29,oR 31 (.bin .eql (.t 30) (.k (.int .u8 10))) 29,oO 32 29 31,oM 33 32,hM 34 5 33,oR 35 (.bin .eql (.t 34) (.k (.int .u8 13))) 33,oO 36 33 35,oM 37 36,hM 38 5 37,oR 39 (.bin .eql (.t 38) (.k (.int .u8 32))) 37,oO 40 37 39] u37_17 [0,1,5]
abbrev u37_9:IC:=qK u37_10 u37_16 (.t 14) [0,1,5,14]
abbrev u37_8:IC:=qS [oM 13 5,oP 14 (.bin .eql (.t 13) (.k (.int .u8 35)))] u37_9 [0,1,5]
abbrev u37_7:IC:=qS [oM 10 0,oM 11 1,oP 12 (.idx (.t 10) (.t 11)),oM 5 12] u37_8 [0,1]
abbrev u37_6:IC:=qJ u37_7 1 [0,1]
abbrev u37_3:IC:=qQ u37_4 u37_6 [0,1]
abbrev u37_20:IC:=qS [oM 44 1,oM 4 44] .ret [1]
abbrev u37_2:IC:=qB (.loop u37_3) u37_20 0 [0,1]
abbrev u37_1:IC:=qS [oI 4 0] u37_2 [0,1]
def u37:IFn:=⟨45,u37_1,[.tmp 4]⟩
end
theorem isU37:IsFn Tryd.prog 37 u37:=by unfold IsFn;kernel_rfl
section
abbrev u49_6:IC:=qK .skip (.exit 0) (.t 31) [0,1,4,7,31]
abbrev u49_5:IC:=qS [oM 10 7,oM 11 0,oP 12 (.lens (.t 11)),oB 13 10 12 .lss,oM 14 13,gM 15 0 14,gM 16 7 14,oG 17 (.idx (.t 15) (.t 16)) 14,⟨some 18,.call 29 [.t 17],some (14,true)⟩,gM 19 18 14,hM 20 0 19,hM 21 7 19,oR 22 (.idx (.t 20) (.t 21)) 19,⟨some 23,.call 30 [.t 22],some (19,false)⟩,oG 24 (.pick (.t 19) (.k (.bool true)) (.t 23)) 14,gM 25 24 14,hM 26 0 25,hM 27 7 25,oR 28 (.idx (.t 26) (.t 27)) 25,oR 29 (.bin .eql (.t 28) (.k (.int .u8 95))) 25,oG 30 (.pick (.t 25) (.k (.bool true)) (.t 29)) 14,oJ 31 14 30] u49_6 [0,1,4,7]
abbrev u49_8:IC:=qE [oM 32 7,oK 33 32 .add 1,oM 7 33] [0,1,4,7]
abbrev u49_7:IC:=qJ u49_8 1 [0,1,4,7]
abbrev u49_4:IC:=qQ u49_5 u49_7 [0,1,4,7]
abbrev u49_12:IC:=qS [oP 38 (.bld #[.int .i64 0,.string ⟨#[]⟩,.int .i64 0,.int .i64 0] [(0,1),(1,1),(2,1),(3,1)] []),oM 39 1,oS 4 38 4,oM 5 39,oI 6 9] .ret [1,4]
abbrev u49_11:IC:=qK u49_12 .skip (.t 37) [0,1,4,7,37]
abbrev u49_10:IC:=qS [oM 34 7,oM 35 1,oB 36 34 35 .sub,oK 37 36 .gtr 12] u49_11 [0,1,4,7]
abbrev u49_17:IC:=qE [oF 49 8 0,⟨none,.eff (.st 1 (.t 49) (.k (.int .i64 2))),none⟩] [4,7,8]
abbrev u49_16:IC:=qK u49_17 .skip (.t 48) [4,7,8,48]
abbrev u49_15:IC:=qS [oF 46 8 1,oL 47 46,oC 48 16 [.t 47]] u49_16 [4,7,8]
abbrev u49_18:IC:=qS [oD 50 8 4,oM 51 7,oS 4 50 4,oM 5 51,oI 6 0] .ret [4,7,8]
abbrev u49_14:IC:=qQ u49_15 u49_18 [4,7,8]
abbrev u49_13:IC:=qS [oM 40 0,oM 41 1,oM 42 7,oP 43 (.sls (.t 40) (some (.t 41)) (some (.t 42))),oM 44 1,oP 45 (.bld #[.int .i64 0,.string ⟨#[]⟩,.int .i64 0,.int .i64 0] [(0,1),(1,1),(2,1),(3,1)] [(0,.k (.int .i64 1)),(1,.t 43),(3,.t 44)]),oW 8 (.agg #[.int .i64 0,.string ⟨#[]⟩,.int .i64 0,.int .i64 0]),oS 8 45 4] u49_14 [0,1,4,7]
abbrev u49_9:IC:=qQ u49_10 u49_13 [0,1,4,7]
abbrev u49_3:IC:=qB (.loop u49_4) u49_9 0 [0,1,4,7]
abbrev u49_2:IC:=qS [oM 9 1,oM 7 9] u49_3 [0,1,4]
abbrev u49_1:IC:=qS [oW 4 (.agg #[.int .i64 0,.string ⟨#[]⟩,.int .i64 0,.int .i64 0]),oI 5 0,oI 6 0] u49_2 [0,1]
def u49:IFn:=⟨52,u49_1,[.cell 4 4 true,.tmp 5,.tmp 6]⟩
end
theorem isU49:IsFn Tryd.prog 49 u49:=by unfold IsFn;kernel_rfl
section
abbrev u50_6:IC:=qK .skip (.exit 0) (.t 20) [0,1,4,7,8,9,20]
abbrev u50_5:IC:=qS [oM 11 7,oM 12 0,oP 13 (.lens (.t 12)),oB 14 11 13 .lss,oM 15 14,gM 16 0 15,gM 17 7 15,oG 18 (.idx (.t 16) (.t 17)) 15,⟨some 19,.call 30 [.t 18],some (15,true)⟩,oJ 20 15 19] u50_6 [0,1,4,7,8,9]
abbrev u50_13:IC:=qE [oI 8 0] [0,1,4,7,9]
abbrev u50_12:IC:=qK u50_13 .skip (.t 34) [0,1,4,7,8,9,34]
abbrev u50_11:IC:=qS [oM 34 9] u50_12 [0,1,4,7,8,9]
abbrev u50_14:IC:=qE [oM 35 7,oK 36 35 .add 1,oM 7 36] [0,1,4,7,8,9]
abbrev u50_10:IC:=qQ u50_11 u50_14 [0,1,4,7,8,9]
abbrev u50_9:IC:=qS [oM 29 9,oM 30 29,hM 31 8 30,hK 32 31 30 .gtr 2147483647,oO 33 30 32,oM 9 33] u50_10 [0,1,4,7,8,9]
abbrev u50_8:IC:=qS [oM 21 8,oP 22 (.bin .mul (.k (.int .i64 10)) (.t 21)),oM 23 0,oM 24 7,oP 25 (.idx (.t 23) (.t 24)),oP 26 (.bin .sub (.t 25) (.k (.int .u8 48))),oP 27 (.cvi .i64 (.t 26)),oB 28 22 27 .add,oM 8 28] u50_9 [0,1,4,7,8,9]
abbrev u50_7:IC:=qJ u50_8 1 [0,1,4,7,8,9]
abbrev u50_4:IC:=qQ u50_5 u50_7 [0,1,4,7,8,9]
abbrev u50_18:IC:=qS [oP 48 (.bld #[.int .i64 0,.string ⟨#[]⟩,.int .i64 0,.int .i64 0] [(0,1),(1,1),(2,1),(3,1)] []),oM 49 1,oS 4 48 4,oM 5 49,oI 6 47] .ret [1,4]
abbrev u50_21:IC:=qS [oP 52 (.bld #[.int .i64 0,.string ⟨#[]⟩,.int .i64 0,.int .i64 0] [(0,1),(1,1),(2,1),(3,1)] []),oM 53 1,oS 4 52 4,oM 5 53,oI 6 5] .ret [1,4]
abbrev u50_20:IC:=qK u50_21 .skip (.t 50) [1,4,7,8,50]
abbrev u50_19:IC:=qS [oM 51 9,oM 50 51] u50_20 [1,4,7,8,9]
abbrev u50_17:IC:=qK u50_18 u50_19 (.t 37) [1,4,7,8,9,37]
abbrev u50_16:IC:=qS [oM 38 0,oM 39 1,oP 40 (.idx (.t 38) (.t 39)),oP 41 (.bin .eql (.t 40) (.k (.int .u8 48))),oM 42 41,gM 43 7 42,gM 44 1 42,oG 45 (.bin .sub (.t 43) (.t 44)) 42,gK 46 45 42 .gtr 1,oJ 47 42 46,oM 37 47] u50_17 [0,1,4,7,8,9]
abbrev u50_22:IC:=qS [oM 54 8,oM 55 1,oP 56 (.bld #[.int .i64 0,.string ⟨#[]⟩,.int .i64 0,.int .i64 0] [(0,1),(1,1),(2,1),(3,1)] [(0,.k (.int .i64 3)),(2,.t 54),(3,.t 55)]),oM 57 7,oS 4 56 4,oM 5 57,oI 6 0] .ret [1,4,7,8]
abbrev u50_15:IC:=qB u50_16 u50_22 2 [0,1,4,7,8,9]
abbrev u50_3:IC:=qB (.loop u50_4) u50_15 0 [0,1,4,7,8,9]
abbrev u50_2:IC:=qS [oM 10 1,oM 7 10,oI 8 0,oV 9 (.bool false)] u50_3 [0,1,4]
abbrev u50_1:IC:=qS [oW 4 (.agg #[.int .i64 0,.string ⟨#[]⟩,.int .i64 0,.int .i64 0]),oI 5 0,oI 6 0] u50_2 [0,1]
def u50:IFn:=⟨58,u50_1,[.cell 4 4 true,.tmp 5,.tmp 6]⟩
end
theorem isU50:IsFn Tryd.prog 50 u50:=by unfold IsFn;kernel_rfl
section
abbrev u51_8:IC:=qK .skip (.exit 0) (.t 15) [0,1,4,7,8,15]
abbrev u51_7:IC:=qS [oM 12 8,oM 13 0,oP 14 (.lens (.t 13)),oB 15 12 14 .lss] u51_8 [0,1,4,7,8]
abbrev u51_17:IC:=qS [oP 27 (.bld #[.int .i64 0,.string ⟨#[]⟩,.int .i64 0,.int .i64 0] [(0,1),(1,1),(2,1),(3,1)] []),oM 28 1,oS 4 27 4,oM 5 28,oI 6 9] .ret [1,4]
abbrev u51_16:IC:=qK u51_17 .skip (.t 26) [1,4,7,8,26]
abbrev u51_15:IC:=qS [oM 24 7,oH 25 24,oK 26 25 .gtr 32] u51_16 [1,4,7,8]
abbrev u51_18:IC:=qS [oM 29 7,oP 30 (.cvbs (.t 29)),oM 31 1,oP 32 (.bld #[.int .i64 0,.string ⟨#[]⟩,.int .i64 0,.int .i64 0] [(0,1),(1,1),(2,1),(3,1)] [(0,.k (.int .i64 4)),(1,.t 30),(3,.t 31)]),oM 33 8,oK 34 33 .add 1,oS 4 32 4,oM 5 34,oI 6 0] .ret [1,4,7,8]
abbrev u51_14:IC:=qQ u51_15 u51_18 [1,4,7,8]
abbrev u51_21:IC:=qS [oP 42 (.bld #[.int .i64 0,.string ⟨#[]⟩,.int .i64 0,.int .i64 0] [(0,1),(1,1),(2,1),(3,1)] []),oM 43 1,oS 4 42 4,oM 5 43,oI 6 48] .ret [1,4]
abbrev u51_28:IC:=qS [oP 65 (.bld #[.int .i64 0,.string ⟨#[]⟩,.int .i64 0,.int .i64 0] [(0,1),(1,1),(2,1),(3,1)] []),oM 66 1,oS 4 65 4,oM 5 66,oI 6 48] .ret [1,4]
abbrev u51_27:IC:=qK u51_28 .skip (.t 64) [0,1,4,7,8,64]
abbrev u51_26:IC:=qS [oM 49 8,oM 50 0,oP 51 (.lens (.t 50)),oB 52 49 51 .geq,oM 53 52,hM 54 0 53,hM 55 8 53,oR 56 (.idx (.t 54) (.t 55)) 53,oR 57 (.bin .neq (.t 56) (.k (.int .u8 34))) 53,hM 58 57 53,gM 59 0 58,gM 60 8 58,oG 61 (.idx (.t 59) (.t 60)) 58,oG 62 (.bin .neq (.t 61) (.k (.int .u8 92))) 58,oR 63 (.pick (.t 58) (.t 62) (.k (.bool false))) 53,oO 64 53 63] u51_27 [0,1,4,7,8]
abbrev u51_29:IC:=qE [oM 67 0,oM 68 8,oP 69 (.idx (.t 67) (.t 68)),oM 9 69] [0,1,4,7,8]
abbrev u51_25:IC:=qQ u51_26 u51_29 [0,1,4,7,8]
abbrev u51_24:IC:=qS [oM 47 8,oK 48 47 .add 1,oM 8 48] u51_25 [0,1,4,7,8]
abbrev u51_23:IC:=qK u51_24 .skip (.t 44) [0,1,4,7,8,9,44]
abbrev u51_22:IC:=qS [oM 45 9,oP 46 (.bin .eql (.t 45) (.k (.int .u8 92))),oM 44 46] u51_23 [0,1,4,7,8,9]
abbrev u51_20:IC:=qK u51_21 u51_22 (.t 35) [0,1,4,7,8,9,35]
abbrev u51_19:IC:=qS [oM 36 9,oP 37 (.bin .lss (.t 36) (.k (.int .u8 32))),oM 38 37,hM 39 9 38,oR 40 (.bin .gtr (.t 39) (.k (.int .u8 126))) 38,oO 41 38 40,oM 35 41] u51_20 [0,1,4,7,8,9]
abbrev u51_13:IC:=qK u51_14 u51_19 (.t 21) [0,1,4,7,8,9,21]
abbrev u51_12:IC:=qS [oM 22 9,oP 23 (.bin .eql (.t 22) (.k (.int .u8 34))),oM 21 23] u51_13 [0,1,4,7,8,9]
abbrev u51_30:IC:=qE [oM 70 7,oM 71 9,⟨some 72,.new (.bsl 1 1 #[.int .u8 0] [(0,.t 71)]),none⟩,oT 73 70 72 1 1,oM 7 73] [0,1,4,7,8,9]
abbrev u51_11:IC:=qB u51_12 u51_30 2 [0,1,4,7,8,9]
abbrev u51_10:IC:=qS [oM 18 0,oM 19 8,oP 20 (.idx (.t 18) (.t 19)),oM 9 20] u51_11 [0,1,4,7,8]
abbrev u51_31:IC:=qE [oM 16 8,oK 17 16 .add 1,oM 8 17] [0,1,4,7,8]
abbrev u51_9:IC:=qB u51_10 u51_31 1 [0,1,4,7,8]
abbrev u51_6:IC:=qQ u51_7 u51_9 [0,1,4,7,8]
abbrev u51_5:IC:=qJ (.loop u51_6) 0 [0,1,4,7,8]
abbrev u51_4:IC:=qS [oM 10 1,oK 11 10 .add 1,oM 8 11] u51_5 [0,1,4,7]
abbrev u51_32:IC:=qS [oP 74 (.bld #[.int .i64 0,.string ⟨#[]⟩,.int .i64 0,.int .i64 0] [(0,1),(1,1),(2,1),(3,1)] []),oM 75 1,oS 4 74 4,oM 5 75,oI 6 48] .ret [1,4]
abbrev u51_3:IC:=qQ u51_4 u51_32 [0,1,4,7]
abbrev u51_2:IC:=qS [oV 7 (.slice none 0 0)] u51_3 [0,1,4]
abbrev u51_1:IC:=qS [oW 4 (.agg #[.int .i64 0,.string ⟨#[]⟩,.int .i64 0,.int .i64 0]),oI 5 0,oI 6 0] u51_2 [0,1]
def u51:IFn:=⟨76,u51_1,[.cell 4 4 true,.tmp 5,.tmp 6]⟩
end
theorem isU51:IsFn Tryd.prog 51 u51:=by unfold IsFn;kernel_rfl
section
abbrev u38_7:IC:=qS [oM 17 0,oM 18 1,oC 19 49 [.t 17,.t 18],oE 20 19 0,oE 21 19 1,oE 22 19 2,oS 4 20 4,oM 5 21,oM 6 22] .ret [0,1,4]
abbrev u38_10:IC:=qS [oM 26 0,oM 27 1,oC 28 50 [.t 26,.t 27],oE 29 28 0,oE 30 28 1,oE 31 28 2,oS 4 29 4,oM 5 30,oM 6 31] .ret [0,1,4]
abbrev u38_13:IC:=qS [oM 35 0,oM 36 1,oC 37 51 [.t 35,.t 36],oE 38 37 0,oE 39 37 1,oE 40 37 2,oS 4 38 4,oM 5 39,oM 6 40] .ret [0,1,4]
abbrev u38_12:IC:=qK u38_13 .skip (.t 32) [0,1,4,32]
abbrev u38_11:IC:=qS [oM 33 7,oP 34 (.bin .eql (.t 33) (.k (.int .u8 34))),oM 32 34] u38_12 [0,1,4,7]
abbrev u38_9:IC:=qK u38_10 u38_11 (.t 23) [0,1,4,7,23]
abbrev u38_8:IC:=qS [oM 24 7,oC 25 30 [.t 24],oM 23 25] u38_9 [0,1,4,7]
abbrev u38_6:IC:=qK u38_7 u38_8 (.t 14) [0,1,4,7,14]
abbrev u38_5:IC:=qS [oM 15 7,oC 16 29 [.t 15],oM 14 16] u38_6 [0,1,4,7]
abbrev u38_4:IC:=qJ u38_5 0 [0,1,4,7]
abbrev u38_3:IC:=qS [oM 11 0,oM 12 1,oP 13 (.idx (.t 11) (.t 12)),oM 7 13] u38_4 [0,1,4]
abbrev u38_20:IC:=qK .skip (.exit 1) (.t 45) [0,1,4,8,9,45]
abbrev u38_19:IC:=qS [oM 42 9,oM 43 8,oH 44 43,oB 45 42 44 .lss] u38_20 [0,1,4,8,9]
abbrev u38_25:IC:=qS [oM 72 8,oM 73 9,oA 74 72 73 1,oL 75 74,oM 76 1,oP 77 (.bld #[.int .i64 0,.string ⟨#[]⟩,.int .i64 0,.int .i64 0] [(0,1),(1,1),(2,1),(3,1)] [(0,.k (.int .i64 5)),(1,.t 75),(3,.t 76)]),oM 78 1,oM 79 10,oB 80 78 79 .add,oS 4 77 4,oM 5 80,oI 6 0] .ret [1,4,8,9,10]
abbrev u38_24:IC:=qK u38_25 .skip (.t 71) [0,1,4,8,9,10,71]
abbrev u38_23:IC:=qP [oM 53 0,oP 54 (.lens (.t 53)),oM 55 1,oB 56 54 55 .sub,oM 57 10,oB 58 56 57 .geq,oM 59 58,gM 60 0 59,gM 61 1 59,gM 62 1 59,gM 63 10 59,oG 64 (.bin .add (.t 62) (.t 63)) 59,oG 65 (.sls (.t 60) (some (.t 61)) (some (.t 64))) 59,gM 66 8 59,gM 67 9 59,oG 68 (.iad 1 (.t 66) (.t 67)) 59,gL 69 68 59,oG 70 (.bin .eql (.t 65) (.t 69)) 59,oJ 71 59 70] u38_24 0 19 [0,1,4,8,9,10]
abbrev u38_22:IC:=qS [oM 48 8,oM 49 9,oA 50 48 49 1,oL 51 50,oP 52 (.lens (.t 51)),oM 10 52] u38_23 [0,1,4,8,9]
abbrev u38_26:IC:=qE [oM 46 9,oK 47 46 .add 1,oM 9 47] [0,1,4,8,9]
abbrev u38_21:IC:=qB u38_22 u38_26 2 [0,1,4,8,9]
abbrev u38_18:IC:=qQ u38_19 u38_21 [0,1,4,8,9]
abbrev u38_17:IC:=qJ (.loop u38_18) 1 [0,1,4,8,9]
abbrev u38_16:IC:=qS [oI 9 0] u38_17 [0,1,4,8]
abbrev u38_27:IC:=qS [oP 81 (.bld #[.int .i64 0,.string ⟨#[]⟩,.int .i64 0,.int .i64 0] [(0,1),(1,1),(2,1),(3,1)] []),oM 82 1,oS 4 81 4,oM 5 82,oI 6 47] .ret [1,4]
abbrev u38_15:IC:=qQ u38_16 u38_27 [0,1,4,8]
abbrev u38_14:IC:=qS [oC 41 52 [],oM 8 41] u38_15 [0,1,4]
abbrev u38_2:IC:=qQ u38_3 u38_14 [0,1,4]
abbrev u38_1:IC:=qS [oW 4 (.agg #[.int .i64 0,.string ⟨#[]⟩,.int .i64 0,.int .i64 0]),oI 5 0,oI 6 0] u38_2 [0,1]
def u38:IFn:=⟨83,u38_1,[.cell 4 4 true,.tmp 5,.tmp 6]⟩
end
theorem isU38:IsFn Tryd.prog 38 u38:=by unfold IsFn;kernel_rfl
section
abbrev u25_5:IC:=qS [oV 2 (.slice none 0 0),oI 3 0,oI 4 9] .ret []
abbrev u25_4:IC:=qK u25_5 .skip (.t 12) [0,12]
abbrev u25_3:IC:=qS [oM 10 0,oP 11 (.lens (.t 10)),oK 12 11 .gtr 20000] u25_4 [0]
abbrev u25_12:IC:=qK .skip (.exit 0) (.t 18) [0,5,6,18]
abbrev u25_11:IC:=qS [oM 15 6,oM 16 0,oP 17 (.lens (.t 16)),oB 18 15 17 .lss] u25_12 [0,5,6]
abbrev u25_18:IC:=qS [oM 31 6,oM 32 9,oV 2 (.slice none 0 0),oM 3 31,oM 4 32] .ret [6,9]
abbrev u25_17:IC:=qK u25_18 .skip (.t 30) [0,5,6,7,8,9,30]
abbrev u25_16:IC:=qS [oM 29 9,oK 30 29 .neq 0] u25_17 [0,5,6,7,8,9]
abbrev u25_20:IC:=qE [oM 37 8,oM 6 37] [0,5,8]
abbrev u25_19:IC:=qS [oM 33 5,oD 34 7 4,⟨some 35,.new (.bsl 4 1 #[.int .i64 0,.string ⟨#[]⟩,.int .i64 0,.int .i64 0] [(0,.t 34)]),none⟩,oT 36 33 35 4 40,oM 5 36] u25_20 [0,5,7,8]
abbrev u25_15:IC:=qQ u25_16 u25_19 [0,5,6,7,8,9]
abbrev u25_14:IC:=qS [oM 23 0,oM 24 6,oC 25 38 [.t 23,.t 24],oM 22 25,oE 26 22 0,oE 27 22 1,oE 28 22 2,oW 7 (.agg #[.int .i64 0,.string ⟨#[]⟩,.int .i64 0,.int .i64 0]),oS 7 26 4,oM 8 27,oM 9 28] u25_15 [0,5,6]
abbrev u25_21:IC:=qE [oM 19 0,oM 20 6,oC 21 37 [.t 19,.t 20],oM 6 21] [0,5,6]
abbrev u25_13:IC:=qB u25_14 u25_21 1 [0,5,6]
abbrev u25_10:IC:=qQ u25_11 u25_13 [0,5,6]
abbrev u25_9:IC:=qJ (.loop u25_10) 0 [0,5,6]
abbrev u25_8:IC:=qS [oM 13 0,oC 14 37 [.t 13,.k (.int .i64 0)],oM 6 14] u25_9 [0,5]
abbrev u25_22:IC:=qS [oM 38 5,oM 2 38,oI 3 0,oI 4 0] .ret [5]
abbrev u25_7:IC:=qQ u25_8 u25_22 [0,5]
abbrev u25_6:IC:=qS [oV 5 (.slice none 0 0)] u25_7 [0]
abbrev u25_2:IC:=qQ u25_3 u25_6 [0]
abbrev u25_1:IC:=qS [oV 2 (.slice none 0 0),oI 3 0,oI 4 0] u25_2 [0]
def u25:IFn:=⟨39,u25_1,[.tmp 2,.tmp 3,.tmp 4]⟩
end
theorem isU25:IsFn Tryd.prog 25 u25:=by unfold IsFn;kernel_rfl
section
abbrev u21_9:IC:=qS [oM 15 4,oP 16 (.bin .add (.k (.int .i64 48)) (.t 15)),oP 17 (.cvi .u8 (.t 16)),⟨some 18,.new (.bsl 1 1 #[.int .u8 0] [(0,.t 17)]),none⟩,oP 19 (.cvbs (.t 18)),oP 20 (.bin .add (.k (.string ⟨#[45]⟩)) (.t 19)),oM 2 20] .ret [4]
abbrev u21_8:IC:=qK u21_9 .skip (.t 14) [3,4,14]
abbrev u21_7:IC:=qS [oM 13 3,oK 14 13 .eql 0] u21_8 [3,4]
abbrev u21_10:IC:=qD [oM 21 3,oC 22 21 [.t 21],oM 23 4,oP 24 (.bin .add (.k (.int .i64 48)) (.t 23)),oP 25 (.cvi .u8 (.t 24)),⟨some 26,.new (.bsl 1 1 #[.int .u8 0] [(0,.t 25)]),none⟩,oP 27 (.cvbs (.t 26)),oB 28 22 27 .add,oM 2 28] .ret [(0,none),(2,none),(3,none),(4,none),(5,none),(6,none),(1,some [2,3,4,5,6]),(7,none),(8,some [])] 9 [3,4]
abbrev u21_6:IC:=qQ u21_7 u21_10 [3,4]
abbrev u21_5:IC:=qS [oM 8 0,oK 9 8 .quo 10,oM 10 0,oK 11 10 .rem 10,oP 12 (.un .neg (.t 11)),oM 3 9,oM 4 12] u21_6 [0]
abbrev u21_4:IC:=qK u21_5 .skip (.t 7) [0,7]
abbrev u21_3:IC:=qS [oM 6 0,oK 7 6 .lss 0] u21_4 [0]
abbrev u21_15:IC:=qS [oM 37 5,oM 2 37] .ret [5]
abbrev u21_14:IC:=qK u21_15 .skip (.t 36) [0,5,36]
abbrev u21_13:IC:=qS [oM 35 0,oK 36 35 .lss 10] u21_14 [0,5]
abbrev u21_16:IC:=qS [oM 38 0,oK 39 38 .quo 10,oC 40 21 [.t 39],oM 41 5,oB 42 40 41 .add,oM 2 42] .ret [0,5]
abbrev u21_12:IC:=qQ u21_13 u21_16 [0,5]
abbrev u21_11:IC:=qS [oM 29 0,oK 30 29 .rem 10,oP 31 (.bin .add (.k (.int .i64 48)) (.t 30)),oP 32 (.cvi .u8 (.t 31)),⟨some 33,.new (.bsl 1 1 #[.int .u8 0] [(0,.t 32)]),none⟩,oP 34 (.cvbs (.t 33)),oM 5 34] u21_12 [0]
abbrev u21_2:IC:=qQ u21_3 u21_11 [0]
abbrev u21_1:IC:=qS [oV 2 (.string ⟨#[]⟩)] u21_2 [0]
def u21:IFn:=⟨43,u21_1,[.tmp 2]⟩
end
theorem isU21:IsFn Tryd.prog 21 u21:=by unfold IsFn;kernel_rfl
section
abbrev u20_8:IC:=qK .skip (.exit 0) (.t 9) [0,3,4,9]
abbrev u20_7:IC:=qS [oM 6 4,oM 7 0,oP 8 (.lens (.t 7)),oB 9 6 8 .lss] u20_8 [0,3,4]
abbrev u20_13:IC:=qE [oM 22 3,⟨some 23,.new (.bsl 1 1 #[.int .u8 0] [(0,.k (.int .u8 92))]),none⟩,oT 24 22 23 1 1,oM 3 24] [0,3,4]
abbrev u20_12:IC:=qK u20_13 .skip (.t 21) [0,3,4,21]
abbrev u20_11:IC:=qS [oM 12 0,oM 13 4,oP 14 (.idx (.t 12) (.t 13)),oP 15 (.bin .eql (.t 14) (.k (.int .u8 34))),oM 16 15,hM 17 0 16,hM 18 4 16,oR 19 (.idx (.t 17) (.t 18)) 16,oR 20 (.bin .eql (.t 19) (.k (.int .u8 92))) 16,oO 21 16 20] u20_12 [0,3,4]
abbrev u20_14:IC:=qE [oM 25 3,oM 26 0,oM 27 4,oP 28 (.idx (.t 26) (.t 27)),⟨some 29,.new (.bsl 1 1 #[.int .u8 0] [(0,.t 28)]),none⟩,oT 30 25 29 1 1,oM 3 30] [0,3,4]
abbrev u20_10:IC:=qQ u20_11 u20_14 [0,3,4]
abbrev u20_15:IC:=qE [oM 10 4,oK 11 10 .add 1,oM 4 11] [0,3,4]
abbrev u20_9:IC:=qB u20_10 u20_15 1 [0,3,4]
abbrev u20_6:IC:=qQ u20_7 u20_9 [0,3,4]
abbrev u20_5:IC:=qJ (.loop u20_6) 0 [0,3,4]
abbrev u20_4:IC:=qS [oI 4 0] u20_5 [0,3]
abbrev u20_16:IC:=qS [oM 31 3,⟨some 32,.new (.bsl 1 1 #[.int .u8 0] [(0,.k (.int .u8 34))]),none⟩,oT 33 31 32 1 1,oP 34 (.cvbs (.t 33)),oM 2 34] .ret [3]
abbrev u20_3:IC:=qQ u20_4 u20_16 [0,3]
abbrev u20_2:IC:=qS [⟨some 5,.new (.bsl 1 1 #[.int .u8 0] [(0,.k (.int .u8 34))]),none⟩,oM 3 5] u20_3 [0]
abbrev u20_1:IC:=qS [oV 2 (.string ⟨#[]⟩)] u20_2 [0]
def u20:IFn:=⟨35,u20_1,[.tmp 2]⟩
end
theorem isU20:IsFn Tryd.prog 20 u20:=by unfold IsFn;kernel_rfl
section
abbrev u18_10:IC:=qE [oK 8 4 .eql 5,oM 5 8] [1,4]
abbrev u18_9:IC:=qK .skip u18_10 (.t 5) [1,4,5]
abbrev u18_8:IC:=qS [oK 7 4 .eql 2,oM 5 7] u18_9 [1,4]
abbrev u18_7:IC:=qK .skip u18_8 (.t 5) [1,4,5]
abbrev u18_6:IC:=qS [oK 6 4 .eql 1,oM 5 6] u18_7 [1,4]
abbrev u18_12:IC:=qS [oF 9 1 1,oL 10 9,oM 2 10] .ret [1]
abbrev u18_15:IC:=qS [oF 13 1 2,oL 14 13,oC 15 21 [.t 14],oM 2 15] .ret [1]
abbrev u18_18:IC:=qS [oF 18 1 1,oL 19 18,oC 20 20 [.t 19],oM 2 20] .ret [1]
abbrev u18_17:IC:=qK u18_18 .skip (.t 16) [1,16]
abbrev u18_16:IC:=qS [oK 17 4 .eql 4,oM 16 17] u18_17 [1,4]
abbrev u18_14:IC:=qK u18_15 u18_16 (.t 11) [1,4,11]
abbrev u18_13:IC:=qS [oK 12 4 .eql 3,oM 11 12] u18_14 [1,4]
abbrev u18_11:IC:=qK u18_12 u18_13 (.t 5) [1,4,5]
abbrev u18_5:IC:=qQ u18_6 u18_11 [1,4]
abbrev u18_4:IC:=qJ u18_5 0 [1,4]
abbrev u18_3:IC:=qS [oF 3 1 0,oL 4 3] u18_4 [1]
abbrev u18_19:IC:=qS [oV 2 (.string ⟨#[]⟩)] .ret []
abbrev u18_2:IC:=qQ u18_3 u18_19 [1]
abbrev u18_1:IC:=qS [oX 1 0,oV 2 (.string ⟨#[]⟩)] u18_2 [0]
def u18:IFn:=⟨21,u18_1,[.tmp 2]⟩
end
theorem isU18:IsFn Tryd.prog 18 u18:=by unfold IsFn;kernel_rfl
section
abbrev u24_8:IC:=qK .skip (.exit 0) (.t 8) [0,3,4,8]
abbrev u24_7:IC:=qS [oM 5 4,oM 6 0,oH 7 6,oB 8 5 7 .lss] u24_8 [0,3,4]
abbrev u24_13:IC:=qE [oM 13 3,oP 14 (.bin .add (.t 13) (.k (.string ⟨#[32]⟩))),oM 3 14] [0,3,4]
abbrev u24_12:IC:=qK u24_13 .skip (.t 12) [0,3,4,12]
abbrev u24_11:IC:=qS [oM 11 4,oK 12 11 .gtr 0] u24_12 [0,3,4]
abbrev u24_14:IC:=qE [oM 15 3,oM 16 0,oM 17 4,oA 18 16 17 4,oD 19 18 4,oC 20 18 [.t 19],oB 21 15 20 .add,oM 3 21] [0,3,4]
abbrev u24_10:IC:=qQ u24_11 u24_14 [0,3,4]
abbrev u24_15:IC:=qE [oM 9 4,oK 10 9 .add 1,oM 4 10] [0,3,4]
abbrev u24_9:IC:=qB u24_10 u24_15 1 [0,3,4]
abbrev u24_6:IC:=qQ u24_7 u24_9 [0,3,4]
abbrev u24_5:IC:=qJ (.loop u24_6) 0 [0,3,4]
abbrev u24_4:IC:=qS [oI 4 0] u24_5 [0,3]
abbrev u24_16:IC:=qS [oM 22 3,oM 2 22] .ret [3]
abbrev u24_3:IC:=qQ u24_4 u24_16 [0,3]
abbrev u24_2:IC:=qS [oV 3 (.string ⟨#[]⟩)] u24_3 [0]
abbrev u24_1:IC:=qS [oV 2 (.string ⟨#[]⟩)] u24_2 [0]
def u24:IFn:=⟨23,u24_1,[.tmp 2]⟩
end
theorem isU24:IsFn Tryd.prog 24 u24:=by unfold IsFn;kernel_rfl
section
abbrev u19_5:IC:=qS [oV 6 (.bool false)] .ret []
abbrev u19_4:IC:=qK u19_5 .skip (.t 14) [0,1,2,14]
abbrev u19_3:IC:=qS [oM 10 0,oH 11 10,oM 12 1,oH 13 12,oB 14 11 13 .neq] u19_4 [0,1,2]
abbrev u19_11:IC:=qK .skip (.exit 0) (.t 18) [0,1,2,7,18]
abbrev u19_10:IC:=qS [oM 15 7,oM 16 0,oH 17 16,oB 18 15 17 .lss] u19_11 [0,1,2,7]
abbrev u19_17:IC:=qE [oF 30 8 3,⟨none,.eff (.st 1 (.t 30) (.k (.int .i64 0))),none⟩,oF 31 9 3,⟨none,.eff (.st 1 (.t 31) (.k (.int .i64 0))),none⟩] [0,1,2,7,8,9]
abbrev u19_16:IC:=qK u19_17 .skip (.t 29) [0,1,2,7,8,9,29]
abbrev u19_15:IC:=qS [oM 29 2] u19_16 [0,1,2,7,8,9]
abbrev u19_20:IC:=qS [oV 6 (.bool false)] .ret []
abbrev u19_19:IC:=qK u19_20 .skip (.t 34) [0,1,2,7,34]
abbrev u19_18:IC:=qS [oD 32 8 4,oD 33 9 4,oP 34 (.eqa true [0,2,0,0] (.t 32) (.t 33))] u19_19 [0,1,2,7,8,9]
abbrev u19_14:IC:=qQ u19_15 u19_18 [0,1,2,7,8,9]
abbrev u19_13:IC:=qD [oM 21 0,oM 22 7,oA 23 21 22 4,oD 24 23 4,oM 25 1,oM 26 7,oA 27 25 26 4,oD 28 27 4,oW 8 (.agg #[.int .i64 0,.string ⟨#[]⟩,.int .i64 0,.int .i64 0]),oW 9 (.agg #[.int .i64 0,.string ⟨#[]⟩,.int .i64 0,.int .i64 0]),oS 8 24 4,oS 9 28 4] u19_14 [(0,none),(1,none),(2,none),(3,none),(4,none),(5,none),(6,none),(7,none),(8,none),(9,none),(10,some [4,5,6,7]),(11,some [])] 12 [0,1,2,7]
abbrev u19_21:IC:=qE [oM 19 7,oK 20 19 .add 1,oM 7 20] [0,1,2,7]
abbrev u19_12:IC:=qB u19_13 u19_21 1 [0,1,2,7]
abbrev u19_9:IC:=qQ u19_10 u19_12 [0,1,2,7]
abbrev u19_8:IC:=qJ (.loop u19_9) 0 [0,1,2,7]
abbrev u19_7:IC:=qS [oI 7 0] u19_8 [0,1,2]
abbrev u19_22:IC:=qS [oV 6 (.bool true)] .ret []
abbrev u19_6:IC:=qQ u19_7 u19_22 [0,1,2]
abbrev u19_2:IC:=qQ u19_3 u19_6 [0,1,2]
abbrev u19_1:IC:=qS [oV 6 (.bool false)] u19_2 [0,1,2]
def u19:IFn:=⟨35,u19_1,[.tmp 6]⟩
end
theorem isU19:IsFn Tryd.prog 19 u19:=by unfold IsFn;kernel_rfl
section
abbrev u11_9:IC:=qK .skip (.exit 0) (.t 14) [0,3,4,5,14]
abbrev u11_8:IC:=qS [oM 7 5,oM 8 0,oH 9 8,oB 10 7 9 .lss,oM 11 10,gM 12 5 11,gK 13 12 11 .lss 40,oJ 14 11 13] u11_9 [0,3,4,5]
abbrev u11_14:IC:=qE [oM 35 4,oP 36 (.bin .add (.t 35) (.k (.string ⟨#[32]⟩))),oM 4 36] [0,3,4,5]
abbrev u11_13:IC:=qK u11_14 .skip (.t 34) [0,3,4,5,34]
abbrev u11_12:IC:=qS [oM 30 0,oM 31 5,oA 32 30 31 1,oL 33 32,oP 34 (.bin .gtr (.t 33) (.k (.int .u8 150)))] u11_13 [0,3,4,5]
abbrev u11_11:IC:=qS [oM 17 4,oM 18 3,oM 19 0,oM 20 5,oA 21 19 20 1,oL 22 21,oP 23 (.cvi .i64 (.t 22)),oM 24 3,oH 25 24,oB 26 23 25 .rem,oA 27 18 26 1,oL 28 27,oB 29 17 28 .add,oM 4 29] u11_12 [0,3,4,5]
abbrev u11_15:IC:=qE [oM 15 5,oK 16 15 .add 1,oM 5 16] [0,3,4,5]
abbrev u11_10:IC:=qB u11_11 u11_15 1 [0,3,4,5]
abbrev u11_7:IC:=qQ u11_8 u11_10 [0,3,4,5]
abbrev u11_6:IC:=qJ (.loop u11_7) 0 [0,3,4,5]
abbrev u11_5:IC:=qS [oI 5 0] u11_6 [0,3,4]
abbrev u11_16:IC:=qS [oM 37 4,oM 2 37] .ret [4]
abbrev u11_4:IC:=qQ u11_5 u11_16 [0,3,4]
abbrev u11_3:IC:=qS [oV 4 (.string ⟨#[]⟩)] u11_4 [0,3]
abbrev u11_2:IC:=qS [⟨some 6,.new (.bsl 1 50 #[.string ⟨#[]⟩] [(0,.k (.string ⟨#[115,99,111,114,101]⟩)),(1,.k (.string ⟨#[114,97,109,112]⟩)),(2,.k (.string ⟨#[120,95,49]⟩)),(3,.k (.string ⟨#[65]⟩)),(4,.k (.string ⟨#[99,108,111,115,101,100]⟩)),(5,.k (.string ⟨#[97,98,99,100,101,102,103,104,105,106,107,108]⟩)),(6,.k (.string ⟨#[97,98,99,100,101,102,103,104,105,106,107,108,109]⟩)),(7,.k (.string ⟨#[48]⟩)),(8,.k (.string ⟨#[55]⟩)),(9,.k (.string ⟨#[48,48]⟩)),(10,.k (.string ⟨#[50,49,52,55,52,56,51,54,52,55]⟩)),(11,.k (.string ⟨#[50,49,52,55,52,56,51,54,52,56]⟩)),(12,.k (.string ⟨#[57,57,57,57,57,57,57,57,57,57,57,57,57,57,57,57,57,57,57,57]⟩)),(13,.k (.string ⟨#[34]⟩)),(14,.k (.string ⟨#[34,117,112,34]⟩)),(15,.k (.string ⟨#[34,97,92,34,34]⟩)),(16,.k (.string ⟨#[92]⟩)),(17,.k (.string ⟨#[34,49,50,51,52,53,54,55,56,57,48,49,50,51,52,53,54,55,56,57,48,49,50,51,52,53,54,55,56,57,48,49,50,34]⟩)),(18,.k (.string ⟨#[123]⟩)),(19,.k (.string ⟨#[125]⟩)),(20,.k (.string ⟨#[40]⟩)),(21,.k (.string ⟨#[41]⟩)),(22,.k (.string ⟨#[59]⟩)),(23,.k (.string ⟨#[44]⟩)),(24,.k (.string ⟨#[61]⟩)),(25,.k (.string ⟨#[61,61]⟩)),(26,.k (.string ⟨#[33]⟩)),(27,.k (.string ⟨#[33,61]⟩)),(28,.k (.string ⟨#[60]⟩)),(29,.k (.string ⟨#[60,61]⟩)),(30,.k (.string ⟨#[62]⟩)),(31,.k (.string ⟨#[62,61]⟩)),(32,.k (.string ⟨#[38,38]⟩)),(33,.k (.string ⟨#[124,124]⟩)),(34,.k (.string ⟨#[38]⟩)),(35,.k (.string ⟨#[124]⟩)),(36,.k (.string ⟨#[43]⟩)),(37,.k (.string ⟨#[45]⟩)),(38,.k (.string ⟨#[42]⟩)),(39,.k (.string ⟨#[47]⟩)),(40,.k (.string ⟨#[37]⟩)),(41,.k (.string ⟨#[32]⟩)),(42,.k (.string ⟨#[10]⟩)),(43,.k (.string ⟨#[9]⟩)),(44,.k (.string ⟨#[35,32]⟩)),(45,.k (.string ⟨#[35,10]⟩)),(46,.k (.string ⟨#[95]⟩)),(47,.k (.string ⟨#[0]⟩)),(48,.k (.string ⟨#[255]⟩)),(49,.k (.string ⟨#[39]⟩))]),none⟩,oM 3 6] u11_3 [0]
abbrev u11_1:IC:=qS [oV 2 (.string ⟨#[]⟩)] u11_2 [0]
def u11:IFn:=⟨38,u11_1,[.tmp 2]⟩
end
theorem isU11:IsFn Tryd.prog 11 u11:=by unfold IsFn;kernel_rfl
section
abbrev u10_4:IC:=qS [oM 21 3,oM 22 6,oC 23 19 [.t 21,.t 22,.k (.bool false)],oM 24 23,gM 25 4 24,gM 26 7 24,oG 27 (.bin .eql (.t 25) (.t 26)) 24,oJ 28 24 27,oM 29 28,gM 30 5 29,gM 31 8 29,oG 32 (.bin .eql (.t 30) (.t 31)) 29,oJ 33 29 32,oM 2 33] .ret [3,4,5,6,7,8]
abbrev u10_3:IC:=qS [oM 16 0,oC 17 25 [.t 16],oM 15 17,oE 18 15 0,oE 19 15 1,oE 20 15 2,oM 6 18,oM 7 19,oM 8 20] u10_4 [0,3,4,5]
abbrev u10_2:IC:=qS [oM 10 0,oC 11 17 [.t 10],oM 9 11,oE 12 9 0,oE 13 9 1,oE 14 9 2,oM 3 12,oM 4 13,oM 5 14] u10_3 [0]
abbrev u10_1:IC:=qS [oV 2 (.bool false)] u10_2 [0]
def u10:IFn:=⟨34,u10_1,[.tmp 2]⟩
end
theorem isU10:IsFn Tryd.prog 10 u10:=by unfold IsFn;kernel_rfl
section
abbrev u12_4:IC:=qS [oM 17 3,oK 18 17 .eql 0,oM 19 18,gM 20 1 19,oG 21 (.len (.t 20)) 19,gK 22 21 19 .eql 5,oJ 23 19 22,oM 24 23,gM 25 1 24,oG 26 (.iad 4 (.t 25) (.k (.int .i64 0))) 24,gF 27 26 0 24,gL 28 27 24,gK 29 28 24 .eql 2,oJ 30 24 29,oM 31 30,gM 32 1 31,oG 33 (.iad 4 (.t 32) (.k (.int .i64 1))) 31,gF 34 33 2 31,gL 35 34 31,gK 36 35 31 .eql 10,oJ 37 31 36,oM 38 37,gM 39 1 38,oG 40 (.iad 4 (.t 39) (.k (.int .i64 3))) 38,gF 41 40 3 38,gL 42 41 38,gK 43 42 38 .eql 9,oJ 44 38 43,oM 45 44,gM 46 6 45,gK 47 46 45 .eql 47,oJ 48 45 47,oM 49 48,gM 50 5 49,gK 51 50 49 .eql 2,oJ 52 49 51,oM 53 52,⟨some 54,.call 13 [.k (.string ⟨#[114,97,109,112,95,49]⟩)],some (53,true)⟩,oJ 55 53 54,oM 56 55,⟨some 57,.call 13 [.k (.string ⟨#[115,99,111,114,101]⟩)],some (56,true)⟩,oG 58 (.un .not (.t 57)) 56,oJ 59 56 58,oM 60 59,⟨some 61,.call 22 [.k (.string ⟨#[97,34]⟩)],some (60,true)⟩,oG 62 (.bin .eql (.t 61) (.k (.string ⟨#[34,97,92,34,34]⟩))) 60,oJ 63 60 62,oM 0 63] .ret [1,3,5,6]
abbrev u12_3:IC:=qS [oC 13 17 [.k (.string ⟨#[120,32,48,55]⟩)],oM 12 13,oE 14 12 0,oE 15 12 1,oE 16 12 2,oM 4 14,oM 5 15,oM 6 16] u12_4 [1,3]
abbrev u12_2:IC:=qS [oC 8 17 [.k (.string ⟨#[115,99,111,114,101,32,49,48,42,120,59,32,35,32,116,101,110]⟩)],oM 7 8,oE 9 7 0,oE 10 7 1,oE 11 7 2,oM 1 9,oM 2 10,oM 3 11] u12_3 []
abbrev u12_1:IC:=qS [oV 0 (.bool false)] u12_2 []
def u12:IFn:=⟨64,u12_1,[.tmp 0]⟩
end
theorem isU12:IsFn Tryd.prog 12 u12:=by unfold IsFn;kernel_rfl
section
abbrev u3_2:IC:=qS [oM 5 0,oP 6 (.lens (.t 5)),oK 7 6 .gtr 400,oM 8 7,hM 9 0 8,⟨some 10,.call 10 [.t 9],some (8,false)⟩,oO 11 8 10,oM 12 11,gM 13 1 12,⟨some 14,.call 11 [.t 13],some (12,true)⟩,⟨some 15,.call 10 [.t 14],some (12,true)⟩,oJ 16 12 15,oM 17 16,⟨some 18,.call 12 [],some (17,true)⟩,oJ 19 17 18,oM 4 19] .ret [0,1]
abbrev u3_1:IC:=qS [oV 4 (.bool false)] u3_2 [0,1]
def u3:IFn:=⟨20,u3_1,[.tmp 4]⟩
end
theorem isU3:IsFn Tryd.prog 3 u3:=by unfold IsFn;kernel_rfl
section
abbrev u4_5:IC:=qS [oC 10 12 [],oM 4 10] .ret []
abbrev u4_4:IC:=qK u4_5 .skip (.t 9) [0,1,9]
abbrev u4_3:IC:=qS [oM 7 0,oP 8 (.lens (.t 7)),oK 9 8 .gtr 40] u4_4 [0,1]
abbrev u4_8:IC:=qS [oM 20 0,oC 21 13 [.t 20],oM 22 0,oC 23 14 [.t 22],oP 24 (.eqb false (.t 21) (.t 23)),oM 25 24,gM 26 0 25,⟨some 27,.call 15 [.t 26],some (25,true)⟩,gM 28 0 25,⟨some 29,.call 16 [.t 28],some (25,true)⟩,oG 30 (.eqb false (.t 27) (.t 29)) 25,oJ 31 25 30,oM 32 31,gM 33 6 32,⟨some 34,.call 15 [.t 33],some (32,true)⟩,oJ 35 32 34,oM 36 35,gM 37 6 36,⟨some 38,.call 13 [.t 37],some (36,true)⟩,oG 39 (.un .not (.t 38)) 36,oJ 40 36 39,oM 41 40,gM 42 6 41,oG 43 (.bin .add (.t 42) (.k (.string ⟨#[95]⟩))) 41,⟨some 44,.call 13 [.t 43],some (41,true)⟩,oJ 45 41 44,oM 46 45,⟨some 47,.call 12 [],some (46,true)⟩,oJ 48 46 47,oM 4 48] .ret [0,6]
abbrev u4_7:IC:=qS [oM 12 5,oM 13 1,oP 14 (.cvi .i64 (.t 13)),oM 15 5,oH 16 15,oB 17 14 16 .rem,oA 18 12 17 1,oL 19 18,oM 6 19] u4_8 [0,1,5]
abbrev u4_6:IC:=qS [⟨some 11,.new (.bsl 1 38 #[.string ⟨#[]⟩] [(0,.k (.string ⟨#[115,119,105,116,99,104]⟩)),(1,.k (.string ⟨#[99,111,105,108]⟩)),(2,.k (.string ⟨#[108,97,109,112]⟩)),(3,.k (.string ⟨#[115,111,117,110,100]⟩)),(4,.k (.string ⟨#[115,104,111,119]⟩)),(5,.k (.string ⟨#[118,97,114]⟩)),(6,.k (.string ⟨#[116,105,109,101,114]⟩)),(7,.k (.string ⟨#[101,118,101,110,116]⟩)),(8,.k (.string ⟨#[109,111,100,101]⟩)),(9,.k (.string ⟨#[111,110]⟩)),(10,.k (.string ⟨#[115,116,97,114,116]⟩)),(11,.k (.string ⟨#[115,116,111,112]⟩)),(12,.k (.string ⟨#[99,108,111,115,101]⟩)),(13,.k (.string ⟨#[111,112,101,110]⟩)),(14,.k (.string ⟨#[105,102]⟩)),(15,.k (.string ⟨#[101,108,115,101]⟩)),(16,.k (.string ⟨#[114,101,112,101,97,116]⟩)),(17,.k (.string ⟨#[115,99,111,114,101]⟩)),(18,.k (.string ⟨#[102,105,114,101]⟩)),(19,.k (.string ⟨#[104,111,108,100]⟩)),(20,.k (.string ⟨#[114,101,108,101,97,115,101]⟩)),(21,.k (.string ⟨#[108,105,103,104,116]⟩)),(22,.k (.string ⟨#[98,108,105,110,107]⟩)),(23,.k (.string ⟨#[98,101,103,105,110]⟩)),(24,.k (.string ⟨#[101,110,100]⟩)),(25,.k (.string ⟨#[112,111,115,116]⟩)),(26,.k (.string ⟨#[112,108,97,121]⟩)),(27,.k (.string ⟨#[114,117,110]⟩)),(28,.k (.string ⟨#[104,97,108,116]⟩)),(29,.k (.string ⟨#[116,101,120,116]⟩)),(30,.k (.string ⟨#[99,111,110,115,117,109,101]⟩)),(31,.k (.string ⟨#[99,108,111,115,101,100]⟩)),(32,.k (.string ⟨#[97,99,116,105,118,101]⟩)),(33,.k (.string ⟨#[108,101,102,116]⟩)),(34,.k (.string ⟨#[112,108,97,121,101,114]⟩)),(35,.k (.string ⟨#[98,97,108,108]⟩)),(36,.k (.string ⟨#[116,114,117,101]⟩)),(37,.k (.string ⟨#[102,97,108,115,101]⟩))]),none⟩,oM 5 11] u4_7 [0,1]
abbrev u4_2:IC:=qQ u4_3 u4_6 [0,1]
abbrev u4_1:IC:=qS [oV 4 (.bool false)] u4_2 [0,1]
def u4:IFn:=⟨49,u4_1,[.tmp 4]⟩
end
theorem isU4:IsFn Tryd.prog 4 u4:=by unfold IsFn;kernel_rfl
section
abbrev u5_6:IC:=qS [oC 23 12 [],oM 4 23] .ret []
abbrev u5_5:IC:=qK u5_6 .skip (.t 22) [1,5,22]
abbrev u5_4:IC:=qS [oM 21 7,oK 22 21 .neq 0] u5_5 [1,5,7]
abbrev u5_13:IC:=qK .skip (.exit 0) (.t 27) [1,5,8,9,27]
abbrev u5_12:IC:=qS [oM 24 9,oM 25 5,oH 26 25,oB 27 24 26 .lss] u5_13 [1,5,8,9]
abbrev u5_19:IC:=qE [oM 34 1,oM 35 9,oA 36 34 35 1,oL 37 36,oP 38 (.cvi .i64 (.t 37)),oK 39 38 .rem 5,oM 10 39] [1,5,8,9]
abbrev u5_18:IC:=qK u5_19 .skip (.t 33) [1,5,8,9,10,33]
abbrev u5_17:IC:=qS [oM 30 9,oM 31 1,oH 32 31,oB 33 30 32 .lss] u5_18 [1,5,8,9,10]
abbrev u5_20:IC:=qG [oM 40 8,⟨some 41,.new (.bsl 1 5 #[.string ⟨#[]⟩] [(0,.k (.string ⟨#[32]⟩)),(1,.k (.string ⟨#[10,9,32]⟩)),(2,.k (.string ⟨#[35,32,110,111,116,101,32,34,10]⟩)),(3,.k (.string ⟨#[13]⟩)),(4,.k (.string ⟨#[32,35,10,10]⟩))]),none⟩,oM 42 10,oA 43 41 42 1,oL 44 43,oB 45 40 44 .add,oM 46 5,oM 47 9,oA 48 46 47 4,oD 49 48 4,oC 50 18 [.t 49],oB 51 45 50 .add,oM 8 51] [(0,none),(1,none),(2,none),(3,none),(4,none),(5,none),(6,none),(7,none),(8,none),(9,none),(10,some [0,1,2,3,4,5]),(11,none),(12,some [])] 13 [1,5,8,9,10]
abbrev u5_16:IC:=qQ u5_17 u5_20 [1,5,8,9,10]
abbrev u5_15:IC:=qS [oI 10 0] u5_16 [1,5,8,9]
abbrev u5_21:IC:=qE [oM 28 9,oK 29 28 .add 1,oM 9 29] [1,5,8,9]
abbrev u5_14:IC:=qB u5_15 u5_21 1 [1,5,8,9]
abbrev u5_11:IC:=qQ u5_12 u5_14 [1,5,8,9]
abbrev u5_10:IC:=qJ (.loop u5_11) 0 [1,5,8,9]
abbrev u5_9:IC:=qS [oI 9 0] u5_10 [1,5,8]
abbrev u5_23:IC:=qS [oM 58 13,oK 59 58 .eql 0,oM 60 59,gM 61 5 60,gM 62 11 60,⟨some 63,.call 19 [.t 61,.t 62,.k (.bool true)],some (60,true)⟩,oJ 64 60 63,oM 65 64,⟨some 66,.call 12 [],some (65,true)⟩,oJ 67 65 66,oM 4 67] .ret [5,11,13]
abbrev u5_22:IC:=qS [oM 53 8,oC 54 17 [.t 53],oM 52 54,oE 55 52 0,oE 56 52 1,oE 57 52 2,oM 11 55,oM 12 56,oM 13 57] u5_23 [5,8]
abbrev u5_8:IC:=qQ u5_9 u5_22 [1,5,8]
abbrev u5_7:IC:=qS [oV 8 (.string ⟨#[]⟩)] u5_8 [1,5]
abbrev u5_3:IC:=qQ u5_4 u5_7 [1,5,7]
abbrev u5_2:IC:=qS [oM 15 0,oC 16 11 [.t 15],oC 17 17 [.t 16],oM 14 17,oE 18 14 0,oE 19 14 1,oE 20 14 2,oM 5 18,oM 6 19,oM 7 20] u5_3 [0,1]
abbrev u5_1:IC:=qS [oV 4 (.bool false)] u5_2 [0,1]
def u5:IFn:=⟨68,u5_1,[.tmp 4]⟩
end
theorem isU5:IsFn Tryd.prog 5 u5:=by unfold IsFn;kernel_rfl
section
abbrev u6_7:IC:=qS [oC 22 12 [],oM 2 22] .ret []
abbrev u6_6:IC:=qK u6_7 .skip (.t 21) [3,4,21]
abbrev u6_5:IC:=qS [oM 20 6,oK 21 20 .neq 0] u6_6 [3,4,6]
abbrev u6_13:IC:=qK .skip (.exit 0) (.t 26) [3,4,7,26]
abbrev u6_12:IC:=qS [oM 23 7,oM 24 4,oH 25 24,oB 26 23 25 .lss] u6_13 [3,4,7]
abbrev u6_19:IC:=qE [oM 36 4,oM 37 7,oK 38 37 .add 1,oA 39 36 38 4,oF 40 39 3,oL 41 40,oM 8 41] [3,4,7]
abbrev u6_18:IC:=qK u6_19 .skip (.t 35) [3,4,7,8,35]
abbrev u6_17:IC:=qS [oM 31 7,oK 32 31 .add 1,oM 33 4,oH 34 33,oB 35 32 34 .lss] u6_18 [3,4,7,8]
abbrev u6_23:IC:=qS [oV 2 (.bool false)] .ret []
abbrev u6_22:IC:=qK u6_23 .skip (.t 62) [3,4,7,8,62]
abbrev u6_21:IC:=qS [oM 42 4,oM 43 7,oA 44 42 43 4,oF 45 44 3,oL 46 45,oK 47 46 .lss 0,oM 48 47,hM 49 4 48,hM 50 7 48,oR 51 (.iad 4 (.t 49) (.t 50)) 48,hF 52 51 3 48,hL 53 52 48,hM 54 8 48,oR 55 (.bin .geq (.t 53) (.t 54)) 48,oO 56 48 55,oM 57 56,hM 58 8 57,hM 59 3 57,oR 60 (.lens (.t 59)) 57,oR 61 (.bin .gtr (.t 58) (.t 60)) 57,oO 62 57 61] u6_22 [3,4,7,8]
abbrev u6_27:IC:=qS [oV 2 (.bool false)] .ret []
abbrev u6_26:IC:=qK u6_27 .skip (.t 87) [3,4,7,87]
abbrev u6_25:IC:=qS [oM 76 11,oK 77 76 .neq 0,oM 78 77,hM 79 9 78,hM 80 4 78,hM 81 7 78,hM 82 7 78,hK 83 82 78 .add 1,oR 84 (.slc 4 (.t 80) (some (.t 81)) (some (.t 83))) 78,⟨some 85,.call 19 [.t 79,.t 84,.k (.bool true)],some (78,false)⟩,oR 86 (.un .not (.t 85)) 78,oO 87 78 86] u6_26 [3,4,7,9,11]
abbrev u6_24:IC:=qS [oM 64 3,oM 65 4,oM 66 7,oA 67 65 66 4,oF 68 67 3,oL 69 68,oM 70 8,oP 71 (.sls (.t 64) (some (.t 69)) (some (.t 70))),oC 72 17 [.t 71],oM 63 72,oE 73 63 0,oE 74 63 1,oE 75 63 2,oM 9 73,oM 10 74,oM 11 75] u6_25 [3,4,7,8]
abbrev u6_20:IC:=qQ u6_21 u6_24 [3,4,7,8]
abbrev u6_16:IC:=qQ u6_17 u6_20 [3,4,7,8]
abbrev u6_15:IC:=qS [oM 29 3,oP 30 (.lens (.t 29)),oM 8 30] u6_16 [3,4,7]
abbrev u6_28:IC:=qE [oM 27 7,oK 28 27 .add 1,oM 7 28] [3,4,7]
abbrev u6_14:IC:=qB u6_15 u6_28 1 [3,4,7]
abbrev u6_11:IC:=qQ u6_12 u6_14 [3,4,7]
abbrev u6_10:IC:=qJ (.loop u6_11) 0 [3,4,7]
abbrev u6_9:IC:=qS [oI 7 0] u6_10 [3,4]
abbrev u6_29:IC:=qS [oC 88 12 [],oM 2 88] .ret []
abbrev u6_8:IC:=qQ u6_9 u6_29 [3,4]
abbrev u6_4:IC:=qQ u6_5 u6_8 [3,4,6]
abbrev u6_3:IC:=qS [oM 15 3,oC 16 17 [.t 15],oM 14 16,oE 17 14 0,oE 18 14 1,oE 19 14 2,oM 4 17,oM 5 18,oM 6 19] u6_4 [3]
abbrev u6_2:IC:=qS [oM 12 0,oC 13 11 [.t 12],oM 3 13] u6_3 [0]
abbrev u6_1:IC:=qS [oV 2 (.bool false)] u6_2 [0]
def u6:IFn:=⟨89,u6_1,[.tmp 2]⟩
end
theorem isU6:IsFn Tryd.prog 6 u6:=by unfold IsFn;kernel_rfl
section
abbrev u8_5:IC:=qS [oC 7 12 [],oM 2 7] .ret []
abbrev u8_4:IC:=qK u8_5 .skip (.t 6) [0,6]
abbrev u8_3:IC:=qS [oM 4 0,oH 5 4,oK 6 5 .gtr 40] u8_4 [0]
abbrev u8_11:IC:=qK .skip (.exit 0) (.t 11) [0,3,11]
abbrev u8_10:IC:=qS [oM 8 3,oM 9 0,oH 10 9,oB 11 8 10 .lss] u8_11 [0,3]
abbrev u8_15:IC:=qS [oM 36 0,oM 37 3,oA 38 36 37 4,oF 39 38 1,oL 40 39,oP 41 (.lens (.t 40)),oK 42 41 .gtr 100,oM 2 42] .ret [0,3]
abbrev u8_14:IC:=qK u8_15 .skip (.t 35) [0,3,35]
abbrev u8_13:IC:=qD [oM 14 0,oM 15 3,oA 16 14 15 4,oF 17 16 1,oL 18 17,oP 19 (.lens (.t 18)),oK 20 19 .gtr 100,oM 21 20,hM 22 0 21,hM 23 3 21,oR 24 (.iad 4 (.t 22) (.t 23)) 21,hF 25 24 1 21,hL 26 25 21,⟨some 27,.call 22 [.t 26],some (21,false)⟩,hM 28 0 21,hM 29 3 21,oR 30 (.iad 4 (.t 28) (.t 29)) 21,hF 31 30 1 21,hL 32 31 21,⟨some 33,.call 20 [.t 32],some (21,false)⟩,oR 34 (.bin .neq (.t 27) (.t 33)) 21,oO 35 21 34] u8_14 [(0,none),(1,none),(2,none),(3,none),(4,none),(5,none),(6,none),(7,none),(8,none),(9,none),(10,none),(11,none),(12,none),(14,none),(15,none),(16,none),(17,none),(18,none),(13,some [14,15,16,17,18]),(19,some []),(20,none),(21,none)] 22 [0,3]
abbrev u8_16:IC:=qE [oM 12 3,oK 13 12 .add 1,oM 3 13] [0,3]
abbrev u8_12:IC:=qB u8_13 u8_16 1 [0,3]
abbrev u8_9:IC:=qQ u8_10 u8_12 [0,3]
abbrev u8_8:IC:=qJ (.loop u8_9) 0 [0,3]
abbrev u8_7:IC:=qS [oI 3 0] u8_8 [0]
abbrev u8_17:IC:=qS [oM 43 0,oC 44 23 [.t 43],oM 45 0,oC 46 24 [.t 45],oB 47 44 46 .eql,oM 48 47,⟨some 49,.call 12 [],some (48,true)⟩,oJ 50 48 49,oM 2 50] .ret [0]
abbrev u8_6:IC:=qQ u8_7 u8_17 [0]
abbrev u8_2:IC:=qQ u8_3 u8_6 [0]
abbrev u8_1:IC:=qS [oV 2 (.bool false)] u8_2 [0]
def u8:IFn:=⟨51,u8_1,[.tmp 2]⟩
end
theorem isU8:IsFn Tryd.prog 8 u8:=by unfold IsFn;kernel_rfl
section
abbrev u9_7:IC:=qK .skip (.exit 0) (.t 14) [0,1,5,14]
abbrev u9_6:IC:=qS [oM 13 5,oK 14 13 .lss 2] u9_7 [0,1,5]
abbrev u9_13:IC:=qE [oM 21 1,oM 6 21] [0,1,5]
abbrev u9_12:IC:=qK u9_13 .skip (.t 20) [0,1,5,6,20]
abbrev u9_11:IC:=qS [oM 19 5,oK 20 19 .eql 1] u9_12 [0,1,5,6]
abbrev u9_16:IC:=qK (.exit 1) .skip (.t 24) [0,1,5,6,24]
abbrev u9_15:IC:=qS [oM 22 6,oP 23 (.lens (.t 22)),oK 24 23 .gtr 1000] u9_16 [0,1,5,6]
abbrev u9_20:IC:=qK (.exit 1) .skip (.t 32) [0,1,5,7,32]
abbrev u9_19:IC:=qS [oM 31 9,oK 32 31 .neq 0] u9_20 [0,1,5,7,9]
abbrev u9_24:IC:=qS [oV 4 (.bool false)] .ret []
abbrev u9_23:IC:=qK u9_24 .skip (.t 47) [0,1,5,47]
abbrev u9_22:IC:=qS [oM 40 12,oK 41 40 .neq 0,oM 42 41,hM 43 7 42,hM 44 10 42,⟨some 45,.call 19 [.t 43,.t 44,.k (.bool true)],some (42,false)⟩,oR 46 (.un .not (.t 45)) 42,oO 47 42 46] u9_23 [0,1,5,7,10,12]
abbrev u9_21:IC:=qS [oM 34 7,oC 35 23 [.t 34],oC 36 17 [.t 35],oM 33 36,oE 37 33 0,oE 38 33 1,oE 39 33 2,oM 10 37,oM 11 38,oM 12 39] u9_22 [0,1,5,7]
abbrev u9_18:IC:=qQ u9_19 u9_21 [0,1,5,7,9]
abbrev u9_17:IC:=qS [oM 26 6,oC 27 17 [.t 26],oM 25 27,oE 28 25 0,oE 29 25 1,oE 30 25 2,oM 7 28,oM 8 29,oM 9 30] u9_18 [0,1,5,6]
abbrev u9_14:IC:=qQ u9_15 u9_17 [0,1,5,6]
abbrev u9_10:IC:=qQ u9_11 u9_14 [0,1,5,6]
abbrev u9_9:IC:=qS [oM 17 0,oC 18 11 [.t 17],oM 6 18] u9_10 [0,1,5]
abbrev u9_25:IC:=qE [oM 15 5,oK 16 15 .add 1,oM 5 16] [0,1,5]
abbrev u9_8:IC:=qB u9_9 u9_25 1 [0,1,5]
abbrev u9_5:IC:=qQ u9_6 u9_8 [0,1,5]
abbrev u9_4:IC:=qJ (.loop u9_5) 0 [0,1,5]
abbrev u9_3:IC:=qS [oI 5 0] u9_4 [0,1]
abbrev u9_26:IC:=qS [oC 48 12 [],oM 4 48] .ret []
abbrev u9_2:IC:=qQ u9_3 u9_26 [0,1]
abbrev u9_1:IC:=qS [oV 4 (.bool false)] u9_2 [0,1]
def u9:IFn:=⟨49,u9_1,[.tmp 4]⟩
end
theorem isU9:IsFn Tryd.prog 9 u9:=by unfold IsFn;kernel_rfl
section
abbrev u7_10:IC:=qK .skip (.exit 0) (.t 44) [1,5,6,7,8,9,10,44]
abbrev u7_9:IC:=qS [oM 41 10,oM 42 7,oH 43 42,oB 44 41 43 .lss] u7_10 [1,5,6,7,8,9,10]
abbrev u7_12:IC:=qE [oM 47 7,oM 48 10,oM 49 6,oA 50 47 48 1,oS 50 49 1] [1,5,6,7,8,9,10]
abbrev u7_13:IC:=qE [oM 45 10,oK 46 45 .add 1,oM 10 46] [1,5,6,7,8,9,10]
abbrev u7_11:IC:=qB u7_12 u7_13 1 [1,5,6,7,8,9,10]
abbrev u7_8:IC:=qQ u7_9 u7_11 [1,5,6,7,8,9,10]
abbrev u7_7:IC:=qJ (.loop u7_8) 0 [1,5,6,7,8,9,10]
abbrev u7_6:IC:=qS [oI 10 0] u7_7 [1,5,6,7,8,9]
abbrev u7_19:IC:=qK .skip (.exit 2) (.t 54) [1,5,7,8,9,11,54]
abbrev u7_18:IC:=qS [oM 51 11,oM 52 8,oH 53 52,oB 54 51 53 .lss] u7_19 [1,5,7,8,9,11]
abbrev u7_21:IC:=qE [oM 57 8,oM 58 11,oM 59 1,oP 60 (.bin .rem (.t 59) (.k (.int .u8 95))),oP 61 (.bin .add (.k (.int .u8 32)) (.t 60)),oA 62 57 58 1,oS 62 61 1] [1,5,7,8,9,11]
abbrev u7_22:IC:=qE [oM 55 11,oK 56 55 .add 1,oM 11 56] [1,5,7,8,9,11]
abbrev u7_20:IC:=qB u7_21 u7_22 3 [1,5,7,8,9,11]
abbrev u7_17:IC:=qQ u7_18 u7_20 [1,5,7,8,9,11]
abbrev u7_16:IC:=qJ (.loop u7_17) 2 [1,5,7,8,9,11]
abbrev u7_15:IC:=qS [oI 11 0] u7_16 [1,5,7,8,9]
abbrev u7_28:IC:=qK .skip (.exit 4) (.t 66) [5,7,8,9,12,66]
abbrev u7_27:IC:=qS [oM 63 12,oM 64 9,oH 65 64,oB 66 63 65 .lss] u7_28 [5,7,8,9,12]
abbrev u7_30:IC:=qE [oM 69 9,oM 70 12,oA 71 69 70 1,⟨none,.eff (.st 1 (.t 71) (.k (.int .u8 32))),none⟩] [5,7,8,9,12]
abbrev u7_31:IC:=qE [oM 67 12,oK 68 67 .add 1,oM 12 68] [5,7,8,9,12]
abbrev u7_29:IC:=qB u7_30 u7_31 5 [5,7,8,9,12]
abbrev u7_26:IC:=qQ u7_27 u7_29 [5,7,8,9,12]
abbrev u7_25:IC:=qJ (.loop u7_26) 4 [5,7,8,9,12]
abbrev u7_24:IC:=qS [oI 12 0] u7_25 [5,7,8,9]
abbrev u7_39:IC:=qS [oM 105 15,oK 106 105 .eql 9,oM 107 106,gM 108 14 107,gK 109 108 107 .eql 1,oJ 110 107 109,oM 111 110,gM 112 18 111,gK 113 112 111 .eql 9,oJ 114 111 113,oM 115 114,gM 116 21 115,gK 117 116 115 .eql 9,oJ 118 115 117,oM 119 118,gM 120 24 119,gK 121 120 119 .eql 5,oJ 122 119 121,oM 123 122,⟨some 124,.call 12 [],some (123,true)⟩,oJ 125 123 124,oM 4 125] .ret [14,15,18,21,24]
abbrev u7_38:IC:=qK u7_39 .skip (.t 104) [5,8,14,15,16,18,21,22,24,104]
abbrev u7_37:IC:=qS [oM 103 5,oK 104 103 .gtr 0] u7_38 [5,8,14,15,16,18,21,22,24]
abbrev u7_40:IC:=qP [oM 126 15,oK 127 126 .eql 0,oM 128 127,gM 129 18 128,gK 130 129 128 .eql 0,oJ 131 128 130,oM 132 131,gM 133 16 132,oG 134 (.len (.t 133)) 132,gK 135 134 132 .eql 1,oJ 136 132 135,oM 137 136,gM 138 16 137,oG 139 (.iad 4 (.t 138) (.k (.int .i64 0))) 137,gF 140 139 1 137,gL 141 140 137,gM 142 8 137,oG 143 (.cvbs (.t 142)) 137,oG 144 (.bin .eql (.t 141) (.t 143)) 137,oJ 145 137 144,oM 146 145,gM 147 21 146,gK 148 147 146 .eql 0,oJ 149 146 148,oM 150 149,gM 151 24 150,gK 152 151 150 .eql 0,oJ 153 150 152,oM 154 153,gM 155 22 154,oG 156 (.len (.t 155)) 154,gK 157 156 154 .eql 1,oJ 158 154 157,oM 159 158,gM 160 22 159,oG 161 (.iad 4 (.t 160) (.k (.int .i64 0))) 159,gF 162 161 2 159,gL 163 162 159,gM 164 5 159,oG 165 (.bin .add (.k (.int .i64 2147483647)) (.t 164)) 159,oG 166 (.bin .eql (.t 163) (.t 165)) 159,oJ 167 159 166,oM 168 167,⟨some 169,.call 12 [],some (168,true)⟩,oJ 170 168 169,oM 4 170] .ret 35184372088832 46 [5,8,15,16,18,21,22,24]
abbrev u7_36:IC:=qQ u7_37 u7_40 [5,8,14,15,16,18,21,22,24]
abbrev u7_35:IC:=qS [oM 96 5,oP 97 (.bin .add (.k (.int .i64 2147483647)) (.t 96)),oC 98 21 [.t 97],oC 99 17 [.t 98],oM 95 99,oE 100 95 0,oE 101 95 1,oE 102 95 2,oM 22 100,oM 23 101,oM 24 102] u7_36 [5,8,14,15,16,18,21]
abbrev u7_34:IC:=qS [oM 89 9,oP 90 (.cvbs (.t 89)),oC 91 17 [.t 90],oM 88 91,oE 92 88 0,oE 93 88 1,oE 94 88 2,oM 19 92,oM 20 93,oM 21 94] u7_35 [5,8,9,14,15,16,18]
abbrev u7_33:IC:=qS [oM 81 8,oP 82 (.cvbs (.t 81)),oC 83 20 [.t 82],oC 84 17 [.t 83],oM 80 84,oE 85 80 0,oE 86 80 1,oE 87 80 2,oM 16 85,oM 17 86,oM 18 87] u7_34 [5,8,9,14,15]
abbrev u7_32:IC:=qS [oM 73 7,oP 74 (.cvbs (.t 73)),oP 75 (.bin .add (.k (.string ⟨#[32]⟩)) (.t 74)),oC 76 17 [.t 75],oM 72 76,oE 77 72 0,oE 78 72 1,oE 79 72 2,oM 13 77,oM 14 78,oM 15 79] u7_33 [5,7,8,9]
abbrev u7_23:IC:=qQ u7_24 u7_32 [5,7,8,9]
abbrev u7_14:IC:=qQ u7_15 u7_23 [1,5,7,8,9]
abbrev u7_5:IC:=qQ u7_6 u7_14 [1,5,6,7,8,9]
abbrev u7_4:IC:=qD [oM 32 5,oP 33 (.bin .add (.k (.int .i64 12)) (.t 32)),⟨some 34,.new (.msl 1 1 #[.int .u8 0] (.t 33) (.t 33)),none⟩,oM 35 5,oP 36 (.bin .add (.k (.int .i64 32)) (.t 35)),⟨some 37,.new (.msl 1 1 #[.int .u8 0] (.t 36) (.t 36)),none⟩,oM 38 5,oP 39 (.bin .add (.k (.int .i64 20000)) (.t 38)),⟨some 40,.new (.msl 1 1 #[.int .u8 0] (.t 39) (.t 39)),none⟩,oM 7 34,oM 8 37,oM 9 40] u7_5 [(0,none),(1,none),(2,none),(3,none),(4,none),(5,none),(6,none),(7,none),(8,none),(9,some [3,4,5,6,7,8]),(10,some [6,7,8]),(11,some [])] 12 [1,5,6]
abbrev u7_3:IC:=qS [oM 29 1,oP 30 (.bin .rem (.t 29) (.k (.int .u8 26))),oP 31 (.bin .add (.k (.int .u8 97)) (.t 30)),oM 6 31] u7_4 [1,5]
abbrev u7_2:IC:=qS [oM 25 0,oP 26 (.bin .rem (.t 25) (.k (.int .u8 3))),oP 27 (.cvi .i64 (.t 26)),oK 28 27 .sub 1,oM 5 28] u7_3 [0,1]
abbrev u7_1:IC:=qS [oV 4 (.bool false)] u7_2 [0,1]
def u7:IFn:=⟨171,u7_1,[.tmp 4]⟩
end
theorem isU7:IsFn Tryd.prog 7 u7:=by unfold IsFn;kernel_rfl
end Go.Proofs.YtibjoemdkeimfaaDoor
namespace Go.Pb
variable [Go.Sym.Tab]
open Go.Sym
def numA (n:Nat) (s:List UInt8):Nat:=s.foldl (fun n c=>10 * n+(c.toNat-48)) n
theorem numA_ge:∀ (s:List UInt8) (n:Nat),n≤numA n s
 | [],n=>Nat.le_refl _
 | c :: r,n=>by
  have:=numA_ge r (10 * n+(c.toNat-48))
  simp only [numA,List.foldl_cons] at this ⊢
  omega
theorem numA_cons (c:UInt8) (r:List UInt8) (n:Nat):numA n (c :: r)=numA (10 * n+(c.toNat-48)) r:=by simp only [numA,List.foldl_cons]
theorem pum_step {M acc d v w:Nat} (hM:M=18446744073709551615) (hd:d≤9) (hv:10 * acc+d≤v) (hw:w=1844674407370955162) :
  (w≤acc→M<v)∧(M<acc * 10+d→M<v):=by
 subst hM hw;omega
theorem pum_cons (M acc:Nat) (c:UInt8) (r:List UInt8) (h:48≤c.toNat∧c.toNat≤57):Lib.parseUintM M acc (c :: r) =
   if 1844674407370955162≤acc then .range
   else if M<acc * 10+(c.toNat-48) then .range
   else Lib.parseUintM M (acc * 10+(c.toNat-48)) r:=by rw [Lib.parseUintM,if_pos h]
theorem pum {M:Nat} (hM:M=18446744073709551615):∀ (l:List UInt8) (acc:Nat),(∀ c∈l,dgB c=true)→acc≤M →
  Lib.parseUintM M acc l=if numA acc l≤M then .ok (numA acc l) else .range:=by
 intro l
 induction l with
 | nil =>
  intro acc h ha
  rw [if_pos (show numA acc []≤M from ha),Lib.parseUintM]
  rfl
 | cons c r ih =>
  intro acc h ha
  have hc:=h c List.mem_cons_self
  simp only [dgB,Bool.and_eq_true,decide_eq_true_eq] at hc
  have hg:=numA_ge r (10 * acc+(c.toNat-48))
  rw [pum_cons _ _ _ _ hc,numA_cons]
  generalize hK:(1844674407370955162:Nat)=K
  obtain ⟨s1,s2⟩:=pum_step hM (show c.toNat-48≤9 by omega) hg hK.symm
  by_cases h1:K≤acc
  ·rw [if_pos h1,if_neg (Nat.not_le.2 (s1 h1))]
  ·rw [if_neg h1]
   by_cases h2:M<acc * 10+(c.toNat-48)
   ·rw [if_pos h2,if_neg (Nat.not_le.2 (s2 h2))]
   ·rw [if_neg h2,Nat.mul_comm acc 10]
    rw [Nat.mul_comm acc 10] at h2
    exact ih _ (fun d hd=>h d (List.mem_cons_of_mem _ hd)) (Nat.not_lt.1 h2)
theorem pib {l:List UInt8} (h:∀ c∈l,dgB c=true) (h0:l≠[]) :
  Lib.parseIntB 64 l=if numV l≤9223372036854775807 then .ok (numV l:Int) else .range:=by
 cases l with
 | nil=>exact absurd rfl h0
 | cons c r =>
  have hc:=h c List.mem_cons_self
  simp only [dgB,Bool.and_eq_true,decide_eq_true_eq] at hc
  have e1:¬ c.toNat=43:=by omega
  have e2:¬ c.toNat=45:=by omega
  have hp:=pum (M:=2 ^ 64-1) (by decide) (c :: r) 0 h (Nat.zero_le _)
  have hv:numA 0 (c :: r)=numV (c :: r):=rfl
  rw [hv] at hp
  unfold Lib.parseIntB
  simp only [e1,e2,or_self,if_false,not_false_eq_true,true_and,false_and]
  unfold Lib.parseUintB
  rw [if_neg (by simp),hp]
  by_cases g1:numV (c :: r)≤2 ^ 64-1
  ·rw [if_pos g1]
   by_cases g2:numV (c :: r)≤9223372036854775807
   ·simp only [g2,if_true]
    rw [if_neg (by omega)]
   ·simp only [g2,if_false]
    rw [if_pos (by omega)]
  ·rw [if_neg g1]
   have g2:¬ numV (c :: r)≤9223372036854775807:=by omega
   simp only [g2,if_false]
theorem span_all {p:UInt8→Bool}:∀ (s:List UInt8), ∀ c∈s.take (spnM p s),p c=true
 | [],c,h=>by simp at h
 | x :: r,c,h=>by
  simp only [spnM] at h
  split at h
  ·rename_i hx
   rw [List.take_succ_cons] at h
   rcases List.mem_cons.1 h with rfl|h
   ·exact hx
   ·exact span_all r c h
  ·simp at h
theorem ixb_ge (c:UInt8):∀ l:List UInt8, -1≤Lib.indexByte l c
 | []=>by simp [Lib.indexByte]
 | d :: l=>by
  have:=ixb_ge c l
  simp only [Lib.indexByte];split
  ·omega
  ·split<;>omega
theorem ixb_iff (c:UInt8):∀ l:List UInt8,0≤Lib.indexByte l c↔l.contains c=true
 | []=>by simp [Lib.indexByte]
 | b :: l=>by
  have ih:=ixb_iff c l
  have hge:=ixb_ge c l
  simp only [Lib.indexByte,List.contains_cons]
  by_cases h:b=c
  ·subst h;simp
  ·have e1:(b == c)=false:=by simpa using h
   have e2:(c == b)=false:=by simpa using fun h2=>h h2.symm
   rw [e1,e2,Bool.false_or, ← ih]
   simp only [Bool.false_eq_true,if_false]
   by_cases h2:Lib.indexByte l c = -1
   ·rw [if_pos (by rw [h2];rfl),h2]
   ·rw [if_neg (by simpa using h2)];omega
end Go.Pb
namespace Go.Sym
variable [Go.Sym.Tab]
open Go.Eng (KKey)
inductive Mz (id:Nat) (r:DV):DV→DV→Prop where
 | same (d:DV):Mz id r d d
 | mid:Mz id r (.mid id) r
 | agg (a a':List DV) (hl:a.length=a'.length) (h:∀ (i:Nat) x y,a[i]? = some x→a'[i]? = some y→Mz id r x y):Mz id r (.agg a) (.agg a')
 | tup (a a':List DV) (hl:a.length=a'.length) (h:∀ (i:Nat) x y,a[i]? = some x→a'[i]? = some y→Mz id r x y):Mz id r (.tup a) (.tup a')
theorem Mz.rel {ρ ρ':Ren} {id:Nat} {r:DV} (hl : ρ.le ρ') (hr:∀ v,VRel ρ (.mid id) v→VRel ρ' r v) {d d':DV} (h:Mz id r d d'):∀ v,VRel ρ d v→VRel ρ' d' v:=by
 induction h with
 | same d=>exact fun v hv=>hv.mono hl
 | mid=>exact hr
 | agg a a' hl' _ ih =>
  intro v hv
  obtain ⟨b,rfl,h1,h2⟩:=hv.agg_inv
  refine .agg _ _ (hl'▸h1) fun i x y hx hy=>?_
  have hi:i<a.length:=by have:=(List.getElem?_eq_some_iff.1 hx).1;omega
  exact ih i a[i] x (List.getElem?_eq_getElem hi) hx y (h2 i _ y (List.getElem?_eq_getElem hi) hy)
 | tup a a' hl' _ ih =>
  intro v hv
  obtain ⟨b,rfl,h1,h2⟩:=hv.tup_inv
  refine .tup _ _ (hl'▸h1) fun i x y hx hy=>?_
  have hi:i<a.length:=by have:=(List.getElem?_eq_some_iff.1 hx).1;omega
  exact ih i a[i] x (List.getElem?_eq_getElem hi) hx y (h2 i _ y (List.getElem?_eq_getElem hi) hy)
theorem GL.frzm {H H':Hp} {ds ds':List DV} {id u:Nat} {kd:KKey} {ks vs:List DV} (hb:H id=some ⟨u,true,[.mpc kd ks vs]⟩) (hH:∀ j,H' j=none∨(j≠id∧H' j=H j))
  (hl:ds.length=ds'.length) (hd:∀ (i:Nat) x y,ds[i]? = some x→ds'[i]? = some y→Mz id (.mp kd ks vs) x y):GL H ds H' ds':=by
 refine ⟨fun j hj=>?_,fun ρ w a2 hR hA=>?_⟩
 ·rcases hH j with h0|⟨-,h0⟩
  ·exact absurd h0 hj
  ·rw [← h0];exact hj
 have back:∀ j bj,H' j=some bj→j≠id∧H j=some bj:=by
  intro j bj hj
  rcases hH j with h0|⟨hne,h0⟩
  ·rw [h0] at hj;cases hj
  ·exact ⟨hne,by rw [← h0];exact hj⟩
 obtain ⟨t,ht,hB⟩:=hR.blk id _ hb
 rcases hB with ⟨hm,c,e,fr, -, -, -, -,g5, -⟩|⟨hm, -,hs,es,cl,kd',ks',vs',g1,g2,g3⟩
 ·have:=(g5 0 _ rfl).1
  simp [DV.one] at this
 cases g2
 have hnone : ρ.fm t.block=none:=by
  cases hf : ρ.fm t.block with
  | none=>rfl
  | some es'=>exact absurd rfl ((hR.frm _ _ hf).2 id _ t hb rfl ht)
 obtain ⟨ρ2,hρ⟩:∃ ρ2:Ren, ρ2=⟨ρ.nm, ρ.fz, ρ.tab,fun k=>if k=t.block then some es else ρ.fm k⟩:=⟨_,rfl⟩
 have n1 : ρ2.nm = ρ.nm:=by rw [hρ]
 have n2 : ρ2.fz = ρ.fz:=by rw [hρ]
 have n3:∀ k r, ρ2.fm k=some r→(k=t.block∧r=es) ∨ ρ.fm k=some r:=by
  intro k r hk
  rw [hρ] at hk
  simp only at hk
  split at hk
  ·rename_i h;cases hk;exact .inl ⟨h,rfl⟩
  ·exact .inr hk
 have n4 : ρ2.fm t.block=some es:=by rw [hρ];simp
 have hle : ρ.le ρ2:=⟨fun i x h=>by rw [n1];exact h,fun b r h=>by rw [n2];exact h,fun b r h=>by
  rw [hρ]
  simp only
  rw [if_neg (fun e=>by rw [e,hnone] at h;cases h)]
  exact h⟩
 have hval:∀ v,VRel ρ (.mid id) v→VRel ρ2 (.mp kd ks vs) v:=by
  intro v hv
  obtain ⟨t',ht', -,rfl⟩:=hv.mid_inv
  rw [ht] at ht';cases ht'
  obtain ⟨a1,a2,a3,a4,a5⟩:=g3
  exact .mp kd ks vs t.block es n4 a1 a2 a3 (fun i x e hx he=>(a4 i x e hx he).mono hle) (fun i x e hx he=>(a5 i x e hx he).mono hle)
 refine ⟨ρ2,n1,⟨fun j bj hj=>?_,fun i j bi bj ti tj hi hj hij h1 h2 ho=>?_,fun k r hk=>?_,fun j bj tj hj ho hjt=>?_,fun k r hk=>?_⟩,⟨hl▸hA.1,fun i x y hx hy=>?_⟩,?_⟩
 ·rw [n1]
  obtain ⟨-,h1⟩:=back j bj hj
  obtain ⟨tj,q1,q2⟩:=hR.blk j bj h1
  exact ⟨tj,q1,q2.mono hle⟩
 ·rw [n1] at h1 h2
  exact hR.sep i j bi bj ti tj (back i bi hi).2 (back j bj hj).2 hij h1 h2 ho
 ·rw [n2] at hk
  exact hR.frz k r hk
 ·rw [n1] at hjt
  rw [n2]
  exact hR.dis j bj tj (back j bj hj).2 ho hjt
 ·rcases n3 k r hk with ⟨rfl,rfl⟩|h1
  ·refine ⟨⟨cl,g1⟩,fun j bj tj hj ho hjt=>?_⟩
   rw [n1] at hjt
   obtain ⟨hne,h2⟩:=back j bj hj
   exact hR.sep j id bj _ tj t h2 hb hne hjt ht ho
  ·refine ⟨(hR.frm k r h1).1,fun j bj tj hj ho hjt=>?_⟩
   rw [n1] at hjt
   exact (hR.frm k r h1).2 j bj tj (back j bj hj).2 ho hjt
 ·have hi:i<ds.length:=by have:=(List.getElem?_eq_some_iff.1 hx).1;omega
  exact (hd i ds[i] x (List.getElem?_eq_getElem hi) hx).rel hle hval y (hA.2 i _ y (List.getElem?_eq_getElem hi) hy)
 ·refine ⟨hle,rfl,rfl,rfl,Nat.le_refl _,fun _ _ _=>rfl,fun j bj tj hj hjt=>?_,fun k r hk=>.inl (by rw [← n2];exact hk),fun k r hk=>?_⟩
  ·rw [n1] at hjt
   exact .inr ⟨j,bj,tj,(back j bj hj).2,fun h=>h,hjt,rfl⟩
  ·rcases n3 k r hk with ⟨rfl,rfl⟩|h1
   ·exact .inr (.inr ⟨id,_,t,hb,rfl,ht,rfl⟩)
   ·exact .inl h1
theorem pc_map {H:Hp} {id u:Nat} {kd:KKey} {ks vs:List DV} (hb:H id=some ⟨u,true,[.mpc kd ks vs]⟩):∃ H2,GL H [.mid id] H2 [.mp kd ks vs] :=
 ⟨nil,GL.frzm hb (fun j=>.inl rfl) rfl (fun i x y hx hy=>by
  match i with
  | 0=>cases hx;cases hy;exact .mid
  | _+1=>cases hx)⟩
theorem keyEq_str {a b:List UInt8}:keyEq (.str a) (.str b)=(a == b):=id rfl
theorem mfind_str {s:List UInt8}:∀ (l:List (List UInt8)) (i:Nat),(mfind (.str s) (l.map DV.str) i).isSome=l.contains s
 | [],i=>rfl
 | x :: r,i=>by
  simp only [List.map_cons,mfind,keyEq_str,List.contains_cons]
  cases h:s == x with
  | true=>simp
  | false=>simp [mfind_str r (i+1)]
theorem mfind_none {s:List UInt8} {l:List (List UInt8)} (h:l.contains s=false) (i:Nat):mfind (.str s) (l.map DV.str) i=none:=by
 have:=mfind_str (s:=s) l i
 rw [h] at this
 cases hm:mfind (.str s) (l.map DV.str) i with
 | none=>rfl
 | some j=>rw [hm] at this;cases this
theorem mfind_some {s:List UInt8} {l:List (List UInt8)} (h:l.contains s=true) (i:Nat):∃ j,mfind (.str s) (l.map DV.str) i=some j:=by
 have:=mfind_str (s:=s) l i
 rw [h] at this
 cases hm:mfind (.str s) (l.map DV.str) i with
 | none=>rw [hm] at this;cases this
 | some j=>exact ⟨j,rfl⟩
theorem mfind_lt {k:DV}:∀ {ks:List DV} {i j:Nat},mfind k ks i=some j→i≤j∧j<i+ks.length
 | [],i,j,h=>by cases h
 | x :: r,i,j,h=>by
  simp only [mfind] at h
  split at h
  ·cases h;simp
  ·have:=mfind_lt h
   simp only [List.length_cons];omega
end Go.Sym
namespace Go.Sym
variable [Go.Sym.Tab]
open Go.Eng (Callable)
open Go.RowKit
variable {P:Program}
theorem PC.of_callsF {f:Nat} {args:List DV} {r:DV} (hc:Callable P f=true) (na:DV.nlL args=true) (nr:r.nl=true)
  (h:∀ (ρ : Ren) (w:World) (vs:Array Value),(∀ b r, ρ.fz b=some r→∃ e fr,w.heap[b]? = some (.cells r e fr))→ARel ρ args vs →
   Calls P f vs w fun e w' => ∃ v' b row ty fr,e=.returned v'∧w.heap.size≤b∧w'.heap[b]? = some (.cells row ty fr)∧(∀ ρ':Ren, ρ'.fz b=some row→VRel ρ' r v')∧Below w.heap.size w w'):PC P f args r:=by
 refine ⟨na,nr,hc,fun ρ w vs hR hf hA=>?_⟩
 refine (h ρ w vs hR.frz hA).mono ?_
 rintro e w' ⟨v',b,row,ty,fr,rfl,hb,hrow,hv,b1,b2,b3,b4,b5⟩
 have hnone : ρ.fz b=none:=by
  cases hz : ρ.fz b with
  | none=>rfl
  | some r=>have:=hR.flt hz;omega
 have hfz:(ρ.frz b row hnone).fz b=some row:=by simp [Ren.frz]
 refine ⟨r,v',nil,0, ρ.frz b row hnone,rfl,rfl,hv _ hfz,⟨fun id b h=>(by cases h),fun i j bi bj ti tj h=>(by cases h),fun k r' hk=>?_,fun id b t h=>(by cases h),fun k r' hk=>⟨?_,fun id b t h=>(by cases h)⟩⟩,hf,Nat.le_refl _,fun id hid h=>absurd rfl h,fun _ _=>rfl,
  ⟨Ren.le_frz hnone,b1,b2,b3,b4,fun k hk _=>b5 k hk,fun id b t h1=>(by cases h1),fun k r' hk=>?_,fun k r h=>.inl h⟩⟩
 ·simp only [Ren.frz] at hk
  split at hk
  ·rename_i hkb;cases hk;rw [hkb];exact ⟨ty,fr,hrow⟩
  ·obtain ⟨e,fr,h1⟩:=hR.frz k r' hk
   exact ⟨e,fr,by rw [b5 k (hR.flt hk)];exact h1⟩
 ·obtain ⟨⟨cl,h1⟩, -⟩:=hR.frm k r' hk
  exact ⟨cl,by rw [b5 k (Array.getElem?_eq_some_iff.1 h1).1];exact h1⟩
 ·simp only [Ren.frz] at hk
  split at hk
  ·rename_i hkb;subst hkb;exact .inr (.inl hb)
  ·exact .inl hk
theorem VRel.strs {ρ : Ren} {l:List (List UInt8)} {b n c:Nat} (h : ρ.fz b=some ((l.map fun s=>Value.string ⟨s.toArray⟩).toArray)) (hn:n=l.length) (hc:n≤c) (hm:c≤maxLen) :
  VRel ρ (.lst (l.map DV.str)) (.slice (some ⟨b,0,none⟩) n c):=by
 have hcl:cellsL (l.map DV.str)=l.map DV.str:=by
  clear h hn
  induction l with
  | nil=>rfl
  | cons x r ih =>
   have:cellsL ((x :: r).map DV.str)=[DV.str x]++cellsL (r.map DV.str):=rfl
   rw [this,ih];rfl
 refine .lst _ n 1 b 0 c _ h (by simpa using hn) hc hm (fun x hx=>by obtain ⟨y, -,rfl⟩:=List.mem_map.1 hx;rfl) ?_ ?_ ?_
 ·rw [hcl];simp
 ·rw [hcl];intro d hd;obtain ⟨y, -,rfl⟩:=List.mem_map.1 hd;rfl
 ·rw [hcl]
  intro k d v hd hv
  rw [List.getElem?_map] at hd
  obtain ⟨s,hs,rfl⟩:=Option.map_eq_some_iff.1 hd
  simp only [Nat.zero_add,List.getElem?_toArray,List.getElem?_map,hs,Option.map_some,Option.some.injEq] at hv
  subst hv
  exact .mkStr
end Go.Sym
namespace Go.Proofs.YtibjoemdkeimfaaDoor
open Go.Eng (IC IOper DReg IFn IsFn)
open Go.Sym Go.Pb
theorem c_letter (c:UInt8):PC Tryd.prog 26 [.int .u8 c.toNat] (.bool (ltB c)):=by
 refine PC.of mixedU isU26 (Nat.le_of_ble_eq_true rfl) (by simp [DV.nlL,DV.nl,nlL_ints,nlL_strs,nlL_instrs,nlL_entries,nlL_stp]) (by simp [DV.nlL,DV.nl,nlL_ints,nlL_strs,nlL_instrs,nlL_entries,nlL_stp]) ?_
 show IW Tryd.prog 17 u26_1 ⟨argT _,_,_⟩ (rt [.tmp 2] _)
 repeat' ((with_reducible first|refine wr ?_|refine wb2 ?_ ?_<;>(intro hb;try simp only [hb])|fail)<;>try simp only [go_sem,seval])
 all_goals (refine pc_ret (congrArg DV.bool ?_);rw [Bool.eq_iff_iff];simp_all [ltB]<;>omega)
theorem c_digit (c:UInt8):PC Tryd.prog 39 [.int .u8 c.toNat] (.bool (dgB c)):=by
 refine PC.of mixedU isU39 (Nat.le_of_ble_eq_true rfl) (by simp [DV.nlL,DV.nl,nlL_ints,nlL_strs,nlL_instrs,nlL_entries,nlL_stp]) (by simp [DV.nlL,DV.nl,nlL_ints,nlL_strs,nlL_instrs,nlL_entries,nlL_stp]) ?_
 show IW Tryd.prog 9 u39_1 ⟨argT _,_,_⟩ (rt [.tmp 2] _)
 repeat' ((with_reducible first|refine wr ?_|refine wb2 ?_ ?_<;>(intro hb;try simp only [hb])|fail)<;>try simp only [go_sem,seval])
 all_goals (refine pc_ret (congrArg DV.bool ?_);rw [Bool.eq_iff_iff];simp_all [dgB]<;>omega)
theorem c_letterR (c:UInt8):PC Tryd.prog 29 [.int .u8 c.toNat] (.bool (ltB c)):=by
 refine PC.of mixedU isU29 (Nat.le_of_ble_eq_true rfl) (by simp [DV.nlL,DV.nl,nlL_ints,nlL_strs,nlL_instrs,nlL_entries,nlL_stp]) (by simp [DV.nlL,DV.nl,nlL_ints,nlL_strs,nlL_instrs,nlL_entries,nlL_stp]) ?_
 show IW Tryd.prog 17 u29_1 ⟨argT _,_,_⟩ (rt [.tmp 2] _)
 repeat' ((with_reducible first|refine wr ?_|refine wb2 ?_ ?_<;>(intro hb;try simp only [hb])|fail)<;>try simp only [go_sem,seval])
 all_goals (refine pc_ret (congrArg DV.bool ?_);rw [Bool.eq_iff_iff];simp_all [ltB]<;>omega)
theorem c_digitR (c:UInt8):PC Tryd.prog 30 [.int .u8 c.toNat] (.bool (dgB c)):=by
 refine PC.of mixedU isU30 (Nat.le_of_ble_eq_true rfl) (by simp [DV.nlL,DV.nl,nlL_ints,nlL_strs,nlL_instrs,nlL_entries,nlL_stp]) (by simp [DV.nlL,DV.nl,nlL_ints,nlL_strs,nlL_instrs,nlL_entries,nlL_stp]) ?_
 show IW Tryd.prog 9 u30_1 ⟨argT _,_,_⟩ (rt [.tmp 2] _)
 repeat' ((with_reducible first|refine wr ?_|refine wb2 ?_ ?_<;>(intro hb;try simp only [hb])|fail)<;>try simp only [go_sem,seval])
 all_goals (refine pc_ret (congrArg DV.bool ?_);rw [Bool.eq_iff_iff];simp_all [dgB]<;>omega)
theorem c_part (c:UInt8):PC Tryd.prog 28 [.int .u8 c.toNat] (.bool (ptB c)):=by
 refine PC.of mixedU isU28 (Nat.le_of_ble_eq_true rfl) (by simp [DV.nlL,DV.nl,nlL_ints,nlL_strs,nlL_instrs,nlL_entries,nlL_stp]) (by simp [DV.nlL,DV.nl,nlL_ints,nlL_strs,nlL_instrs,nlL_entries,nlL_stp]) ?_
 show IW Tryd.prog 13 u28_1 ⟨argT _,_,_⟩ (rt [.tmp 2] _)
 repeat' ((with_reducible first|refine wr ?_|refine cpc (c_letter c) ?_|refine cpc (c_digit c) ?_|refine wb2 ?_ ?_<;>(intro hb;try simp only [hb])|fail)<;>try simp only [go_sem,seval])
 all_goals (refine pc_ret (congrArg DV.bool ?_);rw [Bool.eq_iff_iff];simp_all [ptB]<;>omega)
theorem c_no10 (c:UInt8):PC Tryd.prog 41 [.int .u8 c.toNat] (.bool (decide (c.toNat≠10))):=by
 refine PC.of mixedU isU41 (Nat.le_of_ble_eq_true rfl) (by simp [DV.nlL,DV.nl,nlL_ints,nlL_strs,nlL_instrs,nlL_entries,nlL_stp]) (by simp [DV.nlL,DV.nl,nlL_ints,nlL_strs,nlL_instrs,nlL_entries,nlL_stp]) ?_
 show IW Tryd.prog 5 u41_1 ⟨argT _,_,_⟩ (rt [.tmp 2] _)
 repeat' ((with_reducible first|refine wr ?_|refine wb2 ?_ ?_<;>(intro hb;try simp only [hb])|fail)<;>try simp only [go_sem,seval])
 all_goals (refine pc_ret (congrArg DV.bool ?_);rw [Bool.eq_iff_iff];simp_all<;>omega)
theorem c_span {p:UInt8→Bool} {f:Nat} {a cs:List DV} (s:List UInt8) (hs:s.length≤9223372036854775807) (na:DV.nlL a=true) (ncs:DV.nlL cs=true) (hf:∀ x∈s,PC Tryd.prog f (a++[.int .u8 x.toNat]++cs) (.bool (p x))) :
  PC Tryd.prog 27 [.str s,.func f a cs] (I64 (spnM p s)):=by
 refine PC.of mixedU isU27 (Nat.le_of_ble_eq_true rfl) (by simp [DV.nlL,DV.nl,na,ncs]) rfl ?_
 show IW Tryd.prog 20 u27_1 ⟨argT _,_,_⟩ (rt [.tmp 4] _)
 repeat' ((with_reducible first|refine wr ?_|refine wb2 ?_ ?_<;>(intro hb;try simp only [hb])|fail)<;>try simp only [go_sem,seval])
 refine i_loop (fun k:Nat=>[(0,.str s),(1,.func f a cs),(5,I64 k)]) (fun _=>nil) (fun k _=>k≤s.length∧k≤spnM p s) (fun k=>s.length-k) 0 (by simp [tmLe,tm,Tm.upd]) (Sub.nil _) (by simp) ?_
 rintro k c ⟨hk,he⟩
 by_cases hlt:k<s.length
 ·have hd:decide ((k:Int)<s.length)=true:=by simpa using hlt
  have hg:=List.getElem?_eq_getElem hlt
  have hw:=w64 (n:=(k:Int)+1) (by omega) (by omega)
  have hst:=spnM_at hg he
  have hc:=hf s[k] (List.getElem_mem hlt)
  repeat' ((with_reducible first|refine wr ?_|refine cpc hc ?_|refine wb2 ?_ ?_<;>(intro hb;try simp only [hb])|fail)<;>try simp only [go_sem,seval,hd,hg,hw])
  ·exact ⟨k+1,rfl,Sub.refl _,inv ⟨by omega,hst.1 hb⟩,by omega⟩
  ·refine pc_ret ?_
   rw [hst.2 hb]
 ·have hd:decide ((k:Int)<s.length)=false:=by simpa using hlt
  repeat' ((with_reducible first|refine wr ?_|refine wb2 ?_ ?_<;>(intro hb;try simp only [hb])|fail)<;>try simp only [go_sem,seval,hd])
  refine pc_ret ?_
  rw [spnM_end (by omega) he]
theorem c_spanPt (s:List UInt8) (hs:s.length≤9223372036854775807):PC Tryd.prog 27 [.str s,.func 28 [] []] (I64 (spnM ptB s)) :=
 c_span s hs rfl rfl fun x _=>c_part x
theorem c_spanDg (s:List UInt8) (hs:s.length≤9223372036854775807):PC Tryd.prog 27 [.str s,.func 39 [] []] (I64 (spnM dgB s)) :=
 c_span s hs rfl rfl fun x _=>c_digit x
theorem c_spanCm (s:List UInt8) (hs:s.length≤9223372036854775807):PC Tryd.prog 27 [.str s,.func 41 [] []] (I64 (spnM (fun c=>decide (c.toNat≠10)) s)) :=
 c_span s hs rfl rfl fun x _=>c_no10 x
end Go.Proofs.YtibjoemdkeimfaaDoor
end
